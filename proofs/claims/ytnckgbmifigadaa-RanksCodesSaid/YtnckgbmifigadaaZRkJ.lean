/- Ranks: InsertRanks of the reference walked. -/
import Derived.Test.YtnckgbmifigadaaZRkI
import Derived.Test.YtnckgbmifigadaaZRkEb
import Derived.Test.YtnckgbmifigadaaZRkC
set_option linter.unusedSimpArgs false
set_option linter.unusedVariables false
namespace Go.Proofs.Ytnckgbmifigadaa
open Go.RowKit Go.Avm
theorem LeH.refl_ : ∀ h : List (Nat × Avm.Obj), LeH h h
  | [] => .nil
  | (_, x) :: h => .cons (LeO.refl x) (LeH.refl_ h)
theorem LeH.hset_ {o : Nat} {Y : Avm.Obj} : ∀ {h : List (Nat × Avm.Obj)}, LeO (hget h o) Y → LeH h (hset h o Y)
  | [], _ => .nil
  | (p, x) :: h, hl => by
    by_cases e : p = o
    · simp only [hget, e, if_true] at hl
      simp only [hset, e, if_true]
      exact .cons hl (LeH.refl_ h)
    · simp only [hget, e, if_false] at hl
      simp only [hset, e, if_false]
      exact .cons (LeO.refl x) (LeH.hset_ hl)
theorem Imp.leTo {σ σ' σ2 : St} (o : Nat) {X Y : Avm.Obj} (ho : hget σ.heap o = X) (hXY : LeO X Y) (he : ({ σ with heap := hset σ.heap o Y } : St) = σ') (h : Imp σ' σ2) : Imp σ σ2 := by
  subst he
  exact Imp.trans (Imp.le (σ' := { σ with heap := hset σ.heap o Y }) (LeL.refl _) (LeH.hset_ (by rw [ho]; exact hXY))) h
theorem sumT_full {a b : Int} (ha : 0 ≤ a) (ha2 : a ≤ 1099511627776) (hb : 0 ≤ b) (h : 1099511627776 < a + b) : sumT a b = (1099511627776, true) := by
  unfold sumT addSat
  rw [if_pos (by omega)]; rfl
theorem sumT_fits {a b : Int} (ha : 0 ≤ a) (hb : 0 ≤ b) (h : ¬ 1099511627776 < a + b) : sumT a b = (a + b, false) := by
  unfold sumT addSat
  rw [if_neg (by omega), show max a 0 = a by omega, show max b 0 = b by omega]
set_option maxRecDepth 100000 in set_option maxHeartbeats 12800000 in
theorem rinsr_calls {r : Rk} {k : ByteArray} {w a : Int} {c : List Int} (hl : r.levels.length ≤ 1000) (hk : ∀ l ∈ r.levels, l.length ≤ 100000 ∧ ∀ x ∈ l, x.size ≤ 1000000000) (hkk : k.size ≤ 1000000000) (hc : ∀ z ∈ c, 0 ≤ z ∧ z ≤ 255) :
    ACalls Try.prog 33 [dR r, .agg [.sc (.string k), .sc (.int .i64 w)], .sl 1 (c.map rowU), .sc (.int .i64 a)] (.tup [dR (insR r k w c a).1, .sc (.int .i64 (insR r k w c a).2.1), .sc (.int .i64 (insR r k w c a).2.2)]) [] := by
  have hvd := validr2_calls (r := r) hl hk
  rcases insR_cases r k w c a with ⟨h1, e⟩ | ⟨h1, h2, e⟩ | ⟨h1, h2, h3, e⟩ | ⟨h1, h2, h3, h4, e⟩ | ⟨h1, h2, h3, h4, e⟩
  all_goals rw [e]
  · obtain ⟨s, t, sl, ls, sat⟩ := r
    simp only [dR, zeroR, List.map_nil] at hvd ⊢
    refine of_tri [] [4,5,8,21,27,33,41,50,53,68,69,82,85,86,96,160] Try.func33 rfl call33 rfl (by decide) (by decide) rfl rfl Try.ntmps33 (by simp (disch := omega) only [seval,go_sem,cnd,intV,shV,convV,strV,List.replicate,List.zip_nil_left,List.zip_cons_cons];rfl) (by simp (disch := omega) only [seval,go_sem,cnd,intV,shV,convV,strV,List.zip_nil_left,List.zip_cons_cons];rfl) ?_
    ((repeat' (first|((with_reducible refine isTriD ?_);first|((with_reducible refine isCallD ?_);first|((with_reducible refine LVcall (st := []) ?_);simp only [seval,go_sem];first|(refine CallL.c (hvd) ?_))))|(with_reducible refine isRet ?_;refine RetV (rs := [.cell 8 50,.tmp 9,.tmp 10]) (by with_unfolding_all rfl) rfl ?_ <;> simp only [seval,go_sem] <;> (repeat' (with_reducible apply And.intro)) <;> (try rfl))|(with_reducible (first|refine TVq (st := []) ?_))|simp only [seval,go_sem]|(with_reducible refine oV_st (by simp (disch := omega) only [seval,go_sem,cnd,intV,shV,convV,strV];rfl) ?_))) <;> (try (fail)))
  · obtain ⟨s, t, sl, ls, sat⟩ := r
    rw [h1] at hvd
    simp only [dR, zeroR, List.map_nil] at hvd ⊢
    refine of_tri [] [4,5,8,21,27,33,41,50,53,68,69,82,85,86,96,160] Try.func33 rfl call33 rfl (by decide) (by decide) rfl rfl Try.ntmps33 (by simp (disch := omega) only [seval,go_sem,cnd,intV,shV,convV,strV,List.replicate,List.zip_nil_left,List.zip_cons_cons];rfl) (by simp (disch := omega) only [seval,go_sem,cnd,intV,shV,convV,strV,List.zip_nil_left,List.zip_cons_cons];rfl) ?_
    ((repeat' (first|((with_reducible refine isTriD ?_);first|((with_reducible refine isCallD ?_);first|((with_reducible refine LVcall (st := []) ?_);simp only [seval,go_sem];first|(refine CallL.c (hvd) ?_)|(refine CallL.c (rvitem_calls ?_) ?_))))|(with_reducible refine isRet ?_;refine RetV (rs := [.cell 8 50,.tmp 9,.tmp 10]) (by with_unfolding_all rfl) rfl ?_ <;> simp only [seval,go_sem] <;> (repeat' (with_reducible apply And.intro)) <;> (try rfl))|(with_reducible (first|refine TVq (st := []) ?_))|simp only [seval,go_sem]|(with_reducible refine oV_st (by simp (disch := omega) only [seval,go_sem,cnd,intV,shV,convV,strV];rfl) ?_))) <;> (try (first|(with_reducible assumption))))
  · obtain ⟨s, t, sl, ls, sat⟩ := r
    rw [h1] at hvd
    simp only [dR, zeroR, List.map_nil] at hvd ⊢
    refine of_tri [] [4,5,8,21,27,33,41,50,53,68,69,82,85,86,96,160] Try.func33 rfl call33 rfl (by decide) (by decide) rfl rfl Try.ntmps33 (by simp (disch := omega) only [seval,go_sem,cnd,intV,shV,convV,strV,List.replicate,List.zip_nil_left,List.zip_cons_cons];rfl) (by simp (disch := omega) only [seval,go_sem,cnd,intV,shV,convV,strV,List.zip_nil_left,List.zip_cons_cons];rfl) ?_
    (all_goals (try have hZ := (And.intro h2 h3));(repeat' (first|((with_reducible refine isTriD ?_);first|((with_reducible refine isCallD ?_);first|((with_reducible refine LVcall (st := []) ?_);simp only [seval,go_sem,hZ];first|(refine CallL.c (hvd) ?_)|(refine CallL.c (rvitem_calls ?_) ?_)|(refine CallL.c (positionr_calls) ?_))))|(with_reducible refine isRet ?_;refine RetV (rs := [.cell 8 50,.tmp 9,.tmp 10]) (by with_unfolding_all rfl) rfl ?_ <;> simp only [seval,go_sem] <;> (repeat' (with_reducible apply And.intro)) <;> (try rfl))|(with_reducible (first|refine TVq (st := []) ?_))|simp only [seval,go_sem,hZ]|(with_reducible refine oV_st (by simp (disch := omega) only [seval,go_sem,cnd,intV,shV,convV,strV,hZ];rfl) ?_))) <;> (try (first|(with_reducible assumption)));all_goals (try clear hZ))
  · have ok := validR_ok h1
    have hi := itemE_okR h2
    obtain ⟨s, t, sl, ls, sat⟩ := r
    have hb := ok.t1; have hb2 := ok.t2
    rw [h1] at hvd
    simp only at hb hb2 h4
    have hsm := sumr_calls (a := t) (b := w) (by omega) (by omega) (by omega) (by omega)
    rw [sumT_full hb hb2 (by omega) h4] at hsm
    simp only [dR] at hvd ⊢
    refine of_tri [] [4,5,8,21,27,33,41,50,53,68,69,82,85,86,96,160] Try.func33 rfl call33 rfl (by decide) (by decide) rfl rfl Try.ntmps33 (by simp (disch := omega) only [seval,go_sem,cnd,intV,shV,convV,strV,List.replicate,List.zip_nil_left,List.zip_cons_cons];rfl) (by simp (disch := omega) only [seval,go_sem,cnd,intV,shV,convV,strV,List.zip_nil_left,List.zip_cons_cons];rfl) ?_
    (all_goals (try have hZ := (And.intro h2 h3));(repeat' (first|((with_reducible refine isTriD ?_);first|((with_reducible refine isCallD ?_);first|((with_reducible refine LVcall (st := []) ?_);simp only [seval,go_sem,hZ];first|(refine CallL.c (hvd) ?_)|(refine CallL.c (hsm) ?_)|(refine CallL.c (rvitem_calls ?_) ?_)|(refine CallL.c (positionr_calls) ?_))))|(with_reducible refine isRet ?_;refine RetV (rs := [.cell 8 50,.tmp 9,.tmp 10]) (by with_unfolding_all rfl) rfl ?_ <;> simp only [seval,go_sem] <;> (repeat' (with_reducible apply And.intro)) <;> (try rfl))|(with_reducible (first|refine TVq (st := []) ?_))|simp only [seval,go_sem,hZ]|(with_reducible refine oV_st (by simp (disch := omega) only [seval,go_sem,cnd,intV,shV,convV,strV,hZ];rfl) ?_))) <;> (try (first|(with_reducible assumption)));all_goals (try clear hZ))
  · have ok := validR_ok h1
    have hi := itemE_okR h2
    have hpl := placeOk_iff h3
    obtain ⟨s, t, sl, ls, sat⟩ := r
    obtain ⟨s1, s2, s3, t1, t2, l1, l2, ln, lev, lst, wt⟩ := ok
    rw [h1] at hvd
    simp only at s1 s2 s3 t1 t2 l1 l2 ln lev lst wt h4
    have hsm := sumr_calls (a := t) (b := w) (by omega) (by omega) (by omega) (by omega)
    rw [sumT_fits t1 (by omega) h4] at hsm
    have hW : w.toNat < 2 ^ 33 := by omega
    have hps := powS_lt 33 w.toNat 0 hW
    have hpn := powS_len 33 w.toNat 0 hW
    have hpw := rpow_calls (n := w) (by omega) (by omega)
    have hwl : wtL 0 (putK k (powS w.toNat 0) ls) ≤ 1099511627776 := by
      rw [wtL_putK k 33 w.toNat 0 ls hW, wt]; simp; omega
    have hlb : ∀ l ∈ ls, l.length ≤ 31 := fun l h => by have := (lev l h).1; omega
    generalize hP : powS w.toNat 0 = P at *
    have hpk : ∀ i, (putK k (P.take i) ls).length ≤ 41 := fun i => putK_len _ _ (fun p hp => by have := hps p (List.mem_of_mem_take hp); omega) ln
    have hpb : ∀ i, ∀ l ∈ putK k (P.take i) ls, l.length ≤ 64 := fun i l h => by
      have := putK_bound (P.take i) hlb l h
      rw [List.length_take] at this; omega
    have hst := rsettle_calls (ls := putK k P ls) (c := c) (size := s) (sl := sl) (a := a) ⟨s1, s2⟩ hc hpl ⟨l1, l2⟩ (by have := hpk P.length; rw [List.take_length] at this; omega) (fun l h => by have := hpb P.length l (by rw [List.take_length]; exact h); omega) hwl
    simp only [dR] at hvd ⊢
    refine of_tri [] [4,5,8,21,27,33,41,50,53,68,69,82,85,86,96,160] Try.func33 rfl call33 rfl (by decide) (by decide) rfl rfl Try.ntmps33 (by simp (disch := omega) only [seval,go_sem,cnd,intV,shV,convV,strV,List.replicate,List.zip_nil_left,List.zip_cons_cons];rfl) (by simp (disch := omega) only [seval,go_sem,cnd,intV,shV,convV,strV,List.zip_nil_left,List.zip_cons_cons];rfl) ?_
    (all_goals (try have hZ := (And.intro h2 h3));(repeat' (first|((with_reducible refine isTriD ?_);first|((with_reducible refine isCallD ?_);first|((with_reducible refine LVcall (st := []) ?_);simp only [seval,go_sem,hZ];first|(refine CallL.c (hvd) ?_)|(refine CallL.c (hsm) ?_)|(refine CallL.c (hpw) ?_)|(refine CallL.c (rvitem_calls ?_) ?_)|(refine CallL.c (positionr_calls) ?_))))|(with_reducible (first|refine TVq (st := []) ?_))|simp only [seval,go_sem,hZ]|(with_reducible refine oV_st (by simp (disch := omega) only [seval,go_sem,cnd,intV,shV,convV,strV,hZ];rfl) ?_))) <;> (try (first|(with_reducible assumption)));all_goals (try clear hZ))
    all_goals (refine Tri.rn 50 160 (by decide) (by first | (simp only [seval, go_sem]; first | done | fail) | rfl | decide) (by simp only [seval, go_sem]; rfl) ?_)
    all_goals (refine Tri.bx 5 (by simp only [seval, go_sem]; rfl) (by simp only [seval, go_sem]; first | done | rfl) (by simp only [seval, go_sem]; rfl) ?_)
    all_goals (with_reducible refine Tri.loopV (fun (i : Nat) => [(17,.sc (.int .i64 i)),(50,.any),(15,.slo 160 1 0 (putK k (P.take i) ls).length),(54,.any),(55,.any),(56,.any),(57,.any),(58,.any),(59,.any),(60,.any),(61,.any),(62,.any),(63,.any),(64,.any),(65,.any),(66,.any),(67,.any),(68,.any),(69,.any),(70,.any),(71,.any),(72,.any),(73,.any),(74,.any),(75,.any),(76,.any),(77,.any),(78,.any),(79,.any),(80,.any),(81,.any),(82,.any),(83,.any),(84,.any),(85,.any),(86,.any),(87,.any)]) (fun (i : Nat) => [(160,.row 1 ((putK k (P.take i) ls).map lvD)),(68,.dead),(69,.dead),(82,.dead),(85,.dead),(86,.dead)]) (fun (i : Nat) => i ≤ P.length) (fun (i : Nat) => P.length - i) (0) (Nat.zero_le _) (by intro _;simp (disch := omega) only [seval,go_sem,cnd,intV,shV,convV,strV];rfl) (by intro _;simp (disch := omega) only [seval,go_sem,cnd,intV,shV,convV,strV];rfl) (by (first|refine leQL_spec ?_);(try simp only [seval,go_sem,putK_nil,List.take_zero]);first|done) (by (first|refine leQH_spec ?_);(try simp only [seval,go_sem,putK_nil,List.take_zero]);first|done) (fun i hI => ?_))
    all_goals
      by_cases hlt : i < P.length
      · obtain ⟨p, hp⟩ := get_lt hlt
        have hp' := get_map rowP hp
        have hpp := hps p (List.mem_of_getElem? hp)
        have hpt : addL (putK k (P.take i) ls) p [k] = putK k (P.take (i + 1)) ls := by rw [List.take_add_one, hp, ← putK_snoc]; rfl
        have hcl := hpk i
        have hcb := hpb i
        generalize putK k (P.take i) ls = cur at *
        have hp0 : padL cur cur.length = cur := padL_le (Nat.le_refl _)
        ((repeat' (first | (with_reducible (first | refine TVq (st := []) ?_)) | simp only [seval, go_sem, hp', rowP] | (with_reducible refine oV_st (by simp (disch := omega) only [seval, go_sem, cnd, intV, shV, convV, strV, hp', rowP]; rfl) ?_))) <;> (try (fail)))
        all_goals (with_reducible refine Tri.loopV (fun (n : Nat) => [(50,.any),(15,.slo 160 1 0 n),(60,.any),(61,.any),(62,.any),(63,.any),(64,.any),(65,.any),(66,.any),(67,.any),(68,.any),(69,.any)]) (fun (n : Nat) => [(160,.row 1 ((padL cur n).map lvD)),(68,.dead),(69,.dead)]) (fun (n : Nat) => cur.length ≤ n ∧ n ≤ max cur.length (p + 1)) (fun (n : Nat) => p + 1 - n) (cur.length) (⟨Nat.le_refl _,by omega⟩) (by intro _;simp (disch := omega) only [seval,go_sem,cnd,intV,shV,convV,strV];rfl) (by intro _;simp (disch := omega) only [seval,go_sem,cnd,intV,shV,convV,strV];rfl) (by (first|refine leQL_spec ?_);(try simp only [seval,go_sem,hp0]);first|done) (by (first|refine leQH_spec ?_);(try simp only [seval,go_sem,hp0]);first|done) (fun n hI => ?_))
        all_goals
          obtain ⟨n1, n2⟩ := hI
          have hpl : (padL cur n).length = n := by rw [padL_len]; omega
          by_cases hn : n ≤ p
          · have hle : LeO (.row 1 ((padL cur n).map lvD ++ [[D.sc (.slice none 0 0)]])) (.row 1 ((padL cur (n + 1)).map lvD)) := by
              rw [← padL_snoc n1, List.map_append]
              exact LeO.row (@LeR.append [] [] _ _ _ _ (LeR.refl _) (.cons (.cons (.nil 1) .nil) .nil))
            (all_goals (try have hZ := (And.intro hp' hpl));(repeat' (first|(with_reducible (first|refine TVq (st := []) ?_))|simp only [seval,go_sem,rowP,List.length_map,List.length_append,List.length_cons,List.length_nil,hZ]|(with_reducible refine oV_st (by simp (disch := omega) only [seval,go_sem,cnd,intV,shV,convV,strV,rowP,List.length_map,List.length_append,List.length_cons,List.length_nil,hZ];rfl) ?_))) <;> (try (fail));all_goals (try clear hZ))
            all_goals ((first|refine isNextVM (n + 1) (Imp.leTo 69 (by simp only [seval,go_sem];first|done) hle (by simp only [seval,go_sem];rfl) (Imp.rnTo 69 160 (by decide) (by first|(simp only [seval,go_sem];first|done)) (by simp only [seval,go_sem];rfl) (Imp.les (by (first|refine leQL_spec ?_);(try simp only [seval,go_sem,hpl]);first|done) (by (first|refine leQH_spec ?_);(try simp only [seval,go_sem,hpl]);first|done)))) ?_ ?_) <;> (try (first|omega)))
            all_goals done
          · have hpe : padL cur n = padL cur (p + 1) := by
              by_cases h : p + 1 ≤ cur.length
              · rw [padL_le h, padL_le (by omega)]
              · rw [show n = p + 1 by omega]
            rw [hpe] at hpl ⊢
            obtain ⟨l, hx⟩ := get_lt (show p < (padL cur (p + 1)).length by omega)
            have hx' := get_map lvD hx
            have hxl : l.length ≤ 64 := by
              have hm := List.mem_of_getElem? hx
              rw [padL, List.mem_append] at hm
              rcases hm with hm | hm
              · exact hcb l hm
              · rw [(List.mem_replicate.1 hm).2]; simp
            have hfin : ((padL cur (p + 1)).map lvD).set p [D.sl 1 (l.map rowKr ++ [[D.sc (.string k)]])] = (addL cur p [k]).map lvD := by
              rw [addL_at hx, List.map_set]; simp [lvD, rowKr]
            have hlen : (putK k (P.take (i + 1)) ls).length = n := by rw [← hpt, addL_len]; omega
            (all_goals (try have hZ := (And.intro hp' (And.intro hx' hpl)));(repeat' (first|((with_reducible refine isTriD ?_);first|(with_reducible refine TriD.frz 86 (by simp only [seval,go_sem,lvD,rowP,rowKr,List.length_map,List.length_append,List.length_cons,List.length_nil,hZ];rfl) (by simp only [seval,go_sem,lvD,rowP,rowKr,List.length_map,List.length_append,List.length_cons,List.length_nil,hZ];rfl) ?_;refine LVs (st := []) ?_)|((with_reducible first|refine TriD.step (by simp only [seval,go_sem,lvD,rowP,rowKr,List.length_map,List.length_append,List.length_cons,List.length_nil,hZ];rfl) ?_|refine TriD.step (by simp (disch := omega) only [seval,go_sem,cnd,intV,shV,convV,strV,lvD,rowP,rowKr,List.length_map,List.length_append,List.length_cons,List.length_nil,hZ];rfl) ?_);refine LVs (st := []) ?_))|(with_reducible refine isDrawnN 20 ?_;(try (refine Tri.bx 5 (by simp only [seval,go_sem,lvD,rowP,rowKr,List.length_map,List.length_append,List.length_cons,List.length_nil,hZ];rfl) (by simp only [seval,go_sem,lvD,rowP,rowKr,List.length_map,List.length_append,List.length_cons,List.length_nil,hZ];fail) (by simp only [seval,go_sem,lvD,rowP,rowKr,List.length_map,List.length_append,List.length_cons,List.length_nil,hZ];rfl) ?_));refine Tri.mixedP 20 mix 19 rfl (.f 0 <| .f 1 <| .f 2 <| .f 3 <| .f 5 <| .f 6 <| .f 7 <| .f 8 <| .f 13 <| .r 4 <| .r 9 <| .f 10 <| .r 14 <| .a <| .b 11 (.a <| .b 12 (.a <| .b 15 (.a <| .b 16 (.f 17 <| .a <| .b 18 (.d) .e) .e) .e) <| .b 15 (.a <| .b 12 (.a <| .b 16 (.f 17 <| .a <| .b 18 (.d) .e) .e) .e) .e) <| .b 15 (.a <| .b 11 (.a <| .b 12 (.a <| .b 16 (.f 17 <| .a <| .b 18 (.d) .e) .e) .e) .e) .e) (by kernel_rfl) ?_)|(with_reducible refine isAnyP ?_;first|refine AnyP.D ?_|refine AnyP.F (by simp only [seval,go_sem,List.getElem?_cons_succ,List.getElem?_cons_zero];rfl) (by first|(simp only [seval,go_sem,lvD,rowP,rowKr,List.length_map,List.length_append,List.length_cons,List.length_nil,hZ];first|done)) (by first|(simp only [seval,go_sem,lvD,rowP,rowKr,List.length_map,List.length_append,List.length_cons,List.length_nil,hZ];with_reducible rfl)|(simp (disch := omega) only [seval,go_sem,cnd,intV,shV,convV,strV,lvD,rowP,rowKr,List.length_map,List.length_append,List.length_cons,List.length_nil,hZ];with_reducible rfl)) ?_|refine AnyP.R (by simp only [seval,go_sem,List.getElem?_cons_succ,List.getElem?_cons_zero];rfl) (by first|exact .inl (by simp only [seval,go_sem,lvD,rowP,rowKr,List.length_map,List.length_append,List.length_cons,List.length_nil,hZ])) (by first|(simp only [seval,go_sem,lvD,rowP,rowKr,List.length_map,List.length_append,List.length_cons,List.length_nil,hZ];with_reducible rfl)) ?_|refine AnyP.A ?_)|(with_reducible first|exact NextsP.E|refine NextsP.B (by simp only [seval,go_sem,List.getElem?_cons_succ,List.getElem?_cons_zero];rfl) ?_ ?_)|(with_reducible (first|refine TVq (st := []) ?_))|simp only [seval,go_sem,lvD,rowP,rowKr,List.length_map,List.length_append,List.length_cons,List.length_nil,hZ]|(with_reducible refine oV_st (by simp (disch := omega) only [seval,go_sem,cnd,intV,shV,convV,strV,lvD,rowP,rowKr,List.length_map,List.length_append,List.length_cons,List.length_nil,hZ];rfl) ?_))) <;> (try (fail));all_goals (try clear hZ))
            all_goals ((first|refine isNextVM (i + 1) (Imp.les (by (first|refine leQL_spec ?_);(try simp only [seval,go_sem,take_one,hfin,hpt,hlen]);first|((repeat' (with_reducible apply And.intro)) <;> first|rfl);first|done) (by (first|refine leQH_spec ?_);(try simp only [seval,go_sem,take_one,hfin,hpt,hlen]);first|done)) ?_ ?_) <;> (try (first|omega)))
            all_goals done
      · have e1 : P.take i = P := List.take_of_length_le (by omega)
        rw [e1]
        ((repeat' (first|((with_reducible refine isTriD ?_);first|((with_reducible refine isCallD ?_);first|((with_reducible refine LVcall (st := []) ?_);simp only [seval,go_sem];first|(refine CallL.c (hst) ?_;simp only [seval,go_sem];(fail_if_success (with_reducible refine isResV ?_)))))|(with_reducible refine TriD.frz 160 (by simp only [seval,go_sem];rfl) (by simp only [seval,go_sem];rfl) ?_;refine LVs (st := []) ?_))|(with_reducible refine isRet ?_;refine RetV (rs := [.cell 8 50,.tmp 9,.tmp 10]) (by with_unfolding_all rfl) rfl ?_ <;> simp only [seval,go_sem] <;> (repeat' (with_reducible apply And.intro)) <;> (try rfl))|(with_reducible (first|refine TVq (st := []) ?_))|simp only [seval,go_sem]|(with_reducible refine oV_st (by simp (disch := omega) only [seval,go_sem,cnd,intV,shV,convV,strV];rfl) ?_))) <;> (try (fail)))
        all_goals done
end Go.Proofs.Ytnckgbmifigadaa
