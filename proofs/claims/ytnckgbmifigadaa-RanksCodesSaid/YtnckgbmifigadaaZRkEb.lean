/- Ranks: the reference's settle walked. -/
import Derived.Test.YtnckgbmifigadaaZRkE
set_option linter.unusedSimpArgs false
set_option linter.unusedVariables false
namespace Go.Proofs.Ytnckgbmifigadaa
open Go.RowKit Go.Avm
theorem take_appK {α : Type} (a b : List α) (f : α → List D) : List.take (a.length + b.length) (a.map f ++ b.map f) = a.map f ++ b.map f := List.take_of_length_le (by simp)
theorem take_one {α : Type} (l : List α) (f : α → List D) (x : List D) : List.take (l.length + 1) (l.map f ++ [x]) = l.map f ++ [x] := List.take_of_length_le (by simp)
theorem stay_drop {S : List ByteArray} {n : Nat} (h : S.length = n) : List.drop ((n : Int) / 2 * 2).toNat (List.take n (S.map rowKr)) = (stayK S).map rowKr := by
  subst h
  rw [List.take_of_length_le (by simp), stayK, List.map_drop, show ((S.length : Int) / 2 * 2).toNat = S.length / 2 * 2 by omega]
set_option maxRecDepth 100000 in set_option maxHeartbeats 12800000 in
theorem rsettle_calls {ls : List (List ByteArray)} {c : List Int} {size sl a : Int} (hs : 2 ≤ size ∧ size ≤ 32) (hc : ∀ z ∈ c,0 ≤ z ∧ z ≤ 255) (ha : 0 ≤ a ∧ a ≤ 1073741824) (hsl : 0 ≤ sl ∧ sl ≤ 1099511627776) (hl : ls.length ≤ 1000) (hk : ∀ l ∈ ls,l.length ≤ 100) (hw : wtL 0 ls ≤ 1099511627776) : ACalls Try.prog 82 [.sl 1 (ls.map lvD),.sc (.int .i64 size),.sc (.int .i64 sl),.sl 1 (c.map rowU),.sc (.int .i64 a)] (.tup [.sl 1 ((settleK size c sl a ls).1.map lvD),.sc (.int .i64 (settleK size c sl a ls).2.1),.sc (.int .i64 (settleK size c sl a ls).2.2)]) [] := by
  simp only [settleK]
  generalize hF : setS size c 0 sl a ls = G
  obtain ⟨F, fs, fa⟩ := G
  refine of_tri [] [39,41,43,50,51,58,69,70,78,85,86] Try.func82 rfl call82 rfl (by decide) (by decide) rfl rfl Try.ntmps82 (by simp (disch := omega) only [seval,go_sem,cnd,intV,shV,convV,strV,List.replicate,List.zip_nil_left,List.zip_cons_cons];rfl) (by simp (disch := omega) only [seval,go_sem,cnd,intV,shV,convV,strV,List.zip_nil_left,List.zip_cons_cons];rfl) ?_
  ((repeat' (first | (with_reducible (first | refine TVq (st := []) ?_)) | simp only [seval, go_sem])) <;> (try (fail)))
  (refine Tri.virt 13 51 1 (by first | (simp only [seval, go_sem]; first | done)) (by first | (simp only [seval, go_sem]; first | done)) (by simp only [seval, go_sem]; rfl) ?_)
  (with_reducible refine Tri.loopV (fun (z : List (List ByteArray) × List ByteArray × Int × Int) => [(15,.sc (.int .i64 z.1.length)),(13,.slo 51 1 0 z.1.length),(14,.sl 1 (z.2.1.map rowKr)),(2,.sc (.int .i64 z.2.2.1)),(4,.sc (.int .i64 z.2.2.2)),(16,.any),(17,.any),(18,.any),(19,.any),(20,.any),(21,.any),(22,.any),(23,.any),(24,.any),(25,.any),(26,.any),(27,.any),(28,.any),(29,.any),(30,.any),(31,.any),(32,.any),(33,.any),(34,.any),(35,.any),(36,.any),(37,.any),(38,.any),(39,.any),(40,.any),(41,.any),(42,.any),(43,.any),(44,.any),(45,.any),(46,.any),(47,.any),(48,.any),(49,.any),(50,.any),(51,.any),(52,.any),(53,.any),(54,.any),(55,.any),(56,.any),(57,.any),(58,.any),(59,.any),(60,.any),(61,.any),(62,.any),(63,.any),(64,.any),(65,.any),(66,.any),(67,.any),(68,.any),(69,.any),(70,.any),(71,.any),(72,.any),(73,.any),(74,.any),(75,.any),(76,.any),(77,.any),(78,.any),(79,.any),(80,.any),(81,.any),(82,.any),(83,.any),(84,.any),(85,.any),(86,.any)]) (fun (z : List (List ByteArray) × List ByteArray × Int × Int) => [(51,.row 1 (z.1.map lvD)),(39,.dead),(41,.dead),(43,.dead),(50,.dead),(58,.dead),(69,.dead),(70,.dead),(78,.dead),(85,.dead),(86,.dead)]) (fun (z : List (List ByteArray) × List ByteArray × Int × Int) => (z.1 ++ (setS size c z.1.length z.2.2.1 z.2.2.2 (addC z.2.1 (ls.drop z.1.length))).1,(setS size c z.1.length z.2.2.1 z.2.2.2 (addC z.2.1 (ls.drop z.1.length))).2) = (F,fs,fa) ∧ z.2.1.length ≤ 100 ∧ z.1.length ≤ ls.length + 41 ∧ (z.2.1 ≠ [] → z.1.length ≤ 40) ∧ (0 ≤ z.2.2.1 ∧ z.2.2.1 ≤ 1099511627776) ∧ (0 ≤ z.2.2.2 ∧ z.2.2.2 ≤ 1073741824 + z.1.length) ∧ wtL z.1.length (addC z.2.1 (ls.drop z.1.length)) ≤ 1099511627776) (fun (z : List (List ByteArray) × List ByteArray × Int × Int) => keysN (addC z.2.1 (ls.drop z.1.length))) (([],[],sl,a)) ((by refine ⟨?_,by simp,by simp,by simp,hsl,by simpa using ha,?_⟩ <;> simp only [List.length_nil,List.drop_zero,addC_nil,List.nil_append] <;> assumption)) (by intro _;simp (disch := omega) only [seval,go_sem,cnd,intV,shV,convV,strV];rfl) (by intro _;simp (disch := omega) only [seval,go_sem,cnd,intV,shV,convV,strV];rfl) (by (first|refine leQL_spec ?_);(try simp only [seval,go_sem]);first|done) (by (first|refine leQH_spec ?_);(try simp only [seval,go_sem]);first|done) (fun z hI => ?_))
  obtain ⟨out, cy, s1, a1⟩ := z
  obtain ⟨hG, hcy, hol, hc40, hs1, ha1, hwt⟩ := hI
  simp only at hG hcy hol hc40 hs1 ha1 hwt
  by_cases hlt : out.length < ls.length
  · obtain ⟨l0, hl0⟩ := get_lt hlt
    have hl0' := get_map lvD hl0
    have hk0 := hk l0 (List.mem_of_getElem? hl0)
    have hso := rsorted_calls (l := l0 ++ cy) (by rw [List.length_append]; omega)
    rw [List.map_append] at hso
    rw [drop_get hl0, addC_cons] at hG hwt
    have hLn : (l0 ++ cy).length = l0.length + cy.length := List.length_append
    have hLs := sortK_len (l0 ++ cy)
    by_cases hfull : ((l0 ++ cy).length : Int) < size
    · have hkp := settle_keep hG hfull
      (all_goals (try have hZ := (And.intro hl0' (And.intro hLs hLn)));(repeat' (first|((with_reducible refine isTriD ?_);first|((with_reducible refine isCallD ?_);first|((with_reducible refine LVcall (st := []) ?_);simp only [seval,go_sem,lvD,List.length_append,List.length_map,take_appK,hZ];first|(refine CallL.c (hso) ?_;simp only [seval,go_sem,lvD,List.length_append,List.length_map,take_appK,hZ];(fail_if_success (with_reducible refine isResV ?_)))))|(with_reducible refine TriD.frz 41 (by simp only [seval,go_sem,lvD,List.length_append,List.length_map,take_appK,hZ];rfl) (by simp only [seval,go_sem,lvD,List.length_append,List.length_map,take_appK,hZ];rfl) ?_;refine LVs (st := []) ?_))|(with_reducible (first|refine TVq (st := []) ?_))|simp only [seval,go_sem,lvD,List.length_append,List.length_map,take_appK,hZ]|(with_reducible refine oV_st (by simp (disch := omega) only [seval,go_sem,cnd,intV,shV,convV,strV,lvD,List.length_append,List.length_map,take_appK,hZ];rfl) ?_))) <;> (try (fail));all_goals (try clear hZ))
      all_goals ((first|refine isNextVM ((out ++ [sortK (l0 ++ cy)],[],s1,a1)) (Imp.les (by (first|refine leQL_spec ?_);(try simp only [seval,go_sem,lvD]);first|((repeat' (with_reducible apply And.intro)) <;> first|(simp [lvD];done));first|done) (by (first|refine leQH_spec ?_);(try simp only [seval,go_sem,lvD]);first|((repeat' (with_reducible apply And.intro)) <;> first|(simp [lvD];done));first|done)) ?_ ?_) <;> (try (fail)))
      · refine ⟨by simp only [len1] at hkp ⊢; exact hkp, by simp, by simp only [len1]; omega, by simp, hs1, ⟨ha1.1, by simp only [len1]; omega⟩, ?_⟩
        simp only [len1, addC_nil]
        exact Int.le_trans (wtL_tail _ _ _) hwt
      · simp only [len1, addC_nil]
        rw [drop_get hl0, addC_cons, keysN]; omega
    · have hi39 := wt_two hwt (by omega)
      have hmin : min out.length 64 = out.length := by omega
      have hp1 := two_pos out.length
      have hp2 : (2 : Int) ^ out.length ≤ 2 ^ 39 := by exact_mod_cast Nat.pow_le_pow_right (by decide) hi39
      have hsm := sumr_calls (a := s1) (b := 2 ^ out.length) (by omega) (by omega) (by omega) (by omega)
      have hrs := sumT_range s1 (2 ^ out.length)
      have hb0 := bitR_rng c a1
      obtain ⟨b0, hb0'⟩ := Int.eq_ofNat_of_zero_le hb0.1
      have hbt : (bitR c a1).toNat = b0 := by omega
      have hb1 : b0 ≤ 1 := by omega
      have hful := settle_full hG (by omega) hs.1
      have hwf := wt_full (l0 ++ cy) out.length hb1 (ls.drop (out.length + 1))
      have hup := upK_len (sortK (l0 ++ cy)) hb1
      have hne := upK_ne (l := sortK (l0 ++ cy)) hb1 (by omega)
      have hbi := rbit_calls (c := c) (i := a1) hc (by omega) (by omega)
      have hsd := stay_drop (S := sortK (l0 ++ cy)) (hLs.trans hLn)
      have hsl := stayK_len (sortK (l0 ++ cy))
      rw [hb0'] at hbi
      rw [hbt] at hful
      generalize hS : sortK (l0 ++ cy) = S at *
      (all_goals (try have hZ := (And.intro hl0' (And.intro hLs hLn)));(repeat' (first|((with_reducible refine isTriD ?_);first|((with_reducible refine isCallD ?_);first|((with_reducible refine LVcall (st := []) ?_);simp only [seval,go_sem,lvD,List.length_append,List.length_map,take_appK,hZ];first|(refine CallL.c (hso) ?_;simp only [seval,go_sem,lvD,List.length_append,List.length_map,take_appK,hZ];(fail_if_success (with_reducible refine isResV ?_)))|(refine CallL.c (hbi) ?_;simp only [seval,go_sem,lvD,List.length_append,List.length_map,take_appK,hZ];(fail_if_success (with_reducible refine isResV ?_)))))|(with_reducible refine TriD.frz 41 (by simp only [seval,go_sem,lvD,List.length_append,List.length_map,take_appK,hZ];rfl) (by simp only [seval,go_sem,lvD,List.length_append,List.length_map,take_appK,hZ];rfl) ?_;refine LVs (st := []) ?_))|(with_reducible (first|refine TVq (st := []) ?_))|simp only [seval,go_sem,lvD,List.length_append,List.length_map,take_appK,hZ]|(with_reducible refine oV_st (by simp (disch := omega) only [seval,go_sem,cnd,intV,shV,convV,strV,lvD,List.length_append,List.length_map,take_appK,hZ];rfl) ?_))) <;> (try (fail));all_goals (try clear hZ))
      all_goals (refine Tri.virt 14 70 1 (by first | (simp only [seval, go_sem]; first | done)) (by first | (simp only [seval, go_sem]; first | done)) (by simp only [seval, go_sem]; rfl) ?_)
      all_goals (with_reducible refine Tri.loopU (fun (u : Nat × List ByteArray) => [(18,.sc (.int .i64 u.1)),(14,.slo 70 1 0 u.2.length),(59,.any),(60,.any),(61,.any),(62,.any),(63,.any),(64,.any),(65,.any),(66,.any),(67,.any),(68,.any),(69,.any),(70,.any)]) (fun (u : Nat × List ByteArray) => [(70,.row 1 (u.2.map rowKr)),(69,.dead)]) (fun (u : Nat × List ByteArray) => u.2 ++ evK (lowK S) u.1 = evK (lowK S) b0 ∧ u.1 ≤ S.length + 2) (fun (u : Nat × List ByteArray) => S.length + 2 - u.1) ((b0,[])) (⟨rfl,by omega⟩) (by intro _;simp (disch := omega) only [seval,go_sem,cnd,intV,shV,convV,strV];rfl) (by intro _;simp (disch := omega) only [seval,go_sem,cnd,intV,shV,convV,strV];rfl) (by (first|refine leQL_spec ?_);(try simp only [seval,go_sem]);first|done) (by (first|refine leQH_spec ?_);(try simp only [seval,go_sem]);first|done) (fun u hI => ?_))
      all_goals
        obtain ⟨k, up⟩ := u
        obtain ⟨hu, hku⟩ := hI
        simp only at hu hku
        have hupl : up.length ≤ 100 := by
          have := congrArg List.length hu
          rw [List.length_append, hup] at this
          omega
        by_cases hkl : k < S.length / 2 * 2
        · obtain ⟨x, hx⟩ := get_lt (show k < S.length by omega)
          have hx' := get_map rowKr hx
          rw [evK_lt (lowK_get hkl hx)] at hu
          (all_goals (try have hZ := (And.intro hx' (And.intro hLs hLn)));(repeat' (first|(with_reducible (first|refine TVq (st := []) ?_))|simp only [seval,go_sem,rowKr,hZ]|(with_reducible refine oV_st (by simp (disch := omega) only [seval,go_sem,cnd,intV,shV,convV,strV,rowKr,hZ];rfl) ?_))) <;> (try (fail));all_goals (try clear hZ))
          all_goals (refine isNextM ((k + 2,up ++ [x])) (by (first|refine leQL_spec ?_);(try simp only [seval,go_sem,rowKr,List.length_append,List.length_map,List.length_cons,List.length_nil]);first|((repeat' (with_reducible apply And.intro)) <;> first|rfl);first|done) (by (first|refine leQH_spec ?_);(try simp only [seval,go_sem,rowKr,List.length_append,List.length_map,List.length_cons,List.length_nil]);first|((repeat' (with_reducible apply And.intro)) <;> first|(simp [rowKr,List.length_append,List.length_map,List.length_cons,List.length_nil];done));first|done) ?_ ?_ <;> (try (first|omega)))
          all_goals exact ⟨by simpa using hu, by simp only; omega⟩
        · rw [evK_ge (by rw [lowK_len]; omega), List.append_nil] at hu
          subst hu
          (all_goals (try have hZ := (And.intro hmin (And.intro hsd (And.intro hLs hLn))));(repeat' (first|((with_reducible refine isTriD ?_);first|((with_reducible refine isCallD ?_);first|((with_reducible refine LVcall (st := []) ?_);simp only [seval,go_sem,lvD,Int.one_mul,hZ];first|(refine CallL.c (hsm) ?_))))|(with_reducible (first|refine TVq (st := []) ?_))|simp only [seval,go_sem,lvD,Int.one_mul,hZ]|(with_reducible refine oV_st (by simp (disch := omega) only [seval,go_sem,cnd,intV,shV,convV,strV,lvD,Int.one_mul,hZ];rfl) ?_))) <;> (try (fail));all_goals (try clear hZ))
          all_goals ((first|refine isNextVM ((out ++ [stayK S],evK (lowK S) b0,(sumT s1 (2 ^ out.length)).1,a1 + 1)) (Imp.frzTo 70 (by simp only [seval,go_sem];rfl) (by simp only [seval,go_sem,lvD,hsd,take_one,List.length_append,List.length_map,List.length_cons,List.length_nil];rfl) (Imp.takeTo 13 51 (by simp only [seval,go_sem];rfl) (by simp only [seval,go_sem];first|rfl) (by (try simp only [anyR_len,List.length_map,List.length_append,List.length_cons,List.length_nil,List.length_take,List.length_drop,List.length_replicate,splice,Nat.reduceMul]);first|omega) (by first|(simp only [seval,go_sem];first|done)) (by simp only [seval,go_sem];rfl) (Imp.les (by (first|refine leQL_spec ?_);(try simp only [seval,go_sem,lvD,hsd,take_one,List.length_append,List.length_map,List.length_cons,List.length_nil]);first|((repeat' (with_reducible apply And.intro)) <;> first|rfl);first|done) (by (first|refine leQH_spec ?_);(try simp only [seval,go_sem,lvD,hsd,take_one,List.length_append,List.length_map,List.length_cons,List.length_nil]);first|((repeat' (with_reducible apply And.intro)) <;> first|(simp [lvD,hsd,take_one,List.length_append,List.length_map,List.length_cons,List.length_nil];done));first|done)))) ?_ ?_) <;> (try (fail)))
          · refine ⟨by simp only [len1] at hful ⊢; exact hful, by simp only; omega, by simp only [len1]; omega, fun _ => by simp only [len1]; omega, hrs, ⟨by simp only; omega, by simp only [len1]; omega⟩, ?_⟩
            have h0 : 0 ≤ ((stayK S).length : Int) * 2 ^ out.length := Int.mul_nonneg (by omega) (by omega)
            simp only [len1, addC_ne hne]
            omega
          · have hk2 := keysN_addH (evK (lowK S) b0) (ls.drop (out.length + 1))
            simp only [len1, addC_ne hne]
            rw [drop_get hl0, addC_cons]
            simp only [keysN] at hk2 ⊢
            omega
  · have hd : ls.drop out.length = [] := List.drop_eq_nil_of_le (by omega)
    have hd1 : ls.drop (out.length + 1) = [] := List.drop_eq_nil_of_le (by omega)
    rw [hd] at hG hwt
    by_cases hce : cy = []
    · subst hce
      rw [addC_nil, setS_nil, List.append_nil] at hG
      obtain ⟨rfl, rfl, rfl⟩ : out = F ∧ s1 = fs ∧ a1 = fa := by simpa using hG
      ((repeat' (first | (with_reducible (first | refine TVq (st := []) ?_)) | simp only [seval, go_sem] | (with_reducible refine oV_st (by simp (disch := omega) only [seval, go_sem, cnd, intV, shV, convV, strV]; rfl) ?_))) <;> (try (fail)))
      all_goals (with_reducible refine Tri.loopU (fun (m : Nat) => [(13,.slo 51 1 0 m),(87,.any),(88,.any),(89,.any),(90,.any),(91,.any),(92,.any),(93,.any),(94,.any),(95,.any),(96,.any),(97,.any),(98,.any),(99,.any),(100,.any),(101,.any),(102,.any),(103,.any),(104,.any)]) (fun (m : Nat) => [(51,.row 1 (out.map lvD))]) (fun (m : Nat) => m ≤ out.length ∧ trimK (out.take m) = trimK out) (fun (m : Nat) => m) (out.length) (⟨Nat.le_refl _,by rw [List.take_length]⟩) (by intro _;simp (disch := omega) only [seval,go_sem,cnd,intV,shV,convV,strV];rfl) (by intro _;simp (disch := omega) only [seval,go_sem,cnd,intV,shV,convV,strV];rfl) (by (first|refine leQL_spec ?_);(try simp only [seval,go_sem]);first|done) (by (first|refine leQH_spec ?_);(try simp only [seval,go_sem]);first|done) (fun m hI => ?_))
      all_goals
        obtain ⟨hm, htr⟩ := hI
        rcases trim_cases out m hm with ⟨h0, e⟩ | ⟨h0, hq, e⟩ | ⟨h0, x, q, hq, e⟩
        · rw [← htr, e]
          subst h0
          ((repeat' (first|(with_reducible refine isRet ?_;(refine RetOK.frz 51 (by simp only [seval,go_sem];rfl) (by simp only [seval,go_sem];rfl) ?_);(with_reducible refine isRet ?_;refine RetOK.q rfl rfl (by simp only [seval,go_sem];rfl) (by decide) (by simp only [seval,go_sem];first|rfl) (by simp only [seval,go_sem];first|rfl) rfl ?_ <;> (try simp only [seval,go_sem]) <;> (repeat' (with_reducible apply And.intro)) <;> (try rfl)))|(with_reducible (first|refine TVq (st := []) ?_))|simp only [seval,go_sem]|(with_reducible refine oV_st (by simp (disch := omega) only [seval,go_sem,cnd,intV,shV,convV,strV];rfl) ?_))) <;> (try (fail)))
        · have hq' := get_map lvD hq
          have hcast : ((m : Int) - 1).toNat = m - 1 := by omega
          (all_goals (try have hZ := (And.intro hq' hcast));(repeat' (first|(with_reducible (first|refine TVq (st := []) ?_))|simp only [seval,go_sem,lvD,hZ]|(with_reducible refine oV_st (by simp (disch := omega) only [seval,go_sem,cnd,intV,shV,convV,strV,lvD,hZ];rfl) ?_))) <;> (try (fail));all_goals (try clear hZ))
          all_goals (refine isNextM (m - 1) (by (first | refine leQL_spec ?_); (try simp only [seval, go_sem]); first | done) (by (first | refine leQH_spec ?_); (try simp only [seval, go_sem]); first | done) ?_ ?_ <;> (try (first | omega)))
          all_goals exact ⟨by omega, by rw [← e]; exact htr⟩
        · rw [← htr, e]
          have hq' := get_map lvD hq
          have hcast : ((m : Int) - 1).toNat = m - 1 := by omega
          (all_goals (try have hZ := (And.intro hq' (And.intro hcast hm)));(repeat' (first|(with_reducible refine isRet ?_;(refine RetOK.frz 51 (by simp only [seval,go_sem];rfl) (by simp only [seval,go_sem,lvD,List.length_map,Nat.zero_add,hZ];rfl) ?_);(with_reducible refine isRet ?_;refine RetOK.q rfl rfl (by simp only [seval,go_sem];rfl) (by decide) (by simp only [seval,go_sem];first|rfl) (by simp only [seval,go_sem];first|rfl) rfl ?_ <;> (try simp only [seval,go_sem,lvD,List.length_map,Nat.zero_add,hZ]) <;> (repeat' (with_reducible apply And.intro)) <;> (try rfl)))|(with_reducible (first|refine TVq (st := []) ?_))|simp only [seval,go_sem,lvD,List.length_map,Nat.zero_add,hZ]|(with_reducible refine oV_st (by simp (disch := omega) only [seval,go_sem,cnd,intV,shV,convV,strV,lvD,List.length_map,Nat.zero_add,hZ];rfl) ?_))) <;> (try (fail));all_goals (try clear hZ))
          all_goals (simp only [List.map_take])
    · rw [addC_end hce] at hG hwt
      have ho40 := hc40 hce
      have hLs := sortK_len cy
      have hcl : 0 < cy.length := List.length_pos_iff.2 hce
      have hso := rsorted_calls (l := cy) (by omega)
      by_cases hfull : (cy.length : Int) < size
      · have hkp := settle_keep hG hfull
        ((repeat' (first|((with_reducible refine isTriD ?_);first|((with_reducible refine isCallD ?_);first|((with_reducible refine LVcall (st := []) ?_);simp only [seval,go_sem,List.length_append,List.length_map,hLs];first|(refine CallL.c (hso) ?_))))|(with_reducible (first|refine TVq (st := []) ?_))|simp only [seval,go_sem,List.length_append,List.length_map,hLs]|(with_reducible refine oV_st (by simp (disch := omega) only [seval,go_sem,cnd,intV,shV,convV,strV,List.length_append,List.length_map,hLs];rfl) ?_))) <;> (try (fail)))
        all_goals ((first|refine isNextVM ((out ++ [sortK cy],[],s1,a1)) (Imp.les (by (first|refine leQL_spec ?_);(try simp only [seval,go_sem,lvD]);first|((repeat' (with_reducible apply And.intro)) <;> first|(simp [lvD];done));first|done) (by (first|refine leQH_spec ?_);(try simp only [seval,go_sem,lvD]);first|((repeat' (with_reducible apply And.intro)) <;> first|(simp [lvD];done));first|done)) ?_ ?_) <;> (try (fail)))
        · refine ⟨by simp only [len1, hd1] at hkp ⊢; exact hkp, by simp, by simp only [len1]; omega, by simp, hs1, ⟨ha1.1, by simp only [len1]; omega⟩, ?_⟩
          simp only [len1, addC_nil, hd1]
          exact Int.le_trans (wtL_tail _ _ _) hwt
        · simp only [len1, addC_nil, hd1]
          rw [hd, addC_end hce]; simp only [keysN]; omega
      · have hi39 := wt_two hwt (by omega)
        have hmin : min out.length 64 = out.length := by omega
        have hp1 := two_pos out.length
        have hp2 : (2 : Int) ^ out.length ≤ 2 ^ 39 := by exact_mod_cast Nat.pow_le_pow_right (by decide) hi39
        have hsm := sumr_calls (a := s1) (b := 2 ^ out.length) (by omega) (by omega) (by omega) (by omega)
        have hrs := sumT_range s1 (2 ^ out.length)
        have hb0 := bitR_rng c a1
        obtain ⟨b0, hb0'⟩ := Int.eq_ofNat_of_zero_le hb0.1
        have hbt : (bitR c a1).toNat = b0 := by omega
        have hb1 : b0 ≤ 1 := by omega
        have hful := settle_full hG (by omega) hs.1
        have hwf := wt_full (cy) out.length hb1 ([])
        have hup := upK_len (sortK (cy)) hb1
        have hne := upK_ne (l := sortK (cy)) hb1 (by omega)
        have hbi := rbit_calls (c := c) (i := a1) hc (by omega) (by omega)
        have hsd := stay_drop (S := sortK (cy)) hLs
        have hsl := stayK_len (sortK (cy))
        rw [hb0'] at hbi
        rw [hbt] at hful
        generalize hS : sortK (cy) = S at *
        ((repeat' (first|((with_reducible refine isTriD ?_);first|((with_reducible refine isCallD ?_);first|((with_reducible refine LVcall (st := []) ?_);simp only [seval,go_sem,List.length_append,List.length_map,hLs];first|(refine CallL.c (hso) ?_)|(refine CallL.c (hbi) ?_))))|(with_reducible (first|refine TVq (st := []) ?_))|simp only [seval,go_sem,List.length_append,List.length_map,hLs]|(with_reducible refine oV_st (by simp (disch := omega) only [seval,go_sem,cnd,intV,shV,convV,strV,List.length_append,List.length_map,hLs];rfl) ?_))) <;> (try (fail)))
        all_goals (refine Tri.virt 14 70 1 (by first | (simp only [seval, go_sem]; first | done)) (by first | (simp only [seval, go_sem]; first | done)) (by simp only [seval, go_sem]; rfl) ?_)
        all_goals (with_reducible refine Tri.loopU (fun (u : Nat × List ByteArray) => [(18,.sc (.int .i64 u.1)),(14,.slo 70 1 0 u.2.length),(59,.any),(60,.any),(61,.any),(62,.any),(63,.any),(64,.any),(65,.any),(66,.any),(67,.any),(68,.any),(69,.any),(70,.any)]) (fun (u : Nat × List ByteArray) => [(70,.row 1 (u.2.map rowKr)),(69,.dead)]) (fun (u : Nat × List ByteArray) => u.2 ++ evK (lowK S) u.1 = evK (lowK S) b0 ∧ u.1 ≤ S.length + 2) (fun (u : Nat × List ByteArray) => S.length + 2 - u.1) ((b0,[])) (⟨rfl,by omega⟩) (by intro _;simp (disch := omega) only [seval,go_sem,cnd,intV,shV,convV,strV];rfl) (by intro _;simp (disch := omega) only [seval,go_sem,cnd,intV,shV,convV,strV];rfl) (by (first|refine leQL_spec ?_);(try simp only [seval,go_sem]);first|done) (by (first|refine leQH_spec ?_);(try simp only [seval,go_sem]);first|done) (fun u hI => ?_))
        all_goals
          obtain ⟨k, up⟩ := u
          obtain ⟨hu, hku⟩ := hI
          simp only at hu hku
          have hupl : up.length ≤ 100 := by
            have := congrArg List.length hu
            rw [List.length_append, hup] at this
            omega
          by_cases hkl : k < S.length / 2 * 2
          · obtain ⟨x, hx⟩ := get_lt (show k < S.length by omega)
            have hx' := get_map rowKr hx
            rw [evK_lt (lowK_get hkl hx)] at hu
            (all_goals (try have hZ := (And.intro hx' hLs));(repeat' (first|(with_reducible (first|refine TVq (st := []) ?_))|simp only [seval,go_sem,rowKr,hZ]|(with_reducible refine oV_st (by simp (disch := omega) only [seval,go_sem,cnd,intV,shV,convV,strV,rowKr,hZ];rfl) ?_))) <;> (try (fail));all_goals (try clear hZ))
            all_goals (refine isNextM ((k + 2,up ++ [x])) (by (first|refine leQL_spec ?_);(try simp only [seval,go_sem,rowKr,List.length_append,List.length_map,List.length_cons,List.length_nil]);first|((repeat' (with_reducible apply And.intro)) <;> first|rfl);first|done) (by (first|refine leQH_spec ?_);(try simp only [seval,go_sem,rowKr,List.length_append,List.length_map,List.length_cons,List.length_nil]);first|((repeat' (with_reducible apply And.intro)) <;> first|(simp [rowKr,List.length_append,List.length_map,List.length_cons,List.length_nil];done));first|done) ?_ ?_ <;> (try (first|omega)))
            all_goals exact ⟨by simpa using hu, by simp only; omega⟩
          · rw [evK_ge (by rw [lowK_len]; omega), List.append_nil] at hu
            subst hu
            (all_goals (try have hZ := (And.intro hmin (And.intro hsd hLs)));(repeat' (first|((with_reducible refine isTriD ?_);first|((with_reducible refine isCallD ?_);first|((with_reducible refine LVcall (st := []) ?_);simp only [seval,go_sem,lvD,Int.one_mul,hZ];first|(refine CallL.c (hsm) ?_))))|(with_reducible (first|refine TVq (st := []) ?_))|simp only [seval,go_sem,lvD,Int.one_mul,hZ]|(with_reducible refine oV_st (by simp (disch := omega) only [seval,go_sem,cnd,intV,shV,convV,strV,lvD,Int.one_mul,hZ];rfl) ?_))) <;> (try (fail));all_goals (try clear hZ))
            all_goals ((first|refine isNextVM ((out ++ [stayK S],evK (lowK S) b0,(sumT s1 (2 ^ out.length)).1,a1 + 1)) (Imp.frzTo 70 (by simp only [seval,go_sem];rfl) (by simp only [seval,go_sem,lvD,hsd,take_one,List.length_append,List.length_map,List.length_cons,List.length_nil];rfl) (Imp.takeTo 13 51 (by simp only [seval,go_sem];rfl) (by simp only [seval,go_sem];first|rfl) (by (try simp only [anyR_len,List.length_map,List.length_append,List.length_cons,List.length_nil,List.length_take,List.length_drop,List.length_replicate,splice,Nat.reduceMul]);first|omega) (by first|(simp only [seval,go_sem];first|done)) (by simp only [seval,go_sem];rfl) (Imp.les (by (first|refine leQL_spec ?_);(try simp only [seval,go_sem,lvD,hsd,take_one,List.length_append,List.length_map,List.length_cons,List.length_nil]);first|((repeat' (with_reducible apply And.intro)) <;> first|rfl);first|done) (by (first|refine leQH_spec ?_);(try simp only [seval,go_sem,lvD,hsd,take_one,List.length_append,List.length_map,List.length_cons,List.length_nil]);first|((repeat' (with_reducible apply And.intro)) <;> first|(simp [lvD,hsd,take_one,List.length_append,List.length_map,List.length_cons,List.length_nil];done));first|done)))) ?_ ?_) <;> (try (fail)))
            · refine ⟨by simp only [len1, hd1] at hful ⊢; exact hful, by simp only; omega, by simp only [len1]; omega, fun _ => by simp only [len1]; omega, hrs, ⟨by simp only; omega, by simp only [len1]; omega⟩, ?_⟩
              have h0 : 0 ≤ ((stayK S).length : Int) * 2 ^ out.length := Int.mul_nonneg (by omega) (by omega)
              simp only [len1, addC_ne hne, hd1]
              omega
            · have hk2 := keysN_addH (evK (lowK S) b0) ([])
              simp only [len1, addC_ne hne, hd1]
              rw [hd, addC_end hce]
              simp only [keysN] at hk2 ⊢
              omega
end Go.Proofs.Ytnckgbmifigadaa
