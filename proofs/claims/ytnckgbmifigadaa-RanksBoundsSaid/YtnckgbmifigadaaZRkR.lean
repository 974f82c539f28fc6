/- Ranks: Merge of the program and of the reference walked. -/
import Derived.Test.YtnckgbmifigadaaZRkT
set_option linter.unusedSimpArgs false
set_option linter.unusedVariables false
namespace Go.Proofs.Ytnckgbmifigadaa
open Go.RowKit Go.Avm
theorem zipL_bound {A B : Nat} : ∀ {a b : List (List ByteArray)}, (∀ l ∈ a, l.length ≤ A) → (∀ l ∈ b, l.length ≤ B) → ∀ l ∈ zipL a b, l.length ≤ A + B
  | [], b, _, hb => fun l hl => by have := hb l (by simpa [zipL] using hl); omega
  | x :: a, [], ha, _ => fun l hl => by have := ha l (by simpa [zipL] using hl); omega
  | x :: a, y :: b, ha, hb => by
    intro l hl
    rcases List.mem_cons.1 hl with rfl | hl
    · have h1 := ha x (List.mem_cons_self ..); have h2 := hb y (List.mem_cons_self ..)
      rw [List.length_append]; omega
    · exact zipL_bound (fun z hz => ha z (List.mem_cons_of_mem _ hz)) (fun z hz => hb z (List.mem_cons_of_mem _ hz)) l hl
set_option maxRecDepth 100000 in set_option maxHeartbeats 12800000 in
theorem mrgr_calls {r r' : Rk} {a : Int} {c : List Int} (hl : r.levels.length ≤ 1000) (hk : ∀ l ∈ r.levels, l.length ≤ 100000 ∧ ∀ x ∈ l, x.size ≤ 1000000000) (hl' : r'.levels.length ≤ 1000) (hk' : ∀ l ∈ r'.levels, l.length ≤ 100000 ∧ ∀ x ∈ l, x.size ≤ 1000000000) (hc : ∀ z ∈ c, 0 ≤ z ∧ z ≤ 255) :
    ACalls Try.prog 44 [dR r, dR r', .sl 1 (c.map rowU), .sc (.int .i64 a)] (.tup [dR (mrgR r r' c a).1, .sc (.int .i64 (mrgR r r' c a).2.1), .sc (.int .i64 (mrgR r r' c a).2.2)]) [] := by
  have hvd := validr_calls (r := r) hl hk
  have hvd' := validr_calls (r := r') hl' hk'
  have hcp := copied_calls (r := r) hl (fun l h => (hk l h).1)
  rcases mrgR_cases r r' c a with ⟨h1, e⟩ | ⟨h1, h2, e⟩ | ⟨h1, h2, h3, e⟩ | ⟨h1, h2, h3, h4, e⟩ | ⟨h1, h2, h3, h4, h5, e⟩ | ⟨h1, h2, h3, h4, h5, e⟩
  all_goals rw [e]
  · obtain ⟨s, t, sl, ls, sat⟩ := r
    obtain ⟨s', t', sl', ls', sat'⟩ := r'
    simp only [dR, zeroR, List.map_nil] at hvd hvd' hcp ⊢
    refine of_tri [] [4,5,8,16,22,34,38,66,80,84,160] Try.func44 rfl call44 rfl (by decide) (by decide) rfl rfl Try.ntmps44 (by simp (disch := omega) only [seval,go_sem,↓nsP,nsM,nmsN,cnd,intV,shV,convV,strV,List.replicate,List.zip_nil_left,List.zip_cons_cons];rfl) (by simp (disch := omega) only [seval,go_sem,↓nsP,nsM,nmsN,cnd,intV,shV,convV,strV,List.zip_nil_left,List.zip_cons_cons];rfl) ?_
    ((repeat' (first|((with_reducible refine isTriD ?_);first|((with_reducible refine isCallD ?_);first|((with_reducible refine LVcall (st := [52]) ?_);simp only [seval,go_sem,↓nsP,nsM,nmsN];first|(refine CallL.c (hvd) ?_))))|(with_reducible refine isRet ?_;refine RetV (rs := [.cell 8 50,.tmp 9,.tmp 10]) (by with_unfolding_all rfl) rfl ?_ <;> simp only [seval,go_sem,↓nsP,nsM,nmsN] <;> (repeat' (with_reducible apply And.intro)) <;> (try rfl))|(with_reducible (first|refine TVq (st := [52]) ?_))|simp only [seval,go_sem,↓nsP,nsM,nmsN]|(with_reducible refine oV_st (by simp (disch := omega) only [seval,go_sem,↓nsP,nsM,nmsN,cnd,intV,shV,convV,strV];rfl) ?_))) <;> (try (fail)))
  · obtain ⟨s, t, sl, ls, sat⟩ := r
    obtain ⟨s', t', sl', ls', sat'⟩ := r'
    rw [h1] at hvd
    simp only [dR, zeroR, List.map_nil] at hvd hvd' hcp ⊢
    refine of_tri [] [4,5,8,16,22,34,38,66,80,84,160] Try.func44 rfl call44 rfl (by decide) (by decide) rfl rfl Try.ntmps44 (by simp (disch := omega) only [seval,go_sem,↓nsP,nsM,nmsN,cnd,intV,shV,convV,strV,List.replicate,List.zip_nil_left,List.zip_cons_cons];rfl) (by simp (disch := omega) only [seval,go_sem,↓nsP,nsM,nmsN,cnd,intV,shV,convV,strV,List.zip_nil_left,List.zip_cons_cons];rfl) ?_
    ((repeat' (first|((with_reducible refine isTriD ?_);first|((with_reducible refine isCallD ?_);first|((with_reducible refine LVcall (st := [52]) ?_);simp only [seval,go_sem,↓nsP,nsM,nmsN];first|(refine CallL.c (hvd) ?_)|(refine CallL.c (hvd') ?_))))|(with_reducible refine isRet ?_;refine RetV (rs := [.cell 8 50,.tmp 9,.tmp 10]) (by with_unfolding_all rfl) rfl ?_ <;> simp only [seval,go_sem,↓nsP,nsM,nmsN] <;> (repeat' (with_reducible apply And.intro)) <;> (try rfl))|(with_reducible (first|refine TVq (st := [52]) ?_))|simp only [seval,go_sem,↓nsP,nsM,nmsN]|(with_reducible refine oV_st (by simp (disch := omega) only [seval,go_sem,↓nsP,nsM,nmsN,cnd,intV,shV,convV,strV];rfl) ?_))) <;> (try (fail)))
  · obtain ⟨s, t, sl, ls, sat⟩ := r
    obtain ⟨s', t', sl', ls', sat'⟩ := r'
    rw [h1] at hvd
    rw [h2] at hvd'
    simp only [dR, zeroR, List.map_nil] at hvd hvd' hcp h3 ⊢
    refine of_tri [] [4,5,8,16,22,34,38,66,80,84,160] Try.func44 rfl call44 rfl (by decide) (by decide) rfl rfl Try.ntmps44 (by simp (disch := omega) only [seval,go_sem,↓nsP,nsM,nmsN,cnd,intV,shV,convV,strV,List.replicate,List.zip_nil_left,List.zip_cons_cons];rfl) (by simp (disch := omega) only [seval,go_sem,↓nsP,nsM,nmsN,cnd,intV,shV,convV,strV,List.zip_nil_left,List.zip_cons_cons];rfl) ?_
    ((repeat' (first|((with_reducible refine isTriD ?_);first|((with_reducible refine isCallD ?_);first|((with_reducible refine LVcall (st := [52]) ?_);simp only [seval,go_sem,↓nsP,nsM,nmsN];first|(refine CallL.c (hvd) ?_)|(refine CallL.c (hvd') ?_))))|(with_reducible refine isRet ?_;refine RetV (rs := [.cell 8 50,.tmp 9,.tmp 10]) (by with_unfolding_all rfl) rfl ?_ <;> simp only [seval,go_sem,↓nsP,nsM,nmsN] <;> (repeat' (with_reducible apply And.intro)) <;> (try rfl))|(with_reducible (first|refine TVq (st := [52]) ?_))|simp only [seval,go_sem,↓nsP,nsM,nmsN]|(with_reducible refine oV_st (by simp (disch := omega) only [seval,go_sem,↓nsP,nsM,nmsN,cnd,intV,shV,convV,strV];rfl) ?_))) <;> (try (fail)))
  · obtain ⟨s, t, sl, ls, sat⟩ := r
    obtain ⟨s', t', sl', ls', sat'⟩ := r'
    rw [h1] at hvd
    rw [h2] at hvd'
    simp only at h3
    subst h3
    simp only [dR, zeroR, List.map_nil] at hvd hvd' hcp ⊢
    refine of_tri [] [4,5,8,16,22,34,38,66,80,84,160] Try.func44 rfl call44 rfl (by decide) (by decide) rfl rfl Try.ntmps44 (by simp (disch := omega) only [seval,go_sem,↓nsP,nsM,nmsN,cnd,intV,shV,convV,strV,List.replicate,List.zip_nil_left,List.zip_cons_cons];rfl) (by simp (disch := omega) only [seval,go_sem,↓nsP,nsM,nmsN,cnd,intV,shV,convV,strV,List.zip_nil_left,List.zip_cons_cons];rfl) ?_
    ((repeat' (first|((with_reducible refine isTriD ?_);first|((with_reducible refine isCallD ?_);first|((with_reducible refine LVcall (st := [52]) ?_);simp only [seval,go_sem,↓nsP,nsM,nmsN,h4];first|(refine CallL.c (hvd) ?_)|(refine CallL.c (hvd') ?_)|(refine CallL.c (placer_calls) ?_))))|(with_reducible refine isRet ?_;refine RetV (rs := [.cell 8 50,.tmp 9,.tmp 10]) (by with_unfolding_all rfl) rfl ?_ <;> simp only [seval,go_sem,↓nsP,nsM,nmsN] <;> (repeat' (with_reducible apply And.intro)) <;> (try rfl))|(with_reducible (first|refine TVq (st := [52]) ?_))|simp only [seval,go_sem,↓nsP,nsM,nmsN,h4]|(with_reducible refine oV_st (by simp (disch := omega) only [seval,go_sem,↓nsP,nsM,nmsN,cnd,intV,shV,convV,strV,h4];rfl) ?_))) <;> (try (fail)))
  · have ok := validR_ok h1
    have ok' := validR_ok h2
    obtain ⟨s, t, sl, ls, sat⟩ := r
    obtain ⟨s', t', sl', ls', sat'⟩ := r'
    have hb := ok.t1; have hb2 := ok.t2
    have hb' := ok'.t1; have hb2' := ok'.t2
    rw [h1] at hvd
    rw [h2] at hvd'
    simp only at h3
    subst h3
    simp only [dR] at hvd hvd' hcp hb hb2 hb' hb2' h5 ⊢
    refine of_tri [] [4,5,8,16,22,34,38,66,80,84,160] Try.func44 rfl call44 rfl (by decide) (by decide) rfl rfl Try.ntmps44 (by simp (disch := omega) only [seval,go_sem,↓nsP,nsM,nmsN,cnd,intV,shV,convV,strV,List.replicate,List.zip_nil_left,List.zip_cons_cons];rfl) (by simp (disch := omega) only [seval,go_sem,↓nsP,nsM,nmsN,cnd,intV,shV,convV,strV,List.zip_nil_left,List.zip_cons_cons];rfl) ?_
    ((repeat' (first|((with_reducible refine isTriD ?_);first|((with_reducible refine isCallD ?_);first|((with_reducible refine LVcall (st := [52]) ?_);simp only [seval,go_sem,↓nsP,nsM,nmsN,h4,nst_row];first|(refine CallL.c (hvd) ?_)|(refine CallL.c (hvd') ?_)|(refine CallL.n (hcp) ?_)|(refine CallL.c (placer_calls) ?_))))|(with_reducible (first|refine TVq (st := [52]) ?_))|simp only [seval,go_sem,↓nsP,nsM,nmsN,h4,nst_row]|(with_reducible refine oV_st (by simp (disch := omega) only [seval,go_sem,↓nsP,nsM,nmsN,cnd,intV,shV,convV,strV,h4,nst_row];rfl) ?_))) <;> (try (fail)))
    all_goals (refine RetOK.rowO 38 1 (by simp only [seval, go_sem, ↓nsP, nsM, nmsN]; rfl) (by simp only [seval, go_sem, ↓nsP, nsM, nmsN]; rfl) ?_)
    all_goals (refine RetOK.frz 38 (by simp only [seval, go_sem, ↓nsP, nsM, nmsN]; rfl) (by simp only [seval, go_sem, ↓nsP, nsM, nmsN, h4, nst_row]; rfl) ?_)
    all_goals (with_reducible refine isRet ?_; refine RetV (rs := [.cell 8 50, .tmp 9, .tmp 10]) (by with_unfolding_all rfl) rfl ?_ <;> simp only [seval, go_sem, ↓nsP, nsM, nmsN, nst_row] <;> (repeat' (with_reducible apply And.intro)) <;> (try rfl))
    all_goals done
  · have ok := validR_ok h1
    have ok' := validR_ok h2
    have hpl := placeOk_iff h4
    obtain ⟨s, t, sl, ls, sat⟩ := r
    obtain ⟨s', t', sl', ls', sat'⟩ := r'
    obtain ⟨s1, s2, s3, t1, t2, l1, l2, ln, lev, lst, wt⟩ := ok
    obtain ⟨s1', s2', s3', t1', t2', l1', l2', ln', lev', lst', wt'⟩ := ok'
    rw [h1] at hvd
    rw [h2] at hvd'
    simp only at s1 s2 s3 t1 t2 l1 l2 ln lev lst wt t1' t2' l1' l2' ln' lev' lst' wt' h3 h5 hk hk'
    subst h3
    have hwl : wtL 0 (zipL ls ls') ≤ 1099511627776 := by rw [wtL_zip, wt, wt']; omega
    have hlb : ∀ l ∈ ls, l.length ≤ 31 := fun l h => by have := (lev l h).1; omega
    have hlb' : ∀ l ∈ ls', l.length ≤ 31 := fun l h => by have := (lev' l h).1; omega
    have hzl : ∀ i, (zipL ls (ls'.take i)).length ≤ 41 := fun i => by rw [zipL_len, List.length_take]; omega
    have hzb : ∀ i, ∀ l ∈ zipL ls (ls'.take i), l.length ≤ 62 := fun i l h => zipL_bound hlb (fun x hx => hlb' x (List.mem_of_mem_take hx)) l h
    have hsm : ACalls Try.prog 87 [.sc (.int .i64 sl), .sc (.int .i64 sl'), .sc (.int .i64 1099511627776)] (.tup [.sc (.int .i64 (sumT sl sl').1), .sc (.bool (sumT sl sl').2)]) [] := addp_calls (by omega) (by omega) (by omega) (by omega) (by omega) (by omega)
    have hsr := sumT_range sl sl'
    have hst := settle_calls (ls := zipL ls ls') (c := c) (size := s) (total := t + t') (sl := (sumT sl sl').1) (a := a) (sat := sat || sat') ⟨s1,s2⟩ hc hpl hsr (by have := hzl ls'.length;rw [List.take_length] at this;omega) (fun l h => by have := hzb ls'.length l (by rw [List.take_length];exact h);omega) hwl
    have htr := trimK_rows (setS s c 0 (sumT sl sl').1 a (zipL ls ls')).1
    have htl := (trimK_len (setS s c 0 (sumT sl sl').1 a (zipL ls ls')).1).1
    have hz0 : zipL ls (ls'.take 0) = ls := by rw [List.take_zero, zipL_nil]
    simp only [settleK] at hst ⊢
    simp only [dR] at hvd hvd' hcp ⊢
    generalize (sumT sl sl').1 = S1 at *
    generalize (sumT sl sl').2 = S2 at *
    generalize hF : (sat || sat') = fl at *
    cases sat
    all_goals
      have hfl := hF.symm
      simp only [Bool.false_or, Bool.true_or] at hfl
      refine of_tri [] [4,5,8,16,22,34,38,66,80,84,160] Try.func44 rfl call44 rfl (by decide) (by decide) rfl rfl Try.ntmps44 (by simp (disch := omega) only [seval,go_sem,↓nsP,nsM,nmsN,cnd,intV,shV,convV,strV,List.replicate,List.zip_nil_left,List.zip_cons_cons];rfl) (by simp (disch := omega) only [seval,go_sem,↓nsP,nsM,nmsN,cnd,intV,shV,convV,strV,List.zip_nil_left,List.zip_cons_cons];rfl) ?_
      ((repeat' (first|((with_reducible refine isTriD ?_);first|((with_reducible refine isCallD ?_);first|((with_reducible refine LVcall (st := [52]) ?_);simp only [seval,go_sem,↓nsP,nsM,nmsN,h4];first|(refine CallL.c (hvd) ?_)|(refine CallL.c (hvd') ?_)|(refine CallL.n (hcp) ?_)|(refine CallL.c (hsm) ?_)|(refine CallL.c (placer_calls) ?_)))|((with_reducible first|refine TriD.step (by simp only [seval,go_sem,↓nsP,nsM,nmsN,h4];rfl) ?_);refine LVs (st := [52]) ?_))|(with_reducible (first|refine TVq (st := [52]) ?_))|simp only [seval,go_sem,↓nsP,nsM,nmsN,h4]|(with_reducible refine oV_st (by simp (disch := omega) only [seval,go_sem,↓nsP,nsM,nmsN,cnd,intV,shV,convV,strV,h4];rfl) ?_))) <;> (try (fail)))
      all_goals (refine Tri.rn 38 160 (by decide) (by first | (simp only [seval, go_sem, ↓nsP, nsM, nmsN]; first | done | fail) | rfl | decide) (by simp only [seval, go_sem, ↓nsP, nsM, nmsN]; rfl) ?_)
      all_goals (with_reducible refine Tri.loopV (fun (i : Nat) => [(73,.sc (.int .i64 i)),(38,.any),(13,.any),(14,.any),(74,.any),(75,.any),(76,.any),(77,.any),(78,.any),(79,.any),(80,.any),(81,.any)]) (fun (i : Nat) => [(8,.box [.sc (.int .i64 s),.sc (.int .i64 (t + t')),.sc (.int .i64 S1),.slo 160 1 0 (zipL ls (ls'.take i)).length,.sc (.bool fl)]),(160,nestO 1 (nst (zipL ls (ls'.take i)))),(38,.dead),(80,.dead)]) (fun (i : Nat) => i ≤ ls'.length) (fun (i : Nat) => ls'.length - i) (0) (Nat.zero_le _) (by intro _;simp (disch := omega) only [seval,go_sem,↓nsP,nsM,nmsN,cnd,intV,shV,convV,strV];rfl) (by intro _;simp (disch := omega) only [seval,go_sem,↓nsP,nsM,nmsN,cnd,intV,shV,convV,strV];rfl) (by (first|refine leQL_spec ?_);(try simp only [seval,go_sem,↓nsP,nsM,nmsN,hfl,zipL_nil,List.take_zero]);first|done) (by (first|refine leQH_spec ?_);(try simp only [seval,go_sem,↓nsP,nsM,nmsN,hfl,zipL_nil,List.take_zero]);first|done) (fun i hI => ?_))
      all_goals
        by_cases hlt : i < ls'.length
        · obtain ⟨l, hp⟩ := get_lt hlt
          have hp' := get_map lvD hp
          have hlk := hlb' l (List.mem_of_getElem? hp)
          have hadd := add_calls (s := s) (t := t + t') (sl := S1) (sat := fl) (ls := zipL ls (ls'.take i)) (lv := i) (keys := l) (by have := hzl i; omega) (by omega) (by omega) (fun l h => by have := hzb i l h; omega)
          have hpt : addL (zipL ls (ls'.take i)) i l = zipL ls (ls'.take (i + 1)) := by
            have := zipL_snoc ls (ls'.take i) l
            rw [List.length_take, Nat.min_eq_left (by omega)] at this
            rw [this, List.take_add_one, hp]; rfl
          rw [hpt] at hadd
          ((repeat' (first|((with_reducible refine isTriD ?_);first|((with_reducible refine isCallD ?_);first|((with_reducible (first|(refine TriD.cJ (dst := some 80) [80] (by simp only [seval,go_sem,↓nsP,nsM,nmsN,hp',lvD];rfl) (by simp only [seval,go_sem,↓nsP,nsM,nmsN,hp',lvD];first|rfl) (hadd) (by simp only [seval,go_sem,↓nsP,nsM,nmsN,hp',lvD];first|done) (by simp only [seval,go_sem,↓nsP,nsM,nmsN,hp',lvD];first|done) (by simp only [seval,go_sem,↓nsP,nsM,nmsN,hp',lvD];rfl) ?_)));refine LVs (st := [52]) ?_)))|(with_reducible (first|refine TVq (st := [52]) ?_))|simp only [seval,go_sem,↓nsP,nsM,nmsN,hp',lvD]|(with_reducible refine oV_st (by simp (disch := omega) only [seval,go_sem,↓nsP,nsM,nmsN,cnd,intV,shV,convV,strV,hp',lvD];rfl) ?_))) <;> (try (fail)))
          all_goals ((first|refine isNextVM (i + 1) (Imp.rnTo 80 160 (by decide) (by first|(simp only [seval,go_sem,↓nsP,nsM,nmsN];first|done)) (by simp only [seval,go_sem,↓nsP,nsM,nmsN];rfl) (Imp.les (by (first|refine leQL_spec ?_);(try simp only [seval,go_sem,↓nsP,nsM,nmsN]);first|((repeat' (with_reducible apply And.intro)) <;> first|rfl);first|done) (by (first|refine leQH_spec ?_);(try simp only [seval,go_sem,↓nsP,nsM,nmsN]);first|done))) ?_ ?_) <;> (try (first|omega)))
          all_goals done
        · have e1 : ls'.take i = ls' := List.take_of_length_le (by omega)
          rw [e1]
          ((repeat' (first|((with_reducible refine isTriD ?_);first|((with_reducible refine isCallD ?_);first|((with_reducible (first|(refine TriD.cJ (dst := some 84) [84] (by simp only [seval,go_sem,↓nsP,nsM,nmsN];rfl) (by simp only [seval,go_sem,↓nsP,nsM,nmsN];first|rfl) (hst) (by simp only [seval,go_sem,↓nsP,nsM,nmsN];first|done) (by simp only [seval,go_sem,↓nsP,nsM,nmsN];first|done) (by simp only [seval,go_sem,↓nsP,nsM,nmsN];rfl) ?_)));refine LVs (st := [52]) ?_)))|(with_reducible (first|refine TVq (st := [52]) ?_))|simp only [seval,go_sem,↓nsP,nsM,nmsN]|(with_reducible refine oV_st (by simp (disch := omega) only [seval,go_sem,↓nsP,nsM,nmsN,cnd,intV,shV,convV,strV];rfl) ?_))) <;> (try (fail)))
          all_goals (refine RetOK.frz 84 (by simp only [seval, go_sem, ↓nsP, nsM, nmsN]; rfl) (by simp only [seval, go_sem, ↓nsP, nsM, nmsN]; rfl) ?_)
          all_goals (with_reducible refine isRet ?_; refine RetV (rs := [.cell 8 50, .tmp 9, .tmp 10]) (by with_unfolding_all rfl) rfl ?_ <;> simp only [seval, go_sem, ↓nsP, nsM, nmsN, htr, htl] <;> (repeat' (with_reducible apply And.intro)) <;> (try rfl))
          all_goals done
end Go.Proofs.Ytnckgbmifigadaa
