/- Ranks: rank, Rank and Quantile of the program and of the reference walked. -/
import Derived.Test.YtnckgbmifigadaaZRkU
set_option linter.unusedSimpArgs false
set_option linter.unusedVariables false
namespace Go.Proofs.Ytnckgbmifigadaa
open Go.RowKit Go.Avm
theorem ceilR_cases (a b : Int) : (0 < a % b ∧ ceilR a b = a / b + 1) ∨ (¬ 0 < a % b ∧ ceilR a b = a / b) := by
  unfold ceilR
  by_cases h : 0 < a % b
  · exact .inl ⟨h, if_pos h⟩
  · exact .inr ⟨h, if_neg h⟩
set_option maxRecDepth 100000 in set_option maxHeartbeats 3200000 in
theorem pceil_calls {a b : Int} (ha : 0 ≤ a) (hb : 1 ≤ b) (ha2 : a ≤ 4611686018427387904) (hb2 : b ≤ 4611686018427387904) : ACalls Try.prog 89 [.sc (.int .i64 a), .sc (.int .i64 b)] (.tup [.sc (.int .i64 (ceilR a b)), .sc (.int .i64 0)]) [] := by
  have hq : 0 ≤ a / b := Int.ediv_nonneg ha (by omega)
  have hq2 : a / b ≤ a := Int.ediv_le_self _ ha
  rcases ceilR_cases a b with ⟨h, e⟩ | ⟨h, e⟩
  all_goals
    rw [e]
    refine of_tri [] [] Try.func89 rfl call89 rfl (by decide) (by decide) rfl rfl Try.ntmps89 (by simp (disch := omega) only [seval,go_sem,cnd,intV,shV,convV,strV,List.replicate,List.zip_nil_left,List.zip_cons_cons];rfl) (by simp (disch := omega) only [seval,go_sem,cnd,intV,shV,convV,strV,List.zip_nil_left,List.zip_cons_cons];rfl) ?_
    ((repeat' (first|(with_reducible refine isRet ?_;refine RetV (rs := [.tmp 4,.tmp 5]) (by with_unfolding_all rfl) rfl ?_ <;> simp only [seval,go_sem] <;> (repeat' (with_reducible apply And.intro)) <;> (try rfl))|(with_reducible (first|refine TVq (st := []) ?_))|simp only [seval,go_sem]|(with_reducible refine oV_st (by simp (disch := omega) only [seval,go_sem,cnd,intV,shV,convV,strV];rfl) ?_))) <;> (try (fail)))
theorem quantR_cases (r : Rk) (num den : Int) : (validR r ≠ 0 ∧ quantR r num den = (⟨#[]⟩, validR r)) ∨ (validR r = 0 ∧ (den < 1 ∨ 1000000 < den ∨ num < 0 ∨ den < num) ∧ quantR r num den = (⟨#[]⟩, 5)) ∨
    (validR r = 0 ∧ ¬ (den < 1 ∨ 1000000 < den ∨ num < 0 ∨ den < num) ∧ r.total = 0 ∧ quantR r num den = (⟨#[]⟩, 17)) ∨ (validR r = 0 ∧ ¬ (den < 1 ∨ 1000000 < den ∨ num < 0 ∨ den < num) ∧ r.total ≠ 0 ∧ quantR r num den = (qK r.levels (wantR r num den), 0)) := by
  unfold quantR
  by_cases h1 : validR r = 0
  · rw [if_neg (by simp [h1])]
    by_cases h2 : den < 1 ∨ 1000000 < den ∨ num < 0 ∨ den < num
    · rw [if_pos h2]; exact .inr (.inl ⟨h1, h2, rfl⟩)
    · rw [if_neg h2]
      by_cases h3 : r.total = 0
      · rw [if_pos h3]; exact .inr (.inr (.inl ⟨h1, h2, h3, rfl⟩))
      · rw [if_neg h3]; exact .inr (.inr (.inr ⟨h1, h2, h3, rfl⟩))
  · rw [if_pos h1]; exact .inl ⟨h1, rfl⟩
theorem flat_len : ∀ {ls : List (List ByteArray)} {B : Nat}, (∀ l ∈ ls, l.length ≤ B) → ls.flatten.length ≤ B * ls.length
  | [], _, _ => by simp
  | l :: ls, B, h => by
    have h1 := h l (List.mem_cons_self ..)
    have h2 := flat_len (ls := ls) (B := B) fun y hy => h y (List.mem_cons_of_mem _ hy)
    rw [List.flatten_cons, List.length_append, List.length_cons, Nat.mul_add]; omega
set_option maxRecDepth 100000 in set_option maxHeartbeats 6400000 in
theorem pquant_calls {r : Rk} {num den : Int} (hl : r.levels.length ≤ 1000) (hk : ∀ l ∈ r.levels, l.length ≤ 100000 ∧ ∀ x ∈ l, x.size ≤ 1000000000) :
    ACalls Try.prog 47 [dR r, .sc (.int .i64 num), .sc (.int .i64 den)] (.tup [.sc (.string (quantR r num den).1), .sc (.int .i64 (quantR r num den).2)]) [] := by
  have hvd := validr_calls (r := r) hl hk
  rcases quantR_cases r num den with ⟨h1, e⟩ | ⟨h1, h2, e⟩ | ⟨h1, h2, h3, e⟩ | ⟨h1, h2, h3, e⟩
  all_goals rw [e]
  · obtain ⟨s, t, sl, ls, sat⟩ := r
    simp only [dR] at hvd ⊢
    refine of_tri [] [3,17,45,59,62,71] Try.func47 rfl call47 rfl (by decide) (by decide) rfl rfl Try.ntmps47 (by simp (disch := omega) only [seval,go_sem,cnd,intV,shV,convV,strV,List.replicate,List.zip_nil_left,List.zip_cons_cons];rfl) (by simp (disch := omega) only [seval,go_sem,cnd,intV,shV,convV,strV,List.zip_nil_left,List.zip_cons_cons];rfl) ?_
    ((repeat' (first|((with_reducible refine isTriD ?_);first|((with_reducible refine isCallD ?_);first|((with_reducible refine LVcall (st := []) ?_);simp only [seval,go_sem];first|(refine CallL.c (hvd) ?_))))|(with_reducible refine isRet ?_;refine RetV (rs := [.tmp 6,.tmp 7]) (by with_unfolding_all rfl) rfl ?_ <;> simp only [seval,go_sem] <;> (repeat' (with_reducible apply And.intro)) <;> (try rfl))|(with_reducible (first|refine TVq (st := []) ?_))|simp only [seval,go_sem]|(with_reducible refine oV_st (by simp (disch := omega) only [seval,go_sem,cnd,intV,shV,convV,strV];rfl) ?_))) <;> (try (fail)))
    all_goals (try rfl)
  · obtain ⟨s, t, sl, ls, sat⟩ := r
    rw [h1] at hvd
    simp only [dR] at hvd ⊢
    refine of_tri [] [3,17,45,59,62,71] Try.func47 rfl call47 rfl (by decide) (by decide) rfl rfl Try.ntmps47 (by simp (disch := omega) only [seval,go_sem,cnd,intV,shV,convV,strV,List.replicate,List.zip_nil_left,List.zip_cons_cons];rfl) (by simp (disch := omega) only [seval,go_sem,cnd,intV,shV,convV,strV,List.zip_nil_left,List.zip_cons_cons];rfl) ?_
    ((repeat' (first|(with_reducible refine isCv ?_;intro hc;(try simp only [bls,reduceCtorEq] at hc);(try (exfalso;omega)))|((with_reducible refine isTriD ?_);first|((with_reducible refine isCallD ?_);first|((with_reducible refine LVcall (st := []) ?_);simp only [seval,go_sem];first|(refine CallL.c (hvd) ?_))))|(with_reducible refine isRet ?_;refine RetV (rs := [.tmp 6,.tmp 7]) (by with_unfolding_all rfl) rfl ?_ <;> simp only [seval,go_sem] <;> (repeat' (with_reducible apply And.intro)) <;> (try rfl))|(with_reducible (first|refine TVq (st := []) ?_))|simp only [seval,go_sem]|(with_reducible refine oV_st (by simp (disch := omega) only [seval,go_sem,cnd,intV,shV,convV,strV];rfl) ?_)|(with_reducible refine gV_split (by simp only [seval,go_sem];rfl) (by simp only [seval,go_sem];rfl) (by simp only [seval,go_sem];first|done) (cvI ?_) (cvI ?_) (by simp only [seval,go_sem])))) <;> (try (fail)))
    all_goals (try rfl)
  · obtain ⟨s, t, sl, ls, sat⟩ := r
    rw [h1] at hvd
    simp only at h3
    subst h3
    simp only [dR] at hvd ⊢
    refine of_tri [] [3,17,45,59,62,71] Try.func47 rfl call47 rfl (by decide) (by decide) rfl rfl Try.ntmps47 (by simp (disch := omega) only [seval,go_sem,cnd,intV,shV,convV,strV,List.replicate,List.zip_nil_left,List.zip_cons_cons];rfl) (by simp (disch := omega) only [seval,go_sem,cnd,intV,shV,convV,strV,List.zip_nil_left,List.zip_cons_cons];rfl) ?_
    ((repeat' (first|((with_reducible refine isTriD ?_);first|((with_reducible refine isCallD ?_);first|((with_reducible refine LVcall (st := []) ?_);simp only [seval,go_sem];first|(refine CallL.c (hvd) ?_))))|(with_reducible refine isRet ?_;refine RetV (rs := [.tmp 6,.tmp 7]) (by with_unfolding_all rfl) rfl ?_ <;> simp only [seval,go_sem] <;> (repeat' (with_reducible apply And.intro)) <;> (try rfl))|(with_reducible (first|refine TVq (st := []) ?_))|simp only [seval,go_sem]|(with_reducible refine oV_st (by simp (disch := omega) only [seval,go_sem,cnd,intV,shV,convV,strV];rfl) ?_))) <;> (try (fail)))
    all_goals (try rfl)
  · have ok := validR_ok h1
    have hrk := fun (key : ByteArray) (hkk : key.size ≤ 1000000000) => prank_calls (r := r) (key := key) ok.len hk hkk (by rw [ok.wt]; exact ok.t2)
    have hwr := want_rng (r := r) (num := num) (den := den) (by have := ok.t1; omega) (by omega) (by omega) (by omega)
    have hqs := qK_spec hwr.1 (by rw [ok.wt]; exact hwr.2)
    have hmn : 0 ≤ num * r.total := Int.mul_nonneg (by omega) ok.t1
    have hmx : num * r.total ≤ 1000000 * 1099511627776 := Int.mul_le_mul (by omega) ok.t2 ok.t1 (by omega)
    have hwe : wantR r num den = max (ceilR (num * r.total) den) 1 := rfl
    have hce := pceil_calls (a := num * r.total) (b := den) hmn (by omega) (by omega) (by omega)
    have hcr := ceilR_rng hmn (show 1 ≤ den by omega)
    have htot := ok.t2
    generalize wantR r num den = W at *
    obtain ⟨s, t, sl, ls, sat⟩ := r
    obtain ⟨s1, s2, s3, t1, t2, l1, l2, ln, lev, lst, wt⟩ := ok
    rw [h1] at hvd
    simp only at s1 s2 s3 t1 t2 l1 l2 ln lev lst wt h3 hwr hqs hmn hmx hwe hce hk htot
    simp only [dR] at hvd hrk ⊢
    generalize hP : num * t = P at *
    generalize ceilR P den = C at *
    have hfl := flat_len (ls := ls) (B := 31) fun l hl => by have := (lev l hl).1; omega
    have hne : 0 < ls.flatten.length := List.length_pos_of_mem hqs.2.1
    have hso := sortk_calls (ns := ls.flatten) (n := ls.flatten.length) rfl hne (by omega)
    have hsl := sortK_len ls.flatten
    refine of_tri [] [3,17,45,59,62,71] Try.func47 rfl call47 rfl (by decide) (by decide) rfl rfl Try.ntmps47 (by simp (disch := omega) only [seval,go_sem,cnd,intV,shV,convV,strV,List.replicate,List.zip_nil_left,List.zip_cons_cons];rfl) (by simp (disch := omega) only [seval,go_sem,cnd,intV,shV,convV,strV,List.zip_nil_left,List.zip_cons_cons];rfl) ?_
    ((repeat' (first|((with_reducible refine isTriD ?_);first|((with_reducible refine isCallD ?_);first|((with_reducible refine LVcall (st := []) ?_);simp only [seval,go_sem,hP];first|(refine CallL.c (hvd) ?_)|(refine CallL.c (hce) ?_))))|(with_reducible (first|refine TVq (st := []) ?_))|simp only [seval,go_sem,hP]|(with_reducible refine oV_st (by simp (disch := omega) only [seval,go_sem,cnd,intV,shV,convV,strV,hP];rfl) ?_))) <;> (try (fail)))
    all_goals (refine Tri.virt 11 59 1 (by first | (simp only [seval, go_sem]; first | done)) (by first | (simp only [seval, go_sem]; first | done)) (by simp only [seval, go_sem]; rfl) ?_)
    all_goals (with_reducible refine Tri.loopU (fun (z : Nat × List ByteArray) => [(53,.sc (.int .i64 z.1)),(11,.slo 59 1 0 z.2.length),(13,.any),(54,.any),(55,.any),(56,.any),(57,.any),(58,.any),(59,.any),(60,.any)]) (fun (z : Nat × List ByteArray) => [(59,.row 1 (z.2.map rowKr))]) (fun (z : Nat × List ByteArray) => z.1 ≤ ls.length ∧ z.2 ++ (ls.drop z.1).flatten = ls.flatten) (fun (z : Nat × List ByteArray) => ls.length - z.1) ((0,[])) (⟨Nat.zero_le _,rfl⟩) (by intro _;simp (disch := omega) only [seval,go_sem,cnd,intV,shV,convV,strV];rfl) (by intro _;simp (disch := omega) only [seval,go_sem,cnd,intV,shV,convV,strV];rfl) (by (first|refine leQL_spec ?_);(try simp only [seval,go_sem]);first|done) (by (first|refine leQH_spec ?_);(try simp only [seval,go_sem]);first|done) (fun z hI => ?_))
    all_goals
      obtain ⟨i, out⟩ := z
      obtain ⟨hi, ho⟩ := hI
      simp only at hi ho
      have hol := congrArg List.length ho
      rw [List.length_append] at hol
      by_cases hlt : i < ls.length
      · obtain ⟨l, hli⟩ := get_lt hlt
        have hli' := get_map lvD hli
        have hkl := (lev l (List.mem_of_getElem? hli)).1
        rw [drop_get hli, List.flatten_cons] at ho
        ((repeat' (first | (with_reducible (first | refine TVq (st := []) ?_)) | simp only [seval, go_sem, hli', lvD] | (with_reducible refine oV_st (by simp (disch := omega) only [seval, go_sem, cnd, intV, shV, convV, strV, hli', lvD]; rfl) ?_))) <;> (try (fail)))
        all_goals (refine isNextM ((i + 1,out ++ l)) (by (first|refine leQL_spec ?_);(try simp only [seval,go_sem,List.length_append,List.length_map,List.map_append]);first|((repeat' (with_reducible apply And.intro)) <;> first|rfl);first|done) (by (first|refine leQH_spec ?_);(try simp only [seval,go_sem,List.length_append,List.length_map,List.map_append]);first|done) ?_ ?_ <;> (try (first|omega)))
        all_goals exact ⟨by simp only; omega, by simp only [List.append_assoc]; exact ho⟩
      · rw [List.drop_eq_nil_of_le (by omega), List.flatten_nil, List.append_nil] at ho
        subst ho
        ((repeat' (first|((with_reducible refine isTriD ?_);first|((with_reducible refine isCallD ?_);first|((with_reducible (first|(refine TriD.cI (dst := _) [] (by simp only [seval,go_sem];rfl) (by simp only [seval,go_sem];first|rfl) (hso) (by simp only [seval,go_sem];first|done) (by simp only [seval,go_sem];first|done) (by simp only [seval,go_sem];rfl) ?_)));refine LVs (st := []) ?_)))|(with_reducible (first|refine TVq (st := []) ?_))|simp only [seval,go_sem]|(with_reducible refine oV_st (by simp (disch := omega) only [seval,go_sem,cnd,intV,shV,convV,strV];rfl) ?_))) <;> (try (fail)))
        have hks := fun x hx => (hk x hx).2
        generalize hS : sortK ls.flatten = S at *
        have hSm : ∀ x ∈ S, x.size ≤ 1000000000 := fun x hx => by
          rw [← hS] at hx
          obtain ⟨l, hl, hx⟩ := List.mem_flatten.1 (sortK_mem.1 hx)
          exact (hk l hl).2 x hx
        all_goals (with_reducible refine Tri.loopU (fun (j : Nat) => [(65,.sc (.int .i64 j)),(6,.any),(7,.any),(15,.any),(66,.any),(67,.any),(68,.any),(69,.any),(70,.any),(71,.any),(72,.any),(73,.any),(74,.any),(75,.any)]) (fun (j : Nat) => [(71,.dead)]) (fun (j : Nat) => j ≤ S.length ∧ (S.drop j).find? (hitR ls W) = some (qK ls W)) (fun (j : Nat) => S.length - j) (0) (⟨Nat.zero_le _,by simpa using hqs.1⟩) (by intro _;simp (disch := omega) only [seval,go_sem,cnd,intV,shV,convV,strV];rfl) (by intro _;simp (disch := omega) only [seval,go_sem,cnd,intV,shV,convV,strV];rfl) (by (first|refine leQL_spec ?_);(try simp only [seval,go_sem]);first|done) (by (first|refine leQH_spec ?_);(try simp only [seval,go_sem]);first|done) (fun j hI => ?_))
        all_goals
          obtain ⟨hj, hfd⟩ := hI
          by_cases hlt2 : j < S.length
          · obtain ⟨x, hx⟩ := get_lt hlt2
            have hx' := get_map rowKr hx
            have hxs := hSm x (List.mem_of_getElem? hx)
            have hrx := hrk x hxs
            rw [drop_get hx, List.find?_cons] at hfd
            cases hh : hitR ls W x with
            | true =>
              rw [hh] at hfd
              simp only [Option.some.injEq] at hfd
              simp only [hitR, decide_eq_true_eq] at hh
              rw [← hfd]
              ((repeat' (first|((with_reducible refine isTriD ?_);first|((with_reducible refine isCallD ?_);first|((with_reducible refine LVcall (st := []) ?_);simp only [seval,go_sem,hx',rowKr];first|(refine CallL.c (hrx) ?_))))|(with_reducible refine isRet ?_;refine RetV (rs := [.tmp 6,.tmp 7]) (by with_unfolding_all rfl) rfl ?_ <;> simp only [seval,go_sem] <;> (repeat' (with_reducible apply And.intro)) <;> (try rfl))|(with_reducible (first|refine TVq (st := []) ?_))|simp only [seval,go_sem,hx',rowKr]|(with_reducible refine oV_st (by simp (disch := omega) only [seval,go_sem,cnd,intV,shV,convV,strV,hx',rowKr];rfl) ?_))) <;> (try (fail)))
            | false =>
              rw [hh] at hfd
              simp only [hitR, decide_eq_false_iff_not] at hh
              ((repeat' (first|((with_reducible refine isTriD ?_);first|((with_reducible refine isCallD ?_);first|((with_reducible refine LVcall (st := []) ?_);simp only [seval,go_sem,hx',rowKr];first|(refine CallL.c (hrx) ?_))))|(with_reducible (first|refine TVq (st := []) ?_))|simp only [seval,go_sem,hx',rowKr]|(with_reducible refine oV_st (by simp (disch := omega) only [seval,go_sem,cnd,intV,shV,convV,strV,hx',rowKr];rfl) ?_))) <;> (try (fail)))
              all_goals (refine isNextM (j + 1) (by (first|refine leQL_spec ?_);(try simp only [seval,go_sem]);first|((repeat' (with_reducible apply And.intro)) <;> first|rfl);first|done) (by (first|refine leQH_spec ?_);(try simp only [seval,go_sem]);first|done) ?_ ?_ <;> (try (first|omega)))
              all_goals exact ⟨by omega, hfd⟩
          · rw [List.drop_eq_nil_of_le (by omega)] at hfd
            cases hfd
end Go.Proofs.Ytnckgbmifigadaa
