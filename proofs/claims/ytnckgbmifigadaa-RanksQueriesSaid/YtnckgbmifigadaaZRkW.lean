/- Ranks: rank, Rank and Quantile of the program and of the reference walked. -/
import Derived.Test.YtnckgbmifigadaaZRkU
set_option linter.unusedSimpArgs false
set_option linter.unusedVariables false
namespace Go.Proofs.Ytnckgbmifigadaa
open Go.RowKit Go.Avm
theorem ceilR_cases (a b : Int) : (0 < a % b ∧ ceilR a b = a / b + 1) ∨ (¬ 0 < a % b ∧ ceilR a b = a / b) := by
  unfold ceilR
  by_cases h : 0 < a % b
  · exact .inl ⟨h, if_pos h⟩
  · exact .inr ⟨h, if_neg h⟩
set_option maxRecDepth 100000 in set_option maxHeartbeats 3200000 in
theorem pceil_calls {a b : Int} (ha : 0 ≤ a) (hb : 1 ≤ b) (ha2 : a ≤ 4611686018427387904) (hb2 : b ≤ 4611686018427387904) : ACalls Try.prog 89 [.sc (.int .i64 a), .sc (.int .i64 b)] (.tup [.sc (.int .i64 (ceilR a b)), .sc (.int .i64 0)]) [] := by
  have hq : 0 ≤ a / b := Int.ediv_nonneg ha (by omega)
  have hq2 : a / b ≤ a := Int.ediv_le_self _ ha
  rcases ceilR_cases a b with ⟨h, e⟩ | ⟨h, e⟩
  all_goals
    rw [e]
    refine of_tri [] [] Try.func89 rfl call89 rfl (by decide) (by decide) rfl rfl Try.ntmps89 (by simp (disch := omega) only [seval,go_sem,cnd,intV,shV,convV,strV,List.replicate,List.zip_nil_left,List.zip_cons_cons];rfl) (by simp (disch := omega) only [seval,go_sem,cnd,intV,shV,convV,strV,List.zip_nil_left,List.zip_cons_cons];rfl) ?_
    ((repeat' (first|(with_reducible refine isRet ?_;refine RetV (rs := [.tmp 4,.tmp 5]) (by with_unfolding_all rfl) rfl ?_ <;> simp only [seval,go_sem] <;> (repeat' (with_reducible apply And.intro)) <;> (try rfl))|(with_reducible (first|refine TVq (st := []) ?_))|simp only [seval,go_sem]|(with_reducible refine oV_st (by simp (disch := omega) only [seval,go_sem,cnd,intV,shV,convV,strV];rfl) ?_))) <;> (try (fail)))
set_option maxRecDepth 100000 in set_option maxHeartbeats 3200000 in
theorem rceil_calls {a b : Int} (ha : 0 ≤ a) (hb : 1 ≤ b) (ha2 : a ≤ 4611686018427387904) (hb2 : b ≤ 4611686018427387904) : ACalls Try.prog 91 [.sc (.int .i64 a), .sc (.int .i64 b)] (.tup [.sc (.int .i64 (ceilR a b)), .sc (.int .i64 0)]) [] := by
  have hq : 0 ≤ a / b := Int.ediv_nonneg ha (by omega)
  have hq2 : a / b ≤ a := Int.ediv_le_self _ ha
  rcases ceilR_cases a b with ⟨h, e⟩ | ⟨h, e⟩
  all_goals
    rw [e]
    refine of_tri [] [] Try.func91 rfl call91 rfl (by decide) (by decide) rfl rfl Try.ntmps91 (by simp (disch := omega) only [seval,go_sem,cnd,intV,shV,convV,strV,List.replicate,List.zip_nil_left,List.zip_cons_cons];rfl) (by simp (disch := omega) only [seval,go_sem,cnd,intV,shV,convV,strV,List.zip_nil_left,List.zip_cons_cons];rfl) ?_
    ((repeat' (first|(with_reducible refine isRet ?_;refine RetV (rs := [.tmp 4,.tmp 5]) (by with_unfolding_all rfl) rfl ?_ <;> simp only [seval,go_sem] <;> (repeat' (with_reducible apply And.intro)) <;> (try rfl))|(with_reducible (first|refine TVq (st := []) ?_))|simp only [seval,go_sem]|(with_reducible refine oV_st (by simp (disch := omega) only [seval,go_sem,cnd,intV,shV,convV,strV];rfl) ?_))) <;> (try (fail)))
set_option maxRecDepth 100000 in set_option maxHeartbeats 6400000 in
theorem rrank_calls {r : Rk} {key : ByteArray} (hl : r.levels.length ≤ 41) (hk : ∀ l ∈ r.levels, l.length ≤ 100000 ∧ ∀ x ∈ l, x.size ≤ 1000000000) (hkk : key.size ≤ 1000000000) (hw : wtL 0 r.levels ≤ 1099511627776) :
    ACalls Try.prog 88 [dR r, .sc (.string key)] (.sc (.int .i64 (rankL key 0 r.levels))) [] := by
  obtain ⟨s, t, sl, ls, sat⟩ := r
  simp only at hl hk hw ⊢
  simp only [dR]
  have hR := rankL_rng key 0 ls
  refine of_tri [] [2] Try.func88 rfl call88 rfl (by decide) (by decide) rfl rfl Try.ntmps88 (by simp (disch := omega) only [seval,go_sem,cnd,intV,shV,convV,strV,List.replicate,List.zip_nil_left,List.zip_cons_cons];rfl) (by simp (disch := omega) only [seval,go_sem,cnd,intV,shV,convV,strV,List.zip_nil_left,List.zip_cons_cons];rfl) ?_
  ((repeat' (first | (with_reducible (first | refine TVq (st := []) ?_)) | simp only [seval, go_sem])) <;> (try (fail)))
  all_goals (with_reducible refine Tri.loopU (fun (z : Nat × Int) => [(6,.sc (.int .i64 z.1)),(5,.sc (.int .i64 z.2)),(7,.any),(8,.any),(9,.any),(10,.any),(11,.any),(12,.any),(13,.any),(14,.any),(15,.any),(16,.any),(17,.any),(18,.any),(19,.any),(20,.any),(21,.any),(22,.any),(23,.any),(24,.any),(25,.any),(26,.any),(27,.any),(28,.any),(29,.any),(30,.any),(31,.any),(32,.any),(33,.any),(34,.any),(35,.any),(36,.any),(37,.any),(38,.any),(39,.any)]) (fun (z : Nat × Int) => []) (fun (z : Nat × Int) => z.1 ≤ ls.length ∧ z.2 + rankL key z.1 (ls.drop z.1) = rankL key 0 ls ∧ 0 ≤ z.2) (fun (z : Nat × Int) => ls.length - z.1) ((0,0)) (⟨Nat.zero_le _,by simp,by simp⟩) (by intro _;simp (disch := omega) only [seval,go_sem,cnd,intV,shV,convV,strV];rfl) (by intro _;simp (disch := omega) only [seval,go_sem,cnd,intV,shV,convV,strV];rfl) (by (first|refine leQL_spec ?_);(try simp only [seval,go_sem]);first|done) (by (first|refine leQH_spec ?_);(try simp only [seval,go_sem]);first|done) (fun z hI => ?_))
  all_goals
    obtain ⟨i, n⟩ := z
    obtain ⟨hi, hn, hn0⟩ := hI
    simp only at hi hn hn0
    by_cases hlt : i < ls.length
    · obtain ⟨l, hli⟩ := get_lt hlt
      have hli' := get_map lvD hli
      obtain ⟨hll, hks⟩ := hk l (List.mem_of_getElem? hli)
      rw [drop_get hli, rankL] at hn
      have hmin : min i 64 = i := by omega
      have hp1 := two_pos i
      have hp2 : (2 : Int) ^ i ≤ 2 ^ 41 := by exact_mod_cast Nat.pow_le_pow_right (by decide) (show i ≤ 41 by omega)
      have hrest := (rankL_rng key (i + 1) (ls.drop (i + 1))).1
      ((repeat' (first | (with_reducible (first | refine TVq (st := []) ?_)) | simp only [seval, go_sem, hli', lvD] | (with_reducible refine oV_st (by simp (disch := omega) only [seval, go_sem, cnd, intV, shV, convV, strV, hli', lvD]; rfl) ?_))) <;> (try (fail)))
      all_goals (with_reducible refine Tri.loopU (fun (u : Nat × Int) => [(7,.sc (.int .i64 u.1)),(5,.sc (.int .i64 u.2)),(15,.any),(16,.any),(17,.any),(18,.any),(19,.any),(20,.any),(21,.any),(22,.any),(23,.any),(24,.any),(25,.any),(26,.any),(27,.any),(28,.any),(29,.any),(30,.any),(31,.any),(32,.any),(33,.any),(34,.any),(35,.any),(36,.any),(37,.any),(38,.any),(39,.any)]) (fun (u : Nat × Int) => []) (fun (u : Nat × Int) => u.1 ≤ l.length ∧ u.2 + (cntL key (l.drop u.1) : Int) * 2 ^ i = n + (cntL key l : Int) * 2 ^ i ∧ 0 ≤ u.2) (fun (u : Nat × Int) => l.length - u.1) ((0,n)) (⟨Nat.zero_le _,by simp,hn0⟩) (by intro _;simp (disch := omega) only [seval,go_sem,cnd,intV,shV,convV,strV];rfl) (by intro _;simp (disch := omega) only [seval,go_sem,cnd,intV,shV,convV,strV];rfl) (by (first|refine leQL_spec ?_);(try simp only [seval,go_sem]);first|done) (by (first|refine leQH_spec ?_);(try simp only [seval,go_sem]);first|done) (fun u hI => ?_))
      all_goals
        obtain ⟨k, m⟩ := u
        obtain ⟨hk', hm, hm0⟩ := hI
        simp only at hk' hm hm0
        by_cases hkt : k < l.length
        · obtain ⟨x, hx⟩ := get_lt hkt
          have hx' := get_map rowKr hx
          have hxs := hks x (List.mem_of_getElem? hx)
          have h0 : 0 ≤ (cntL key (l.drop (k + 1)) : Int) * 2 ^ i := Int.mul_nonneg (by omega) (by omega)
          rw [drop_get hx] at hm
          have hle := le_not x.toList key.toList
          cases hb : Op.bytesLess key.toList x.toList with
          | true =>
            rw [cntL_no hb] at hm
            rw [hb] at hle
            (all_goals (try have hZ := (And.intro hli' (And.intro hx' hle)));(repeat' (first|(with_reducible (first|refine TVq (st := []) ?_))|simp only [seval,go_sem,lvD,rowKr,Bool.not_true,hZ]|(with_reducible refine oV_st (by simp (disch := omega) only [seval,go_sem,cnd,intV,shV,convV,strV,lvD,rowKr,Bool.not_true,hZ];rfl) ?_))) <;> (try (fail));all_goals (try clear hZ))
            all_goals (refine isNextM ((k + 1,m)) (by (first|refine leQL_spec ?_);(try simp only [seval,go_sem]);first|((repeat' (with_reducible apply And.intro)) <;> first|rfl);first|done) (by (first|refine leQH_spec ?_);(try simp only [seval,go_sem]);first|done) ?_ ?_ <;> (try (first|omega|(simp;omega))))
            all_goals exact ⟨by simp only; omega, hm, hm0⟩
          | false =>
            rw [cntL_yes hb, Int.natCast_add, Int.add_mul] at hm
            rw [hb] at hle
            (all_goals (try have hZ := (And.intro hli' (And.intro hx' (And.intro hle hmin))));(repeat' (first|(with_reducible (first|refine TVq (st := []) ?_))|simp only [seval,go_sem,lvD,rowKr,Int.one_mul,Bool.not_false,hZ]|(with_reducible refine oV_st (by simp (disch := omega) only [seval,go_sem,cnd,intV,shV,convV,strV,lvD,rowKr,Int.one_mul,Bool.not_false,hZ];rfl) ?_))) <;> (try (fail));all_goals (try clear hZ))
            all_goals (refine isNextM ((k + 1,m + 2 ^ i)) (by (first|refine leQL_spec ?_);(try simp only [seval,go_sem]);first|((repeat' (with_reducible apply And.intro)) <;> first|rfl);first|done) (by (first|refine leQH_spec ?_);(try simp only [seval,go_sem]);first|done) ?_ ?_ <;> (try (first|omega|(simp;omega))))
            all_goals exact ⟨by simp only; omega, by simp only; omega, by simp only; omega⟩
        · rw [List.drop_eq_nil_of_le (by omega), cntL_nil] at hm
          ((repeat' (first | (with_reducible (first | refine TVq (st := []) ?_)) | simp only [seval, go_sem, hli', lvD] | (with_reducible refine oV_st (by simp (disch := omega) only [seval, go_sem, cnd, intV, shV, convV, strV, hli', lvD]; rfl) ?_))) <;> (try (fail)))
          all_goals (refine isNextM ((i + 1,m)) (by (first|refine leQL_spec ?_);(try simp only [seval,go_sem]);first|((repeat' (with_reducible apply And.intro)) <;> first|rfl);first|done) (by (first|refine leQH_spec ?_);(try simp only [seval,go_sem]);first|done) ?_ ?_ <;> (try (first|omega|(simp;omega))))
          all_goals exact ⟨by simp only; omega, by simp only; omega, hm0⟩
    · rw [List.drop_eq_nil_of_le (by omega), rankL] at hn
      ((repeat' (first|(with_reducible refine isRet ?_;refine RetV (rs := [.tmp 4]) (by with_unfolding_all rfl) rfl ?_ <;> simp only [seval,go_sem] <;> (repeat' (with_reducible apply And.intro)) <;> (try rfl))|(with_reducible (first|refine TVq (st := []) ?_))|simp only [seval,go_sem]|(with_reducible refine oV_st (by simp (disch := omega) only [seval,go_sem,cnd,intV,shV,convV,strV];rfl) ?_))) <;> (try (fail)))
      all_goals omega
set_option maxRecDepth 100000 in set_option maxHeartbeats 6400000 in
theorem rRank_calls {r : Rk} {key : ByteArray} (hl : r.levels.length ≤ 1000) (hk : ∀ l ∈ r.levels, l.length ≤ 100000 ∧ ∀ x ∈ l, x.size ≤ 1000000000) (hkk : key.size ≤ 1000000000) :
    ACalls Try.prog 46 [dR r, .sc (.string key)] (.tup [.sc (.int .i64 (rankR r key).1), .sc (.int .i64 (rankR r key).2)]) [] := by
  have hvd := validr2_calls (r := r) hl hk
  unfold rankR
  by_cases h1 : validR r = 0
  · rw [h1] at hvd
    have ok := validR_ok h1
    have hrk := rrank_calls (r := r) (key := key) ok.len hk hkk (by rw [ok.wt]; exact ok.t2)
    obtain ⟨s, t, sl, ls, sat⟩ := r
    simp only [dR] at hvd hrk ⊢
    rw [h1]
    cases h2 : keyOk key
    · simp only [ne_eq, not_true_eq_false, if_true, if_false]
      refine of_tri [] [2,8,13,17] Try.func46 rfl call46 rfl (by decide) (by decide) rfl rfl Try.ntmps46 (by simp (disch := omega) only [seval,go_sem,cnd,intV,shV,convV,strV,List.replicate,List.zip_nil_left,List.zip_cons_cons];rfl) (by simp (disch := omega) only [seval,go_sem,cnd,intV,shV,convV,strV,List.zip_nil_left,List.zip_cons_cons];rfl) ?_
      ((repeat' (first|((with_reducible refine isTriD ?_);first|((with_reducible refine isCallD ?_);first|((with_reducible refine LVcall (st := []) ?_);simp only [seval,go_sem,h2];first|(refine CallL.c (hvd) ?_)|(refine CallL.c (riskey_calls ?_) ?_))))|(with_reducible refine isRet ?_;refine RetV (rs := [.tmp 4,.tmp 5]) (by with_unfolding_all rfl) rfl ?_ <;> simp only [seval,go_sem] <;> (repeat' (with_reducible apply And.intro)) <;> (try rfl))|(with_reducible (first|refine TVq (st := []) ?_))|simp only [seval,go_sem,h2]|(with_reducible refine oV_st (by simp (disch := omega) only [seval,go_sem,cnd,intV,shV,convV,strV,h2];rfl) ?_))) <;> (try (first|(with_reducible assumption))))
    · simp only [ne_eq, not_true_eq_false, if_false, Bool.true_eq_false]
      refine of_tri [] [2,8,13,17] Try.func46 rfl call46 rfl (by decide) (by decide) rfl rfl Try.ntmps46 (by simp (disch := omega) only [seval,go_sem,cnd,intV,shV,convV,strV,List.replicate,List.zip_nil_left,List.zip_cons_cons];rfl) (by simp (disch := omega) only [seval,go_sem,cnd,intV,shV,convV,strV,List.zip_nil_left,List.zip_cons_cons];rfl) ?_
      ((repeat' (first|((with_reducible refine isTriD ?_);first|((with_reducible refine isCallD ?_);first|((with_reducible refine LVcall (st := []) ?_);simp only [seval,go_sem,h2];first|(refine CallL.c (hvd) ?_)|(refine CallL.c (hrk) ?_)|(refine CallL.c (riskey_calls ?_) ?_))))|(with_reducible refine isRet ?_;refine RetV (rs := [.tmp 4,.tmp 5]) (by with_unfolding_all rfl) rfl ?_ <;> simp only [seval,go_sem] <;> (repeat' (with_reducible apply And.intro)) <;> (try rfl))|(with_reducible (first|refine TVq (st := []) ?_))|simp only [seval,go_sem,h2]|(with_reducible refine oV_st (by simp (disch := omega) only [seval,go_sem,cnd,intV,shV,convV,strV,h2];rfl) ?_))) <;> (try (first|(with_reducible assumption))))
  · rw [if_pos h1]
    obtain ⟨s, t, sl, ls, sat⟩ := r
    simp only [dR] at hvd ⊢
    refine of_tri [] [2,8,13,17] Try.func46 rfl call46 rfl (by decide) (by decide) rfl rfl Try.ntmps46 (by simp (disch := omega) only [seval,go_sem,cnd,intV,shV,convV,strV,List.replicate,List.zip_nil_left,List.zip_cons_cons];rfl) (by simp (disch := omega) only [seval,go_sem,cnd,intV,shV,convV,strV,List.zip_nil_left,List.zip_cons_cons];rfl) ?_
    ((repeat' (first|((with_reducible refine isTriD ?_);first|((with_reducible refine isCallD ?_);first|((with_reducible refine LVcall (st := []) ?_);simp only [seval,go_sem];first|(refine CallL.c (hvd) ?_))))|(with_reducible refine isRet ?_;refine RetV (rs := [.tmp 4,.tmp 5]) (by with_unfolding_all rfl) rfl ?_ <;> simp only [seval,go_sem] <;> (repeat' (with_reducible apply And.intro)) <;> (try rfl))|(with_reducible (first|refine TVq (st := []) ?_))|simp only [seval,go_sem]|(with_reducible refine oV_st (by simp (disch := omega) only [seval,go_sem,cnd,intV,shV,convV,strV];rfl) ?_))) <;> (try (fail)))
theorem quantR_cases (r : Rk) (num den : Int) : (validR r ≠ 0 ∧ quantR r num den = (⟨#[]⟩, validR r)) ∨ (validR r = 0 ∧ (den < 1 ∨ 1000000 < den ∨ num < 0 ∨ den < num) ∧ quantR r num den = (⟨#[]⟩, 5)) ∨
    (validR r = 0 ∧ ¬ (den < 1 ∨ 1000000 < den ∨ num < 0 ∨ den < num) ∧ r.total = 0 ∧ quantR r num den = (⟨#[]⟩, 17)) ∨ (validR r = 0 ∧ ¬ (den < 1 ∨ 1000000 < den ∨ num < 0 ∨ den < num) ∧ r.total ≠ 0 ∧ quantR r num den = (qK r.levels (wantR r num den), 0)) := by
  unfold quantR
  by_cases h1 : validR r = 0
  · rw [if_neg (by simp [h1])]
    by_cases h2 : den < 1 ∨ 1000000 < den ∨ num < 0 ∨ den < num
    · rw [if_pos h2]; exact .inr (.inl ⟨h1, h2, rfl⟩)
    · rw [if_neg h2]
      by_cases h3 : r.total = 0
      · rw [if_pos h3]; exact .inr (.inr (.inl ⟨h1, h2, h3, rfl⟩))
      · rw [if_neg h3]; exact .inr (.inr (.inr ⟨h1, h2, h3, rfl⟩))
  · rw [if_pos h1]; exact .inl ⟨h1, rfl⟩
theorem flat_len : ∀ {ls : List (List ByteArray)} {B : Nat}, (∀ l ∈ ls, l.length ≤ B) → ls.flatten.length ≤ B * ls.length
  | [], _, _ => by simp
  | l :: ls, B, h => by
    have h1 := h l (List.mem_cons_self ..)
    have h2 := flat_len (ls := ls) (B := B) fun y hy => h y (List.mem_cons_of_mem _ hy)
    rw [List.flatten_cons, List.length_append, List.length_cons, Nat.mul_add]; omega
set_option maxRecDepth 100000 in set_option maxHeartbeats 6400000 in
theorem pquant_calls {r : Rk} {num den : Int} (hl : r.levels.length ≤ 1000) (hk : ∀ l ∈ r.levels, l.length ≤ 100000 ∧ ∀ x ∈ l, x.size ≤ 1000000000) :
    ACalls Try.prog 47 [dR r, .sc (.int .i64 num), .sc (.int .i64 den)] (.tup [.sc (.string (quantR r num den).1), .sc (.int .i64 (quantR r num den).2)]) [] := by
  have hvd := validr_calls (r := r) hl hk
  rcases quantR_cases r num den with ⟨h1, e⟩ | ⟨h1, h2, e⟩ | ⟨h1, h2, h3, e⟩ | ⟨h1, h2, h3, e⟩
  all_goals rw [e]
  · obtain ⟨s, t, sl, ls, sat⟩ := r
    simp only [dR] at hvd ⊢
    refine of_tri [] [3,17,45,59,62,71] Try.func47 rfl call47 rfl (by decide) (by decide) rfl rfl Try.ntmps47 (by simp (disch := omega) only [seval,go_sem,cnd,intV,shV,convV,strV,List.replicate,List.zip_nil_left,List.zip_cons_cons];rfl) (by simp (disch := omega) only [seval,go_sem,cnd,intV,shV,convV,strV,List.zip_nil_left,List.zip_cons_cons];rfl) ?_
    ((repeat' (first|((with_reducible refine isTriD ?_);first|((with_reducible refine isCallD ?_);first|((with_reducible refine LVcall (st := []) ?_);simp only [seval,go_sem];first|(refine CallL.c (hvd) ?_))))|(with_reducible refine isRet ?_;refine RetV (rs := [.tmp 6,.tmp 7]) (by with_unfolding_all rfl) rfl ?_ <;> simp only [seval,go_sem] <;> (repeat' (with_reducible apply And.intro)) <;> (try rfl))|(with_reducible (first|refine TVq (st := []) ?_))|simp only [seval,go_sem]|(with_reducible refine oV_st (by simp (disch := omega) only [seval,go_sem,cnd,intV,shV,convV,strV];rfl) ?_))) <;> (try (fail)))
    all_goals (try rfl)
  · obtain ⟨s, t, sl, ls, sat⟩ := r
    rw [h1] at hvd
    simp only [dR] at hvd ⊢
    refine of_tri [] [3,17,45,59,62,71] Try.func47 rfl call47 rfl (by decide) (by decide) rfl rfl Try.ntmps47 (by simp (disch := omega) only [seval,go_sem,cnd,intV,shV,convV,strV,List.replicate,List.zip_nil_left,List.zip_cons_cons];rfl) (by simp (disch := omega) only [seval,go_sem,cnd,intV,shV,convV,strV,List.zip_nil_left,List.zip_cons_cons];rfl) ?_
    ((repeat' (first|(with_reducible refine isCv ?_;intro hc;(try simp only [bls,reduceCtorEq] at hc);(try (exfalso;omega)))|((with_reducible refine isTriD ?_);first|((with_reducible refine isCallD ?_);first|((with_reducible refine LVcall (st := []) ?_);simp only [seval,go_sem];first|(refine CallL.c (hvd) ?_))))|(with_reducible refine isRet ?_;refine RetV (rs := [.tmp 6,.tmp 7]) (by with_unfolding_all rfl) rfl ?_ <;> simp only [seval,go_sem] <;> (repeat' (with_reducible apply And.intro)) <;> (try rfl))|(with_reducible (first|refine TVq (st := []) ?_))|simp only [seval,go_sem]|(with_reducible refine oV_st (by simp (disch := omega) only [seval,go_sem,cnd,intV,shV,convV,strV];rfl) ?_)|(with_reducible refine gV_split (by simp only [seval,go_sem];rfl) (by simp only [seval,go_sem];rfl) (by simp only [seval,go_sem];first|done) (cvI ?_) (cvI ?_) (by simp only [seval,go_sem])))) <;> (try (fail)))
    all_goals (try rfl)
  · obtain ⟨s, t, sl, ls, sat⟩ := r
    rw [h1] at hvd
    simp only at h3
    subst h3
    simp only [dR] at hvd ⊢
    refine of_tri [] [3,17,45,59,62,71] Try.func47 rfl call47 rfl (by decide) (by decide) rfl rfl Try.ntmps47 (by simp (disch := omega) only [seval,go_sem,cnd,intV,shV,convV,strV,List.replicate,List.zip_nil_left,List.zip_cons_cons];rfl) (by simp (disch := omega) only [seval,go_sem,cnd,intV,shV,convV,strV,List.zip_nil_left,List.zip_cons_cons];rfl) ?_
    ((repeat' (first|((with_reducible refine isTriD ?_);first|((with_reducible refine isCallD ?_);first|((with_reducible refine LVcall (st := []) ?_);simp only [seval,go_sem];first|(refine CallL.c (hvd) ?_))))|(with_reducible refine isRet ?_;refine RetV (rs := [.tmp 6,.tmp 7]) (by with_unfolding_all rfl) rfl ?_ <;> simp only [seval,go_sem] <;> (repeat' (with_reducible apply And.intro)) <;> (try rfl))|(with_reducible (first|refine TVq (st := []) ?_))|simp only [seval,go_sem]|(with_reducible refine oV_st (by simp (disch := omega) only [seval,go_sem,cnd,intV,shV,convV,strV];rfl) ?_))) <;> (try (fail)))
    all_goals (try rfl)
  · have ok := validR_ok h1
    have hrk := fun (key : ByteArray) (hkk : key.size ≤ 1000000000) => prank_calls (r := r) (key := key) ok.len hk hkk (by rw [ok.wt]; exact ok.t2)
    have hwr := want_rng (r := r) (num := num) (den := den) (by have := ok.t1; omega) (by omega) (by omega) (by omega)
    have hqs := qK_spec hwr.1 (by rw [ok.wt]; exact hwr.2)
    have hmn : 0 ≤ num * r.total := Int.mul_nonneg (by omega) ok.t1
    have hmx : num * r.total ≤ 1000000 * 1099511627776 := Int.mul_le_mul (by omega) ok.t2 ok.t1 (by omega)
    have hwe : wantR r num den = max (ceilR (num * r.total) den) 1 := rfl
    have hce := pceil_calls (a := num * r.total) (b := den) hmn (by omega) (by omega) (by omega)
    have hcr := ceilR_rng hmn (show 1 ≤ den by omega)
    have htot := ok.t2
    generalize wantR r num den = W at *
    obtain ⟨s, t, sl, ls, sat⟩ := r
    obtain ⟨s1, s2, s3, t1, t2, l1, l2, ln, lev, lst, wt⟩ := ok
    rw [h1] at hvd
    simp only at s1 s2 s3 t1 t2 l1 l2 ln lev lst wt h3 hwr hqs hmn hmx hwe hce hk htot
    simp only [dR] at hvd hrk ⊢
    generalize hP : num * t = P at *
    generalize ceilR P den = C at *
    have hfl := flat_len (ls := ls) (B := 31) fun l hl => by have := (lev l hl).1; omega
    have hne : 0 < ls.flatten.length := List.length_pos_of_mem hqs.2.1
    have hso := sortk_calls (ns := ls.flatten) (n := ls.flatten.length) rfl hne (by omega)
    have hsl := sortK_len ls.flatten
    refine of_tri [] [3,17,45,59,62,71] Try.func47 rfl call47 rfl (by decide) (by decide) rfl rfl Try.ntmps47 (by simp (disch := omega) only [seval,go_sem,cnd,intV,shV,convV,strV,List.replicate,List.zip_nil_left,List.zip_cons_cons];rfl) (by simp (disch := omega) only [seval,go_sem,cnd,intV,shV,convV,strV,List.zip_nil_left,List.zip_cons_cons];rfl) ?_
    ((repeat' (first|((with_reducible refine isTriD ?_);first|((with_reducible refine isCallD ?_);first|((with_reducible refine LVcall (st := []) ?_);simp only [seval,go_sem,hP];first|(refine CallL.c (hvd) ?_)|(refine CallL.c (hce) ?_))))|(with_reducible (first|refine TVq (st := []) ?_))|simp only [seval,go_sem,hP]|(with_reducible refine oV_st (by simp (disch := omega) only [seval,go_sem,cnd,intV,shV,convV,strV,hP];rfl) ?_))) <;> (try (fail)))
    all_goals (refine Tri.virt 11 59 1 (by first | (simp only [seval, go_sem]; first | done)) (by first | (simp only [seval, go_sem]; first | done)) (by simp only [seval, go_sem]; rfl) ?_)
    all_goals (with_reducible refine Tri.loopU (fun (z : Nat × List ByteArray) => [(53,.sc (.int .i64 z.1)),(11,.slo 59 1 0 z.2.length),(13,.any),(54,.any),(55,.any),(56,.any),(57,.any),(58,.any),(59,.any),(60,.any)]) (fun (z : Nat × List ByteArray) => [(59,.row 1 (z.2.map rowKr))]) (fun (z : Nat × List ByteArray) => z.1 ≤ ls.length ∧ z.2 ++ (ls.drop z.1).flatten = ls.flatten) (fun (z : Nat × List ByteArray) => ls.length - z.1) ((0,[])) (⟨Nat.zero_le _,rfl⟩) (by intro _;simp (disch := omega) only [seval,go_sem,cnd,intV,shV,convV,strV];rfl) (by intro _;simp (disch := omega) only [seval,go_sem,cnd,intV,shV,convV,strV];rfl) (by (first|refine leQL_spec ?_);(try simp only [seval,go_sem]);first|done) (by (first|refine leQH_spec ?_);(try simp only [seval,go_sem]);first|done) (fun z hI => ?_))
    all_goals
      obtain ⟨i, out⟩ := z
      obtain ⟨hi, ho⟩ := hI
      simp only at hi ho
      have hol := congrArg List.length ho
      rw [List.length_append] at hol
      by_cases hlt : i < ls.length
      · obtain ⟨l, hli⟩ := get_lt hlt
        have hli' := get_map lvD hli
        have hkl := (lev l (List.mem_of_getElem? hli)).1
        rw [drop_get hli, List.flatten_cons] at ho
        ((repeat' (first | (with_reducible (first | refine TVq (st := []) ?_)) | simp only [seval, go_sem, hli', lvD] | (with_reducible refine oV_st (by simp (disch := omega) only [seval, go_sem, cnd, intV, shV, convV, strV, hli', lvD]; rfl) ?_))) <;> (try (fail)))
        all_goals (refine isNextM ((i + 1,out ++ l)) (by (first|refine leQL_spec ?_);(try simp only [seval,go_sem,List.length_append,List.length_map,List.map_append]);first|((repeat' (with_reducible apply And.intro)) <;> first|rfl);first|done) (by (first|refine leQH_spec ?_);(try simp only [seval,go_sem,List.length_append,List.length_map,List.map_append]);first|done) ?_ ?_ <;> (try (first|omega)))
        all_goals exact ⟨by simp only; omega, by simp only [List.append_assoc]; exact ho⟩
      · rw [List.drop_eq_nil_of_le (by omega), List.flatten_nil, List.append_nil] at ho
        subst ho
        ((repeat' (first|((with_reducible refine isTriD ?_);first|((with_reducible refine isCallD ?_);first|((with_reducible (first|(refine TriD.cI (dst := _) [] (by simp only [seval,go_sem];rfl) (by simp only [seval,go_sem];first|rfl) (hso) (by simp only [seval,go_sem];first|done) (by simp only [seval,go_sem];first|done) (by simp only [seval,go_sem];rfl) ?_)));refine LVs (st := []) ?_)))|(with_reducible (first|refine TVq (st := []) ?_))|simp only [seval,go_sem]|(with_reducible refine oV_st (by simp (disch := omega) only [seval,go_sem,cnd,intV,shV,convV,strV];rfl) ?_))) <;> (try (fail)))
        have hks := fun x hx => (hk x hx).2
        generalize hS : sortK ls.flatten = S at *
        have hSm : ∀ x ∈ S, x.size ≤ 1000000000 := fun x hx => by
          rw [← hS] at hx
          obtain ⟨l, hl, hx⟩ := List.mem_flatten.1 (sortK_mem.1 hx)
          exact (hk l hl).2 x hx
        all_goals (with_reducible refine Tri.loopU (fun (j : Nat) => [(65,.sc (.int .i64 j)),(6,.any),(7,.any),(15,.any),(66,.any),(67,.any),(68,.any),(69,.any),(70,.any),(71,.any),(72,.any),(73,.any),(74,.any),(75,.any)]) (fun (j : Nat) => [(71,.dead)]) (fun (j : Nat) => j ≤ S.length ∧ (S.drop j).find? (hitR ls W) = some (qK ls W)) (fun (j : Nat) => S.length - j) (0) (⟨Nat.zero_le _,by simpa using hqs.1⟩) (by intro _;simp (disch := omega) only [seval,go_sem,cnd,intV,shV,convV,strV];rfl) (by intro _;simp (disch := omega) only [seval,go_sem,cnd,intV,shV,convV,strV];rfl) (by (first|refine leQL_spec ?_);(try simp only [seval,go_sem]);first|done) (by (first|refine leQH_spec ?_);(try simp only [seval,go_sem]);first|done) (fun j hI => ?_))
        all_goals
          obtain ⟨hj, hfd⟩ := hI
          by_cases hlt2 : j < S.length
          · obtain ⟨x, hx⟩ := get_lt hlt2
            have hx' := get_map rowKr hx
            have hxs := hSm x (List.mem_of_getElem? hx)
            have hrx := hrk x hxs
            rw [drop_get hx, List.find?_cons] at hfd
            cases hh : hitR ls W x with
            | true =>
              rw [hh] at hfd
              simp only [Option.some.injEq] at hfd
              simp only [hitR, decide_eq_true_eq] at hh
              rw [← hfd]
              ((repeat' (first|((with_reducible refine isTriD ?_);first|((with_reducible refine isCallD ?_);first|((with_reducible refine LVcall (st := []) ?_);simp only [seval,go_sem,hx',rowKr];first|(refine CallL.c (hrx) ?_))))|(with_reducible refine isRet ?_;refine RetV (rs := [.tmp 6,.tmp 7]) (by with_unfolding_all rfl) rfl ?_ <;> simp only [seval,go_sem] <;> (repeat' (with_reducible apply And.intro)) <;> (try rfl))|(with_reducible (first|refine TVq (st := []) ?_))|simp only [seval,go_sem,hx',rowKr]|(with_reducible refine oV_st (by simp (disch := omega) only [seval,go_sem,cnd,intV,shV,convV,strV,hx',rowKr];rfl) ?_))) <;> (try (fail)))
            | false =>
              rw [hh] at hfd
              simp only [hitR, decide_eq_false_iff_not] at hh
              ((repeat' (first|((with_reducible refine isTriD ?_);first|((with_reducible refine isCallD ?_);first|((with_reducible refine LVcall (st := []) ?_);simp only [seval,go_sem,hx',rowKr];first|(refine CallL.c (hrx) ?_))))|(with_reducible (first|refine TVq (st := []) ?_))|simp only [seval,go_sem,hx',rowKr]|(with_reducible refine oV_st (by simp (disch := omega) only [seval,go_sem,cnd,intV,shV,convV,strV,hx',rowKr];rfl) ?_))) <;> (try (fail)))
              all_goals (refine isNextM (j + 1) (by (first|refine leQL_spec ?_);(try simp only [seval,go_sem]);first|((repeat' (with_reducible apply And.intro)) <;> first|rfl);first|done) (by (first|refine leQH_spec ?_);(try simp only [seval,go_sem]);first|done) ?_ ?_ <;> (try (first|omega)))
              all_goals exact ⟨by omega, hfd⟩
          · rw [List.drop_eq_nil_of_le (by omega)] at hfd
            cases hfd
set_option maxRecDepth 100000 in set_option maxHeartbeats 6400000 in
theorem rquant_calls {r : Rk} {num den : Int} (hl : r.levels.length ≤ 1000) (hk : ∀ l ∈ r.levels, l.length ≤ 100000 ∧ ∀ x ∈ l, x.size ≤ 1000000000) :
    ACalls Try.prog 48 [dR r, .sc (.int .i64 num), .sc (.int .i64 den)] (.tup [.sc (.string (quantR r num den).1), .sc (.int .i64 (quantR r num den).2)]) [] := by
  have hvd := validr2_calls (r := r) hl hk
  rcases quantR_cases r num den with ⟨h1, e⟩ | ⟨h1, h2, e⟩ | ⟨h1, h2, h3, e⟩ | ⟨h1, h2, h3, e⟩
  all_goals rw [e]
  · obtain ⟨s, t, sl, ls, sat⟩ := r
    simp only [dR] at hvd ⊢
    refine of_tri [] [3,16,21,26,38,70] Try.func48 rfl call48 rfl (by decide) (by decide) rfl rfl Try.ntmps48 (by simp (disch := omega) only [seval,go_sem,cnd,intV,shV,convV,strV,List.replicate,List.zip_nil_left,List.zip_cons_cons];rfl) (by simp (disch := omega) only [seval,go_sem,cnd,intV,shV,convV,strV,List.zip_nil_left,List.zip_cons_cons];rfl) ?_
    ((repeat' (first|((with_reducible refine isTriD ?_);first|((with_reducible refine isCallD ?_);first|((with_reducible refine LVcall (st := []) ?_);simp only [seval,go_sem];first|(refine CallL.c (hvd) ?_))))|(with_reducible refine isRet ?_;refine RetV (rs := [.tmp 6,.tmp 7]) (by with_unfolding_all rfl) rfl ?_ <;> simp only [seval,go_sem] <;> (repeat' (with_reducible apply And.intro)) <;> (try rfl))|(with_reducible (first|refine TVq (st := []) ?_))|simp only [seval,go_sem]|(with_reducible refine oV_st (by simp (disch := omega) only [seval,go_sem,cnd,intV,shV,convV,strV];rfl) ?_))) <;> (try (fail)))
    all_goals (try rfl)
  · obtain ⟨s, t, sl, ls, sat⟩ := r
    rw [h1] at hvd
    simp only [dR] at hvd ⊢
    refine of_tri [] [3,16,21,26,38,70] Try.func48 rfl call48 rfl (by decide) (by decide) rfl rfl Try.ntmps48 (by simp (disch := omega) only [seval,go_sem,cnd,intV,shV,convV,strV,List.replicate,List.zip_nil_left,List.zip_cons_cons];rfl) (by simp (disch := omega) only [seval,go_sem,cnd,intV,shV,convV,strV,List.zip_nil_left,List.zip_cons_cons];rfl) ?_
    ((repeat' (first|(with_reducible refine isCv ?_;intro hc;(try simp only [bls,reduceCtorEq] at hc);(try (exfalso;omega)))|((with_reducible refine isTriD ?_);first|((with_reducible refine isCallD ?_);first|((with_reducible refine LVcall (st := []) ?_);simp only [seval,go_sem];first|(refine CallL.c (hvd) ?_)|(refine CallL.c (within_calls) ?_))))|(with_reducible refine isRet ?_;refine RetV (rs := [.tmp 6,.tmp 7]) (by with_unfolding_all rfl) rfl ?_ <;> simp only [seval,go_sem] <;> (repeat' (with_reducible apply And.intro)) <;> (try rfl))|(with_reducible (first|refine TVq (st := []) ?_))|simp only [seval,go_sem]|(with_reducible refine oV_st (by simp (disch := omega) only [seval,go_sem,cnd,intV,shV,convV,strV];rfl) ?_)|(with_reducible refine gV_split (by simp only [seval,go_sem];rfl) (by simp only [seval,go_sem];rfl) (by simp only [seval,go_sem];first|done) (cvI ?_) (cvI ?_) (by simp only [seval,go_sem]))|(with_reducible refine cV_split (cvI ?_) (cvI ?_)))) <;> (try (fail)))
    all_goals (try rfl)
  · obtain ⟨s, t, sl, ls, sat⟩ := r
    rw [h1] at hvd
    simp only at h3
    subst h3
    simp only [dR] at hvd ⊢
    refine of_tri [] [3,16,21,26,38,70] Try.func48 rfl call48 rfl (by decide) (by decide) rfl rfl Try.ntmps48 (by simp (disch := omega) only [seval,go_sem,cnd,intV,shV,convV,strV,List.replicate,List.zip_nil_left,List.zip_cons_cons];rfl) (by simp (disch := omega) only [seval,go_sem,cnd,intV,shV,convV,strV,List.zip_nil_left,List.zip_cons_cons];rfl) ?_
    ((repeat' (first|(with_reducible refine isCv ?_;intro hc;(try simp only [bls,reduceCtorEq] at hc);(try (exfalso;omega)))|((with_reducible refine isTriD ?_);first|((with_reducible refine isCallD ?_);first|((with_reducible refine LVcall (st := []) ?_);simp only [seval,go_sem];first|(refine CallL.c (hvd) ?_)|(refine CallL.c (within_calls) ?_))))|(with_reducible refine isRet ?_;refine RetV (rs := [.tmp 6,.tmp 7]) (by with_unfolding_all rfl) rfl ?_ <;> simp only [seval,go_sem] <;> (repeat' (with_reducible apply And.intro)) <;> (try rfl))|(with_reducible (first|refine TVq (st := []) ?_))|simp only [seval,go_sem]|(with_reducible refine oV_st (by simp (disch := omega) only [seval,go_sem,cnd,intV,shV,convV,strV];rfl) ?_)|(with_reducible refine gV_split (by simp only [seval,go_sem];rfl) (by simp only [seval,go_sem];rfl) (by simp only [seval,go_sem];first|done) (cvI ?_) (cvI ?_) (by simp only [seval,go_sem]))|(with_reducible refine cV_split (cvI ?_) (cvI ?_)))) <;> (try (fail)))
    all_goals (try rfl)
  · have ok := validR_ok h1
    have hrk := fun (key : ByteArray) (hkk : key.size ≤ 1000000000) => rrank_calls (r := r) (key := key) ok.len hk hkk (by rw [ok.wt]; exact ok.t2)
    have hwr := want_rng (r := r) (num := num) (den := den) (by have := ok.t1; omega) (by omega) (by omega) (by omega)
    have hmn : 0 ≤ num * r.total := Int.mul_nonneg (by omega) ok.t1
    have hmx : num * r.total ≤ 1000000 * 1099511627776 := Int.mul_le_mul (by omega) ok.t2 ok.t1 (by omega)
    have hwe : wantR r num den = max (ceilR (num * r.total) den) 1 := rfl
    have hce := rceil_calls (a := num * r.total) (b := den) hmn (by omega) (by omega) (by omega)
    have hcr := ceilR_rng hmn (show 1 ≤ den by omega)
    have htot := ok.t2
    generalize wantR r num den = W at *
    obtain ⟨s, t, sl, ls, sat⟩ := r
    obtain ⟨s1, s2, s3, t1, t2, l1, l2, ln, lev, lst, wt⟩ := ok
    rw [h1] at hvd
    simp only at s1 s2 s3 t1 t2 l1 l2 ln lev lst wt h3 hwr hmn hmx hwe hce hk htot
    simp only [dR] at hvd hrk ⊢
    generalize hP : num * t = P at *
    generalize ceilR P den = C at *
    have hB0 : BestR ls W (ls.take 0).flatten ⟨#[]⟩ := Or.inl ⟨rfl, by simp⟩
    refine of_tri [] [3,16,21,26,38,70] Try.func48 rfl call48 rfl (by decide) (by decide) rfl rfl Try.ntmps48 (by simp (disch := omega) only [seval,go_sem,cnd,intV,shV,convV,strV,List.replicate,List.zip_nil_left,List.zip_cons_cons];rfl) (by simp (disch := omega) only [seval,go_sem,cnd,intV,shV,convV,strV,List.zip_nil_left,List.zip_cons_cons];rfl) ?_
    ((repeat' (first|(with_reducible refine isCv ?_;intro hc;(try simp only [bls,reduceCtorEq] at hc);(try (exfalso;omega)))|((with_reducible refine isTriD ?_);first|((with_reducible refine isCallD ?_);first|((with_reducible refine LVcall (st := []) ?_);simp only [seval,go_sem,hP];first|(refine CallL.c (hvd) ?_)|(refine CallL.c (hce) ?_)|(refine CallL.c (within_calls) ?_))))|(with_reducible (first|refine TVq (st := []) ?_))|simp only [seval,go_sem,hP]|(with_reducible refine oV_st (by simp (disch := omega) only [seval,go_sem,cnd,intV,shV,convV,strV,hP];rfl) ?_)|(with_reducible refine gV_split (by simp only [seval,go_sem,hP];rfl) (by simp only [seval,go_sem,hP];rfl) (by simp only [seval,go_sem,hP];first|done) (cvI ?_) (cvI ?_) (by simp only [seval,go_sem,hP]))|(with_reducible refine cV_split (cvI ?_) (cvI ?_)))) <;> (try (fail)))
    all_goals (with_reducible refine Tri.loopU (fun (z : Nat × ByteArray) => [(12,.sc (.int .i64 z.1)),(11,.sc (.string z.2)),(13,.any),(14,.any),(43,.any),(44,.any),(45,.any),(46,.any),(47,.any),(48,.any),(49,.any),(50,.any),(51,.any),(52,.any),(53,.any),(54,.any),(55,.any),(56,.any),(57,.any),(58,.any),(59,.any),(60,.any),(61,.any),(62,.any),(63,.any),(64,.any),(65,.any),(66,.any),(67,.any),(68,.any),(69,.any),(70,.any),(71,.any),(72,.any),(73,.any),(74,.any),(75,.any),(76,.any),(77,.any),(78,.any),(79,.any),(80,.any),(81,.any),(82,.any)]) (fun (z : Nat × ByteArray) => [(70,.dead)]) (fun (z : Nat × ByteArray) => z.1 ≤ ls.length ∧ z.2.size ≤ 1000000000 ∧ BestR ls W (ls.take z.1).flatten z.2) (fun (z : Nat × ByteArray) => ls.length - z.1) ((0,⟨#[]⟩)) (⟨Nat.zero_le _,by decide,hB0⟩) (by intro _;simp (disch := omega) only [seval,go_sem,cnd,intV,shV,convV,strV];rfl) (by intro _;simp (disch := omega) only [seval,go_sem,cnd,intV,shV,convV,strV];rfl) (by (first|refine leQL_spec ?_);(try simp only [seval,go_sem]);first|done) (by (first|refine leQH_spec ?_);(try simp only [seval,go_sem]);first|done) (fun z hI => ?_))
    all_goals
      obtain ⟨i, best⟩ := z
      obtain ⟨hi, hbs, hB⟩ := hI
      simp only at hi hbs hB
      by_cases hlt : i < ls.length
      · obtain ⟨l, hli⟩ := get_lt hlt
        have hli' := get_map lvD hli
        have hkl := (lev l (List.mem_of_getElem? hli)).1
        have hko := badL_ok l [] (lev l (List.mem_of_getElem? hli)).2
        have hks := (hk l (List.mem_of_getElem? hli)).2
        have hft := flat_take hli
        ((repeat' (first | (with_reducible (first | refine TVq (st := []) ?_)) | simp only [seval, go_sem, hli', lvD] | (with_reducible refine oV_st (by simp (disch := omega) only [seval, go_sem, cnd, intV, shV, convV, strV, hli', lvD]; rfl) ?_))) <;> (try (fail)))
        all_goals (with_reducible refine Tri.loopU (fun (u : Nat × ByteArray) => [(13,.sc (.int .i64 u.1)),(11,.sc (.string u.2)),(14,.any),(50,.any),(51,.any),(52,.any),(53,.any),(54,.any),(55,.any),(56,.any),(57,.any),(58,.any),(59,.any),(60,.any),(61,.any),(62,.any),(63,.any),(64,.any),(65,.any),(66,.any),(67,.any),(68,.any),(69,.any),(70,.any),(71,.any),(72,.any),(73,.any),(74,.any),(75,.any),(76,.any),(77,.any),(78,.any),(79,.any),(80,.any),(81,.any),(82,.any)]) (fun (u : Nat × ByteArray) => [(70,.dead)]) (fun (u : Nat × ByteArray) => u.1 ≤ l.length ∧ u.2.size ≤ 1000000000 ∧ BestR ls W ((ls.take i).flatten ++ l.take u.1) u.2) (fun (u : Nat × ByteArray) => l.length - u.1) ((0,best)) (⟨Nat.zero_le _,hbs,by simpa using hB⟩) (by intro _;simp (disch := omega) only [seval,go_sem,cnd,intV,shV,convV,strV];rfl) (by intro _;simp (disch := omega) only [seval,go_sem,cnd,intV,shV,convV,strV];rfl) (by (first|refine leQL_spec ?_);(try simp only [seval,go_sem]);first|done) (by (first|refine leQH_spec ?_);(try simp only [seval,go_sem]);first|done) (fun u hI => ?_))
        all_goals
          obtain ⟨k, be⟩ := u
          obtain ⟨hk2, hbs2, hB2⟩ := hI
          simp only at hk2 hbs2 hB2
          by_cases hkt : k < l.length
          · obtain ⟨x, hx⟩ := get_lt hkt
            have hx' := get_map rowKr hx
            have hxs := hks x (List.mem_of_getElem? hx)
            have hxo := hko x (List.mem_of_getElem? hx)
            have hrx := hrk x hxs
            have hxz : 1 ≤ x.size := by simp only [keyOk, Bool.and_eq_true, decide_eq_true_eq] at hxo; omega
            have htk : (ls.take i).flatten ++ l.take (k + 1) = (ls.take i).flatten ++ l.take k ++ [x] := by rw [List.take_add_one, hx, List.append_assoc]; rfl
            by_cases hw : W ≤ rankL x 0 ls
            · by_cases he : be = ⟨#[]⟩
              · subst he
                have hn := hB2.yes hw hxz (.inl rfl)
                rw [← htk] at hn
                (all_goals (try have hZ := (And.intro hli' hx'));(repeat' (first|((with_reducible refine isTriD ?_);first|((with_reducible refine isCallD ?_);first|((with_reducible refine LVcall (st := []) ?_);simp only [seval,go_sem,lvD,rowKr,hZ];first|(refine CallL.c (hrx) ?_))))|(with_reducible (first|refine TVq (st := []) ?_))|simp only [seval,go_sem,lvD,rowKr,hZ]|(with_reducible refine oV_st (by simp (disch := omega) only [seval,go_sem,cnd,intV,shV,convV,strV,lvD,rowKr,hZ];rfl) ?_))) <;> (try (fail));all_goals (try clear hZ))
                all_goals (refine isNextM ((k + 1,x)) (by (first|refine leQL_spec ?_);(try simp only [seval,go_sem]);first|((repeat' (with_reducible apply And.intro)) <;> first|rfl);first|done) (by (first|refine leQH_spec ?_);(try simp only [seval,go_sem]);first|done) ?_ ?_ <;> (try (first|omega)))
                all_goals exact ⟨by simp only; omega, hxs, hn⟩
              · cases hb : Op.bytesLess x.toList be.toList with
                | true =>
                  have hn := hB2.yes hw hxz (.inr hb)
                  rw [← htk] at hn
                  (all_goals (try have hZ := (And.intro hli' (And.intro hx' hb)));(repeat' (first|(with_reducible refine isCv ?_;intro hc;(try simp only [bls,reduceCtorEq] at hc);(try (exfalso;omega)))|((with_reducible refine isTriD ?_);first|((with_reducible refine isCallD ?_);first|((with_reducible refine LVcall (st := []) ?_);simp only [seval,go_sem,lvD,rowKr,hZ];first|(refine CallL.c (hrx) ?_))))|(with_reducible (first|refine TVq (st := []) ?_))|simp only [seval,go_sem,lvD,rowKr,hZ]|(with_reducible refine oV_st (by simp (disch := omega) only [seval,go_sem,cnd,intV,shV,convV,strV,lvD,rowKr,hZ];rfl) ?_)|(with_reducible refine gV_split (by simp only [seval,go_sem,lvD,rowKr,hZ];rfl) (by simp only [seval,go_sem,lvD,rowKr,hZ];rfl) (by simp only [seval,go_sem,lvD,rowKr,hZ];first|done) (cvI ?_) (cvI ?_) (by simp only [seval,go_sem,lvD,rowKr,hZ])))) <;> (try (fail));all_goals (try clear hZ))
                  all_goals (refine isNextM ((k + 1,x)) (by (first|refine leQL_spec ?_);(try simp only [seval,go_sem]);first|((repeat' (with_reducible apply And.intro)) <;> first|rfl);first|done) (by (first|refine leQH_spec ?_);(try simp only [seval,go_sem]);first|done) ?_ ?_ <;> (try (first|omega)))
                  all_goals exact ⟨by simp only; omega, hxs, hn⟩
                | false =>
                  have hn := hB2.keep he hb
                  rw [← htk] at hn
                  have hne : be.toList ≠ (⟨#[]⟩ : ByteArray).toList := fun e => he (key_injR e)
                  (all_goals (try have hZ := (And.intro hli' (And.intro hx' hb)));(repeat' (first|(with_reducible refine isCv ?_;intro hc;(try simp only [bls,reduceCtorEq] at hc);(try (exfalso;omega)))|((with_reducible refine isTriD ?_);first|((with_reducible refine isCallD ?_);first|((with_reducible refine LVcall (st := []) ?_);simp only [seval,go_sem,lvD,rowKr,hZ];first|(refine CallL.c (hrx) ?_))))|(with_reducible (first|refine TVq (st := []) ?_))|simp only [seval,go_sem,lvD,rowKr,hZ]|(with_reducible refine oV_st (by simp (disch := omega) only [seval,go_sem,cnd,intV,shV,convV,strV,lvD,rowKr,hZ];rfl) ?_)|(with_reducible refine gV_split (by simp only [seval,go_sem,lvD,rowKr,hZ];rfl) (by simp only [seval,go_sem,lvD,rowKr,hZ];rfl) (by simp only [seval,go_sem,lvD,rowKr,hZ];first|done) (cvI ?_) (cvI ?_) (by simp only [seval,go_sem,lvD,rowKr,hZ])))) <;> (try (fail));all_goals (try clear hZ))
                  all_goals (try (exact absurd ‹be.toList = (⟨#[]⟩ : ByteArray).toList› hne))
                  all_goals (refine isNextM ((k + 1,be)) (by (first|refine leQL_spec ?_);(try simp only [seval,go_sem]);first|((repeat' (with_reducible apply And.intro)) <;> first|rfl);first|done) (by (first|refine leQH_spec ?_);(try simp only [seval,go_sem]);first|done) ?_ ?_ <;> (try (first|omega)))
                  all_goals exact ⟨by simp only; omega, hbs2, hn⟩
            · have hn := hB2.no (x := x) (by omega)
              rw [← htk] at hn
              (all_goals (try have hZ := (And.intro hli' hx'));(repeat' (first|((with_reducible refine isTriD ?_);first|((with_reducible refine isCallD ?_);first|((with_reducible refine LVcall (st := []) ?_);simp only [seval,go_sem,lvD,rowKr,hZ];first|(refine CallL.c (hrx) ?_))))|(with_reducible (first|refine TVq (st := []) ?_))|simp only [seval,go_sem,lvD,rowKr,hZ]|(with_reducible refine oV_st (by simp (disch := omega) only [seval,go_sem,cnd,intV,shV,convV,strV,lvD,rowKr,hZ];rfl) ?_))) <;> (try (fail));all_goals (try clear hZ))
              all_goals (refine isNextM ((k + 1,be)) (by (first|refine leQL_spec ?_);(try simp only [seval,go_sem]);first|((repeat' (with_reducible apply And.intro)) <;> first|rfl);first|done) (by (first|refine leQH_spec ?_);(try simp only [seval,go_sem]);first|done) ?_ ?_ <;> (try (first|omega)))
              all_goals exact ⟨by simp only; omega, hbs2, hn⟩
          · rw [List.take_of_length_le (l := l) (by omega)] at hB2
            rw [← hft] at hB2
            ((repeat' (first | (with_reducible (first | refine TVq (st := []) ?_)) | simp only [seval, go_sem, hli', lvD] | (with_reducible refine oV_st (by simp (disch := omega) only [seval, go_sem, cnd, intV, shV, convV, strV, hli', lvD]; rfl) ?_))) <;> (try (fail)))
            all_goals (refine isNextM ((i + 1,be)) (by (first|refine leQL_spec ?_);(try simp only [seval,go_sem]);first|((repeat' (with_reducible apply And.intro)) <;> first|rfl);first|done) (by (first|refine leQH_spec ?_);(try simp only [seval,go_sem]);first|done) ?_ ?_ <;> (try (first|omega)))
            all_goals exact ⟨by simp only; omega, hbs2, hB2⟩
      · rw [List.take_of_length_le (by omega)] at hB
        rw [← hB.done hwr.1 (by rw [wt]; exact hwr.2)]
        ((repeat' (first|(with_reducible refine isRet ?_;refine RetV (rs := [.tmp 6,.tmp 7]) (by with_unfolding_all rfl) rfl ?_ <;> simp only [seval,go_sem] <;> (repeat' (with_reducible apply And.intro)) <;> (try rfl))|(with_reducible (first|refine TVq (st := []) ?_))|simp only [seval,go_sem]|(with_reducible refine oV_st (by simp (disch := omega) only [seval,go_sem,cnd,intV,shV,convV,strV];rfl) ?_))) <;> (try (fail)))
end Go.Proofs.Ytnckgbmifigadaa
