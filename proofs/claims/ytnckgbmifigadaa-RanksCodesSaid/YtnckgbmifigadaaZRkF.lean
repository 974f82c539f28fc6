/- Ranks: Powers of the program and of the reference walked. -/
import Derived.Test.YtnckgbmifigadaaZRkD
import Derived.Test.YtnckgbmifigadaaZRkA
set_option linter.unusedSimpArgs false
set_option linter.unusedVariables false
namespace Go.Proofs.Ytnckgbmifigadaa
open Go.RowKit Go.Avm
def rowP (p : Nat) : List D := [.sc (.int .i64 p)]
theorem powS_step (n i : Nat) : (n = 0 ∧ powS n i = []) ∨ (0 < n ∧ n % 2 = 1 ∧ powS n i = i :: powS (n / 2) (i + 1)) ∨ (0 < n ∧ n % 2 = 0 ∧ powS n i = powS (n / 2) (i + 1)) := by
  by_cases h0 : n = 0
  · subst h0; exact .inl ⟨rfl, powS_zero i⟩
  · rcases Nat.mod_two_eq_zero_or_one n with h | h
    · exact .inr (.inr ⟨by omega, h, powS_even i h0 h⟩)
    · exact .inr (.inl ⟨by omega, h, powS_odd i h⟩)
theorem powS_len : ∀ (m n i : Nat), n < 2 ^ m → (powS n i).length ≤ m
  | 0, n, i, h => by
    have e : n = 0 := by rw [Nat.pow_zero] at h; omega
    rw [e, powS_zero]; exact Nat.le_refl _
  | m + 1, n, i, h => by
    have ih := powS_len m (n / 2) (i + 1) (by rw [Nat.pow_succ] at h; omega)
    rcases powS_step n i with ⟨_, e⟩ | ⟨_, _, e⟩ | ⟨_, _, e⟩ <;> rw [e] <;> (try simp only [List.length_nil, List.length_cons]) <;> omega
set_option maxRecDepth 100000 in set_option maxHeartbeats 6400000 in
theorem ppow_calls {n : Int} (h0 : 0 ≤ n) (h1 : n ≤ 1099511627776) : ACalls Try.prog 77 [.sc (.int .i64 n)] (.sl 1 ((powS n.toNat 0).map rowP)) [] := by
  obtain ⟨N, rfl⟩ := Int.eq_ofNat_of_zero_le h0
  rw [Int.toNat_natCast]
  have hN : N ≤ 1099511627776 := by omega
  refine of_tri [] [16,17] Try.func77 rfl call77 rfl (by decide) (by decide) rfl rfl Try.ntmps77 (by simp (disch := omega) only [seval,go_sem,cnd,intV,shV,convV,strV,List.replicate,List.zip_nil_left,List.zip_cons_cons];rfl) (by simp (disch := omega) only [seval,go_sem,cnd,intV,shV,convV,strV,List.zip_nil_left,List.zip_cons_cons];rfl) ?_
  ((repeat' (first | (with_reducible (first | refine TVq (st := []) ?_)) | simp only [seval, go_sem])) <;> (try (fail)))
  (refine Tri.virt 3 17 1 (by first | (simp only [seval, go_sem]; first | done)) (by first | (simp only [seval, go_sem]; first | done)) (by simp only [seval, go_sem]; rfl) ?_)
  (with_reducible refine Tri.loopU (fun (z : Nat × Nat × List Nat) => [(0,.sc (.int .i64 z.1)),(4,.sc (.int .i64 z.2.1)),(3,.slo 17 1 0 z.2.2.length),(5,.any),(6,.any),(7,.any),(8,.any),(9,.any),(10,.any),(11,.any),(12,.any),(13,.any),(14,.any),(15,.any),(16,.any),(17,.any)]) (fun (z : Nat × Nat × List Nat) => [(17,.row 1 (z.2.2.map rowP)),(16,.dead)]) (fun (z : Nat × Nat × List Nat) => z.1 ≤ 1099511627776 ∧ z.1 < 2 ^ (41 - z.2.1) ∧ z.2.1 ≤ 41 ∧ z.2.2.length ≤ z.2.1 ∧ z.2.2 ++ powS z.1 z.2.1 = powS N 0) (fun (z : Nat × Nat × List Nat) => z.1) ((N,0,[])) (⟨hN,by with_unfolding_all exact (show N < 2 ^ 41 by omega),by simp,by simp,by simp⟩) (by intro _;simp (disch := omega) only [seval,go_sem,cnd,intV,shV,convV,strV];rfl) (by intro _;simp (disch := omega) only [seval,go_sem,cnd,intV,shV,convV,strV];rfl) (by (first|refine leQL_spec ?_);(try simp only [seval,go_sem]);first|done) (by (first|refine leQH_spec ?_);(try simp only [seval,go_sem]);first|done) (fun z hI => ?_))
  obtain ⟨m, i, l⟩ := z
  obtain ⟨hm, hm2, hi, hl, hp⟩ := hI
  simp only at hm hm2 hi hl hp
  have hi2 : 0 < m → i + 1 ≤ 41 ∧ m / 2 < 2 ^ (41 - (i + 1)) := by
    intro h
    by_cases e : i = 41
    · subst e; simp at hm2; omega
    · rw [show 41 - i = (41 - (i + 1)) + 1 by omega, Nat.pow_succ] at hm2
      omega
  rcases powS_step m i with ⟨h, e⟩ | ⟨h, h2, e⟩ | ⟨h, h2, e⟩
  · rw [e, List.append_nil] at hp
    subst h
    rw [← hp]
    ((repeat' (first|(with_reducible refine isRet ?_;(refine RetOK.frz 17 (by simp only [seval,go_sem];rfl) (by simp only [seval,go_sem];rfl) ?_);(with_reducible refine isRet ?_;refine RetOK.q rfl rfl (by simp only [seval,go_sem];rfl) (by decide) (by simp only [seval,go_sem];first|rfl) (by simp only [seval,go_sem];first|rfl) rfl ?_ <;> (try simp only [seval,go_sem]) <;> (repeat' (with_reducible apply And.intro)) <;> (try rfl)))|(with_reducible (first|refine TVq (st := []) ?_))|simp only [seval,go_sem]|(with_reducible refine oV_st (by simp (disch := omega) only [seval,go_sem,cnd,intV,shV,convV,strV];rfl) ?_))) <;> (try (fail)))
  · rw [e] at hp
    have h2' : (m : Int) % 2 = 1 := by omega
    ((repeat' (first | (with_reducible (first | refine TVq (st := []) ?_)) | simp only [seval, go_sem, h2'] | (with_reducible refine oV_st (by simp (disch := omega) only [seval, go_sem, cnd, intV, shV, convV, strV, h2']; rfl) ?_))) <;> (try (fail)))
    all_goals (refine isNextM ((m / 2,i + 1,l ++ [i])) (by (first|refine leQL_spec ?_);(try simp only [seval,go_sem,rowP]);first|((repeat' (with_reducible apply And.intro)) <;> first|rfl|(simp [rowP];done));first|done) (by (first|refine leQH_spec ?_);(try simp only [seval,go_sem,rowP]);first|((repeat' (with_reducible apply And.intro)) <;> first|(simp [rowP];done));first|done) ?_ ?_ <;> (try (first|omega)))
    all_goals (try (exact ⟨by simp only; omega, (hi2 h).2, (hi2 h).1, by simp; omega, by simpa using hp⟩))
  · rw [e] at hp
    have h2' : (m : Int) % 2 = 0 := by omega
    ((repeat' (first | (with_reducible (first | refine TVq (st := []) ?_)) | simp only [seval, go_sem, h2'] | (with_reducible refine oV_st (by simp (disch := omega) only [seval, go_sem, cnd, intV, shV, convV, strV, h2']; rfl) ?_))) <;> (try (fail)))
    all_goals (refine isNextM ((m / 2,i + 1,l)) (by (first|refine leQL_spec ?_);(try simp only [seval,go_sem,rowP]);first|((repeat' (with_reducible apply And.intro)) <;> first|rfl);first|done) (by (first|refine leQH_spec ?_);(try simp only [seval,go_sem,rowP]);first|done) ?_ ?_ <;> (try (first|omega)))
    all_goals (try (exact ⟨by simp only; omega, (hi2 h).2, (hi2 h).1, by simp only; omega, by simpa using hp⟩))
set_option maxRecDepth 100000 in set_option maxHeartbeats 6400000 in
theorem rpow_calls {n : Int} (h0 : 0 ≤ n) (h1 : n ≤ 1099511627776) : ACalls Try.prog 81 [.sc (.int .i64 n)] (.sl 1 ((powS n.toNat 0).map rowP)) [] := by
  obtain ⟨N, rfl⟩ := Int.eq_ofNat_of_zero_le h0
  rw [Int.toNat_natCast]
  have hN : N ≤ 1099511627776 := by omega
  refine of_tri [] [21,22] Try.func81 rfl call81 rfl (by decide) (by decide) rfl rfl Try.ntmps81 (by simp (disch := omega) only [seval,go_sem,cnd,intV,shV,convV,strV,List.replicate,List.zip_nil_left,List.zip_cons_cons];rfl) (by simp (disch := omega) only [seval,go_sem,cnd,intV,shV,convV,strV,List.zip_nil_left,List.zip_cons_cons];rfl) ?_
  ((repeat' (first | (with_reducible (first | refine TVq (st := []) ?_)) | simp only [seval, go_sem])) <;> (try (fail)))
  (refine Tri.virt 3 22 1 (by first | (simp only [seval, go_sem]; first | done)) (by first | (simp only [seval, go_sem]; first | done)) (by simp only [seval, go_sem]; rfl) ?_)
  (with_reducible refine Tri.loopU (fun (z : Nat × List Nat) => [(4,.sc (.int .i64 z.1)),(3,.slo 22 1 0 z.2.length),(5,.any),(6,.any),(7,.any),(8,.any),(9,.any),(10,.any),(11,.any),(12,.any),(13,.any),(14,.any),(15,.any),(16,.any),(17,.any),(18,.any),(19,.any),(20,.any),(21,.any),(22,.any)]) (fun (z : Nat × List Nat) => [(22,.row 1 (z.2.map rowP)),(21,.dead)]) (fun (z : Nat × List Nat) => z.1 ≤ 63 ∧ z.2.length ≤ z.1 ∧ z.2 ++ powS (N / 2 ^ z.1) z.1 = powS N 0) (fun (z : Nat × List Nat) => 63 - z.1) ((0,[])) (⟨by simp,by simp,by simp⟩) (by intro _;simp (disch := omega) only [seval,go_sem,cnd,intV,shV,convV,strV];rfl) (by intro _;simp (disch := omega) only [seval,go_sem,cnd,intV,shV,convV,strV];rfl) (by (first|refine leQL_spec ?_);(try simp only [seval,go_sem]);first|done) (by (first|refine leQH_spec ?_);(try simp only [seval,go_sem]);first|done) (fun z hI => ?_))
  obtain ⟨i, l⟩ := z
  obtain ⟨hi, hl, hp⟩ := hI
  simp only at hi hl hp
  by_cases hz : N = 0
  · subst hz
    rw [Nat.zero_div, powS_zero, List.append_nil, powS_zero] at hp
    subst hp
    rw [powS_zero]
    by_cases hlt : i < 63
    · ((repeat' (first|(with_reducible refine isRet ?_;(refine RetOK.frz 22 (by simp only [seval,go_sem];rfl) (by simp only [seval,go_sem];rfl) ?_);(with_reducible refine isRet ?_;refine RetOK.q rfl rfl (by simp only [seval,go_sem];rfl) (by decide) (by simp only [seval,go_sem];first|rfl) (by simp only [seval,go_sem];first|rfl) rfl ?_ <;> (try simp only [seval,go_sem]) <;> (repeat' (with_reducible apply And.intro)) <;> (try rfl)))|(with_reducible (first|refine TVq (st := []) ?_))|simp only [seval,go_sem]|(with_reducible refine oV_st (by simp (disch := omega) only [seval,go_sem,cnd,intV,shV,convV,strV];rfl) ?_))) <;> (try (fail)))
    · ((repeat' (first|(with_reducible refine isRet ?_;(refine RetOK.frz 22 (by simp only [seval,go_sem];rfl) (by simp only [seval,go_sem];rfl) ?_);(with_reducible refine isRet ?_;refine RetOK.q rfl rfl (by simp only [seval,go_sem];rfl) (by decide) (by simp only [seval,go_sem];first|rfl) (by simp only [seval,go_sem];first|rfl) rfl ?_ <;> (try simp only [seval,go_sem]) <;> (repeat' (with_reducible apply And.intro)) <;> (try rfl)))|(with_reducible (first|refine TVq (st := []) ?_))|simp only [seval,go_sem]|(with_reducible refine oV_st (by simp (disch := omega) only [seval,go_sem,cnd,intV,shV,convV,strV];rfl) ?_))) <;> (try (fail)))
  have hmin : min i 64 = i := by omega
  have hdd : N / 2 ^ i / 2 = N / 2 ^ (i + 1) := by rw [Nat.div_div_eq_div_mul, Nat.pow_succ]
  have hfd : (N : Int).fdiv (2 ^ i) = ((N / 2 ^ i : Nat) : Int) := by
    rw [Int.fdiv_eq_ediv_of_nonneg _ (by have := two_pos i; omega)]; norm_cast
  by_cases hlt : i < 63
  · rcases powS_step (N / 2 ^ i) i with ⟨h, e⟩ | ⟨h, h2, e⟩ | ⟨h, h2, e⟩
    · have hdd2 : N / 2 ^ (i + 1) = 0 := by rw [← hdd, h]
      rw [e, List.append_nil] at hp
      rw [h] at hfd
      (all_goals (try have hZ := (And.intro hmin hfd));(repeat' (first|(with_reducible (first|refine TVq (st := []) ?_))|simp only [seval,go_sem,hZ]|(with_reducible refine oV_st (by simp (disch := omega) only [seval,go_sem,cnd,intV,shV,convV,strV,hZ];rfl) ?_))) <;> (try (fail));all_goals (try clear hZ))
      all_goals (refine isNextM ((i + 1,l)) (by (first|refine leQL_spec ?_);(try simp only [seval,go_sem,rowP]);first|((repeat' (with_reducible apply And.intro)) <;> first|rfl);first|done) (by (first|refine leQH_spec ?_);(try simp only [seval,go_sem,rowP]);first|done) ?_ ?_ <;> (try (first|omega)))
      all_goals exact ⟨by simp only; omega, by simp only; omega, by simp only [hdd2, powS_zero, List.append_nil]; exact hp⟩
    · rw [e, hdd] at hp
      have h2' : ((N / 2 ^ i : Nat) : Int) % 2 = 1 := by omega
      (all_goals (try have hZ := (And.intro hmin (And.intro hfd h2')));(repeat' (first|(with_reducible (first|refine TVq (st := []) ?_))|simp only [seval,go_sem,hZ]|(with_reducible refine oV_st (by simp (disch := omega) only [seval,go_sem,cnd,intV,shV,convV,strV,hZ];rfl) ?_))) <;> (try (fail));all_goals (try clear hZ))
      all_goals (refine isNextM ((i + 1,l ++ [i])) (by (first|refine leQL_spec ?_);(try simp only [seval,go_sem,rowP]);first|((repeat' (with_reducible apply And.intro)) <;> first|rfl|(simp [rowP];done));first|done) (by (first|refine leQH_spec ?_);(try simp only [seval,go_sem,rowP]);first|((repeat' (with_reducible apply And.intro)) <;> first|(simp [rowP];done));first|done) ?_ ?_ <;> (try (first|omega)))
      all_goals exact ⟨by simp only; omega, by simp; omega, by simpa using hp⟩
    · rw [e, hdd] at hp
      have h2' : ((N / 2 ^ i : Nat) : Int) % 2 = 0 := by omega
      (all_goals (try have hZ := (And.intro hmin (And.intro hfd h2')));(repeat' (first|(with_reducible (first|refine TVq (st := []) ?_))|simp only [seval,go_sem,hZ]|(with_reducible refine oV_st (by simp (disch := omega) only [seval,go_sem,cnd,intV,shV,convV,strV,hZ];rfl) ?_))) <;> (try (fail));all_goals (try clear hZ))
      all_goals (refine isNextM ((i + 1,l)) (by (first|refine leQL_spec ?_);(try simp only [seval,go_sem,rowP]);first|((repeat' (with_reducible apply And.intro)) <;> first|rfl);first|done) (by (first|refine leQH_spec ?_);(try simp only [seval,go_sem,rowP]);first|done) ?_ ?_ <;> (try (first|omega)))
      all_goals exact ⟨by simp only; omega, by simp only; omega, by simpa using hp⟩
  · have e63 : N / 2 ^ i = 0 := Nat.div_eq_of_lt (Nat.lt_of_lt_of_le (show N < 2 ^ 63 by omega) (Nat.pow_le_pow_right (by decide) (by omega)))
    rw [e63, powS_zero, List.append_nil] at hp
    rw [← hp]
    ((repeat' (first|(with_reducible refine isRet ?_;(refine RetOK.frz 22 (by simp only [seval,go_sem];rfl) (by simp only [seval,go_sem];rfl) ?_);(with_reducible refine isRet ?_;refine RetOK.q rfl rfl (by simp only [seval,go_sem];rfl) (by decide) (by simp only [seval,go_sem];first|rfl) (by simp only [seval,go_sem];first|rfl) rfl ?_ <;> (try simp only [seval,go_sem]) <;> (repeat' (with_reducible apply And.intro)) <;> (try rfl)))|(with_reducible (first|refine TVq (st := []) ?_))|simp only [seval,go_sem]|(with_reducible refine oV_st (by simp (disch := omega) only [seval,go_sem,cnd,intV,shV,convV,strV];rfl) ?_))) <;> (try (fail)))
end Go.Proofs.Ytnckgbmifigadaa
