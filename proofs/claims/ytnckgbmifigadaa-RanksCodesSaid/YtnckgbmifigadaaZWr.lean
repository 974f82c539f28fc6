/- Numbers and strings as bytes: EncodeUint of the program and Uint of the reference. -/
import Derived.Test.YtnckgbmifigadaaZBase
import Derived.Test.YtnckgbmifigadaaZAvmR
set_option linter.unusedSimpArgs false
set_option linter.unusedVariables false
namespace Go.Proofs.Ytnckgbmifigadaa
open Go.RowKit Go.Avm
def rowB (z : Int) : List D := [.sc (.int .u8 z)]
def be (n : Nat) : List Int := if h : n = 0 then [] else be (n / 256) ++ [((n % 256 : Nat) : Int)]
termination_by n
decreasing_by omega
def uintB (n : Nat) : List Int := if n < 248 then [(n : Int)] else ((247 + (be n).length : Nat) : Int) :: be n
theorem wrap8 (m : Nat) : IntKind.u8.wrap (m : Int) = ((m % 256 : Nat) : Int) := by
  have h : IntKind.u8.signed = false := rfl
  unfold IntKind.wrap
  simp [IntKind.bits, h]
theorem be_zero : be 0 = [] := by rw [be]; simp
theorem be_step {n : Nat} (h : n ≠ 0) : be n = be (n / 256) ++ [((n % 256 : Nat) : Int)] := by rw [be, dif_neg h]
theorem be_len : ∀ (k n : Nat), n / 256 ^ k = 0 → (k = 0 ∨ n / 256 ^ (k - 1) ≠ 0) → (be n).length = k
  | 0, n, h, _ => by
    have : n = 0 := by simpa using h
    subst this; rw [be_zero]; rfl
  | k + 1, n, h, h1 => by
    have hq : n / 256 / 256 ^ k = n / 256 ^ (k + 1) := by rw [Nat.div_div_eq_div_mul, Nat.pow_succ, Nat.mul_comm]
    have hn : n ≠ 0 := by
      rintro rfl
      rcases h1 with h1 | h1
      · omega
      · simp at h1
    rw [be_step hn, List.length_append, be_len k (n / 256) (by rw [Nat.div_div_eq_div_mul, Nat.mul_comm, ← Nat.pow_succ]; exact h) ?_]
    · rfl
    · rcases k with _ | k
      · exact .inl rfl
      · right
        rcases h1 with h1 | h1
        · omega
        · simp only [Nat.add_sub_cancel] at h1 ⊢
          rw [Nat.div_div_eq_div_mul, Nat.mul_comm, ← Nat.pow_succ]; exact h1
theorem be_cut {n i : Nat} (h : n / 256 ^ i ≠ 0) : be (n / 256 ^ i) = be (n / 256 ^ (i + 1)) ++ [((n / 256 ^ i % 256 : Nat) : Int)] := by
  rw [be_step h, Nat.div_div_eq_div_mul, ← Nat.pow_succ]
set_option maxRecDepth 100000 in set_option maxHeartbeats 6400000 in
theorem rui_calls {n : Nat} (hn : n ≤ 4611686018427387904) (h9 : (be n).length ≤ 8) : ACalls Try.prog 94 [.sc (.int .i64 n)] (.slo 0 1 0 (uintB n).length) [.row 1 ((uintB n).map rowB)] := by
  by_cases h : n < 248
  · have e : uintB n = [(n : Int)] := if_pos h
    rw [e]
    refine of_tri [] [8,13,15,22,24] Try.func94 rfl call94 rfl (by decide) (by decide) rfl rfl Try.ntmps94 (by simp (disch := omega) only [seval,go_sem,cnd,intV,shV,convV,strV,List.replicate,List.zip_nil_left,List.zip_cons_cons];rfl) (by simp (disch := omega) only [seval,go_sem,cnd,intV,shV,convV,strV,List.zip_nil_left,List.zip_cons_cons];rfl) ?_
    ((repeat' (first|(with_reducible (first|refine Tri.seq ?_|refine Tri.ret ?_|refine TriD.nil ?_|refine thenQ_n ?_|refine thenQ_r ?_|refine Tri.regionD (by simp only [List.map_cons,List.map_nil];rfl) ?_))|((with_reducible refine isTriD ?_);first|(with_reducible refine TriD.step (by simp only [seval,go_sem];rfl) ?_)|(with_reducible refine TriD.step (by simp (disch := omega) only [seval,go_sem,cnd,intV,shV,convV,strV];rfl) ?_))|(with_reducible refine isCond ?_;with_reducible refine Tri.cond (by simp only [seval,go_sem];rfl) (cvI ?_) (cvI ?_))|(with_reducible refine isCv ?_;intro hc;(try simp only [bls,reduceCtorEq] at hc);(try (exfalso;omega)))|(with_reducible refine isRet ?_;refine RetOK.q rfl rfl (by simp only [seval,go_sem];rfl) (by decide) (by simp only [seval,go_sem];first|rfl) (by simp only [seval,go_sem];first|rfl) rfl ?_ <;> (try simp only [seval,go_sem]) <;> (repeat' (with_reducible apply And.intro)) <;> (try rfl)))) <;> (try (fail)))
    all_goals (try (simp [rowB]; done))
  · have e : uintB n = ((247 + (be n).length : Nat) : Int) :: be n := if_neg h
    rw [e]
    refine of_tri [] [8,13,15,22,24] Try.func94 rfl call94 rfl (by decide) (by decide) rfl rfl Try.ntmps94 (by simp (disch := omega) only [seval,go_sem,cnd,intV,shV,convV,strV,List.replicate,List.zip_nil_left,List.zip_cons_cons];rfl) (by simp (disch := omega) only [seval,go_sem,cnd,intV,shV,convV,strV,List.zip_nil_left,List.zip_cons_cons];rfl) ?_
    ((repeat' (first|(with_reducible (first|refine Tri.seq ?_|refine Tri.block ?_|refine Tri.skip ?_|refine TriD.nil ?_|refine thenQ_n ?_|refine Tri.regionD (by simp only [List.map_cons,List.map_nil];rfl) ?_))|((with_reducible refine isTriD ?_);first|(with_reducible refine TriD.step (by simp only [seval,go_sem];rfl) ?_)|(with_reducible refine TriD.step (by simp (disch := omega) only [seval,go_sem,cnd,intV,shV,convV,strV];rfl) ?_))|(with_reducible refine isCond ?_;with_reducible refine Tri.cond (by simp only [seval,go_sem];rfl) (cvI ?_) (cvI ?_))|(with_reducible refine isCv ?_;intro hc;(try simp only [bls,reduceCtorEq] at hc);(try (exfalso;omega))))) <;> (try (fail)))
    (refine Tri.virt 3 15 1 (by first | (simp only [seval, go_sem]; first | done)) (by first | (simp only [seval, go_sem]; first | done)) (by simp only [seval, go_sem]; rfl) ?_)
    (with_reducible refine Tri.loopV (fun (t : Nat × List Int) => [(0,.sc (.int .i64 t.1)),(3,.slo 15 1 0 t.2.length),(9,.any),(10,.any),(11,.any),(12,.any),(13,.any),(14,.any),(15,.any),(16,.any),(17,.any)]) (fun (t : Nat × List Int) => [(15,.row 1 (t.2.map rowB)),(13,.dead)]) (fun (t : Nat × List Int) => t.1 ≤ n ∧ be t.1 ++ t.2 = be n) (fun (t : Nat × List Int) => t.1) ((n,[])) (⟨Nat.le_refl _,by simp⟩) (by intro _;simp (disch := omega) only [seval,go_sem,cnd,intV,shV,convV,strV];rfl) (by intro _;simp (disch := omega) only [seval,go_sem,cnd,intV,shV,convV,strV];rfl) (by (first|refine leQL_spec ?_);(try simp only [seval,go_sem]);first|done) (by (first|refine leQH_spec ?_);(try simp only [seval,go_sem]);first|done) (fun t hI => ?_))
    obtain ⟨m, b⟩ := t
    obtain ⟨hm, hb⟩ := hI
    simp only at hm hb
    have hl := congrArg List.length hb
    simp only [List.length_append] at hl
    by_cases h0 : m = 0
    · subst h0
      rw [be_zero, List.nil_append] at hb
      subst hb
      have hw : IntKind.u8.wrap (247 + ((be n).length : Int)) = ((247 + (be n).length : Nat) : Int) := by rw [IntWalk.u8_in _ (by omega)]; omega
      ((repeat' (first|(with_reducible (first|refine Tri.seq ?_|refine Tri.exit ?_|refine Tri.ret ?_|refine TriD.nil ?_|refine thenQ_n ?_|refine thenQ_e ?_|refine inBlockQ_e ?_|refine loopQ_e ?_|refine Tri.regionD (by simp only [List.map_cons,List.map_nil];rfl) ?_))|((with_reducible refine isTriD ?_);first|(with_reducible refine TriD.step (by simp only [seval,go_sem,hw];rfl) ?_)|(with_reducible refine TriD.step (by simp (disch := omega) only [seval,go_sem,cnd,intV,shV,convV,strV,hw];rfl) ?_))|(with_reducible refine isCond ?_;with_reducible refine Tri.cond (by simp only [seval,go_sem,hw];rfl) (cvI ?_) (cvI ?_))|(with_reducible refine isCv ?_;intro hc;(try simp only [bls,reduceCtorEq] at hc);(try (exfalso;omega)))|(with_reducible refine isRet ?_;refine RetOK.q rfl rfl (by simp only [seval,go_sem];rfl) (by decide) (by simp only [seval,go_sem];first|rfl) (by simp only [seval,go_sem];first|rfl) rfl ?_ <;> (try simp only [seval,go_sem]) <;> (repeat' (with_reducible apply And.intro)) <;> (try rfl)))) <;> (try (fail)))
      all_goals (try (first | rfl | (simp [rowB]; done)))
    · rw [be_step h0] at hb
      have hw := wrap8 m
      ((repeat' (first|(with_reducible (first|refine Tri.seq ?_|refine Tri.block ?_|refine Tri.skip ?_|refine TriD.nil ?_|refine thenQ_n ?_|refine inBlockQ_n ?_|refine loopQ_n ?_|refine Tri.regionD (by simp only [List.map_cons,List.map_nil];rfl) ?_))|((with_reducible refine isTriD ?_);first|(with_reducible refine TriD.step (by simp only [seval,go_sem,hw,rowB];rfl) ?_)|(with_reducible refine TriD.step (by simp (disch := omega) only [seval,go_sem,cnd,intV,shV,convV,strV,hw,rowB];rfl) ?_))|(with_reducible refine isCond ?_;with_reducible refine Tri.cond (by simp only [seval,go_sem,hw,rowB];rfl) (cvI ?_) (cvI ?_))|(with_reducible refine isCv ?_;intro hc;(try simp only [bls,reduceCtorEq] at hc);(try (exfalso;omega))))) <;> (try (fail)))
      all_goals (try ((first|refine isNextV ((m / 256,((m % 256 : Nat) : Int) :: b)) (Imp.les (by (first|refine leQL_spec ?_);(try simp only [seval,go_sem,rowB]);first|((repeat' (with_reducible apply And.intro)) <;> first|rfl);first|done) (by (first|refine leQH_spec ?_);(try simp only [seval,go_sem,rowB]);first|done)) ?_ ?_) <;> (try (first|omega))))
      all_goals (try (first | (exact ⟨by simp only; omega, by simp only; rw [← hb]; simp⟩) | (simp only; omega)))
theorem be_le : ∀ (k n : Nat), n < 256 ^ k → (be n).length ≤ k
  | 0, n, h => by
    have : n = 0 := by simp only [Nat.pow_zero] at h; omega
    subst this; rw [be_zero]; simp
  | k + 1, n, h => by
    by_cases h0 : n = 0
    · subst h0; rw [be_zero]; simp
    · have h1 : n / 256 < 256 ^ k := Nat.div_lt_of_lt_mul (by rw [Nat.mul_comm, ← Nat.pow_succ]; exact h)
      have := be_le k (n / 256) h1
      rw [be_step h0]; simp only [List.length_append, List.length_cons, List.length_nil]; omega
theorem shp (n t : Nat) (h : t ≤ 8) : (n : Int).fdiv (2 ^ (8 * (t : Int)).toNat) = ((n / 256 ^ t : Nat) : Int) := by
  have e : (2 : Int) ^ (8 * (t : Int)).toNat = ((256 ^ t : Nat) : Int) := by
    have : t = 0 ∨ t = 1 ∨ t = 2 ∨ t = 3 ∨ t = 4 ∨ t = 5 ∨ t = 6 ∨ t = 7 ∨ t = 8 := by omega
    rcases this with rfl | rfl | rfl | rfl | rfl | rfl | rfl | rfl | rfl <;> decide
  rw [e, Int.fdiv_eq_ediv_of_nonneg _ (Int.natCast_nonneg _)]
  rfl
set_option maxRecDepth 100000 in set_option maxHeartbeats 6400000 in
theorem eui_calls {n : Nat} (hn : n ≤ 4611686018427387904) : ACalls Try.prog 116 [.sc (.int .i64 n)] (.tup [.slo 0 1 0 (uintB n).length, .sc (.int .i64 0)]) [.row 1 ((uintB n).map rowB)] := by
  by_cases h : n < 248
  · have e : uintB n = [(n : Int)] := if_pos h
    rw [e]
    refine of_tri [] [17,32,45,46] Try.func116 rfl call116 rfl (by decide) (by decide) rfl rfl Try.ntmps116 (by simp (disch := omega) only [seval,go_sem,cnd,intV,shV,convV,strV,List.replicate,List.zip_nil_left,List.zip_cons_cons];rfl) (by simp (disch := omega) only [seval,go_sem,cnd,intV,shV,convV,strV,List.zip_nil_left,List.zip_cons_cons];rfl) ?_
    ((repeat' (first|(with_reducible (first|refine Tri.seq ?_|refine Tri.skip ?_|refine Tri.ret ?_|refine TriD.nil ?_|refine thenQ_n ?_|refine thenQ_r ?_|refine Tri.regionD (by simp only [List.map_cons,List.map_nil];rfl) ?_))|((with_reducible refine isTriD ?_);first|(with_reducible refine TriD.step (by simp only [seval,go_sem];rfl) ?_)|(with_reducible refine TriD.step (by simp (disch := omega) only [seval,go_sem,cnd,intV,shV,convV,strV];rfl) ?_))|(with_reducible refine isCond ?_;with_reducible refine Tri.cond (by simp only [seval,go_sem];rfl) (cvI ?_) (cvI ?_))|(with_reducible refine isCv ?_;intro hc;(try simp only [bls,reduceCtorEq] at hc);(try (exfalso;omega)))|(with_reducible refine isRet ?_;refine RetOK.q rfl rfl (by simp only [seval,go_sem];rfl) (by decide) (by simp only [seval,go_sem];first|rfl) (by simp only [seval,go_sem];first|rfl) rfl ?_ <;> (try simp only [seval,go_sem]) <;> (repeat' (with_reducible apply And.intro)) <;> (try rfl)))) <;> (try (fail)))
    all_goals (try (simp [rowB]; done))
  · have e : uintB n = ((247 + (be n).length : Nat) : Int) :: be n := if_neg h
    rw [e]
    refine of_tri [] [17,32,45,46] Try.func116 rfl call116 rfl (by decide) (by decide) rfl rfl Try.ntmps116 (by simp (disch := omega) only [seval,go_sem,cnd,intV,shV,convV,strV,List.replicate,List.zip_nil_left,List.zip_cons_cons];rfl) (by simp (disch := omega) only [seval,go_sem,cnd,intV,shV,convV,strV,List.zip_nil_left,List.zip_cons_cons];rfl) ?_
    ((repeat' (first|(with_reducible (first|refine Tri.seq ?_|refine Tri.block ?_|refine Tri.skip ?_|refine TriD.nil ?_|refine thenQ_n ?_|refine Tri.regionD (by simp only [List.map_cons,List.map_nil];rfl) ?_))|((with_reducible refine isTriD ?_);first|(with_reducible refine TriD.step (by simp only [seval,go_sem];rfl) ?_)|(with_reducible refine TriD.step (by simp (disch := omega) only [seval,go_sem,cnd,intV,shV,convV,strV];rfl) ?_))|(with_reducible refine isCond ?_;with_reducible refine Tri.cond (by simp only [seval,go_sem];rfl) (cvI ?_) (cvI ?_))|(with_reducible refine isCv ?_;intro hc;(try simp only [bls,reduceCtorEq] at hc);(try (exfalso;omega))))) <;> (try (fail)))
    (with_reducible refine Tri.loopU (fun (t : Nat) => [(4,.sc (.int .i64 t)),(18,.any),(19,.any),(20,.any),(21,.any),(22,.any),(23,.any),(24,.any),(25,.any),(26,.any),(27,.any),(28,.any)]) (fun (t : Nat) => []) (fun (t : Nat) => (1 ≤ t ∧ t ≤ 8) ∧ n / 256 ^ (t - 1) ≠ 0) (fun (t : Nat) => 8 - t) (1) (⟨⟨by omega,by omega⟩,by simp;omega⟩) (by intro _;simp (disch := omega) only [seval,go_sem,cnd,intV,shV,convV,strV];rfl) (by intro _;simp (disch := omega) only [seval,go_sem,cnd,intV,shV,convV,strV];rfl) (by (first|refine leQL_spec ?_);(try simp only [seval,go_sem]);first|done) (by (first|refine leQH_spec ?_);(try simp only [seval,go_sem]);first|done) (fun t hI => ?_))
    obtain ⟨⟨ht, ht8⟩, hq1⟩ := hI
    have hp := shp n t ht8
    by_cases hq : t < 8 ∧ n / 256 ^ t ≠ 0
    · generalize hqq : n / 256 ^ t = q at hp hq
      ((repeat' (first|(with_reducible (first|refine Tri.seq ?_|refine Tri.block ?_|refine Tri.skip ?_|refine TriD.nil ?_|refine thenQ_n ?_|refine inBlockQ_n ?_|refine loopQ_n ?_|refine Tri.regionD (by simp only [List.map_cons,List.map_nil];rfl) ?_))|((with_reducible refine isTriD ?_);first|(with_reducible refine TriD.step (by simp only [seval,go_sem,hp];rfl) ?_)|(with_reducible refine TriD.step (by simp (disch := omega) only [seval,go_sem,cnd,intV,shV,convV,strV,hp];rfl) ?_))|(with_reducible refine isCond ?_;with_reducible refine Tri.cond (by simp only [seval,go_sem,hp];rfl) (cvI ?_) (cvI ?_))|(with_reducible refine isCv ?_;intro hc;(try simp only [bls,reduceCtorEq] at hc);(try (exfalso;omega))))) <;> (try (fail)))
      all_goals (try (refine isNext ((t + 1)) (by (first|refine leQL_spec ?_);(try simp only [seval,go_sem]);first|((repeat' (with_reducible apply And.intro)) <;> first|rfl);first|done) (by (first|refine leQH_spec ?_);(try simp only [seval,go_sem]);first|done) ?_ ?_ <;> (try (first|omega))))
      all_goals (try (exact ⟨⟨by omega, by omega⟩, by rw [Nat.add_sub_cancel, hqq]; exact hq.2⟩))
    · have hz : n / 256 ^ t = 0 := by
        by_cases h8 : t = 8
        · subst h8; exact Nat.div_eq_of_lt (Nat.lt_of_le_of_lt hn (by decide))
        · have : ¬ n / 256 ^ t ≠ 0 := fun e => hq ⟨by omega, e⟩
          omega
      have hlen := be_len t n hz (.inr hq1)
      rw [hlen]
      have hz2 := hz
      rw [hz] at hp
      ((repeat' (first|(with_reducible (first|refine Tri.seq ?_|refine Tri.block ?_|refine Tri.exit ?_|refine TriD.nil ?_|refine thenQ_n ?_|refine thenQ_e ?_|refine inBlockQ_e ?_|refine loopQ_e ?_|refine Tri.regionD (by simp only [List.map_cons,List.map_nil];rfl) ?_))|((with_reducible refine isTriD ?_);first|(with_reducible refine TriD.step (by simp only [seval,go_sem,hp];rfl) ?_)|(with_reducible refine TriD.step (by simp (disch := omega) only [seval,go_sem,cnd,intV,shV,convV,strV,hp];rfl) ?_)|(with_reducible refine TriD.byGuard (by simp only [seval,go_sem,hp];rfl) (by simp only [seval,go_sem,hp];rfl) (by (fail_if_success (with_reducible exact nlT));(fail_if_success (with_reducible exact nlF));exact nlI) (cvI ?_) (cvI ?_)))|(with_reducible refine isCond ?_;with_reducible refine Tri.cond (by simp only [seval,go_sem,hp];rfl) (cvI ?_) (cvI ?_))|(with_reducible refine isCv ?_;intro hc;(try simp only [bls,reduceCtorEq] at hc);(try (exfalso;omega))))) <;> (try (fail)))
      all_goals (with_reducible refine Tri.loopV (fun (u : Nat) => [(6,.sc (.int .i64 ((u : Int) - 1))),(5,.slo 32 1 0 (1 + (be (n / 256 ^ u)).length)),(32,.any),(35,.any),(36,.any),(37,.any),(38,.any),(39,.any),(40,.any),(41,.any),(42,.any),(43,.any),(44,.any),(45,.any),(46,.any)]) (fun (u : Nat) => [(32,.row 1 ((((247 + t : Nat) : Int) :: be (n / 256 ^ u)).map rowB)),(45,.dead),(46,.dead)]) (fun (u : Nat) => u ≤ t) (fun (u : Nat) => u) (t) (Nat.le_refl _) (by intro _;simp (disch := omega) only [seval,go_sem,cnd,intV,shV,convV,strV];rfl) (by intro _;simp (disch := omega) only [seval,go_sem,cnd,intV,shV,convV,strV];rfl) (by (first|refine leQL_spec ?_);(try simp only [seval,go_sem,hz2,be_zero,rowB]);first|done) (by (first|refine leQH_spec ?_);(try simp only [seval,go_sem,hz2,be_zero,rowB]);first|((repeat' (with_reducible apply And.intro)) <;> first|(simp [hz2,be_zero,rowB];done));first|done) (fun u hI => ?_))
      all_goals
        rcases u with _ | i
        · simp only [Nat.pow_zero, Nat.div_one]
          ((repeat' (first|(with_reducible (first|refine Tri.seq ?_|refine Tri.exit ?_|refine Tri.ret ?_|refine TriD.nil ?_|refine thenQ_n ?_|refine thenQ_e ?_|refine inBlockQ_e ?_|refine loopQ_e ?_|refine Tri.regionD (by simp only [List.map_cons,List.map_nil];rfl) ?_))|((with_reducible refine isTriD ?_);first|(with_reducible refine TriD.step (by simp only [seval,go_sem];rfl) ?_)|(with_reducible refine TriD.step (by simp (disch := omega) only [seval,go_sem,cnd,intV,shV,convV,strV];rfl) ?_))|(with_reducible refine isCond ?_;with_reducible refine Tri.cond (by simp only [seval,go_sem];rfl) (cvI ?_) (cvI ?_))|(with_reducible refine isCv ?_;intro hc;(try simp only [bls,reduceCtorEq] at hc);(try (exfalso;omega)))|(with_reducible refine isRet ?_;refine RetOK.q rfl rfl (by simp only [seval,go_sem];rfl) (by decide) (by simp only [seval,go_sem];first|rfl) (by simp only [seval,go_sem];first|rfl) rfl ?_ <;> (try simp only [seval,go_sem]) <;> (repeat' (with_reducible apply And.intro)) <;> (try rfl)))) <;> (try (fail)))
          all_goals (try (first | rfl | (simp [rowB]; done) | (exact Nat.add_comm _ _) | (simp only [List.length_cons]; omega)))
        · have hni : n / 256 ^ i ≠ 0 := by
            have h1 : n / 256 ^ (t - 1) ≤ n / 256 ^ i := Nat.div_le_div_left (Nat.pow_le_pow_right (by decide) (by omega)) (Nat.pow_pos (by decide))
            intro e0
            rw [e0] at h1
            exact hq1 (Nat.le_zero.1 h1)
          have hpi := shp n i (by omega)
          have hwi := wrap8 (n / 256 ^ i)
          have hbc := be_cut hni
          have hbl := be_le 8 (n / 256 ^ (i + 1)) (Nat.lt_of_le_of_lt (Nat.div_le_self _ _) (Nat.lt_of_le_of_lt hn (by decide)))
          have ei : ((i + 1 : Nat) : Int) - 1 = (i : Nat) := by omega
          (all_goals (try have hZ := (And.intro hpi hwi));(repeat' (first|(with_reducible (first|refine Tri.seq ?_|refine Tri.block ?_|refine Tri.skip ?_|refine TriD.nil ?_|refine thenQ_n ?_|refine inBlockQ_n ?_|refine loopQ_n ?_|refine Tri.regionD (by simp only [List.map_cons,List.map_nil];rfl) ?_))|((with_reducible refine isTriD ?_);first|(with_reducible refine TriD.step (by simp only [seval,go_sem,ei,hZ];rfl) ?_)|(with_reducible refine TriD.step (by simp (disch := omega) only [seval,go_sem,cnd,intV,shV,convV,strV,ei,hZ];rfl) ?_))|(with_reducible refine isCond ?_;with_reducible refine Tri.cond (by simp only [seval,go_sem,ei,hZ];rfl) (cvI ?_) (cvI ?_))|(with_reducible refine isCv ?_;intro hc;(try simp only [bls,reduceCtorEq] at hc);(try (exfalso;omega))))) <;> (try (fail));all_goals (try clear hZ))
          all_goals (try ((first|refine isNextV (i) (Imp.takeTo 5 32 (by simp only [seval,go_sem];rfl) (by simp only [seval,go_sem];first|rfl) (by (try simp only [anyR_len,List.length_map,List.length_append,List.length_cons,List.length_nil,List.length_take,List.length_drop,List.length_replicate,splice,Nat.reduceMul]);first|omega) (by first|(simp only [seval,go_sem];first|done)) (by simp only [seval,go_sem];rfl) (Imp.les (by (first|refine leQL_spec ?_);(try simp only [seval,go_sem,hbc,rowB]);first|((repeat' (with_reducible apply And.intro)) <;> first|(simp [hbc,rowB];omega));first|done) (by (first|refine leQH_spec ?_);(try simp only [seval,go_sem,hbc,rowB]);first|((repeat' (with_reducible apply And.intro)) <;> first|(simp [hbc,rowB];done));first|done))) ?_ ?_) <;> (try (first|omega))))
          all_goals (try (first | omega | (simp only; omega)))
end Go.Proofs.Ytnckgbmifigadaa
