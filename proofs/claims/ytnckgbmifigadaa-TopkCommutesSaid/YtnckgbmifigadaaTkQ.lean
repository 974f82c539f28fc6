/- TopkMerges: Merge of the program gives what the reference gives, for any two summaries that the law builds. -/
import Derived.Test.YtnckgbmifigadaaTkL
import Derived.Test.YtnckgbmifigadaaTkN
import Derived.Test.YtnckgbmifigadaaTkO
set_option linter.unusedSimpArgs false
set_option linter.unusedVariables false
namespace Go.Proofs.Ytnckgbmifigadaa
open Go.RowKit Go.Avm Go.ChangeShapes Go.WideShapes Go.ChangeAt
theorem mrgT_len {a b : Tk} : (mrgT a b).1.ents.length ≤ 100000 := by
  by_cases ha : validT a = 0
  · by_cases hb : validT b = 0
    · by_cases hs : a.size = b.size
      · have h := (mrgT_ok ha hb hs).2.2.1
        obtain ⟨⟨s1, s2⟩, _, l1, _⟩ := validT_iff.1 h
        omega
      · have e : mrgT a b = (zeroT, 10) := by unfold mrgT; rw [if_neg (by simp [ha]), if_neg (by simp [hb]), if_pos hs]
        rw [e]; simp [zeroT]
    · have e : mrgT a b = (zeroT, validT b) := by unfold mrgT; rw [if_neg (by simp [ha]), if_pos hb]
      rw [e]; simp [zeroT]
  · have e : mrgT a b = (zeroT, validT a) := by unfold mrgT; rw [if_pos ha]
    rw [e]; simp [zeroT]
theorem small2T {a b : Tk} (h : SmallT a) (h' : SmallT b) : a.ents.length + b.ents.length ≤ 12 := by have := h.len; have := h'.len; omega
set_option maxRecDepth 100000 in set_option maxHeartbeats 6400000 in
theorem topkMerges_calls {size : Int} {l m : List Int} {n : Int} : ACalls Try.prog 7 [.sc (.int .i64 size), .sl 1 (l.map rowJt), .sl 1 (m.map rowJt), .sc (.int .i64 n)] (.sc (.bool true)) [] := by
  refine of_tri [] [9, 10, 11, 13, 17, 19, 27, 30, 34, 40, 49, 52] Try.func7 rfl call7 rfl (by decide) (by decide) rfl rfl Try.ntmps7 (by simp (disch := omega) only [seval, go_sem, cnd, intV, shV, convV, strV, List.replicate, List.zip_nil_left, List.zip_cons_cons]; rfl) (by simp (disch := omega) only [seval, go_sem, cnd, intV, shV, convV, strV, List.zip_nil_left, List.zip_cons_cons]; rfl) ?_
  ((repeat' (first | (with_reducible (first | refine Tri.seq ?_ | refine Tri.block ?_ | refine Tri.skip ?_ | refine Tri.exit ?_ | refine Tri.ret ?_ | refine TriD.nilP ?_ | refine TriD.nil ?_ | refine ListD.nil ?_ | refine thenQ_n ?_ | refine thenQ_r ?_ | refine thenQ_e ?_ | refine inBlockQ_n ?_ | refine inBlockQ_r ?_ | refine inBlockQ_e ?_ | refine inBlockQ_o (by decide) ?_ | refine loopQ_n ?_ | refine loopQ_r ?_ | refine loopQ_e ?_ | refine Tri.regionD (by simp only [List.map_cons, List.map_nil]; rfl) ?_)) | ((with_reducible refine isTriD ?_); first | (with_reducible refine TriD.step (by simp only [seval, go_sem, dT, beq_self_eq_true]; rfl) ?_) | ((with_reducible refine isCallD ?_); first | ((with_reducible (first | refine TriD.dE (by simp only [seval, go_sem, dT, beq_self_eq_true]; rfl) (by simp only [seval, go_sem, dT, beq_self_eq_true]; first | done | rfl) ?_ | refine TriD.dS (by simp only [seval, go_sem, dT, beq_self_eq_true]; rfl) (by simp only [seval, go_sem, dT, beq_self_eq_true]; first | done | rfl) ?_)); first | refine CallK.c [] (mrgt_calls ?_ ?_ ?_) (by simp only [seval, go_sem, dT, beq_self_eq_true]; rfl) ?_ | refine CallK.c [] (rmrgt_calls ?_ ?_ ?_) (by simp only [seval, go_sem, dT, beq_self_eq_true]; rfl) ?_ | refine CallK.c [] (samet_calls ?_) (by simp only [seval, go_sem, dT, beq_self_eq_true]; rfl) ?_ | refine CallK.c [] (known9_calls) (by simp only [seval, go_sem, dT, beq_self_eq_true]; rfl) ?_) | (with_reducible (first | (with_unfolding_all refine TriD.callX (dst := _) true [] [] (by simp only [seval, go_sem, dT, beq_self_eq_true]) rfl (madet_x) ⟨by simp only [seval, go_sem, dT, beq_self_eq_true]; first | done | rfl, rfl⟩ (by decide) (fun _ => rfl) rfl rfl (fun _ => by first | rfl | (simp only [seval, go_sem, dT, beq_self_eq_true]; first | done | fail)) (fun _ => by first | rfl | (simp only [seval, go_sem, dT, beq_self_eq_true]; first | done | fail)) (fun t ht => ?_); (try dsimp only at ht)) | (with_unfolding_all refine TriD.callX (dst := _) false [] [] (by simp only [seval, go_sem, dT, beq_self_eq_true]) rfl (madet_x) ⟨by simp only [seval, go_sem, dT, beq_self_eq_true]; first | done | rfl, rfl, (fun _ _ => flat_of (by first | rfl | (simp only [seval, go_sem, dT, beq_self_eq_true]; first | done | fail)) (by first | rfl | (simp only [seval, go_sem, dT, beq_self_eq_true]; first | done | fail)))⟩ (by decide) (fun _ => rfl) rfl rfl (fun _ => by first | rfl | (simp only [seval, go_sem, dT, beq_self_eq_true]; first | done | fail)) (fun _ => by first | rfl | (simp only [seval, go_sem, dT, beq_self_eq_true]; first | done | fail)) (fun t ht => ?_); (try dsimp only at ht)) | (with_unfolding_all refine TriD.callX (dst := _) true [] [] (by simp only [seval, go_sem, dT, beq_self_eq_true]) rfl (spoilt_x ?_ ?_) ⟨by simp only [seval, go_sem, dT, beq_self_eq_true]; first | done | rfl, rfl⟩ (by decide) (fun _ => rfl) rfl rfl (fun _ => by first | rfl | (simp only [seval, go_sem, dT, beq_self_eq_true]; first | done | fail)) (fun _ => by first | rfl | (simp only [seval, go_sem, dT, beq_self_eq_true]; first | done | fail)) (fun t ht => ?_); (try dsimp only at ht)) | (with_unfolding_all refine TriD.callX (dst := _) false [] [] (by simp only [seval, go_sem, dT, beq_self_eq_true]) rfl (spoilt_x ?_ ?_) ⟨by simp only [seval, go_sem, dT, beq_self_eq_true]; first | done | rfl, rfl, (fun _ _ => flat_of (by first | rfl | (simp only [seval, go_sem, dT, beq_self_eq_true]; first | done | fail)) (by first | rfl | (simp only [seval, go_sem, dT, beq_self_eq_true]; first | done | fail)))⟩ (by decide) (fun _ => rfl) rfl rfl (fun _ => by first | rfl | (simp only [seval, go_sem, dT, beq_self_eq_true]; first | done | fail)) (fun _ => by first | rfl | (simp only [seval, go_sem, dT, beq_self_eq_true]; first | done | fail)) (fun t ht => ?_); (try dsimp only at ht))))) | (with_reducible refine TriD.step (by simp (disch := omega) only [seval, go_sem, cnd, intV, shV, convV, strV, dT, beq_self_eq_true]; rfl) ?_) | (with_reducible (first | refine isAnd2 50 ?_ | refine isAnd2 53 ?_); with_reducible refine TriD.and2 (by simp only [seval, go_sem, dT, beq_self_eq_true]; first | done | rfl) (by simp only [seval, go_sem, dT, beq_self_eq_true]; first | done | rfl) (by decide) (by simp only [seval, go_sem, dT, beq_self_eq_true, List.length_cons, List.length_nil]) (by simp only [seval, go_sem, dT, beq_self_eq_true]) (by first | (simp only [seval, go_sem, dT, beq_self_eq_true]; rfl) | (simp (disch := omega) only [seval, go_sem, cnd, intV, shV, convV, strV, dT, beq_self_eq_true]; rfl)) (by simp only [seval, go_sem, dT, beq_self_eq_true]; rfl) ?_) | (with_reducible refine TriD.byGuard (by simp only [seval, go_sem, dT, beq_self_eq_true]; rfl) (by simp only [seval, go_sem, dT, beq_self_eq_true]; rfl) (by (fail_if_success (with_reducible exact nlT)); (fail_if_success (with_reducible exact nlF)); exact nlI) (cvI ?_) (cvI ?_))) | ((with_reducible refine isListD ?_); first | (with_reducible refine ListD.step (by simp only [seval, go_sem, dT, beq_self_eq_true]; rfl) ?_) | (with_reducible refine ListD.step (by simp (disch := omega) only [seval, go_sem, cnd, intV, shV, convV, strV, dT, beq_self_eq_true]; rfl) ?_) | (with_reducible refine ListD.byGuard (by simp only [seval, go_sem, dT, beq_self_eq_true]; rfl) (by simp only [seval, go_sem, dT, beq_self_eq_true]; rfl) (by (fail_if_success (with_reducible exact nlT)); (fail_if_success (with_reducible exact nlF)); exact nlI) (cvI ?_) (cvI ?_))) | (with_reducible refine isCond ?_; with_reducible refine Tri.cond (by simp only [seval, go_sem, dT, beq_self_eq_true]; rfl) (cvI ?_) (cvI ?_)) | (with_reducible refine isCv ?_; intro hc; (try simp only [bls, reduceCtorEq] at hc); (try (exfalso; omega))) | (with_reducible refine isDrawn ?_; refine Tri.drawnD mix (by kernel_rfl) (by simp only [List.map_cons, List.map_nil]; rfl) ?_) | (with_reducible refine isRet ?_; refine RetOK.q rfl rfl (by simp only [seval, go_sem]; rfl) (by decide) (by simp only [seval, go_sem]; first | done | rfl) (by simp only [seval, go_sem]; first | done | rfl) rfl ?_ <;> (try simp only [seval, go_sem]) <;> (repeat' (with_reducible apply And.intro)) <;> (try rfl)))) <;> (try (first | (with_reducible assumption) | ((with_reducible show (_ : Int) ≤ _); omega) | ((with_reducible show (_ : Nat) ≤ _); omega))))
  all_goals first
    | exact mrgT_len
    | exact (madet_small ‹validT _ = 0 ∧ _›).1
    | exact (madet_small ‹validT _ = 0 ∧ _›).2
    | exact small2T ‹SmallT _› ‹SmallT _›
    | exact (‹SmallT _›).keys
    | omega
    | decide
    | (simp; done)
theorem topkMerges_own : ownKnob Try.prog.godebug = none := by kernel_rfl
theorem topkMerges_laid : laidOutB Try.prog = true := by kernel_rfl
set_option maxRecDepth 100000 in
theorem topkMerges_lifted (os : Os) (started : os.Started) (H : Type) (enc : TypeId × Value → H) :
    ReturnsInHanded {} Try.checked os 7 .any (Rows.topkMergesSpec.pre6 enc Try.prog Try.f7 Rows.topkMergesRow.domain false) (Rows.topkMergesSpec.post enc Try.prog Try.f7 false true false false) := by
  refine returnsInHanded_of_change (C := Try.checked) topkMerges_own started (by kernel_rfl) Try.func7
    (ChangeSpec.witness6 (enc := enc) (C := Try.checked) false ⟨#[], #[.int .i64 0, .slice none 0 0, .slice none 0 0, .int .i64 0], []⟩ 8 (by kernel_rfl) (by kernel_rfl) (by kernel_rfl) (by kernel_rfl)) ?_
  intro W base args ds gs before hval0 hW hcnd _
  have hval : ∀ (j : Nat) t v, Try.f7.params[j]? = some t → args[j]? = some v → Value.okWide Try.prog W .any base t v := hval0
  have hW' := hW
  obtain ⟨p, q, hA0, hV, rfl, hfz, hnd⟩ := hW
  have hA : DataW.TrodAll enc Try.prog W 0 (fun _ => true) true Try.f7.params.toList args.toList ds p := hA0
  rw [Try.params7] at hA hval
  obtain ⟨v0, vs0, d0, ds0, p0, q0, hargs, rfl, rfl, h0, r0⟩ := trodAll_cons hA
  obtain ⟨v1, vs1, d1, ds1, p1, q1, rfl, rfl, rfl, h1, r1⟩ := trodAll_cons r0
  obtain ⟨v2, vs2, d2, ds2, p2, q2, rfl, rfl, rfl, h2, r2⟩ := trodAll_cons r1
  obtain ⟨v3, vs3, d3, ds3, p3, q3, rfl, rfl, rfl, h3, r3⟩ := trodAll_cons r2
  obtain ⟨rfl, rfl, rfl⟩ := trodAll_nil r3
  obtain rfl : args = #[v0, v1, v2, v3] := by cases args; simp_all
  obtain ⟨a0, x0, w0⟩ := arg_int Try.underlying3 (hval 0 3 v0 rfl rfl) h0
  obtain ⟨a1, x1, w1, l1⟩ := arg_ints Try.underlying22 Try.underlying3 (by kernel_rfl) (hval 1 22 v1 rfl rfl) h1
  obtain ⟨a2, x2, w2, l2⟩ := arg_ints Try.underlying22 Try.underlying3 (by kernel_rfl) (hval 2 22 v2 rfl rfl) h2
  obtain ⟨a3, x3, w3⟩ := arg_int Try.underlying3 (hval 3 3 v3 rfl rfl) h3
  exact law_step (xs := [.sc (.int .i64 a0), .sl 1 (a1.map fun z => [.sc (.int .i64 z)]), .sl 1 (a2.map fun z => [.sc (.int .i64 z)]), .sc (.int .i64 a3)]) hW' rfl topkMerges_laid (by kernel_rfl) (fun gs' h => by subst h; rfl) rfl Try.underlying4 (by simp only [RL]; exact ⟨_, _, rfl, x0, ⟨_, _, rfl, x1, ⟨_, _, rfl, x2, ⟨_, _, rfl, x3, rfl⟩⟩⟩⟩) (topkMerges_calls)
theorem topkMerges_over : Rows.topkMergesRow.holds Try.pinned (OpenSpec.ofChange Rows.topkMergesSpec) :=
  OpenClaim.holds_of_wide 7 Try.f7 rfl rfl rfl rfl rfl rfl rfl ⟨rfl, rfl, rfl, rfl, rfl⟩ rfl rfl rfl rfl rfl (by kernel_rfl) Try.func7 (by kernel_rfl)
    (of_decide_eq_true (by kernel_rfl)) (by unfold Func.isWrapper; first | (rw [if_pos (by decide +kernel)]; kernel_rfl) | (rw [if_neg (by decide +kernel)]; exact ⟨rfl, rfl⟩))
    (fun os started H enc _ => topkMerges_lifted os started H enc)
theorem topkMerges_holds : Rows.TopkMergesSaid := topkMerges_over

end Go.Proofs.Ytnckgbmifigadaa
