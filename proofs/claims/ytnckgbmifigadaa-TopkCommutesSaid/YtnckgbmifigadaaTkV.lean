/- TopkCommutes: merging is commutative, and merging with an empty summary changes nothing. -/
import Derived.Test.YtnckgbmifigadaaTkQ
set_option linter.unusedSimpArgs false
set_option linter.unusedVariables false
namespace Go.Proofs.Ytnckgbmifigadaa
open Go.RowKit Go.Avm Go.ChangeShapes Go.WideShapes Go.ChangeAt
theorem mk_validT {f : Tk} {n : Int} (h : validT f = 0 ∧ f.size = 1 + n % 4) : validT f = 0 := h.1
theorem new_okT {f : Tk} {n : Int} (h : validT f = 0 ∧ f.size = 1 + n % 4) : newT f.size = (⟨f.size, 0, [], false⟩, 0) ∧ validT (newT f.size).1 = 0 := by
  obtain ⟨e1, e2⟩ := newT_valid (n := f.size) (by omega) (by omega)
  rw [e1]; exact ⟨rfl, e2⟩
theorem mk_swapT {f g : Tk} {n : Int} (h : validT f = 0 ∧ f.size = 1 + n % 4) (h' : validT g = 0 ∧ g.size = 1 + n % 4) : (mrgT f g).1 = (mrgT g f).1 := by rw [mrgT_comm h.1 h'.1 (by omega)]
theorem mk_sizeT {f : Tk} {n : Int} (h : validT f = 0 ∧ f.size = 1 + n % 4) : sizeOk f.size = true := by simp [sizeOk]; omega
theorem mk_newT {f : Tk} {n : Int} (h : validT f = 0 ∧ f.size = 1 + n % 4) : (mrgT f (newT f.size).1).1 = f := by
  rw [(new_okT h).1, mrgT_new h.1 rfl]
theorem mk_nsizeT {f : Tk} {n : Int} (h : validT f = 0 ∧ f.size = 1 + n % 4) : f.size = (newT f.size).1.size := by rw [(new_okT h).1]
theorem mk_lenT {f : Tk} {n : Int} (h : validT f = 0 ∧ f.size = 1 + n % 4) : f.ents.length ≤ 100000 := by have := madet_small h; omega
theorem mk_leT {f : Tk} {n : Int} (h : validT f = 0 ∧ f.size = 1 + n % 4) : f.size ≤ 6 := by omega
theorem mk_nleT {f : Tk} {n : Int} (h : validT f = 0 ∧ f.size = 1 + n % 4) : (newT f.size).1.size ≤ 6 := by rw [(new_okT h).1]; simp only; omega
theorem mrgvt_calls {a b : Tk} (hz : validT a = 0) (hz' : validT b = 0) (hs : a.size = b.size) (h6 : a.size ≤ 6) : ACalls Try.prog 41 [dT a, dT b] (.tup [dT (mrgT a b).1, .sc (.int .i64 0)]) [] := by
  have q1 := validT_iff.1 hz
  have q2 := validT_iff.1 hz'
  have h := mrgt_calls (a := a) (b := b) (by omega) (fun x hx => by have := keyOk_sizeT (q1.2.2.2.range x hx).1; omega) (fun x hx => by have := keyOk_sizeT (q2.2.2.2.range x hx).1; omega)
  rw [(mrgT_ok hz hz' hs).1] at h
  exact h
theorem newvt_calls {n : Int} (h : sizeOk n = true) : ACalls Try.prog 21 [.sc (.int .i64 n)] (.tup [dT (newT n).1, .sc (.int .i64 0)]) [] := by
  have h1 := newt_calls (n := n)
  rw [show (newT n).2 = 0 by simp [newT, h]] at h1
  exact h1
theorem samet_eq {f g : Tk} (h : f = g) (hl : g.ents.length ≤ 100000) : ACalls Try.prog 23 [dT f, dT g] (.sc (.bool true)) [] := by
  subst h
  exact samet_calls hl
set_option maxRecDepth 100000 in set_option maxHeartbeats 6400000 in
theorem topkCommutes_calls {size : Int} {l m : List Int} : ACalls Try.prog 9 [.sc (.int .i64 size), .sl 1 (l.map rowJt), .sl 1 (m.map rowJt)] (.sc (.bool true)) [] := by
  refine of_tri [] [7, 8, 9, 11, 13, 15, 19, 22, 26, 32, 38, 44, 64, 69, 72] Try.func9 rfl call9 rfl (by decide) (by decide) rfl rfl Try.ntmps9 (by simp (disch := omega) only [seval, go_sem, cnd, intV, shV, convV, strV, List.replicate, List.zip_nil_left, List.zip_cons_cons]; rfl) (by simp (disch := omega) only [seval, go_sem, cnd, intV, shV, convV, strV, List.zip_nil_left, List.zip_cons_cons]; rfl) ?_
  ((repeat' (first | (with_reducible (first | refine Tri.seq ?_ | refine Tri.block ?_ | refine Tri.skip ?_ | refine Tri.exit ?_ | refine Tri.ret ?_ | refine TriD.nilP ?_ | refine TriD.nil ?_ | refine ListD.nil ?_ | refine thenQ_n ?_ | refine thenQ_r ?_ | refine thenQ_e ?_ | refine inBlockQ_n ?_ | refine inBlockQ_r ?_ | refine inBlockQ_e ?_ | refine inBlockQ_o (by decide) ?_ | refine loopQ_n ?_ | refine loopQ_r ?_ | refine loopQ_e ?_ | refine Tri.regionD (by simp only [List.map_cons, List.map_nil]; rfl) ?_)) | ((with_reducible refine isTriD ?_); first | (with_reducible refine TriD.step (by simp only [seval, go_sem, dT, beq_self_eq_true]; rfl) ?_) | ((with_reducible refine isCallD ?_); first | ((with_reducible (first | refine TriD.dE (by simp only [seval, go_sem, dT, beq_self_eq_true]; rfl) (by simp only [seval, go_sem, dT, beq_self_eq_true]; first | done | rfl) ?_ | refine TriD.dS (by simp only [seval, go_sem, dT, beq_self_eq_true]; rfl) (by simp only [seval, go_sem, dT, beq_self_eq_true]; first | done | rfl) ?_)); first | refine CallK.c [] (mrgvt_calls ?_ ?_ ?_ ?_) (by simp only [seval, go_sem, dT, beq_self_eq_true]; rfl) ?_ | refine CallK.c [] (newvt_calls ?_) (by simp only [seval, go_sem, dT, beq_self_eq_true]; rfl) ?_ | refine CallK.c [] (samet_eq ?_ ?_) (by simp only [seval, go_sem, dT, beq_self_eq_true]; rfl) ?_ | refine CallK.c [] (mrgt_calls ?_ ?_ ?_) (by simp only [seval, go_sem, dT, beq_self_eq_true]; rfl) ?_ | refine CallK.c [] (newt_calls) (by simp only [seval, go_sem, dT, beq_self_eq_true]; rfl) ?_ | refine CallK.c [] (samet_calls ?_) (by simp only [seval, go_sem, dT, beq_self_eq_true]; rfl) ?_ | refine CallK.c [] (known9_calls) (by simp only [seval, go_sem, dT, beq_self_eq_true]; rfl) ?_) | (with_reducible (first | (with_unfolding_all refine TriD.callX (dst := _) true [] [] (by simp only [seval, go_sem, dT, beq_self_eq_true]) rfl (madet_x) ⟨by simp only [seval, go_sem, dT, beq_self_eq_true]; first | done | rfl, rfl⟩ (by decide) (fun _ => rfl) rfl rfl (fun _ => by first | rfl | (simp only [seval, go_sem, dT, beq_self_eq_true]; first | done | fail)) (fun _ => by first | rfl | (simp only [seval, go_sem, dT, beq_self_eq_true]; first | done | fail)) (fun t ht => ?_); (try dsimp only at ht)) | (with_unfolding_all refine TriD.callX (dst := _) false [] [] (by simp only [seval, go_sem, dT, beq_self_eq_true]) rfl (madet_x) ⟨by simp only [seval, go_sem, dT, beq_self_eq_true]; first | done | rfl, rfl, (fun _ _ => flat_of (by first | rfl | (simp only [seval, go_sem, dT, beq_self_eq_true]; first | done | fail)) (by first | rfl | (simp only [seval, go_sem, dT, beq_self_eq_true]; first | done | fail)))⟩ (by decide) (fun _ => rfl) rfl rfl (fun _ => by first | rfl | (simp only [seval, go_sem, dT, beq_self_eq_true]; first | done | fail)) (fun _ => by first | rfl | (simp only [seval, go_sem, dT, beq_self_eq_true]; first | done | fail)) (fun t ht => ?_); (try dsimp only at ht))))) | (with_reducible refine TriD.step (by simp (disch := omega) only [seval, go_sem, cnd, intV, shV, convV, strV, dT, beq_self_eq_true]; rfl) ?_) | (with_reducible (first | refine isAnd2 52 ?_ | refine isAnd2 56 ?_ | refine isAnd2 60 ?_ | refine isAnd2 65 ?_ | refine isAnd2 70 ?_ | refine isAnd2 73 ?_); with_reducible refine TriD.and2 (by simp only [seval, go_sem, dT, beq_self_eq_true]; first | done | rfl) (by simp only [seval, go_sem, dT, beq_self_eq_true]; first | done | rfl) (by decide) (by simp only [seval, go_sem, dT, beq_self_eq_true, List.length_cons, List.length_nil]) (by simp only [seval, go_sem, dT, beq_self_eq_true]) (by first | (simp only [seval, go_sem, dT, beq_self_eq_true]; rfl) | (simp (disch := omega) only [seval, go_sem, cnd, intV, shV, convV, strV, dT, beq_self_eq_true]; rfl)) (by simp only [seval, go_sem, dT, beq_self_eq_true]; rfl) ?_) | (with_reducible refine TriD.byGuard (by simp only [seval, go_sem, dT, beq_self_eq_true]; rfl) (by simp only [seval, go_sem, dT, beq_self_eq_true]; rfl) (by (fail_if_success (with_reducible exact nlT)); (fail_if_success (with_reducible exact nlF)); exact nlI) (cvI ?_) (cvI ?_))) | ((with_reducible refine isListD ?_); first | (with_reducible refine ListD.step (by simp only [seval, go_sem, dT, beq_self_eq_true]; rfl) ?_) | (with_reducible refine ListD.step (by simp (disch := omega) only [seval, go_sem, cnd, intV, shV, convV, strV, dT, beq_self_eq_true]; rfl) ?_) | (with_reducible refine ListD.byGuard (by simp only [seval, go_sem, dT, beq_self_eq_true]; rfl) (by simp only [seval, go_sem, dT, beq_self_eq_true]; rfl) (by (fail_if_success (with_reducible exact nlT)); (fail_if_success (with_reducible exact nlF)); exact nlI) (cvI ?_) (cvI ?_))) | (with_reducible refine isCond ?_; with_reducible refine Tri.cond (by simp only [seval, go_sem, dT, beq_self_eq_true]; rfl) (cvI ?_) (cvI ?_)) | (with_reducible refine isCv ?_; intro hc; (try simp only [bls, reduceCtorEq] at hc); (try (exfalso; omega))) | (with_reducible refine isDrawn ?_; refine Tri.drawnD mix (by kernel_rfl) (by simp only [List.map_cons, List.map_nil]; rfl) ?_) | (with_reducible refine isRet ?_; refine RetOK.q rfl rfl (by simp only [seval, go_sem]; rfl) (by decide) (by simp only [seval, go_sem]; first | done | rfl) (by simp only [seval, go_sem]; first | done | rfl) rfl ?_ <;> (try simp only [seval, go_sem]) <;> (repeat' (with_reducible apply And.intro)) <;> (try rfl)))) <;> (try (first | (with_reducible assumption) | ((with_reducible show (_ : Int) ≤ _); omega) | ((with_reducible show (_ : Nat) ≤ _); omega))))
  all_goals first
    | exact mk_validT ‹validT _ = 0 ∧ _›
    | exact (new_okT ‹validT _ = 0 ∧ _›).2
    | exact mk_sizeT ‹validT _ = 0 ∧ _›
    | exact mk_nsizeT ‹validT _ = 0 ∧ _›
    | exact mk_newT ‹validT _ = 0 ∧ _›
    | exact mk_swapT ‹validT _ = 0 ∧ _› ‹validT _ = 0 ∧ _›
    | exact mrgT_len
    | exact mk_lenT ‹validT _ = 0 ∧ _›
    | exact mk_leT ‹validT _ = 0 ∧ _›
    | exact mk_nleT ‹validT _ = 0 ∧ _›
    | omega
    | (simp; done)
theorem topkCommutes_own : ownKnob Try.prog.godebug = none := by kernel_rfl
theorem topkCommutes_laid : laidOutB Try.prog = true := by kernel_rfl
set_option maxRecDepth 100000 in
theorem topkCommutes_lifted (os : Os) (started : os.Started) (H : Type) (enc : TypeId × Value → H) :
    ReturnsInHanded {} Try.checked os 9 .any (Rows.topkCommutesSpec.pre6 enc Try.prog Try.f9 Rows.topkCommutesRow.domain false) (Rows.topkCommutesSpec.post enc Try.prog Try.f9 false true false false) := by
  refine returnsInHanded_of_change (C := Try.checked) topkCommutes_own started (by kernel_rfl) Try.func9
    (ChangeSpec.witness6 (enc := enc) (C := Try.checked) false ⟨#[], #[.int .i64 0, .slice none 0 0, .slice none 0 0], []⟩ 8 (by kernel_rfl) (by kernel_rfl) (by kernel_rfl) (by kernel_rfl)) ?_
  intro W base args ds gs before hval0 hW hcnd _
  have hval : ∀ (j : Nat) t v, Try.f9.params[j]? = some t → args[j]? = some v → Value.okWide Try.prog W .any base t v := hval0
  have hW' := hW
  obtain ⟨p, q, hA0, hV, rfl, hfz, hnd⟩ := hW
  have hA : DataW.TrodAll enc Try.prog W 0 (fun _ => true) true Try.f9.params.toList args.toList ds p := hA0
  rw [Try.params9] at hA hval
  obtain ⟨v0, vs0, d0, ds0, p0, q0, hargs, rfl, rfl, h0, r0⟩ := trodAll_cons hA
  obtain ⟨v1, vs1, d1, ds1, p1, q1, rfl, rfl, rfl, h1, r1⟩ := trodAll_cons r0
  obtain ⟨v2, vs2, d2, ds2, p2, q2, rfl, rfl, rfl, h2, r2⟩ := trodAll_cons r1
  obtain ⟨rfl, rfl, rfl⟩ := trodAll_nil r2
  obtain rfl : args = #[v0, v1, v2] := by cases args; simp_all
  obtain ⟨a0, x0, w0⟩ := arg_int Try.underlying3 (hval 0 3 v0 rfl rfl) h0
  obtain ⟨a1, x1, w1, l1⟩ := arg_ints Try.underlying22 Try.underlying3 (by kernel_rfl) (hval 1 22 v1 rfl rfl) h1
  obtain ⟨a2, x2, w2, l2⟩ := arg_ints Try.underlying22 Try.underlying3 (by kernel_rfl) (hval 2 22 v2 rfl rfl) h2
  exact law_step (xs := [.sc (.int .i64 a0), .sl 1 (a1.map fun z => [.sc (.int .i64 z)]), .sl 1 (a2.map fun z => [.sc (.int .i64 z)])]) hW' rfl topkCommutes_laid (by kernel_rfl) (fun gs' h => by subst h; rfl) rfl Try.underlying4 (by simp only [RL]; exact ⟨_, _, rfl, x0, ⟨_, _, rfl, x1, ⟨_, _, rfl, x2, rfl⟩⟩⟩) (topkCommutes_calls)
theorem topkCommutes_over : Rows.topkCommutesRow.holds Try.pinned (OpenSpec.ofChange Rows.topkCommutesSpec) :=
  OpenClaim.holds_of_wide 9 Try.f9 rfl rfl rfl rfl rfl rfl rfl ⟨rfl, rfl, rfl, rfl, rfl⟩ rfl rfl rfl rfl rfl (by kernel_rfl) Try.func9 (by kernel_rfl)
    (of_decide_eq_true (by kernel_rfl)) (by unfold Func.isWrapper; first | (rw [if_pos (by decide +kernel)]; kernel_rfl) | (rw [if_neg (by decide +kernel)]; exact ⟨rfl, rfl⟩))
    (fun os started H enc _ => topkCommutes_lifted os started H enc)
theorem topkCommutes_holds : Rows.TopkCommutesSaid := topkCommutes_over

end Go.Proofs.Ytnckgbmifigadaa
