/- RanksOrder: the law of the walk in RkXo. -/
import Derived.Test.YtnckgbmifigadaaZRkXo
set_option linter.unusedSimpArgs false
set_option linter.unusedVariables false
namespace Go.Proofs.Ytnckgbmifigadaa
open Go.RowKit Go.Avm Go.ChangeShapes Go.WideShapes Go.ChangeAt
theorem ranksOrder_own : ownKnob Try.prog.godebug = none := by kernel_rfl
theorem ranksOrder_laid : laidOutB Try.prog = true := by kernel_rfl
set_option maxRecDepth 100000 in
theorem ranksOrder_lifted (os : Os) (started : os.Started) (H : Type) (enc : TypeId × Value → H) :
    ReturnsInHanded {} Try.checked os 13 .any (Rows.ranksOrderSpec.pre6 enc Try.prog Try.f13 Rows.ranksOrderRow.domain false) (Rows.ranksOrderSpec.post enc Try.prog Try.f13 false true false false) := by
  refine returnsInHanded_of_change (C := Try.checked) ranksOrder_own started (by kernel_rfl) Try.func13
    (ChangeSpec.witness6 (enc := enc) (C := Try.checked) false ⟨#[], #[.int .i64 0, .slice none 0 0, .slice none 0 0, .int .i64 0, .int .i64 0, .int .i64 0], []⟩ 8 (by kernel_rfl) (by kernel_rfl) (by kernel_rfl) (by kernel_rfl)) ?_
  intro W base args ds gs before hval0 hW hcnd _
  have hval : ∀ (j : Nat) t v, Try.f13.params[j]? = some t → args[j]? = some v → Value.okWide Try.prog W .any base t v := hval0
  have hW' := hW
  obtain ⟨p, q, hA0, hV, rfl, hfz, hnd⟩ := hW
  have hA : DataW.TrodAll enc Try.prog W 0 (fun _ => true) true Try.f13.params.toList args.toList ds p := hA0
  rw [Try.params13] at hA hval
  obtain ⟨v0, vs0, d0, ds0, p0, q0, hargs, rfl, rfl, h0, r0⟩ := trodAll_cons hA
  obtain ⟨v1, vs1, d1, ds1, p1, q1, rfl, rfl, rfl, h1, r1⟩ := trodAll_cons r0
  obtain ⟨v2, vs2, d2, ds2, p2, q2, rfl, rfl, rfl, h2, r2⟩ := trodAll_cons r1
  obtain ⟨v3, vs3, d3, ds3, p3, q3, rfl, rfl, rfl, h3, r3⟩ := trodAll_cons r2
  obtain ⟨v4, vs4, d4, ds4, p4, q4, rfl, rfl, rfl, h4, r4⟩ := trodAll_cons r3
  obtain ⟨v5, vs5, d5, ds5, p5, q5, rfl, rfl, rfl, h5, r5⟩ := trodAll_cons r4
  obtain ⟨rfl, rfl, rfl⟩ := trodAll_nil r5
  obtain rfl : args = #[v0, v1, v2, v3, v4, v5] := by cases args; simp_all
  obtain ⟨a0, x0, w0⟩ := arg_int Try.underlying3 (hval 0 3 v0 rfl rfl) h0
  obtain ⟨a1, x1, w1, l1⟩ := arg_ints Try.underlying22 Try.underlying3 (by kernel_rfl) (hval 1 22 v1 rfl rfl) h1
  obtain ⟨a2, x2, w2, l2⟩ := arg_ints Try.underlying46 Try.underlying5 (by kernel_rfl) (hval 2 46 v2 rfl rfl) h2
  obtain ⟨a3, x3, w3⟩ := arg_int Try.underlying3 (hval 3 3 v3 rfl rfl) h3
  obtain ⟨a4, x4, w4⟩ := arg_int Try.underlying3 (hval 4 3 v4 rfl rfl) h4
  obtain ⟨a5, x5, w5⟩ := arg_int Try.underlying3 (hval 5 3 v5 rfl rfl) h5
  exact law_step (xs := [.sc (.int .i64 a0),.sl 1 (a1.map fun z => [.sc (.int .i64 z)]),.sl 1 (a2.map fun z => [.sc (.int .u8 z)]),.sc (.int .i64 a3),.sc (.int .i64 a4),.sc (.int .i64 a5)]) hW' rfl ranksOrder_laid (by kernel_rfl) (fun gs' h => by subst h;rfl) rfl Try.underlying4 (by simp only [RL];exact ⟨_,_,rfl,x0,⟨_,_,rfl,x1,⟨_,_,rfl,x2,⟨_,_,rfl,x3,⟨_,_,rfl,x4,⟨_,_,rfl,x5,rfl⟩⟩⟩⟩⟩⟩) (ranksOrder_calls (c := a2) (fun z hz => u8_wfR (w2 z hz)))
theorem ranksOrder_over : Rows.ranksOrderRow.holds Try.pinned (OpenSpec.ofChange Rows.ranksOrderSpec) :=
  OpenClaim.holds_of_wide 13 Try.f13 rfl rfl rfl rfl rfl rfl rfl ⟨rfl, rfl, rfl, rfl, rfl⟩ rfl rfl rfl rfl rfl (by kernel_rfl) Try.func13 (by kernel_rfl)
    (of_decide_eq_true (by kernel_rfl)) (by unfold Func.isWrapper; first | (rw [if_pos (by decide +kernel)]; kernel_rfl) | (rw [if_neg (by decide +kernel)]; exact ⟨rfl, rfl⟩))
    (fun os started H enc _ => ranksOrder_lifted os started H enc)
theorem ranksOrder_holds : Rows.RanksOrderSaid := ranksOrder_over

end Go.Proofs.Ytnckgbmifigadaa
