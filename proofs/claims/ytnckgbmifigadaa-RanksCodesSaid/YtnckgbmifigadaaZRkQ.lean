/- RanksInserts: New, Insert and Validate of the program give what the reference gives, for any summary that the law builds. -/
import Derived.Test.YtnckgbmifigadaaZRkO
import Derived.Test.YtnckgbmifigadaaZRkL
set_option linter.unusedSimpArgs false
set_option linter.unusedVariables false
namespace Go.Proofs.Ytnckgbmifigadaa
open Go.RowKit Go.Avm Go.ChangeShapes Go.WideShapes Go.ChangeAt
theorem u8_wfR {z : Int} (h : (Lit.int .u8 z).wf = true) : 0 ≤ z ∧ z ≤ 255 := by
  revert h; simp [Lit.wf, IntKind.min, IntKind.max, IntKind.bits, IntKind.signed]
set_option maxRecDepth 100000 in set_option maxHeartbeats 3200000 in
theorem short2_calls {c : List Int} : ACalls Try.prog 28 [.sl 1 (c.map fun z => [.sc (.int .u8 z)])] (.sc (.bool (decide (c.length ≤ 100)))) [] := by
  refine of_tri [] [] Try.func28 rfl call28 rfl (by decide) (by decide) rfl rfl Try.ntmps28 (by simp (disch := omega) only [seval,go_sem,cnd,intV,shV,convV,strV,List.replicate,List.zip_nil_left,List.zip_cons_cons];rfl) (by simp (disch := omega) only [seval,go_sem,cnd,intV,shV,convV,strV,List.zip_nil_left,List.zip_cons_cons];rfl) ?_
  ((repeat' (first|(with_reducible refine isRet ?_;refine RetV (rs := [.tmp 2]) (by with_unfolding_all rfl) rfl ?_ <;> simp only [seval,go_sem] <;> (repeat' (with_reducible apply And.intro)) <;> (try rfl))|(with_reducible (first|refine TVq (st := []) ?_))|simp only [seval,go_sem]|(with_reducible refine oV_st (by simp (disch := omega) only [seval,go_sem,cnd,intV,shV,convV,strV];rfl) ?_))) <;> (try (fail)))
  all_goals exact decide_eq_decide.2 (by omega)
end Go.Proofs.Ytnckgbmifigadaa
