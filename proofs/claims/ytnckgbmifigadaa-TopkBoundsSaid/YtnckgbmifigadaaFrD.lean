/- Frequent: the walk of the reference's Validate. -/
import Derived.Test.YtnckgbmifigadaaFrC
set_option linter.unusedSimpArgs false
set_option linter.unusedVariables false
namespace Go.Proofs.Ytnckgbmifigadaa
open Go.RowKit Go.Avm
theorem validE_five {prev : Option En} {v : En} {l : List En} (hk : keyOk v.key = true) (h : v.count < 1 ∨ 1099511627776 < v.count ∨ v.err ≠ 0) : validE prev (v :: l) = 5 := by
  simp only [validE, hk, h, if_true, if_false, Bool.true_eq_false]
-- CON sketchstore/sketchstoreref6.ValidateFrequent | rvalidf_calls ?_ ?_ | 0
end Go.Proofs.Ytnckgbmifigadaa
