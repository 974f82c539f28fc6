/- Frequent: the walks of Validate, of the program and of the reference. -/
import Derived.Test.YtnckgbmifigadaaFrB
set_option linter.unusedSimpArgs false
set_option linter.unusedVariables false
namespace Go.Proofs.Ytnckgbmifigadaa
open Go.RowKit Go.Avm
theorem validE_more {prev : Option En} {v : En} {l : List En} (hk : keyOk v.key = true) (h1 : 1 ≤ v.count) (h2 : v.count ≤ 1099511627776) (h3 : v.err = 0) (hp : ∀ u, prev = some u → Op.bytesLess v.key.toList u.key.toList = false ∧ ¬ v.key.toList = u.key.toList) : validE prev (v :: l) = validE (some v) l := by
  have hr : ¬ (v.count < 1 ∨ 1099511627776 < v.count ∨ v.err ≠ 0) := by omega
  cases prev with
  | none => simp only [validE, hk, hr, if_false, Bool.true_eq_false]
  | some u =>
    obtain ⟨g1, g2⟩ := hp u rfl
    have hq : ¬ (Op.bytesLess v.key.toList u.key.toList = true ∨ v.key.toList = u.key.toList) := by simp [g1, g2]
    simp only [validE, hk, hr, hq, if_false, Bool.true_eq_false]
-- CON sketchstore/frequent.Validate | validf_calls ?_ ?_ | 0
end Go.Proofs.Ytnckgbmifigadaa
