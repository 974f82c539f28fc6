/- TopkInserts: New, Insert and Validate of the program give what the reference gives, for any summary that the law builds. -/
import Derived.Test.YtnckgbmifigadaaZTkF
import Derived.Test.YtnckgbmifigadaaZTkJ
import Derived.Test.YtnckgbmifigadaaZTkG
set_option linter.unusedSimpArgs false
set_option linter.unusedVariables false
namespace Go.Proofs.Ytnckgbmifigadaa
open Go.RowKit Go.Avm Go.ChangeShapes Go.WideShapes Go.ChangeAt
theorem madet_small {t : Tk} {n : Int} (h : validT t = 0 ∧ t.size = 1 + n % 4) : t.ents.length ≤ 4 ∧ ∀ x ∈ t.ents, x.key.size ≤ 1000000000 := by
  obtain ⟨⟨s1, s2⟩, ⟨t1, t2⟩, l1, ok⟩ := validT_iff.1 h.1
  exact ⟨by omega, fun x hx => by have := keyOk_sizeT (ok.range x hx).1; omega⟩
end Go.Proofs.Ytnckgbmifigadaa
