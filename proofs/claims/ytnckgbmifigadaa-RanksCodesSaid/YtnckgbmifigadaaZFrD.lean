/- Frequent: the walk of the reference's Validate. -/
import Derived.Test.YtnckgbmifigadaaZFrC
set_option linter.unusedSimpArgs false
set_option linter.unusedVariables false
namespace Go.Proofs.Ytnckgbmifigadaa
open Go.RowKit Go.Avm
end Go.Proofs.Ytnckgbmifigadaa
