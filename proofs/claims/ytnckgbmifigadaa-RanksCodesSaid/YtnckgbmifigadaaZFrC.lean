/- Frequent: the walks of Validate, of the program and of the reference. -/
import Derived.Test.YtnckgbmifigadaaZFrB
set_option linter.unusedSimpArgs false
set_option linter.unusedVariables false
namespace Go.Proofs.Ytnckgbmifigadaa
open Go.RowKit Go.Avm
end Go.Proofs.Ytnckgbmifigadaa
