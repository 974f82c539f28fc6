/- Topk: the walks of InsertTop and FindTop of the reference. -/
import Derived.Test.YtnckgbmifigadaaZTkD
set_option linter.unusedSimpArgs false
set_option linter.unusedVariables false
namespace Go.Proofs.Ytnckgbmifigadaa
open Go.RowKit Go.Avm
end Go.Proofs.Ytnckgbmifigadaa
