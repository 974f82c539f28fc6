/- Topk: the law's made, of whose result the form is told. -/
import Derived.Test.YtnckgbmifigadaaZTkE
import Derived.Test.YtnckgbmifigadaaZTkI
import Derived.Test.YtnckgbmifigadaaZFrH
set_option linter.unusedSimpArgs false
set_option linter.unusedVariables false
namespace Go.Proofs.Ytnckgbmifigadaa
open Go.RowKit Go.Avm
def rowJt (z : Int) : List D := [.sc (.int .i64 z)]
end Go.Proofs.Ytnckgbmifigadaa
