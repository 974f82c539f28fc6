/- Topk: the walk of Merge of the program. -/
import Derived.Test.YtnckgbmifigadaaZTkD
import Derived.Test.YtnckgbmifigadaaZTkM
import Derived.Test.YtnckgbmifigadaaZAvmT
set_option linter.unusedSimpArgs false
set_option linter.unusedVariables false
namespace Go.Proofs.Ytnckgbmifigadaa
open Go.RowKit Go.Avm
def cellsT (t : Tk) : List D := [.sc (.int .i64 t.size), .sc (.int .i64 t.total), .sl 3 (t.ents.map rowE), .sc (.bool t.sat)]
end Go.Proofs.Ytnckgbmifigadaa
