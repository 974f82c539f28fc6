/- The abstract machine, parts ZL to ZL. -/
import Derived.Test.YtnckgbmifigadaaZAvmS
/- The abstract machine, part ZL: what is handed back may be named by a box that was handed in. -/
namespace Go.Avm
set_option linter.unusedVariables false
set_option linter.unusedSimpArgs false
open Go.RowKit
section
variable {P : Program} {ds : List (Option Nat)} {Q : Exit → St → Prop} {σ σ' : St} {l : List Oper} {op op2 : Op} {ty ty2 ty' : TypeId} {pos pos2 pos' : String} {af af2 af' : Array Edge} {i ta t1 t2 t3 : Nat} {b b' : Bool} {d : D}
end
end Go.Avm
