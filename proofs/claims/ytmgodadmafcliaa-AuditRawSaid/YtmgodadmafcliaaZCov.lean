/- The walks of Covers, of the program and of the reference. -/
import Derived.Test.YtmgodadmafcliaaZBase
set_option linter.unusedSimpArgs false
set_option linter.unusedVariables false
namespace Go.Proofs.Ytmgodadmafcliaa
open Go.RowKit Go.Avm
structure Pn where
  commit : Int
  count : Int
  deriving DecidableEq
def rowP (p : Pn) : List D := [.sc (.int .i64 p.commit), .sc (.int .i64 p.count)]
def coversP (f t : Int) : List Pn → Bool
  | [] => false
  | p :: l => if f ≤ p.commit ∧ (p.commit < t ∨ t = 0) then true else coversP f t l
end Go.Proofs.Ytmgodadmafcliaa
