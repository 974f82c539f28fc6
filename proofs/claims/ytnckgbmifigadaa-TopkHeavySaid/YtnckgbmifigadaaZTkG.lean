/- Topk: the law's spoil, of whose result only the size is told. -/
import Derived.Test.YtnckgbmifigadaaZTkI
import Derived.Test.YtnckgbmifigadaaZFrH
set_option linter.unusedSimpArgs false
set_option linter.unusedVariables false
namespace Go.Proofs.Ytnckgbmifigadaa
open Go.RowKit Go.Avm
structure SmallT (t : Tk) : Prop where
  len : t.ents.length ≤ 5
  keys : ∀ x ∈ t.ents, x.key.size ≤ 1000000000
end Go.Proofs.Ytnckgbmifigadaa
