/- The walks of the chain's and the reference's functions that copy and compare lists of versions. -/
import Derived.Test.YtmgodadmafcliaaRChB
set_option linter.unusedSimpArgs false
set_option linter.unusedVariables false
namespace Go.Proofs.Ytmgodadmafcliaa
open Go.RowKit Go.Avm
-- CON slices.Clone[[]int,int] | clone_ints ?_ | 1
-- CON sketchstore/chain.copied | copied_calls ?_ ?_ | 1
-- CON sketchstore/sketchstoreref14.SameVersion | samev_calls ?_ ?_ | 0
-- CON sketchstore/sketchstoreref14.SameChain | samec_calls ?_ ?_ ?_ ?_ | 0
end Go.Proofs.Ytmgodadmafcliaa
