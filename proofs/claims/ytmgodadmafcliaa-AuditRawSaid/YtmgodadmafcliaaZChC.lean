/- The walks of the chain's and the reference's functions that copy and compare lists of versions. -/
import Derived.Test.YtmgodadmafcliaaZChB
set_option linter.unusedSimpArgs false
set_option linter.unusedVariables false
namespace Go.Proofs.Ytmgodadmafcliaa
open Go.RowKit Go.Avm
end Go.Proofs.Ytmgodadmafcliaa
