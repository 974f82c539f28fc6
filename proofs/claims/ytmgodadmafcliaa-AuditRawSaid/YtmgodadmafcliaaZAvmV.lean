/- The abstract machine, parts ZR to ZR. -/
import Derived.Test.YtmgodadmafcliaaZAvmU
/- The abstract machine, part ZR: the rules of a nest under two names (what is worked out ahead of its parts, and behind them). -/
namespace Go.Avm
set_option linter.unusedVariables false
set_option linter.unusedSimpArgs false
open Go.RowKit
end Go.Avm
