/- Directory: the walk of List of the reference. -/
import Derived.Test.YtpopgpjojbngcaaDiK
set_option linter.unusedSimpArgs false
set_option linter.unusedVariables false
namespace Go.Proofs.Ytpopgpjojbngcaa
open Go.RowKit Go.Avm Go.Sort
end Go.Proofs.Ytpopgpjojbngcaa
