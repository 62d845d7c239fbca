/- What the arguments of this seat's laws tell: printed by a program of this session (row2.py). -/
import Derived.Test.YtnmepjpjpillcaaGen
import Derived.Test.YtnmepjpjpillcaaPrint0
set_option linter.unusedVariables false
namespace Go.Proofs.Ytnmepjpjpillcaa.Opens
open Go.RowKit Go.Proofs.YtnmepjpjpillcaaX Go.Proofs.YtnmepjpjpillcaaW.PrintWords Go.Proofs.Ytnmepjpjpillcaa.Print
end Go.Proofs.Ytnmepjpjpillcaa.Opens
