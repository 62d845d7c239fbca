/- What the arguments of this seat's laws tell: printed by a program of this session (row2.py). -/
import Derived.Test.YtcbjbgleflbpmaaGen
import Derived.Test.YtcbjbgleflbpmaaPrint0
set_option linter.unusedVariables false
namespace Go.Proofs.Ytcbjbgleflbpmaa.Opens
open Go.RowKit Go.Proofs.YtcbjbgleflbpmaaX Go.Proofs.YtcbjbgleflbpmaaW.PrintWords Go.Proofs.Ytcbjbgleflbpmaa.Print
end Go.Proofs.Ytcbjbgleflbpmaa.Opens
