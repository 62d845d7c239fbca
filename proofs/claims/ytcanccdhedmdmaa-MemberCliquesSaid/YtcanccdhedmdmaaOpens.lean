/- What the arguments of this seat's laws tell: printed by a program of this session (row2.py). -/
import Derived.Test.YtcanccdhedmdmaaGen
import Derived.Test.YtcanccdhedmdmaaPrint0
set_option linter.unusedVariables false
namespace Go.Proofs.Ytcanccdhedmdmaa.Opens
open Go.RowKit Go.Proofs.YtcanccdhedmdmaaX Go.Proofs.YtcanccdhedmdmaaW.PrintWords Go.Proofs.Ytcanccdhedmdmaa.Print
end Go.Proofs.Ytcanccdhedmdmaa.Opens
