/- What the arguments of this seat's laws tell: printed by a program of this session (row2.py). -/
import Derived.Test.YtcbjbgleflbpmaaDoorGen
import Derived.Test.YtcbjbgleflbpmaaDoorPrint0
set_option linter.unusedVariables false
namespace Go.Proofs.YtcbjbgleflbpmaaDoor.Opens
open Go.RowKit Go.Proofs.YtcbjbgleflbpmaaDoorX Go.Proofs.YtcbjbgleflbpmaaDoorW.PrintWords Go.Proofs.YtcbjbgleflbpmaaDoor.Print
end Go.Proofs.YtcbjbgleflbpmaaDoor.Opens
