/- What the arguments of this seat's laws tell: printed by a program of this session (row2.py). -/
import Derived.Test.YtjohinenaamdcaaGen
import Derived.Test.YtjohinenaamdcaaPrint0
set_option linter.unusedVariables false
namespace Go.Proofs.Ytjohinenaamdcaa.Opens
open Go.RowKit Go.Proofs.YtjohinenaamdcaaX Go.Proofs.YtjohinenaamdcaaW.PrintWords Go.Proofs.Ytjohinenaamdcaa.Print
end Go.Proofs.Ytjohinenaamdcaa.Opens
