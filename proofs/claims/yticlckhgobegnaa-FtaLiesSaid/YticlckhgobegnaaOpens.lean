/- What the arguments of this seat's laws tell: printed by a program of this session (row2.py). -/
import Derived.Test.YticlckhgobegnaaGen
import Derived.Test.YticlckhgobegnaaPrint0
set_option linter.unusedVariables false
namespace Go.Proofs.Yticlckhgobegnaa.Opens
open Go.RowKit Go.Proofs.YticlckhgobegnaaX Go.Proofs.YticlckhgobegnaaW.PrintWords Go.Proofs.Yticlckhgobegnaa.Print
end Go.Proofs.Yticlckhgobegnaa.Opens
