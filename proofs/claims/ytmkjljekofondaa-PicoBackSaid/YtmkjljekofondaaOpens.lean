/- What the arguments of this seat's laws tell: printed by a program of this session (row2.py). -/
import Derived.Test.YtmkjljekofondaaGen
import Derived.Test.YtmkjljekofondaaPrint0
set_option linter.unusedVariables false
namespace Go.Proofs.Ytmkjljekofondaa.Opens
open Go.RowKit Go.Proofs.YtmkjljekofondaaX Go.Proofs.YtmkjljekofondaaW.PrintWords Go.Proofs.Ytmkjljekofondaa.Print
end Go.Proofs.Ytmkjljekofondaa.Opens
