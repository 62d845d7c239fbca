-- PRINTED by print.py (a twelfth state) out of the translation. Not trusted: Lean checks it.
import Derived.Test.YtcbjbgleflbpmaaDoorPrint0
namespace Go.Proofs.YtcbjbgleflbpmaaDoor.Print
open Go.RowKit Go.Proofs.YtcbjbgleflbpmaaDoorW.PrintWords Go.Proofs.YtcbjbgleflbpmaaDoorW.PrintLast Go.Proofs.YtcbjbgleflbpmaaDoorW.PrintMore Go.Proofs.YtcbjbgleflbpmaaDoorX
attribute [local go_sem] str_lss str_geq max2_int min2_int max_two min_two max_three min_three max_four min_four   -- for this text's walks alone
set_option linter.unusedVariables false
set_option linter.unusedSimpArgs false

theorem eqA98 (d : Nat) (w : World) (x0 y0 : Bool) (x1 y1 : Bool) :
  (Op.equalIn (d + 2) 98 (.agg #[.bool x0, .bool x1]) (.agg #[.bool y0, .bool y1])).run Tryd.prog w = .ok (x0 == y0 && (x1 == y1)) w := by
 cases x0 <;> cases x1 <;> cases y0 <;> cases y1 <;>  kernel_rfl
end Go.Proofs.YtcbjbgleflbpmaaDoor.Print
