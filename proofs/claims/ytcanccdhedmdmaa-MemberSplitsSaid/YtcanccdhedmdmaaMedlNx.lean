/- A node's next slot, as printed. -/
import Derived.Test.YtcanccdhedmdmaaMedl
import Derived.Test.YtcanccdhedmdmaaPrint0
set_option linter.unusedVariables false
set_option linter.unusedSimpArgs false
namespace Go.Proofs.Ytcanccdhedmdmaa.Medl
open Go.RowKit Go.Proofs.Ytcanccdhedmdmaa.Print Go.Proofs.YtcanccdhedmdmaaW.PrintWords Go.Proofs.YtcanccdhedmdmaaW.PrintLast Go.Proofs.YtcanccdhedmdmaaW.PrintMore
section
variable {n s l f w : Int}
/-- The next slot of a node that owns 'node'. -/
def nx (n x node : Int) : Int := x + (if node - x % n ≤ 0 then node - x % n + n else node - x % n)
theorem nx_range (h : Ok n s l f w) {x node : Int} (h0 : 0 ≤ x) (ha : 0 ≤ node) (hb : node < n) : x < nx n x node ∧ nx n x node ≤ x + n := by
  have hm := mod_lt h h0
  unfold nx
  split <;> omega
theorem nx_mod (h : Ok n s l f w) {x node : Int} (h0 : 0 ≤ x) (ha : 0 ≤ node) (hb : node < n) : nx n x node % n = node := by
  have hm := mod_lt h h0
  have e := Int.mul_ediv_add_emod x n
  have hnode : node % n = node := Int.emod_eq_of_lt ha hb
  unfold nx
  split
  · have : x + (node - x % n + n) = node + n * (x / n + 1) := by rw [Int.mul_add]; omega
    rw [this, Int.add_mul_emod_self_left, hnode]
  · have : x + (node - x % n) = node + n * (x / n) := by omega
    rw [this, Int.add_mul_emod_self_left, hnode]
theorem nx_again {z node : Int} (m : z % n = node) : nx n z node = z + n := by
  unfold nx
  rw [m, if_pos (by omega)]
  omega
end
end Go.Proofs.Ytcanccdhedmdmaa.Medl
