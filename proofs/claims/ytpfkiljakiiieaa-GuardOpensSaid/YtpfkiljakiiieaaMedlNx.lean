/- A node's next slot, as printed. -/
import Derived.Test.YtpfkiljakiiieaaMedl
import Derived.Test.YtpfkiljakiiieaaPrint0
import Derived.Test.YtpfkiljakiiieaaPrint7
set_option linter.unusedVariables false
set_option linter.unusedSimpArgs false
namespace Go.Proofs.Ytpfkiljakiiieaa.Medl
open Go.RowKit Go.Proofs.Ytpfkiljakiiieaa.Print Go.Proofs.YtpfkiljakiiieaaW.PrintWords Go.Proofs.YtpfkiljakiiieaaW.PrintLast Go.Proofs.YtpfkiljakiiieaaW.PrintMore
section
variable {n s l f w : Int}
/-- The next slot of a node that owns 'node'. -/
def nx (n x node : Int) : Int := x + (if node - x % n ≤ 0 then node - x % n + n else node - x % n)
theorem nx_range (h : Ok n s l f w) {x node : Int} (h0 : 0 ≤ x) (ha : 0 ≤ node) (hb : node < n) : x < nx n x node ∧ nx n x node ≤ x + n := by
  have hm := mod_lt h h0
  unfold nx
  split <;> omega
theorem nx_mod (h : Ok n s l f w) {x node : Int} (h0 : 0 ≤ x) (ha : 0 ≤ node) (hb : node < n) : nx n x node % n = node := by
  have hm := mod_lt h h0
  have e := Int.mul_ediv_add_emod x n
  have hnode : node % n = node := Int.emod_eq_of_lt ha hb
  unfold nx
  split
  · have : x + (node - x % n + n) = node + n * (x / n + 1) := by rw [Int.mul_add]; omega
    rw [this, Int.add_mul_emod_self_left, hnode]
  · have : x + (node - x % n) = node + n * (x / n) := by omega
    rw [this, Int.add_mul_emod_self_left, hnode]
theorem nx_again {z node : Int} (m : z % n = node) : nx n z node = z + n := by
  unfold nx
  rw [m, if_pos (by omega)]
  omega
theorem next_ok (h : Ok n s l f w) (k : Nat) {x node : Int} (h0 : 0 ≤ x) (hx : x ≤ 4294967296) (ha : 0 ≤ node) (hb : node < n) :
    medl_Next.f (k + 1) n s l f w x node = some (if nx n x node > 4294967296 then (0, 2) else (nx n x node, 0)) := by
  have hn := h.1
  have hn2 := h.2.1
  have hm := mod_lt h h0
  unfold medl_Next.f
  rw [owner_ok h h0 hx]
  simp only [Option.bind_some, if_true]
  rw [if_neg (by omega), decide_eq_false (by omega)]
  simp only [medl_Next.j0]
  rw [if_neg (by decide), w64 (x := node - x % n) (by omega) (by omega)]
  by_cases hc : node - x % n ≤ 0
  · rw [if_pos hc, w64 (by omega) (by omega), u64 (x := node - x % n + n) (by omega) (by omega), u64 (by omega) (by omega)]
    unfold nx
    rw [if_pos hc]
    split <;> rfl
  · rw [if_neg hc, u64 (x := node - x % n) (by omega) (by omega), u64 (by omega) (by omega)]
    unfold nx
    rw [if_neg hc]
    split <;> rfl
theorem next_no (k : Nat) {x node : Int} (h : ¬ (Ok n s l f w ∧ x ≤ 4294967296 ∧ 0 ≤ node ∧ node < n)) (h0 : 0 ≤ x) : medl_Next.f (k + 1) n s l f w x node = some (0, 1) := by
  unfold medl_Next.f
  by_cases h1 : Ok n s l f w ∧ x ≤ 4294967296
  · rw [owner_ok h1.1 h0 h1.2]
    simp only [Option.bind_some, if_true]
    by_cases hneg : node < 0
    · rw [if_pos hneg]
      simp [medl_Next.j0]
    · rw [if_neg hneg, decide_eq_true (by have := h1.1; by_cases hh : node < n; exact absurd ⟨h1.1, h1.2, by omega, hh⟩ h; omega)]
      simp [medl_Next.j0]
  · rw [owner_no h1]
    simp [medl_Next.j0]
end
end Go.Proofs.Ytpfkiljakiiieaa.Medl
