/- Plain facts on tallies (layer 10), as printed. -/
import Derived.IntWalk
import Derived.Test.YtcanccdhedmdmaaPrint0
import Derived.Test.YtcanccdhedmdmaaPrint6
set_option linter.unusedVariables false
set_option linter.unusedSimpArgs false
namespace Go.Proofs.Ytcanccdhedmdmaa.Mem
open Go.RowKit Go.Proofs.Ytcanccdhedmdmaa.Print Go.Proofs.YtcanccdhedmdmaaW.PrintWords Go.Proofs.YtcanccdhedmdmaaW.PrintLast Go.Proofs.YtcanccdhedmdmaaW.PrintMore
theorem w64 {x : Int} (h : -9223372036854775808 ≤ x) (h2 : x ≤ 9223372036854775807) : wrap64 x = x := by unfold wrap64; omega
theorem count_eq {k : Nat} {g b v : Int} (hk : 2 ≤ k) (g0 : 0 ≤ g) (g1 : g < 1073741824) (b0 : 0 ≤ b) (b1 : b < 1073741824) (v0 : 0 ≤ v) (v1 : v ≤ 3) : member_Count.f k g b v = some (if v = 1 ∨ v = 2 then (g + 1, b, 0) else if v = 3 then (g, b + 1, 0) else (g, b, 0)) := by
  obtain ⟨k, rfl⟩ : ∃ m, k = m + 2 := ⟨k - 2, by omega⟩
  have m1 : ¬ mn g b < 0 := by unfold mn; split <;> omega
  have m2 : ¬ mx g b > 1073741824 := by unfold mx; split <;> omega
  have e1 : mn (wrap64 (g + 1)) 1073741824 = g + 1 := by rw [w64 (by omega) (by omega)]; unfold mn; split <;> omega
  have e2 : mn (wrap64 (b + 1)) 1073741824 = b + 1 := by rw [w64 (by omega) (by omega)]; unfold mn; split <;> omega
  unfold member_Count.f
  rw [if_neg m1, decide_eq_false m2]
  simp only [member_Count.j0, member_Count.j1, e1, e2]
  have : v = 0 ∨ v = 1 ∨ v = 2 ∨ v = 3 := by omega
  rcases this with rfl | rfl | rfl | rfl <;> simp
end Go.Proofs.Ytcanccdhedmdmaa.Mem
