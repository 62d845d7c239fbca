/- The nearest number of slots: what it is. -/
import Derived.Test.YtpfkiljakiiieaaGuard
import Derived.Test.YtpfkiljakiiieaaPrint0
set_option linter.unusedVariables false
namespace Go.Proofs.Ytpfkiljakiiieaa.Medl
theorem near_all {S far : Int} (h1 : 1 ≤ S) : (near S far).1 * S + (near S far).2 = far := by
  have e := Int.mul_ediv_add_emod far S
  unfold near
  split
  · show (far / S + 1) * S + (far % S - S) = far
    rw [Int.add_mul, Int.mul_comm (far / S) S]
    omega
  · show (far / S) * S + far % S = far
    rw [Int.mul_comm (far / S) S]
    omega
theorem near_half {S far : Int} (h1 : 1 ≤ S) : 2 * (near S far).2 < S ∧ -S ≤ 2 * (near S far).2 := by
  have hm0 : 0 ≤ far % S := Int.emod_nonneg _ (by omega)
  have hm1 : far % S < S := Int.emod_lt_of_pos _ (by omega)
  unfold near
  split
  · show 2 * (far % S - S) < S ∧ -S ≤ 2 * (far % S - S)
    omega
  · show 2 * (far % S) < S ∧ -S ≤ 2 * (far % S)
    omega
theorem near_next {S far : Int} (h1 : 1 ≤ S) : near S (far + S) = ((near S far).1 + 1, (near S far).2) := by
  have e1 : (far + S) % S = far % S := Int.add_emod_right ..
  have e2 : (far + S) / S = far / S + 1 := Int.add_ediv_of_dvd_right (Int.dvd_refl S) |>.trans (by rw [Int.ediv_self (by omega)])
  unfold near
  rw [e1, e2]
  split <;> rfl
/-- The other way round: what is so many slots, and little more or less, is that. -/
theorem near_of {S q r : Int} (h1 : 1 ≤ S) (h2 : 2 * r < S) (h3 : -S ≤ 2 * r) : near S (q * S + r) = (q, r) := by
  have ha := near_all (S := S) (far := q * S + r) h1
  have hb := near_half (S := S) (far := q * S + r) h1
  generalize near S (q * S + r) = x at *
  obtain ⟨a, b⟩ := x
  have ha : a * S + b = q * S + r := ha
  have hb : 2 * b < S ∧ -S ≤ 2 * b := hb
  have e : (a - q) * S = r - b := by rw [Int.sub_mul]; omega
  have hq : a = q := by
    rcases Int.lt_trichotomy a q with h | h | h
    · have := Int.mul_le_mul_of_nonneg_right (show a - q ≤ -1 by omega) (show 0 ≤ S by omega)
      omega
    · exact h
    · have := Int.mul_le_mul_of_nonneg_right (show 1 ≤ a - q by omega) (show 0 ≤ S by omega)
      omega
  subst hq
  rw [Int.sub_self, Int.zero_mul] at e
  congr 1
  omega
end Go.Proofs.Ytpfkiljakiiieaa.Medl
