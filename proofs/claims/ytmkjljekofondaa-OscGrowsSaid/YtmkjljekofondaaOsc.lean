/- Plain facts on oscillators (layer 6), as printed. -/
import Derived.Test.YtmkjljekofondaaMedl
import Derived.Test.YtmkjljekofondaaDiv64
import Derived.Laws.MathBits
import Derived.Test.YtmkjljekofondaaPrint0
import Derived.Test.YtmkjljekofondaaPrint2
import Derived.Test.YtmkjljekofondaaPrint4
set_option linter.unusedVariables false
set_option linter.unusedSimpArgs false
namespace Go.Proofs.Ytmkjljekofondaa.Osc
open Go.RowKit Go.Proofs.Ytmkjljekofondaa.Print Go.Proofs.YtmkjljekofondaaW.PrintWords Go.Proofs.YtmkjljekofondaaW.PrintLast Go.Proofs.YtmkjljekofondaaW.PrintMore Go.Proofs.Ytmkjljekofondaa.Medl Go.Proofs.Ytmkjljekofondaa.Div64
theorem mul64_eq {a b : Int} (a0 : 0 ≤ a) (a1 : a < 18446744073709551616) (b0 : 0 ≤ b) (b1 : b < 18446744073709551616) : bits_Mul64.f a b = some (a * b / 18446744073709551616, a * b % 18446744073709551616) := by
  unfold bits_Mul64.f
  have h := mul64_arith a b a0 a1 b0 b1
  have e : ∀ x : Int, Go.bits .and .u64 (IntKind.u64.wrap x) 4294967295 = (x % 18446744073709551616) % 4294967296 := fun x => by
    rw [uw, and32 (by omega) (by omega)]
  rw [e, and32 a0 a1, and32 b0 b1]
  simp only [uw]
  rw [h]
theorem addLo {x y : Int} (x0 : 0 ≤ x) (y0 : 0 ≤ y) : Go.Proofs.YtmkjljekofondaaX.add64Lo x y = (x + y) % 18446744073709551616 := by
  unfold Go.Proofs.YtmkjljekofondaaX.add64Lo
  rw [show Extern.MathBitsCarry.m64 = 18446744073709551616 from rfl]
  omega
theorem addHi {x y : Int} (x0 : 0 ≤ x) (y0 : 0 ≤ y) : Go.Proofs.YtmkjljekofondaaX.add64Hi x y = (x + y) / 18446744073709551616 := by
  unfold Go.Proofs.YtmkjljekofondaaX.add64Hi
  rw [show Extern.MathBitsCarry.m64 = 18446744073709551616 from rfl]
  omega
theorem and20 (a : Int) (h : -9223372036854775808 ≤ a ∧ a ≤ 9223372036854775807) : Go.bits .and .i64 a 1048575 = a % 1048576 := by
  show IntKind.i64.wrap ((BitVec.ofInt 64 a &&& BitVec.ofInt 64 1048575).toNat : Int) = _
  rw [BitVec.toNat_and, show (BitVec.ofInt 64 1048575).toNat = 2 ^ 20 - 1 by decide, Nat.and_two_pow_sub_one_eq_mod, BitVec.toNat_ofInt]
  simp only [IntKind.wrap, IntKind.bits, IntKind.signed]
  simp
  omega
/-- An oscillator that may be. -/
def Oc (p d r : Int) : Prop := 1 ≤ p ∧ p ≤ 1000000000 ∧ -1000000 ≤ d ∧ d ≤ 1000000 ∧ 0 ≤ r ∧ r < 1000000000
instance (p d r : Int) : Decidable (Oc p d r) := by unfold Oc; infer_instance
section
variable {p d r t : Int}
theorem ocheck (hd : -9223372036854775808 ≤ d ∧ d ≤ 9223372036854775807) : osc_Check.f p d r = some (if Oc p d r then 0 else 1) := by
  unfold osc_Check.f
  by_cases h1 : p < 1
  · rw [if_pos h1, if_neg (fun q => by have := q.1; omega)]
  rw [if_neg h1]
  by_cases h2 : p > 1000000000
  · rw [if_pos h2, if_neg (fun q => by have := q.2.1; omega)]
  rw [if_neg h2]
  by_cases h3 : mx d (wrap64 (-d)) > 1000000
  · rw [if_pos h3, if_neg (fun q => by
      obtain ⟨_, _, a, b, _⟩ := q
      rw [w64 (by omega) (by omega)] at h3
      unfold mx at h3
      split at h3 <;> omega)]
  rw [if_neg h3]
  by_cases h4 : d < -1000000
  · rw [if_pos h4, if_neg (fun q => by have := q.2.2.1; omega)]
  rw [if_neg h4]
  by_cases h5 : r < 0
  · rw [if_pos h5, if_neg (fun q => by have := q.2.2.2.2.1; omega)]
  rw [if_neg h5]
  by_cases h6 : r ≥ 1000000000
  · rw [if_pos h6, if_neg (fun q => by have := q.2.2.2.2.2; omega)]
  have h7 : d ≤ 1000000 := by
    unfold mx at h3
    split at h3 <;> omega
  rw [if_neg h6, if_pos ⟨by omega, by omega, by omega, h7, by omega, by omega⟩]
/-- Its rate. -/
def rt (p d : Int) : Int := p * (1000000000 + d)
theorem rt_bound (h : Oc p d r) : 999000000 * p ≤ rt p d ∧ rt p d ≤ 1001000000 * p := by
  obtain ⟨a1, a2, a3, a4, _⟩ := h
  unfold rt
  have e1 := Int.mul_le_mul_of_nonneg_left (show 999000000 ≤ 1000000000 + d by omega) (show 0 ≤ p by omega)
  have e2 := Int.mul_le_mul_of_nonneg_left (show 1000000000 + d ≤ 1001000000 by omega) (show 0 ≤ p by omega)
  omega
theorem rate_eq (hd : -9223372036854775808 ≤ d ∧ d ≤ 9223372036854775807) : osc_Rate.f p d r = some (if Oc p d r then (rt p d, 0) else (0, 1)) := by
  unfold osc_Rate.f
  rw [ocheck hd]
  by_cases h : Oc p d r
  · have b := rt_bound h
    obtain ⟨a1, a2, a3, a4, _⟩ := id h
    rw [if_pos h, if_pos h, Option.bind_some, if_pos rfl, w64 (x := 1000000000 + d) (by omega) (by omega)]
    unfold rt at *
    rw [w64 (by omega) (by omega)]
  · rw [if_neg h, if_neg h]
    rfl
/-- How long ticks take. -/
def run (p d r t : Int) : Int × Int × Int × Int × Int :=
  if Oc p d r ∧ 0 ≤ t ∧ t ≤ 1099511627776 then (if (rt p d * t + r) / 1000000000 > 1152921504606846976 then (0, 0, 0, 0, 2) else ((rt p d * t + r) / 1000000000, p, d, (rt p d * t + r) % 1000000000, 0)) else (0, 0, 0, 0, 1)
theorem lz30 : bits_LeadingZeros64.f 30 1000000000 = some 34 := by decide +kernel
theorem lz {k : Nat} (hk : 30 ≤ k) : bits_LeadingZeros64.f k 1000000000 = some ((34 : Nat) : Int) := at_rounds (fun k => bits_LeadingZeros64.mono _ k) hk lz30
theorem run_eq {k : Nat} (hk : 40 ≤ k) (hd : -9223372036854775808 ≤ d ∧ d ≤ 9223372036854775807) : osc_Run.f k p d r t = some (run p d r t) := by
  obtain ⟨k, rfl⟩ : ∃ j, k = j + 1 := ⟨k - 1, by omega⟩
  unfold osc_Run.f run
  rw [rate_eq hd, Option.bind_some]
  have no : ∀ q : Int, osc_Run.j0 (k + 1) t q true p d r = some (0, 0, 0, 0, 1) := fun q => by simp [osc_Run.j0]
  by_cases h : Oc p d r
  case neg =>
    have hr : ¬ (Oc p d r ∧ 0 ≤ t ∧ t ≤ 1099511627776) := fun q => h q.1
    rw [if_neg h, if_neg hr, if_neg (show ¬ (0, 1).2 = (0 : Int) by decide), no]
  rw [if_pos h, if_pos rfl]
  by_cases h1 : t < 0
  · have hr : ¬ (Oc p d r ∧ 0 ≤ t ∧ t ≤ 1099511627776) := fun q => by have := q.2.1; omega
    rw [if_pos h1, if_neg hr, no]
  rw [if_neg h1]
  by_cases h2 : t > 1099511627776
  · have hr : ¬ (Oc p d r ∧ 0 ≤ t ∧ t ≤ 1099511627776) := fun q => by have := q.2.2; omega
    rw [decide_eq_true h2, if_neg hr, no]
  have hr : Oc p d r ∧ 0 ≤ t ∧ t ≤ 1099511627776 := ⟨h, by omega, by omega⟩
  have b := rt_bound h
  obtain ⟨a1, a2, a3, a4, a5, a6⟩ := id h
  rw [decide_eq_false h2, if_pos hr]
  simp only [osc_Run.j0]
  have z0 : 0 ≤ rt p d * t := Int.mul_nonneg (by omega) (by omega)
  have z1 : rt p d * t ≤ 1001000000000000000 * 1099511627776 := Int.mul_le_mul (by omega) (by omega) (by omega) (by omega)
  rw [if_neg (by decide), uin (x := rt p d) (by omega) (by omega), uin (x := t) (by omega) (by omega), mul64_eq (by omega) (by omega) (by omega) (by omega), Option.bind_some, uin (x := r) (by omega) (by omega)]
  simp only
  generalize rt p d * t = N at *
  rw [addHi (by omega) (by omega), addLo (by omega) (by omega), uin (x := N / 18446744073709551616 + _) (by omega) (by omega)]
  have e1 : N / 18446744073709551616 + (N % 18446744073709551616 + r) / 18446744073709551616 = (N + r) / 18446744073709551616 := by omega
  have e2 : (N % 18446744073709551616 + r) % 18446744073709551616 = (N + r) % 18446744073709551616 := by omega
  rw [e1, e2]
  by_cases h3 : (N + r) / 18446744073709551616 ≥ 1000000000
  · rw [if_pos h3, if_pos (by omega)]
  rw [if_neg h3, div_eq (s := 34) (by decide) (lz (by omega)) (by decide) (by decide) (by omega) (by omega) (by omega) (by omega) (by omega), Option.bind_some, show (N + r) / 18446744073709551616 * 18446744073709551616 + (N + r) % 18446744073709551616 = N + r by omega]
  simp only
  by_cases h4 : (N + r) / 1000000000 > 1152921504606846976
  · rw [if_pos h4, if_pos h4]
  · rw [if_neg h4, if_neg h4, w64 (by omega) (by omega), w64 (by omega) (by omega)]
end
theorem live6_60 : palletlaw06_live.f 60 = some true := by decide +kernel
theorem live6 {k : Nat} (hk : 60 ≤ k) : palletlaw06_live.f k = some true := at_rounds (fun k => palletlaw06_live.mono k) hk live6_60
end Go.Proofs.Ytmkjljekofondaa.Osc
