/- Plain facts on a guardian's functions (layer 12), as printed. -/
import Derived.Test.YtpfkiljakiiieaaMedl
import Derived.Test.YtpfkiljakiiieaaPico
import Derived.Test.YtpfkiljakiiieaaPrint0
import Derived.Test.YtpfkiljakiiieaaPrint11
import Derived.Test.YtpfkiljakiiieaaPrint12
set_option linter.unusedVariables false
set_option linter.unusedSimpArgs false
namespace Go.Proofs.Ytpfkiljakiiieaa.Medl
open Go.RowKit Go.Proofs.Ytpfkiljakiiieaa.Print Go.Proofs.YtpfkiljakiiieaaW.PrintWords Go.Proofs.YtpfkiljakiiieaaW.PrintLast Go.Proofs.YtpfkiljakiiieaaW.PrintMore
theorem live12_10 : palletlaw12_live.f 10 = some true := by decide +kernel
theorem live12 {k : Nat} (hk : 10 ≤ k) : palletlaw12_live.f k = some true := at_rounds (fun k => palletlaw12_live.mono k) hk live12_10
/-- The nearest number of slots. -/
def near (S far : Int) : Int × Int := if far % S ≥ (S + 1) / 2 then (far / S + 1, far % S - S) else (far / S, far % S)
theorem slots_eq {S l w far : Int} (h1 : 1 ≤ S) (h2 : S ≤ 1125899906842624) (h3 : -4611686018427387904 ≤ far) (h4 : far ≤ 4611686018427387904) : guard_scale_slots.f S l w far = some (near S far) := by
  have hm0 : 0 ≤ far % S := Int.emod_nonneg _ (by omega)
  have hm1 : far % S < S := Int.emod_lt_of_pos _ (by omega)
  have e := Int.mul_ediv_add_emod far S
  have hq1 : far / S ≤ 4611686018427387904 := by
    rcases Int.le_total 0 far with h | h
    · have := Int.ediv_le_self S h; omega
    · have := Int.ediv_nonpos_of_nonpos_of_neg h (show (0 : Int) < S by omega) |> fun q => q
      omega
  have hq2 : -4611686018427387904 - 1 ≤ far / S := by
    have h5 := (Int.le_ediv_iff_mul_le (a := -4611686018427387904) (b := far) (show (0 : Int) < S by omega)).2 (by omega)
    omega
  have hhalf : wrap64 (Int.tdiv (wrap64 (S + 1)) 2) = (S + 1) / 2 := by
    rw [w64 (x := S + 1) (by omega) (by omega), Int.tdiv_eq_ediv_of_nonneg (by omega), w64 (by omega) (by omega)]
  unfold guard_scale_slots.f near
  rw [if_neg (by omega), hhalf]
  have et := Int.tdiv_eq_ediv (a := far) (b := S)
  have em := Int.tmod_eq_emod (a := far) (b := S)
  have hs : S.sign = 1 := Int.sign_eq_one_of_pos (by omega)
  have ha : (S.natAbs : Int) = S := by omega
  by_cases c : 0 ≤ far ∨ S ∣ far
  · rw [if_pos c] at et em
    rw [show Int.tmod far S = far % S by omega, show Int.tdiv far S = far / S by omega, if_neg (by omega), w64 (x := far / S) (by omega) (by omega)]
    split
    · rw [w64 (x := far / S + 1) (by omega) (by omega), w64 (x := far % S - S) (by omega) (by omega)]
    · rfl
  · rw [if_neg c] at et em
    have hpos : 0 < far % S := by
      rcases Int.lt_or_eq_of_le hm0 with h | h
      · exact h
      · exact absurd (Or.inr (Int.dvd_of_emod_eq_zero h.symm)) c
    rw [show Int.tmod far S = far % S - S by omega, show Int.tdiv far S = far / S + 1 by omega, if_pos (by omega), w64 (x := far / S + 1) (by omega) (by omega), show far % S - S + S = far % S by omega, w64 (x := far % S) (by omega) (by omega), show far / S + 1 - 1 = far / S by omega, w64 (x := far / S) (by omega) (by omega)]
    split
    · rw [w64 (x := far / S + 1) (by omega) (by omega), w64 (x := far % S - S) (by omega) (by omega)]
    · rfl
/-- A schedule and a period that may be. -/
def Sc (n s l f w p : Int) : Prop := Ok n s l f w ∧ 1 ≤ p ∧ p ≤ 1000000000
instance (n s l f w p : Int) : Decidable (Sc n s l f w p) := by unfold Sc; infer_instance
section
variable {n s l f w p : Int}
theorem sp_range (h : Sc n s l f w p) : 16 ≤ s * p ∧ s * p ≤ 1048576 * 1000000000 ∧ 1 ≤ l * p ∧ l * p ≤ 1048576 * 1000000000 ∧ 1 ≤ w * p ∧ w * p ≤ 1048576 * 1000000000 ∧ 1 ≤ f * p := by
  obtain ⟨⟨_, _, h1, h2, h3, h4, h5, h6, h7, h8, h9, h10⟩, h11, h12⟩ := h
  refine ⟨?_, Int.mul_le_mul h2 h12 (by omega) (by omega), ?_, Int.mul_le_mul (by omega) h12 (by omega) (by omega), ?_, Int.mul_le_mul (by omega) h12 (by omega) (by omega), ?_⟩
  · have := Int.mul_le_mul h1 h11 (by omega) (by omega); omega
  · have := Int.mul_le_mul h3 h11 (by omega) (by omega); omega
  · have := Int.mul_le_mul h7 h11 (by omega) (by omega); omega
  · have := Int.mul_le_mul h5 h11 (by omega) (by omega); omega
theorem scaled_ok (h : Sc n s l f w p) : guard_scaled.f n s l f w p = some (s * p, l * p, w * p, 0) := by
  have r := sp_range h
  obtain ⟨h0, h1, h2⟩ := id h
  unfold guard_scaled.f
  rw [if_neg (by omega), if_neg (by omega), check_ok h0]
  simp only [Option.bind_some]
  rw [w64 (x := s * p) (by omega) (by omega), w64 (x := l * p) (by omega) (by omega), w64 (x := w * p) (by omega) (by omega)]
theorem scaled_no (h : ¬ Sc n s l f w p) : ∃ a b c, guard_scaled.f n s l f w p = some (a, b, c, 1) := by
  unfold guard_scaled.f
  by_cases h1 : p < 1
  · rw [if_pos h1]; exact ⟨_, _, _, rfl⟩
  · rw [if_neg h1]
    by_cases h2 : p > 1000000000
    · rw [if_pos h2]; exact ⟨_, _, _, rfl⟩
    · rw [if_neg h2, check_no (fun q => h ⟨q, by omega, by omega⟩)]
      exact ⟨_, _, _, rfl⟩
theorem gslots_ok (h : Sc n s l f w p) {far : Int} (ht : Tm far) {k : Nat} (hk : 2 ≤ k) : guard_Slots.f k n s l f w p far = some ((near (s * p) far).1, (near (s * p) far).2, 0) := by
  have r := sp_range h
  unfold guard_Slots.f
  rw [scaled_ok h]
  simp only [Option.bind_some, if_true]
  rw [may_one hk, decide_eq_true ht]
  unfold Tm at ht
  simp only [Option.bind_some, if_true]
  rw [slots_eq (by omega) (by omega) (by omega) (by omega)]
  rfl
theorem gslots_no {far : Int} (h : ¬ (Sc n s l f w p ∧ Tm far)) {k : Nat} (hk : 2 ≤ k) : guard_Slots.f k n s l f w p far = some (0, 0, 1) := by
  unfold guard_Slots.f
  by_cases h1 : Sc n s l f w p
  · rw [scaled_ok h1]
    simp only [Option.bind_some, if_true]
    rw [may_one hk, decide_eq_false (fun q => h ⟨h1, q⟩)]
    simp
  · obtain ⟨a, b, c, e⟩ := scaled_no h1
    rw [e]
    simp
end
end Go.Proofs.Ytpfkiljakiiieaa.Medl
