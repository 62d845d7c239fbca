/- So many parts of a time (layer 1), as printed: the program's answer and the document's. -/
import Derived.Test.YtmkjljekofondaaMedl
import Derived.Test.YtmkjljekofondaaPico
import Derived.Test.YtmkjljekofondaaDiv64
import Derived.Test.YtmkjljekofondaaLen64
import Derived.Laws.MathBits
import Derived.Test.YtmkjljekofondaaPrint0
import Derived.Test.YtmkjljekofondaaPrint1
import Derived.Test.YtmkjljekofondaaPrint2
import Derived.Test.YtmkjljekofondaaPrint4
set_option linter.unusedVariables false
set_option linter.unusedSimpArgs false
namespace Go.Proofs.Ytmkjljekofondaa.Scale01
open Go Go.RowKit Go.Proofs.Ytmkjljekofondaa.Print Go.Proofs.YtmkjljekofondaaW.PrintWords Go.Proofs.YtmkjljekofondaaW.PrintLast Go.Proofs.YtmkjljekofondaaW.PrintMore Go.Proofs.Ytmkjljekofondaa.Medl Go.Proofs.Ytmkjljekofondaa.Div64
theorem mul64_eq {a b : Int} (a0 : 0 ≤ a) (a1 : a < 18446744073709551616) (b0 : 0 ≤ b) (b1 : b < 18446744073709551616) : bits_Mul64.f a b = some (a * b / 18446744073709551616, a * b % 18446744073709551616) := by
  unfold bits_Mul64.f
  have h := mul64_arith a b a0 a1 b0 b1
  have e : ∀ x : Int, Go.bits .and .u64 (IntKind.u64.wrap x) 4294967295 = (x % 18446744073709551616) % 4294967296 := fun x => by
    rw [uw, and32 (by omega) (by omega)]
  rw [e, and32 a0 a1, and32 b0 b1]
  simp only [uw]
  rw [h]
theorem lz_eq {k : Nat} {x : Int} (hk : 1 ≤ k) (h0 : 0 < x) (h1 : x < 18446744073709551616) : ∃ s : Nat, s ≤ 63 ∧ bits_LeadingZeros64.f k x = some (s : Int) ∧ 9223372036854775808 ≤ x * 2 ^ s ∧ x * 2 ^ s < 18446744073709551616 := by
  obtain ⟨k, rfl⟩ : ∃ j, k = j + 1 := ⟨k - 1, by omega⟩
  obtain ⟨n, e, n1, n2, n3, n4⟩ := Len64.len_eq (k := k) h0 h1
  have p0 : (0 : Int) < 2 ^ (64 - n) := Int.pow_pos (by decide)
  have e1 : (2 : Int) ^ (n - 1) * 2 ^ (64 - n) = 9223372036854775808 := by rw [← Int.pow_add, show n - 1 + (64 - n) = 63 by omega]; decide
  refine ⟨64 - n, by omega, ?_, ?_, ?_⟩
  · unfold bits_LeadingZeros64.f
    rw [e, Option.bind_some, w64 (by omega) (by omega)]
    congr 1
    omega
  · have := Int.mul_le_mul_of_nonneg_right n3 (Int.le_of_lt p0)
    omega
  · have := Int.mul_lt_mul_of_pos_right n4 p0
    rw [Int.mul_right_comm, e1] at this
    omega
/-- So many parts of a time, down, and what is left. -/
def sc (a n d : Int) : Int × Int × Int := if Tm a ∧ Tm n ∧ Tm d ∧ 1 ≤ d then (if Tm (a * n / d) then (a * n / d, a * n % d, 0) else (0, 0, 2)) else (0, 0, 1)
/-- A number's size. -/
def ab (a : Int) : Int := if a < 0 then -a else a
theorem neg_div {P d : Int} (hd : 0 < d) : (-P) / d = (if P % d > 0 then -(P / d) - 1 else -(P / d)) ∧ (-P) % d = (if P % d > 0 then d - P % d else P % d) := by
  have h0 := Int.emod_nonneg P (show d ≠ 0 by omega)
  have h1 := Int.emod_lt_of_pos P hd
  have h2 := Int.mul_ediv_add_emod P d
  generalize P / d = q at *
  generalize P % d = r at *
  by_cases c : r > 0
  · rw [if_pos c, if_pos c]
    have := (Int.ediv_emod_unique (a := -P) (b := d) (r := d - r) (q := -q - 1) hd).2 ⟨by rw [Int.mul_sub, Int.mul_neg, Int.mul_one]; omega, by omega, by omega⟩
    exact this
  · rw [if_neg c, if_neg c]
    have := (Int.ediv_emod_unique (a := -P) (b := d) (r := r) (q := -q) hd).2 ⟨by rw [Int.mul_neg]; omega, by omega, by omega⟩
    exact this
theorem ab_mul (a n : Int) : a * n = if ((decide (a < 0)) != (decide (n < 0))) = true then -(ab a * ab n) else ab a * ab n := by
  unfold ab
  by_cases h1 : a < 0 <;> by_cases h2 : n < 0 <;> simp [h1, h2, Int.neg_mul, Int.mul_neg]
theorem ab_tm {a : Int} (h : Tm a) : 0 ≤ ab a ∧ ab a ≤ 1152921504606846976 := by
  unfold Tm at h
  unfold ab
  split <;> omega
/-- What stands behind the quotient of the sizes. -/
theorem sc_of {a n d : Int} (ha : Tm a) (hn : Tm n) (hd : Tm d) (d1 : 1 ≤ d) {q r : Int} (eq : ab a * ab n / d = q) (er : ab a * ab n % d = r) :
    sc a n d = if ((decide (a < 0)) != (decide (n < 0))) = true then (if r > 0 then (if Tm (-q - 1) then (-q - 1, d - r, 0) else (0, 0, 2)) else (if Tm (-q) then (-q, r, 0) else (0, 0, 2))) else (if Tm q then (q, r, 0) else (0, 0, 2)) := by
  unfold sc
  rw [if_pos ⟨ha, hn, hd, d1⟩, ab_mul]
  by_cases c : ((decide (a < 0)) != (decide (n < 0))) = true
  · rw [if_pos c, if_pos c, (neg_div (by omega)).1, (neg_div (by omega)).2, eq, er]
    by_cases c2 : r > 0
    · rw [if_pos c2, if_pos c2, if_pos c2]
    · rw [if_neg c2, if_neg c2, if_neg c2]
  · rw [if_neg c, if_neg c, eq, er]
theorem sc_over {a n d : Int} (ha : Tm a) (hn : Tm n) (hd : Tm d) (d1 : 1 ≤ d) (h : 1152921504606846976 < ab a * ab n / d) : sc a n d = (0, 0, 2) := by
  rw [sc_of ha hn hd d1 rfl rfl]
  have n1 : ¬ Tm (-(ab a * ab n / d) - 1) := by unfold Tm; omega
  have n2 : ¬ Tm (-(ab a * ab n / d)) := by unfold Tm; omega
  have n3 : ¬ Tm (ab a * ab n / d) := by unfold Tm; omega
  rw [if_neg n1, if_neg n2, if_neg n3]
  simp
theorem size_eq {a : Int} (h : Tm a) : pico_size.f a = some (ab a) := by
  unfold Tm at h
  unfold pico_size.f ab
  by_cases c : a < 0
  · rw [if_pos c, if_pos c, uw, uw]
    congr 1
    omega
  · rw [if_neg c, if_neg c, uin (by omega) (by omega)]
theorem told_tm {k : Nat} (hk : 2 ≤ k) (x : Int) : pico_told.f k x = some (if Tm x then (x, 0) else (0, 2)) := told_eq hk x
theorem scale_eq {k : Nat} (hk : 60 ≤ k) (a n d : Int) : pico_Scale.f k a n d = some (sc a n d) := by
  obtain ⟨k, rfl⟩ : ∃ j, k = j + 1 := ⟨k - 1, by omega⟩
  unfold pico_Scale.f
  rw [may_three (by omega), Option.bind_some]
  have no : pico_Scale.j0 (k + 1) a n d true = some (0, 0, 1) := by simp [pico_Scale.j0]
  by_cases h : Tm a ∧ Tm n ∧ Tm d
  case neg =>
    rw [decide_eq_false h, if_neg (by decide), no]
    unfold sc
    rw [if_neg (fun q => h ⟨q.1, q.2.1, q.2.2.1⟩)]
  obtain ⟨ha, hn, hd⟩ := id h
  rw [decide_eq_true h, if_pos rfl]
  by_cases h1 : d < 1
  · rw [decide_eq_true h1, no]
    unfold sc
    rw [if_neg (fun q => by have := q.2.2.2; omega)]
  rw [decide_eq_false h1]
  simp only [pico_Scale.j0]
  obtain ⟨A0, A1⟩ := ab_tm ha
  obtain ⟨N0, N1⟩ := ab_tm hn
  have hd' := hd
  unfold Tm at hd'
  have P0 : 0 ≤ ab a * ab n := Int.mul_nonneg A0 N0
  have P1 : ab a * ab n ≤ 1152921504606846976 * 1152921504606846976 := Int.mul_le_mul A1 N1 N0 (by decide)
  rw [if_neg (by decide), size_eq ha, size_eq hn, Option.bind_some, Option.bind_some, mul64_eq A0 (by omega) N0 (by omega), Option.bind_some]
  simp only
  rw [uin (x := d) (by omega) (by omega)]
  have over := sc_over ha hn hd (by omega)
  have fin := sc_of ha hn hd (by omega) (q := ab a * ab n / d) (r := ab a * ab n % d) rfl rfl
  generalize ab a * ab n = P at *
  by_cases h2 : P / 18446744073709551616 ≥ d
  · rw [if_pos h2, over]
    have : d * 18446744073709551616 ≤ P := by omega
    have := Int.ediv_le_ediv (c := d) (by omega) this
    rw [Int.mul_ediv_cancel_left _ (by omega)] at this
    omega
  rw [if_neg h2]
  obtain ⟨s, s1, s2, s3, s4⟩ := lz_eq (k := k) (x := d) (by omega) (by omega) (by omega)
  rw [div_eq s1 s2 s3 s4 (by omega) (by omega) (by omega) (by omega) (by omega), Option.bind_some, show P / 18446744073709551616 * 18446744073709551616 + P % 18446744073709551616 = P by omega]
  simp only
  by_cases h3 : P / d > 1152921504606846976
  · rw [if_pos h3, over h3]
  rw [if_neg h3, fin]
  have q0 : 0 ≤ P / d := Int.ediv_nonneg P0 (by omega)
  have r0 := Int.emod_nonneg P (show d ≠ 0 by omega)
  have r1 := Int.emod_lt_of_pos P (show 0 < d by omega)
  generalize P / d = q at *
  generalize P % d = r at *
  rw [w64 (x := r) (by omega) (by omega), w64 (x := q) (by omega) (by omega), w64 (x := -q) (by omega) (by omega), w64 (x := -q - 1) (by omega) (by omega), w64 (x := d - r) (by omega) (by omega), told_eq (by omega), told_eq (by omega), told_eq (by omega)]
  by_cases c : ((decide (a < 0)) != (decide (n < 0))) = true
  · rw [if_pos c, if_pos c]
    by_cases c2 : r > 0
    · rw [if_pos c2, if_pos c2]
      by_cases c3 : Tm (-q - 1)
      · simp [c3]
      · simp [c3]
    · rw [if_neg c2, if_neg c2]
      by_cases c3 : Tm (-q)
      · simp [c3]
      · simp [c3]
  · rw [if_neg c, if_neg c]
    by_cases c3 : Tm q
    · simp [c3]
    · simp [c3]
end Go.Proofs.Ytmkjljekofondaa.Scale01
