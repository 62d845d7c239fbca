/- Members as bits of a number below 65536: plain facts. -/
import Derived.IntWalk
import Derived.Laws.Bits64
import Derived.Test.YtogdelhofdelgaaPrint0
set_option linter.unusedVariables false
namespace Go.Proofs.Ytogdelhofdelgaa.Bits16
open Go
theorem u16_in {x : Int} (h : 0 ≤ x) (h2 : x ≤ 65535) : IntKind.u16.wrap x = x := by
  simp [IntKind.wrap, IntKind.bits, IntKind.signed]
  omega
theorem ofInt16 (a : Nat) (ha : a < 65536) : (BitVec.ofInt 16 (a : Int)).toNat = a := by
  rw [BitVec.ofInt_natCast, BitVec.toNat_ofNat]; exact Nat.mod_eq_of_lt (by omega)
theorem bits_and (a b : Nat) (ha : a < 65536) (hb : b < 65536) : Go.bits .and .u16 (a : Int) (b : Int) = ((a &&& b : Nat) : Int) := by
  have hx : a &&& b < 2 ^ 16 := Nat.and_lt_two_pow _ (by omega)
  show IntKind.u16.wrap ((BitVec.ofInt 16 (a : Int) &&& BitVec.ofInt 16 (b : Int)).toNat : Int) = _
  rw [BitVec.toNat_and, ofInt16 a ha, ofInt16 b hb, u16_in (by omega) (by omega)]
theorem bits_or (a b : Nat) (ha : a < 65536) (hb : b < 65536) : Go.bits .or .u16 (a : Int) (b : Int) = ((a ||| b : Nat) : Int) := by
  have hx : a ||| b < 2 ^ 16 := Nat.or_lt_two_pow (by omega) (by omega)
  show IntKind.u16.wrap ((BitVec.ofInt 16 (a : Int) ||| BitVec.ofInt 16 (b : Int)).toNat : Int) = _
  rw [BitVec.toNat_or, ofInt16 a ha, ofInt16 b hb, u16_in (by omega) (by omega)]
theorem bits_andNot (a b : Nat) (ha : a < 65536) (hb : b < 65536) : Go.bits .andNot .u16 (a : Int) (b : Int) = ((a &&& (65535 - b) : Nat) : Int) := by
  have hx : a &&& (65535 - b) < 2 ^ 16 := Nat.and_lt_two_pow _ (by omega)
  show IntKind.u16.wrap ((BitVec.ofInt 16 (a : Int) &&& ~~~ BitVec.ofInt 16 (b : Int)).toNat : Int) = _
  rw [BitVec.toNat_and, BitVec.toNat_not, ofInt16 a ha, ofInt16 b hb, show 2 ^ 16 - 1 - b = 65535 - b by omega, u16_in (by omega) (by omega)]
/-- With, without a node. -/
def wi (m n : Nat) : Nat := if n < 16 then m ||| 2 ^ n else m
def wo (m n : Nat) : Nat := if n < 16 then m &&& (65535 - 2 ^ n) else m
theorem pow_lt {n : Nat} (h : n < 16) : 2 ^ n < 65536 := by
  have := Nat.pow_lt_pow_right (a := 2) (by decide) h
  omega
theorem wi_lt {m n : Nat} (h : m < 65536) : wi m n < 65536 := by
  unfold wi
  split
  · rename_i hn
    exact Nat.or_lt_two_pow (n := 16) h (pow_lt hn)
  · exact h
theorem wo_lt {m n : Nat} (h : m < 65536) : wo m n < 65536 := by
  unfold wo
  split
  · exact Nat.lt_of_le_of_lt Nat.and_le_left h
  · exact h
theorem wi_bit (m n i : Nat) (hn : n < 16) : (wi m n).testBit i = (m.testBit i || decide (n = i)) := by
  unfold wi
  rw [if_pos hn, Nat.testBit_or, Nat.testBit_two_pow]
theorem wo_bit (m n i : Nat) (h : m < 65536) (hn : n < 16) : (wo m n).testBit i = (m.testBit i && !decide (n = i)) := by
  unfold wo
  rw [if_pos hn, Nat.testBit_and, show 65535 - 2 ^ n = 2 ^ 16 - (2 ^ n + 1) by omega, Nat.testBit_two_pow_sub_succ (pow_lt hn), Nat.testBit_two_pow]
  by_cases hi : i < 16
  · simp [hi]
  · have : m.testBit i = false := Nat.testBit_lt_two_pow (Nat.lt_of_lt_of_le h (Nat.pow_le_pow_right (n := 2) (by decide) (show 16 ≤ i by omega)))
    simp [this]
/-- A bit that is not there is put in by adding it. -/
theorem or_add : ∀ (n m : Nat), m.testBit n = false → m ||| 2 ^ n = m + 2 ^ n
  | 0, m, h => by
    have h0 : m % 2 = 0 := by
      rw [Nat.testBit_zero] at h
      have := decide_eq_false_iff_not.1 h
      omega
    have h1 := Nat.or_div_two (a := m) (b := 1)
    have h2 : (m ||| 1) % 2 = 1 := by
      rw [Nat.or_mod_two_eq_one]
      right; rfl
    rw [show (1 : Nat) / 2 = 0 from rfl, Nat.or_zero] at h1
    simp only [Nat.pow_zero]
    omega
  | n + 1, m, h => by
    rw [Nat.testBit_succ] at h
    have ih := or_add n (m / 2) h
    have h1 := Nat.or_div_two (a := m) (b := 2 ^ (n + 1))
    have e : 2 ^ (n + 1) / 2 = 2 ^ n := by rw [Nat.pow_succ]; omega
    rw [e, ih] at h1
    have h2 : (m ||| 2 ^ (n + 1)) % 2 = m % 2 := by
      have h3 := Nat.or_mod_two_eq_one (a := m) (b := 2 ^ (n + 1))
      have h4 : 2 ^ (n + 1) % 2 = 0 := by rw [Nat.pow_succ]; omega
      rw [h4] at h3
      have : (m ||| 2 ^ (n + 1)) % 2 = 1 ↔ m % 2 = 1 := by rw [h3]; simp
      omega
    rw [Nat.pow_succ] at *
    omega
theorem wi_eq {m n : Nat} (hn : n < 16) : wi m n = if m.testBit n then m else m + 2 ^ n := by
  by_cases h : m.testBit n
  · rw [if_pos h]
    apply Nat.eq_of_testBit_eq
    intro i
    rw [wi_bit m n i hn]
    by_cases e : n = i
    · subst e; simp [h]
    · simp [e]
  · rw [if_neg h]
    unfold wi
    rw [if_pos hn]
    exact or_add n m (by simpa using h)
theorem wo_eq {m n : Nat} (h : m < 65536) (hn : n < 16) : wo m n = if m.testBit n then m - 2 ^ n else m := by
  by_cases hb : m.testBit n
  · rw [if_pos hb]
    have h1 : (wo m n).testBit n = false := by rw [wo_bit m n n h hn]; simp
    have h2 := or_add n (wo m n) h1
    have h3 : wo m n ||| 2 ^ n = m := by
      apply Nat.eq_of_testBit_eq
      intro i
      rw [Nat.testBit_or, wo_bit m n i h hn, Nat.testBit_two_pow]
      by_cases e : n = i
      · subst e; simp [hb]
      · simp [e]
    omega
  · rw [if_neg hb]
    apply Nat.eq_of_testBit_eq
    intro i
    rw [wo_bit m n i h hn]
    by_cases e : n = i
    · subst e; simpa using hb
    · simp [e]
theorem and_bit (m n : Nat) : (m &&& 2 ^ n ≠ 0) ↔ m.testBit n = true := by
  constructor
  · intro h
    cases hb : m.testBit n
    · exfalso
      apply h
      apply Nat.eq_of_testBit_eq
      intro i
      rw [Nat.testBit_and, Nat.testBit_two_pow, Nat.zero_testBit]
      by_cases e : n = i
      · subst e; simp [hb]
      · simp [e]
    · rfl
  · intro h e
    have : (m &&& 2 ^ n).testBit n = true := by rw [Nat.testBit_and, Nat.testBit_two_pow, h]; simp
    rw [e, Nat.zero_testBit] at this
    exact absurd this (by decide)
theorem shr_bit (m n : Nat) : (m / 2 ^ n) % 2 = 1 ↔ m.testBit n = true := by
  rw [Nat.testBit_eq_decide_div_mod_eq]
  simp
end Go.Proofs.Ytogdelhofdelgaa.Bits16
