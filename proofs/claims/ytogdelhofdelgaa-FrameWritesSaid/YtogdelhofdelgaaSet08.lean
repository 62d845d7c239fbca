/- Members as bits of a number below 65536: plain facts. -/
import Derived.IntWalk
import Derived.Laws.Bits64
import Derived.Test.YtogdelhofdelgaaPrint0
import Derived.Test.YtogdelhofdelgaaPrint3
import Derived.Test.YtogdelhofdelgaaPrint10
set_option linter.unusedVariables false
namespace Go.Proofs.Ytogdelhofdelgaa.Bits16
open Go
theorem u16_in {x : Int} (h : 0 ≤ x) (h2 : x ≤ 65535) : IntKind.u16.wrap x = x := by
  simp [IntKind.wrap, IntKind.bits, IntKind.signed]
  omega
theorem ofInt16 (a : Nat) (ha : a < 65536) : (BitVec.ofInt 16 (a : Int)).toNat = a := by
  rw [BitVec.ofInt_natCast, BitVec.toNat_ofNat]; exact Nat.mod_eq_of_lt (by omega)
theorem bits_and (a b : Nat) (ha : a < 65536) (hb : b < 65536) : Go.bits .and .u16 (a : Int) (b : Int) = ((a &&& b : Nat) : Int) := by
  have hx : a &&& b < 2 ^ 16 := Nat.and_lt_two_pow _ (by omega)
  show IntKind.u16.wrap ((BitVec.ofInt 16 (a : Int) &&& BitVec.ofInt 16 (b : Int)).toNat : Int) = _
  rw [BitVec.toNat_and, ofInt16 a ha, ofInt16 b hb, u16_in (by omega) (by omega)]
theorem bits_or (a b : Nat) (ha : a < 65536) (hb : b < 65536) : Go.bits .or .u16 (a : Int) (b : Int) = ((a ||| b : Nat) : Int) := by
  have hx : a ||| b < 2 ^ 16 := Nat.or_lt_two_pow (by omega) (by omega)
  show IntKind.u16.wrap ((BitVec.ofInt 16 (a : Int) ||| BitVec.ofInt 16 (b : Int)).toNat : Int) = _
  rw [BitVec.toNat_or, ofInt16 a ha, ofInt16 b hb, u16_in (by omega) (by omega)]
theorem bits_andNot (a b : Nat) (ha : a < 65536) (hb : b < 65536) : Go.bits .andNot .u16 (a : Int) (b : Int) = ((a &&& (65535 - b) : Nat) : Int) := by
  have hx : a &&& (65535 - b) < 2 ^ 16 := Nat.and_lt_two_pow _ (by omega)
  show IntKind.u16.wrap ((BitVec.ofInt 16 (a : Int) &&& ~~~ BitVec.ofInt 16 (b : Int)).toNat : Int) = _
  rw [BitVec.toNat_and, BitVec.toNat_not, ofInt16 a ha, ofInt16 b hb, show 2 ^ 16 - 1 - b = 65535 - b by omega, u16_in (by omega) (by omega)]
/-- With, without a node. -/
def wi (m n : Nat) : Nat := if n < 16 then m ||| 2 ^ n else m
def wo (m n : Nat) : Nat := if n < 16 then m &&& (65535 - 2 ^ n) else m
theorem pow_lt {n : Nat} (h : n < 16) : 2 ^ n < 65536 := by
  have := Nat.pow_lt_pow_right (a := 2) (by decide) h
  omega
theorem wi_lt {m n : Nat} (h : m < 65536) : wi m n < 65536 := by
  unfold wi
  split
  · rename_i hn
    exact Nat.or_lt_two_pow (n := 16) h (pow_lt hn)
  · exact h
theorem wo_lt {m n : Nat} (h : m < 65536) : wo m n < 65536 := by
  unfold wo
  split
  · exact Nat.lt_of_le_of_lt Nat.and_le_left h
  · exact h
theorem wi_bit (m n i : Nat) (hn : n < 16) : (wi m n).testBit i = (m.testBit i || decide (n = i)) := by
  unfold wi
  rw [if_pos hn, Nat.testBit_or, Nat.testBit_two_pow]
theorem wo_bit (m n i : Nat) (h : m < 65536) (hn : n < 16) : (wo m n).testBit i = (m.testBit i && !decide (n = i)) := by
  unfold wo
  rw [if_pos hn, Nat.testBit_and, show 65535 - 2 ^ n = 2 ^ 16 - (2 ^ n + 1) by omega, Nat.testBit_two_pow_sub_succ (pow_lt hn), Nat.testBit_two_pow]
  by_cases hi : i < 16
  · simp [hi]
  · have : m.testBit i = false := Nat.testBit_lt_two_pow (Nat.lt_of_lt_of_le h (Nat.pow_le_pow_right (n := 2) (by decide) (show 16 ≤ i by omega)))
    simp [this]
/-- A bit that is not there is put in by adding it. -/
theorem or_add : ∀ (n m : Nat), m.testBit n = false → m ||| 2 ^ n = m + 2 ^ n
  | 0, m, h => by
    have h0 : m % 2 = 0 := by
      rw [Nat.testBit_zero] at h
      have := decide_eq_false_iff_not.1 h
      omega
    have h1 := Nat.or_div_two (a := m) (b := 1)
    have h2 : (m ||| 1) % 2 = 1 := by
      rw [Nat.or_mod_two_eq_one]
      right; rfl
    rw [show (1 : Nat) / 2 = 0 from rfl, Nat.or_zero] at h1
    simp only [Nat.pow_zero]
    omega
  | n + 1, m, h => by
    rw [Nat.testBit_succ] at h
    have ih := or_add n (m / 2) h
    have h1 := Nat.or_div_two (a := m) (b := 2 ^ (n + 1))
    have e : 2 ^ (n + 1) / 2 = 2 ^ n := by rw [Nat.pow_succ]; omega
    rw [e, ih] at h1
    have h2 : (m ||| 2 ^ (n + 1)) % 2 = m % 2 := by
      have h3 := Nat.or_mod_two_eq_one (a := m) (b := 2 ^ (n + 1))
      have h4 : 2 ^ (n + 1) % 2 = 0 := by rw [Nat.pow_succ]; omega
      rw [h4] at h3
      have : (m ||| 2 ^ (n + 1)) % 2 = 1 ↔ m % 2 = 1 := by rw [h3]; simp
      omega
    rw [Nat.pow_succ] at *
    omega
theorem wi_eq {m n : Nat} (hn : n < 16) : wi m n = if m.testBit n then m else m + 2 ^ n := by
  by_cases h : m.testBit n
  · rw [if_pos h]
    apply Nat.eq_of_testBit_eq
    intro i
    rw [wi_bit m n i hn]
    by_cases e : n = i
    · subst e; simp [h]
    · simp [e]
  · rw [if_neg h]
    unfold wi
    rw [if_pos hn]
    exact or_add n m (by simpa using h)
theorem wo_eq {m n : Nat} (h : m < 65536) (hn : n < 16) : wo m n = if m.testBit n then m - 2 ^ n else m := by
  by_cases hb : m.testBit n
  · rw [if_pos hb]
    have h1 : (wo m n).testBit n = false := by rw [wo_bit m n n h hn]; simp
    have h2 := or_add n (wo m n) h1
    have h3 : wo m n ||| 2 ^ n = m := by
      apply Nat.eq_of_testBit_eq
      intro i
      rw [Nat.testBit_or, wo_bit m n i h hn, Nat.testBit_two_pow]
      by_cases e : n = i
      · subst e; simp [hb]
      · simp [e]
    omega
  · rw [if_neg hb]
    apply Nat.eq_of_testBit_eq
    intro i
    rw [wo_bit m n i h hn]
    by_cases e : n = i
    · subst e; simpa using hb
    · simp [e]
theorem and_bit (m n : Nat) : (m &&& 2 ^ n ≠ 0) ↔ m.testBit n = true := by
  constructor
  · intro h
    cases hb : m.testBit n
    · exfalso
      apply h
      apply Nat.eq_of_testBit_eq
      intro i
      rw [Nat.testBit_and, Nat.testBit_two_pow, Nat.zero_testBit]
      by_cases e : n = i
      · subst e; simp [hb]
      · simp [e]
    · rfl
  · intro h e
    have : (m &&& 2 ^ n).testBit n = true := by rw [Nat.testBit_and, Nat.testBit_two_pow, h]; simp
    rw [e, Nat.zero_testBit] at this
    exact absurd this (by decide)
theorem shr_bit (m n : Nat) : (m / 2 ^ n) % 2 = 1 ↔ m.testBit n = true := by
  rw [Nat.testBit_eq_decide_div_mod_eq]
  simp
end Go.Proofs.Ytogdelhofdelgaa.Bits16
/- Sets of members, as printed in the chapter on frames (layer 8): plain facts. -/
namespace Go.Proofs.Ytogdelhofdelgaa.Set08
open Go Go.RowKit Go.Proofs.Ytogdelhofdelgaa.Print Go.Proofs.YtogdelhofdelgaaW.PrintWords Go.Proofs.YtogdelhofdelgaaW.PrintLast Go.Proofs.YtogdelhofdelgaaW.PrintMore Go.Proofs.Ytogdelhofdelgaa.Bits16
theorem w64 {x : Int} (h : -9223372036854775808 ≤ x) (h2 : x ≤ 9223372036854775807) : wrap64 x = x := by unfold wrap64; omega
theorem shl16 {n : Nat} (h : n < 16) : shl .u16 1 (n : Int) = ((2 ^ n : Nat) : Int) := by
  have := pow_lt h
  unfold shl
  rw [show min ((n : Int).toNat) (IntKind.bits .u16) = n by simp [IntKind.bits]; omega, Int.one_mul, u16_in (Int.le_of_lt (Int.pow_pos (by decide))) (by rw [show (2 : Int) ^ n = ((2 ^ n : Nat) : Int) by simp]; omega)]
  simp
theorem shr16 {m n : Nat} (h : n < 16) : shr .u16 (m : Int) (n : Int) = ((m / 2 ^ n : Nat) : Int) := by
  unfold shr
  rw [show min ((n : Int).toNat) (IntKind.bits .u16) = n by simp [IntKind.bits]; omega]
  simp
theorem bit_in {n : Nat} (h : n < 16) : frame_bit.f (n : Int) = some ((2 ^ n : Nat) : Int) := by
  unfold frame_bit.f
  rw [if_neg (by omega), if_neg (by omega), if_pos (by omega), shl16 h]
theorem has_eq {m n : Nat} (hm : m < 65536) (h : n < 16) : frame_Has.f (m : Int) (n : Int) = some (m.testBit n) := by
  unfold frame_Has.f
  rw [bit_in h, Option.bind_some, bits_and m _ hm (pow_lt h)]
  congr 1
  have := and_bit m n
  cases hb : m.testBit n
  · rw [hb] at this
    have e : m &&& 2 ^ n = 0 := by
      by_cases q : m &&& 2 ^ n = 0
      · exact q
      · exact absurd (this.1 q) (by decide)
    rw [e]
    rfl
  · have q := this.2 hb
    rw [bne_iff_ne]
    omega
theorem with_eq {m n : Nat} (hm : m < 65536) (h : n < 16) : frame_With.f (m : Int) (n : Int) = some ((wi m n : Nat) : Int) := by
  unfold frame_With.f wi
  rw [bit_in h, Option.bind_some, bits_or m _ hm (pow_lt h), if_pos h]
theorem without_eq {m n : Nat} (hm : m < 65536) (h : n < 16) : frame_Without.f (m : Int) (n : Int) = some ((wo m n : Nat) : Int) := by
  unfold frame_Without.f wo
  rw [bit_in h, Option.bind_some, bits_andNot m _ hm (pow_lt h), if_pos h]
theorem rhas_eq {m n : Nat} (hm : m < 65536) (h : n < 16) : palletref08_Has.f (m : Int) (n : Int) = some (m.testBit n) := by
  unfold palletref08_Has.f
  rw [if_pos (by omega), if_pos (by omega), if_pos (by omega), shr16 h, Int.tmod_eq_emod_of_nonneg (Int.natCast_nonneg _)]
  congr 1
  have := shr_bit m n
  cases hb : m.testBit n
  · rw [hb] at this
    rw [beq_eq_false_iff_ne]
    intro q
    have : (m / 2 ^ n) % 2 = 1 := by omega
    simp_all
  · have := this.2 hb
    rw [beq_iff_eq]
    omega
theorem rwith_eq {m n : Nat} (hm : m < 65536) (h : n < 16) : palletref08_With.f (m : Int) (n : Int) = some ((wi m n : Nat) : Int) := by
  have hl := wi_lt (n := n) hm
  have e := wi_eq (m := m) h
  unfold palletref08_With.f
  rw [if_neg (by omega), if_neg (by omega), rhas_eq hm h]
  simp only [Option.bind_some]
  by_cases hb : m.testBit n = true
  · rw [if_pos hb] at e ⊢
    rw [e]
  · rw [if_neg hb] at e ⊢
    rw [if_pos (by omega), shl16 h, u16_in (by omega) (by omega)]
    congr 1
    omega
theorem rwithout_eq {m n : Nat} (hm : m < 65536) (h : n < 16) : palletref08_Without.f (m : Int) (n : Int) = some ((wo m n : Nat) : Int) := by
  have hl := wo_lt (n := n) hm
  have e := wo_eq hm h
  unfold palletref08_Without.f
  rw [rhas_eq hm h]
  simp only [Option.bind_some]
  by_cases hb : m.testBit n = true
  · have hle : 2 ^ n ≤ m := by
      have := Nat.ge_two_pow_of_testBit hb
      exact this
    rw [if_pos hb] at e ⊢
    rw [if_pos (by omega), shl16 h, u16_in (by omega) (by omega)]
    congr 1
    omega
  · rw [if_neg hb] at e ⊢
    rw [e]
def Fok (kd fr sl : Int) : Prop := (kd = 1 ∨ kd = 2) ∧ 0 ≤ fr ∧ fr < 16 ∧ sl ≤ 4294967296
instance (kd fr sl : Int) : Decidable (Fok kd fr sl) := by unfold Fok; infer_instance
theorem fcheck_eq {k : Nat} (hk : 1 ≤ k) (kd fr sl g : Int) : frame_Check.f k kd fr sl g = some (if Fok kd fr sl then 0 else 1) := by
  obtain ⟨k, rfl⟩ : ∃ m, k = m + 1 := ⟨k - 1, by omega⟩
  have j : ∀ b, frame_Check.j0 (k + 1) b kd fr sl g = some (if b = false ∧ 0 ≤ fr ∧ fr < 16 ∧ sl ≤ 4294967296 then 0 else 1) := by
    intro b
    simp only [frame_Check.j0]
    cases b
    · rw [if_neg (by decide)]
      by_cases h1 : fr < 0
      · rw [if_pos h1, if_neg (by omega)]
      rw [if_neg h1]
      by_cases h2 : fr ≥ 16
      · rw [if_pos h2, if_neg (by omega)]
      rw [if_neg h2]
      by_cases h3 : sl > 4294967296
      · rw [if_pos h3, if_neg (by omega)]
      rw [if_neg h3, if_pos ⟨rfl, by omega, by omega, by omega⟩]
    · simp
  unfold frame_Check.f
  rw [j, j]
  by_cases h1 : kd = 1
  · rw [if_pos h1]
    congr 1
    unfold Fok
    simp [h1]
  · rw [if_neg h1]
    congr 1
    unfold Fok
    by_cases h2 : kd = 2
    · simp [h2]
    · have e : (kd != 2) = true := bne_iff_ne.2 h2
      simp [h1, h2, e]
/-! ### What is no member -/
theorem and0 {m : Nat} (hm : m < 65536) : Go.bits .and .u16 (m : Int) 0 = (m : Int) - (m : Int) := by
  rw [show (0 : Int) = ((0 : Nat) : Int) from rfl, bits_and m 0 hm (by decide), Nat.and_zero]
  omega
theorem or0 {m : Nat} (hm : m < 65536) : Go.bits .or .u16 (m : Int) 0 = (m : Int) := by
  rw [show (0 : Int) = ((0 : Nat) : Int) from rfl, bits_or m 0 hm (by decide), Nat.or_zero]
theorem andNot0 {m : Nat} (hm : m < 65536) : Go.bits .andNot .u16 (m : Int) 0 = (m : Int) := by
  rw [show (0 : Int) = ((0 : Nat) : Int) from rfl, bits_andNot m 0 hm (by decide), Nat.sub_zero, Nat.and_two_pow_sub_one_of_lt_two_pow (n := 16) hm]
theorem bit_out {a : Int} (h : ¬ (0 ≤ a ∧ a < 16)) : frame_bit.f a = some 0 := by
  unfold frame_bit.f
  by_cases h1 : a < 0
  · rw [if_pos h1]
  · rw [if_neg h1, if_pos (by omega)]
theorem has_out {m : Nat} (hm : m < 65536) {a : Int} (h : ¬ (0 ≤ a ∧ a < 16)) : frame_Has.f (m : Int) a = some false := by
  unfold frame_Has.f
  rw [bit_out h, Option.bind_some, and0 hm, Int.sub_self]
  rfl
theorem with_out {m : Nat} (hm : m < 65536) {a : Int} (h : ¬ (0 ≤ a ∧ a < 16)) : frame_With.f (m : Int) a = some (m : Int) := by
  unfold frame_With.f
  rw [bit_out h, Option.bind_some, or0 hm]
theorem without_out {m : Nat} (hm : m < 65536) {a : Int} (h : ¬ (0 ≤ a ∧ a < 16)) : frame_Without.f (m : Int) a = some (m : Int) := by
  unfold frame_Without.f
  rw [bit_out h, Option.bind_some, andNot0 hm]
theorem rhas_out {m : Nat} {a : Int} (h : ¬ (0 ≤ a ∧ a < 16)) : palletref08_Has.f (m : Int) a = some false := by
  unfold palletref08_Has.f
  by_cases h1 : a ≥ 0
  · rw [if_pos h1, if_neg (by omega)]
  · rw [if_neg h1]
theorem rwith_out {m : Nat} {a : Int} (h : ¬ (0 ≤ a ∧ a < 16)) : palletref08_With.f (m : Int) a = some (m : Int) := by
  unfold palletref08_With.f
  by_cases h1 : a < 0
  · rw [if_pos h1]
  · rw [if_neg h1, if_pos (by omega)]
theorem rwithout_out {m : Nat} {a : Int} (h : ¬ (0 ≤ a ∧ a < 16)) : palletref08_Without.f (m : Int) a = some (m : Int) := by
  unfold palletref08_Without.f
  rw [rhas_out h, Option.bind_some, if_neg (by decide)]
/-! ### How many -/
def pc (m : Nat) : Nat → Nat
  | 0 => 0
  | j + 1 => pc m j + (m.testBit j).toNat
theorem pc_le (m j : Nat) : pc m j ≤ j := by
  induction j with
  | zero => exact Nat.le_refl _
  | succ j ih =>
    rw [pc]
    have : (m.testBit j).toNat ≤ 1 := by cases m.testBit j <;> decide
    omega
theorem pc_split (m j : Nat) : pc m (8 + j) = pc (m % 256) 8 + pc (m / 256) j := by
  induction j with
  | zero =>
    have h : ∀ i, i < 8 → (m % 256).testBit i = m.testBit i := by
      intro i hi
      rw [show 256 = 2 ^ 8 by decide, Nat.testBit_mod_two_pow, decide_eq_true hi, Bool.true_and]
    show pc m 8 = pc (m % 256) 8 + 0
    simp only [pc]
    rw [h 0 (by decide), h 1 (by decide), h 2 (by decide), h 3 (by decide), h 4 (by decide), h 5 (by decide), h 6 (by decide), h 7 (by decide)]
    rfl
  | succ j ih =>
    show pc m (8 + j) + (m.testBit (8 + j)).toNat = pc (m % 256) 8 + (pc (m / 256) j + ((m / 256).testBit j).toNat)
    rw [ih, show m / 256 = m >>> 8 by rw [Nat.shiftRight_eq_div_pow], Nat.testBit_shiftRight, Nat.add_assoc]
theorem pc_diff (a b i : Nat) (ha : a.testBit i = true) (hb : b.testBit i = false) (h : ∀ j, i ≠ j → a.testBit j = b.testBit j) (J : Nat) : pc a J = pc b J + (if i < J then 1 else 0) := by
  induction J with
  | zero => rfl
  | succ J ih =>
    rw [pc, pc, ih]
    by_cases e : i = J
    · subst e
      rw [ha, hb, if_neg (by omega), if_pos (by omega)]
      rfl
    · rw [h J e]
      by_cases h2 : i < J
      · rw [if_pos h2, if_pos (by omega)]
        omega
      · rw [if_neg h2, if_neg (by omega)]
        omega
def T8 : ByteArray := ⟨#[0, 1, 1, 2, 1, 2, 2, 3, 1, 2, 2, 3, 2, 3, 3, 4, 1, 2, 2, 3, 2, 3, 3, 4, 2, 3, 3, 4, 3, 4, 4, 5, 1, 2, 2, 3, 2, 3, 3, 4, 2, 3, 3, 4, 3, 4, 4, 5, 2, 3, 3, 4, 3, 4, 4, 5, 3, 4, 4, 5, 4, 5, 5, 6, 1, 2, 2, 3, 2, 3, 3, 4, 2, 3, 3, 4, 3, 4, 4, 5, 2, 3, 3, 4, 3, 4, 4, 5, 3, 4, 4, 5, 4, 5, 5, 6, 2, 3, 3, 4, 3, 4, 4, 5, 3, 4, 4, 5, 4, 5, 5, 6, 3, 4, 4, 5, 4, 5, 5, 6, 4, 5, 5, 6, 5, 6, 6, 7, 1, 2, 2, 3, 2, 3, 3, 4, 2, 3, 3, 4, 3, 4, 4, 5, 2, 3, 3, 4, 3, 4, 4, 5, 3, 4, 4, 5, 4, 5, 5, 6, 2, 3, 3, 4, 3, 4, 4, 5, 3, 4, 4, 5, 4, 5, 5, 6, 3, 4, 4, 5, 4, 5, 5, 6, 4, 5, 5, 6, 5, 6, 6, 7, 2, 3, 3, 4, 3, 4, 4, 5, 3, 4, 4, 5, 4, 5, 5, 6, 3, 4, 4, 5, 4, 5, 5, 6, 4, 5, 5, 6, 5, 6, 6, 7, 3, 4, 4, 5, 4, 5, 5, 6, 4, 5, 5, 6, 5, 6, 6, 7, 4, 5, 5, 6, 5, 6, 6, 7, 5, 6, 6, 7, 6, 7, 7, 8]⟩
theorem T8_eq : ∀ i : Fin 256, bt T8 (i.val : Int) = ((pc i.val 8 : Nat) : Int) := by decide +kernel
/-- What is turned on in each half, told by the table. -/
theorem count_eq {m : Nat} (hm : m < 65536) : frame_Count.f (m : Int) = some ((pc m 16 : Nat) : Int) := by
  have e0 : (m : Int) / 256 = ((m / 256 : Nat) : Int) := by omega
  have e1 : Go.bits .and .u16 (m : Int) 255 = ((m % 256 : Nat) : Int) := by
    rw [show (255 : Int) = ((255 : Nat) : Int) from rfl, bits_and m 255 hm (by decide), show 255 = 2 ^ 8 - 1 by decide, Nat.and_two_pow_sub_one_eq_mod]
  unfold frame_Count.f bits_OnesCount16.f
  rw [e0, e1, if_pos (by omega), if_pos (by omega), if_pos (by omega), if_pos (by omega)]
  show (some ((bt T8 ((m / 256 : Nat) : Int) + bt T8 ((m % 256 : Nat) : Int)) % 256)).bind _ = _
  have t1 := T8_eq ⟨m / 256, by omega⟩
  have t2 := T8_eq ⟨m % 256, by omega⟩
  simp only at t1 t2
  rw [t1, t2, Option.bind_some, show 16 = 8 + 8 from rfl, pc_split]
  have h1 := pc_le (m % 256) 8
  have h2 := pc_le (m / 256) 8
  show some _ = some _
  refine congrArg some ?_
  generalize pc (m % 256) 8 = a at *
  generalize pc (m / 256) 8 = b at *
  omega
end Go.Proofs.Ytogdelhofdelgaa.Set08
