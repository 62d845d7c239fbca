/- Sums and what is turned in a text (layer 3): a few bits beside one another always show. Plain facts. -/
import Derived.Test.YtogdelhofdelgaaCrc
import Derived.Test.YtogdelhofdelgaaPrint0
set_option linter.unusedVariables false
set_option linter.unusedSimpArgs false
namespace Go.Proofs.Ytogdelhofdelgaa.Crc
/-- A text of which so many bits are turned, if they are chosen. -/
def tn (sel : Nat → Bool) (at' : Nat) (s : List Nat) : Nat → List Nat
  | 0 => s
  | j + 1 => if sel j = true then turn (tn sel at' s j) (at' + j) else tn sel at' s j
theorem tn_len (sel : Nat → Bool) (at' : Nat) (s : List Nat) (j : Nat) : (tn sel at' s j).length = s.length := by
  induction j with
  | zero => rfl
  | succ j ih =>
    rw [tn]
    split
    · rw [turn_len, ih]
    · exact ih
theorem tn_by (sel : Nat → Bool) (at' : Nat) {s : List Nat} (h : By s) (j : Nat) : By (tn sel at' s j) := by
  induction j with
  | zero => exact h
  | succ j ih =>
    rw [tn]
    split
    · exact turn_by ih _
    · exact ih
/-- The chosen places as a number. -/
def vn (sel : Nat → Bool) (q : Nat → Nat) : Nat → Nat
  | 0 => 0
  | j + 1 => if sel j = true then vn sel q j ^^^ (1 <<< q j) else vn sel q j
theorem vn_bits (sel : Nat → Bool) (q : Nat → Nat) (J : Nat) (hq : ∀ i j, i < J → j < J → q i = q j → i = j) : ∀ j, j ≤ J → ∀ i, i < J → (vn sel q j).testBit (q i) = (decide (i < j) && sel i) := by
  intro j
  induction j with
  | zero =>
    intro _ i _
    rw [vn, Nat.zero_testBit]
    simp
  | succ j ih =>
    intro hj i hi
    rw [vn]
    have one : (1 <<< q j).testBit (q i) = decide (i = j) := by
      rw [Nat.one_shiftLeft, Nat.testBit_two_pow]
      rw [decide_eq_decide]
      constructor
      · intro h
        exact (hq j i (by omega) hi h).symm
      · intro h
        rw [h]
    by_cases c : sel j = true
    · rw [if_pos c, Nat.testBit_xor, ih (by omega) i hi, one]
      by_cases e : i = j
      · subst e
        simp [c]
      · have : decide (i < j + 1) = decide (i < j) := by rw [decide_eq_decide]; omega
        rw [this]
        simp [e]
    · rw [if_neg c, ih (by omega) i hi]
      by_cases e : i = j
      · subst e
        have c' : sel i = false := by simpa using c
        simp [c']
      · have : decide (i < j + 1) = decide (i < j) := by rw [decide_eq_decide]; omega
        rw [this]
theorem vn_zero (sel : Nat → Bool) (q : Nat → Nat) (J : Nat) (hq : ∀ i j, i < J → j < J → q i = q j → i = j) : vn sel q J = 0 ↔ ∀ i, i < J → sel i = false := by
  constructor
  · intro h i hi
    have := vn_bits sel q J hq J (Nat.le_refl _) i hi
    rw [h, Nat.zero_testBit] at this
    simp [hi] at this
    exact this
  · intro h
    have : ∀ j, j ≤ J → vn sel q j = 0 := by
      intro j
      induction j with
      | zero => intro _; rfl
      | succ j ih =>
        intro hj
        rw [vn, h j (by omega), if_neg (by decide), ih (by omega)]
    exact this J (Nat.le_refl _)
theorem vn_lt (sel : Nat → Bool) (q : Nat → Nat) (B : Nat) (J : Nat) (hq : ∀ i, i < J → q i < B) : ∀ j, j ≤ J → vn sel q j < 2 ^ B := by
  intro j
  induction j with
  | zero => intro _; exact Nat.pow_pos (by decide)
  | succ j ih =>
    intro hj
    rw [vn]
    split
    · exact Nat.xor_lt_two_pow (ih (by omega)) (one_lt (hq j (by omega)))
    · exact ih (by omega)
/-- A burst in the sum of 24 bits. -/
theorem burst24 (sel : Nat → Bool) (at' : Nat) (s : List Nat) (J : Nat) (hJ : J ≤ 24) (ha : at' < 8 * s.length) (h : ∀ i, i < J → sel i = true → at' + i < 8 * s.length) :
    r24 (tn sel at' s J) = r24 s ^^^ it st (8 * s.length - at') (vn sel (fun i => 23 - i) J) := by
  have : ∀ j, j ≤ J → r24 (tn sel at' s j) = r24 s ^^^ it st (8 * s.length - at') (vn sel (fun i => 23 - i) j) := by
    intro j
    induction j with
    | zero =>
      intro _
      rw [tn, vn, it_nought st_xor, Nat.xor_zero]
    | succ j ih =>
      intro hj
      rw [tn, vn]
      by_cases c : sel j = true
      · have hb := h j (by omega) c
        rw [if_pos c, if_pos c, turn24 (by rw [tn_len]; exact hb), tn_len, ih (by omega), it_xor st_xor, Nat.xor_assoc]
        have e : it st (8 * s.length - 1 - (at' + j) + 24) 1 = it st (8 * s.length - at') (1 <<< (23 - j)) := by
          rw [← it_st_small (23 - j) 1 (Nat.one_lt_two_pow (by omega)) (by omega), ← it_add]
          rw [show 23 - j + (8 * s.length - at') = 8 * s.length - 1 - (at' + j) + 24 by omega]
        rw [e]
      · rw [if_neg c, if_neg c, ih (by omega)]
  exact this J (Nat.le_refl _)
/-- Where a bit stands in the sum of 32 bits. -/
def q32 (at' i : Nat) : Nat := 7 + 8 * ((at' + i) / 8 - at' / 8) - (at' + i) % 8
theorem burst32 (sel : Nat → Bool) (at' : Nat) (s : List Nat) (J : Nat) (hJ : J ≤ 25) (ha : at' < 8 * s.length) (h : ∀ i, i < J → sel i = true → at' + i < 8 * s.length) :
    r32 (tn sel at' s J) = r32 s ^^^ it rt (8 * (s.length - at' / 8)) (vn sel (q32 at') J) := by
  have : ∀ j, j ≤ J → r32 (tn sel at' s j) = r32 s ^^^ it rt (8 * (s.length - at' / 8)) (vn sel (q32 at') j) := by
    intro j
    induction j with
    | zero =>
      intro _
      rw [tn, vn, it_nought rt_xor, Nat.xor_zero]
    | succ j ih =>
      intro hj
      rw [tn, vn]
      by_cases c : sel j = true
      · have hb := h j (by omega) c
        rw [if_pos c, if_pos c, turn32 (by rw [tn_len]; exact hb), tn_len, ih (by omega), it_xor rt_xor, Nat.xor_assoc]
        have hq : q32 at' j ≤ 31 := by unfold q32; omega
        have e : it rt (8 * (s.length - (at' + j) / 8) + 24 + (at' + j) % 8) (1 <<< 31) = it rt (8 * (s.length - at' / 8)) (1 <<< q32 at' j) := by
          have e1 : it rt (31 - q32 at' j) (1 <<< 31) = 1 <<< q32 at' j := by
            have := it_rt_small (31 - q32 at' j) (1 <<< q32 at' j)
            rw [← Nat.shiftLeft_add, show q32 at' j + (31 - q32 at' j) = 31 by omega] at this
            exact this
          rw [← e1, ← it_add]
          rw [show 31 - q32 at' j + 8 * (s.length - at' / 8) = 8 * (s.length - (at' + j) / 8) + 24 + (at' + j) % 8 by unfold q32; omega]
        rw [e]
      · rw [if_neg c, if_neg c, ih (by omega)]
  exact this J (Nat.le_refl _)
theorem shows24 (sel : Nat → Bool) (at' : Nat) {s : List Nat} (J : Nat) (hJ : J ≤ 24) (ha : at' < 8 * s.length) (h : ∀ i, i < J → sel i = true → at' + i < 8 * s.length) :
    r24 (tn sel at' s J) = r24 s ↔ ∀ i, i < J → sel i = false := by
  have hq : ∀ i j, i < J → j < J → (fun i => 23 - i) i = (fun i => 23 - i) j → i = j := fun i j h1 h2 e => by have e : 23 - i = 23 - j := e; omega
  rw [burst24 sel at' s J hJ ha h, ← vn_zero sel (fun i => 23 - i) J hq]
  constructor
  · intro e
    have e2 : it st (8 * s.length - at') (vn sel (fun i => 23 - i) J) = 0 := by
      have : (r24 s ^^^ it st (8 * s.length - at') (vn sel (fun i => 23 - i) J)) ^^^ r24 s = r24 s ^^^ r24 s := by rw [e]
      rw [Nat.xor_comm (r24 s) (it st _ _), Nat.xor_assoc, Nat.xor_self, Nat.xor_zero] at this
      exact this
    exact it_zero (fun c => st_lt) st_nz _ (vn_lt sel _ 24 J (fun i _ => show 23 - i < 24 by omega) J (Nat.le_refl _)) e2
  · intro e
    rw [e, it_nought st_xor, Nat.xor_zero]
theorem shows32 (sel : Nat → Bool) (at' : Nat) {s : List Nat} (J : Nat) (hJ : J ≤ 25) (ha : at' < 8 * s.length) (h : ∀ i, i < J → sel i = true → at' + i < 8 * s.length) :
    r32 (tn sel at' s J) = r32 s ↔ ∀ i, i < J → sel i = false := by
  have hq : ∀ i j, i < J → j < J → q32 at' i = q32 at' j → i = j := fun i j _ _ e => by unfold q32 at e; omega
  rw [burst32 sel at' s J hJ ha h, ← vn_zero sel (q32 at') J hq]
  constructor
  · intro e
    have e2 : it rt (8 * (s.length - at' / 8)) (vn sel (q32 at') J) = 0 := by
      have : (r32 s ^^^ it rt (8 * (s.length - at' / 8)) (vn sel (q32 at') J)) ^^^ r32 s = r32 s ^^^ r32 s := by rw [e]
      rw [Nat.xor_comm (r32 s) (it rt _ _), Nat.xor_assoc, Nat.xor_self, Nat.xor_zero] at this
      exact this
    exact it_zero (fun c => rt_lt) (fun c hc => rt_zero hc) _ (vn_lt sel _ 32 J (fun i _ => by unfold q32; omega) J (Nat.le_refl _)) e2
  · intro e
    rw [e, it_nought rt_xor, Nat.xor_zero]
/-! ### Tails -/
theorem xor_add (a b k : Nat) (h : b < 2 ^ k) : (a <<< k) ^^^ b = a * 2 ^ k + b := by
  apply Nat.eq_of_testBit_eq
  intro i
  rw [Nat.testBit_xor, Nat.testBit_shiftLeft, Nat.mul_comm, Nat.testBit_two_pow_mul_add a h]
  by_cases c : i < k
  · rw [if_pos c]
    simp [show ¬ i ≥ k by omega]
  · rw [if_neg c, bits_lt h (by omega)]
    simp [show i ≥ k by omega]
theorem three (x y z : Nat) (hy : y < 256) (hz : z < 256) : x <<< 16 ^^^ (y <<< 8 ^^^ z) = x * 65536 + y * 256 + z := by
  rw [xor_add y z 8 (by omega), xor_add x _ 16 (by omega)]
  omega
theorem four (x y z w : Nat) (hx : x < 256) (hy : y < 256) (hz : z < 256) : x ^^^ (y <<< 8 ^^^ (z <<< 16 ^^^ w <<< 24)) = w * 16777216 + z * 65536 + y * 256 + x := by
  rw [Nat.xor_comm x, Nat.xor_assoc, Nat.xor_comm (z <<< 16), Nat.xor_comm (y <<< 8), Nat.xor_assoc (w <<< 24), Nat.xor_assoc (w <<< 24), Nat.xor_assoc (z <<< 16)]
  rw [show x ^^^ y <<< 8 = y <<< 8 ^^^ x from Nat.xor_comm _ _] <;> try skip
  rw [xor_add y x 8 (by omega), xor_add z _ 16 (by omega), xor_add w _ 24 (by omega)]
  omega
end Go.Proofs.Ytogdelhofdelgaa.Crc
