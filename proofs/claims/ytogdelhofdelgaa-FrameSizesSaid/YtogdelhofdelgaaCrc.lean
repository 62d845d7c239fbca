/- The two sums' registers as numbers (layer 3): one step, many steps, what a turned bit does. Plain facts. -/
import Derived.IntWalk
import Derived.Test.YtogdelhofdelgaaPrint0
set_option linter.unusedVariables false
set_option linter.unusedSimpArgs false
namespace Go.Proofs.Ytogdelhofdelgaa.Crc
def st (c : Nat) : Nat := (c <<< 1) ^^^ (if c.testBit 23 then 0x1864cfb else 0)
def rt (c : Nat) : Nat := (c >>> 1) ^^^ (if c.testBit 0 then 0xedb88320 else 0)
theorem ite_xor (p q : Bool) (P : Nat) : (if (p ^^ q) = true then P else 0) = (if p = true then P else 0) ^^^ (if q = true then P else 0) := by cases p <;> cases q <;> simp
theorem xor4 (a b c d : Nat) : (a ^^^ b) ^^^ (c ^^^ d) = (a ^^^ c) ^^^ (b ^^^ d) := by
  rw [Nat.xor_assoc, Nat.xor_assoc, ← Nat.xor_assoc b c d, Nat.xor_comm b c, Nat.xor_assoc c b d]
theorem st_xor (a b : Nat) : st (a ^^^ b) = st a ^^^ st b := by
  unfold st
  rw [Nat.shiftLeft_xor_distrib, Nat.testBit_xor, ite_xor, xor4]
theorem rt_xor (a b : Nat) : rt (a ^^^ b) = rt a ^^^ rt b := by
  unfold rt
  rw [Nat.shiftRight_xor_distrib, Nat.testBit_xor, ite_xor, xor4]
theorem xor_eq_zero {a b : Nat} (h : a ^^^ b = 0) : a = b := by
  have : (a ^^^ b) ^^^ b = 0 ^^^ b := by rw [h]
  rw [Nat.xor_assoc, Nat.xor_self, Nat.xor_zero, Nat.zero_xor] at this
  exact this
/-- Below 2^n: no bit from n on. -/
theorem lt_bits {c n : Nat} (h : ∀ i, n ≤ i → c.testBit i = false) : c < 2 ^ n := Nat.lt_pow_two_of_testBit c fun i hi => h i hi
theorem bits_lt {c n i : Nat} (h : c < 2 ^ n) (hi : n ≤ i) : c.testBit i = false := Nat.testBit_lt_two_pow (Nat.lt_of_lt_of_le h (Nat.pow_le_pow_right (by decide) hi))
theorem P24_25 : (0x1864cfb : Nat) < 2 ^ 25 := by decide
theorem st_lt {c : Nat} (h : c < 2 ^ 24) : st c < 2 ^ 24 := by
  refine lt_bits fun i hi => ?_
  unfold st
  rw [Nat.testBit_xor, Nat.testBit_shiftLeft]
  by_cases e : i = 24
  · subst e
    cases hb : c.testBit 23 with
    | true =>
      simp only [hb, if_true]
      rw [show (0x1864cfb : Nat).testBit 24 = true by decide]
      simp [hb]
    | false => simp [hb]
  · have h1 : c.testBit (i - 1) = false := bits_lt h (by omega)
    rw [h1, Bool.and_false, Bool.false_xor]
    split
    · exact bits_lt P24_25 (by omega)
    · exact Nat.zero_testBit i
theorem rt_lt {c : Nat} (h : c < 2 ^ 32) : rt c < 2 ^ 32 := by
  unfold rt
  refine Nat.xor_lt_two_pow ?_ ?_
  · rw [Nat.shiftRight_eq_div_pow]
    omega
  · split <;> decide
theorem st_zero {c : Nat} (h : st c = 0) : c = 0 := by
  unfold st at h
  have h0 : ((c <<< 1) ^^^ (if c.testBit 23 then 0x1864cfb else 0)).testBit 0 = false := by rw [h]; exact Nat.zero_testBit 0
  rw [Nat.testBit_xor, Nat.testBit_shiftLeft] at h0
  cases hb : c.testBit 23 with
  | true =>
    rw [hb] at h0
    simp at h0
  | false =>
    rw [hb] at h
    simp at h
    exact h
theorem rt_zero {c : Nat} (hc : c < 2 ^ 32) (h : rt c = 0) : c = 0 := by
  unfold rt at h
  have h0 : ((c >>> 1) ^^^ (if c.testBit 0 then 0xedb88320 else 0)).testBit 31 = false := by rw [h]; exact Nat.zero_testBit 31
  rw [Nat.testBit_xor, Nat.testBit_shiftRight, bits_lt hc (by omega), Bool.false_xor] at h0
  cases hb : c.testBit 0 with
  | true =>
    rw [hb] at h0
    simp only [if_true] at h0
    rw [show (0xedb88320 : Nat).testBit 31 = true by decide] at h0
    cases h0
  | false =>
    rw [hb] at h
    simp only [Bool.false_eq_true, if_false, Nat.xor_zero] at h
    rw [Nat.shiftRight_eq_div_pow] at h
    rw [Nat.testBit_zero] at hb
    simp at hb
    omega
/-- So many steps. -/
def it (f : Nat → Nat) : Nat → Nat → Nat
  | 0, c => c
  | n + 1, c => it f n (f c)
section
variable {f : Nat → Nat} {B : Nat} (lin : ∀ a b, f (a ^^^ b) = f a ^^^ f b) (lt : ∀ c, c < 2 ^ B → f c < 2 ^ B) (nz : ∀ c, c < 2 ^ B → f c = 0 → c = 0)
theorem it_add (m n c : Nat) : it f (m + n) c = it f n (it f m c) := by
  induction m generalizing c with
  | zero => rw [Nat.zero_add]; rfl
  | succ m ih => rw [Nat.add_right_comm]; exact ih (f c)
include lin in
theorem it_xor (n a b : Nat) : it f n (a ^^^ b) = it f n a ^^^ it f n b := by
  induction n generalizing a b with
  | zero => rfl
  | succ n ih => show it f n (f (a ^^^ b)) = _; rw [lin, ih]; rfl
include lt in
theorem it_lt (n : Nat) {c : Nat} (h : c < 2 ^ B) : it f n c < 2 ^ B := by
  induction n generalizing c with
  | zero => exact h
  | succ n ih => exact ih (lt c h)
include lt nz in
theorem it_zero (n : Nat) {c : Nat} (h : c < 2 ^ B) (e : it f n c = 0) : c = 0 := by
  induction n generalizing c with
  | zero => exact e
  | succ n ih => exact nz c h (ih (lt c h) e)
include lin lt nz in
theorem it_inj (n : Nat) {a b : Nat} (ha : a < 2 ^ B) (hb : b < 2 ^ B) (e : it f n a = it f n b) : a = b := by
  refine xor_eq_zero (it_zero lt nz n (Nat.xor_lt_two_pow ha hb) ?_)
  rw [it_xor lin, e, Nat.xor_self]
include lin in
theorem it_nought (n : Nat) : it f n 0 = 0 := by
  have h := it_xor lin n 0 0
  rw [Nat.xor_self] at h
  rw [h, Nat.xor_self]
/-- A register behind a text; g puts a byte on it. -/
def reg (f g : Nat → Nat) (l : List Nat) (c : Nat) : Nat := l.foldl (fun c x => it f 8 (c ^^^ g x)) c
theorem reg_nil (g : Nat → Nat) (c : Nat) : reg f g [] c = c := rfl
theorem reg_cons (g : Nat → Nat) (x : Nat) (l : List Nat) (c : Nat) : reg f g (x :: l) c = reg f g l (it f 8 (c ^^^ g x)) := rfl
theorem reg_append (g : Nat → Nat) (l m : List Nat) (c : Nat) : reg f g (l ++ m) c = reg f g m (reg f g l c) := by unfold reg; rw [List.foldl_append]
include lin in
theorem reg_xor (g : Nat → Nat) (l : List Nat) (c d : Nat) : reg f g l (c ^^^ d) = reg f g l c ^^^ it f (8 * l.length) d := by
  induction l generalizing c d with
  | nil => rfl
  | cons x l ih =>
    rw [reg_cons, reg_cons, Nat.xor_assoc, Nat.xor_comm d, ← Nat.xor_assoc, it_xor lin, ih]
    congr 1
include lin in
theorem reg_set (g : Nat → Nat) (gl : ∀ a b, g (a ^^^ b) = g a ^^^ g b) (m : Nat) : ∀ (l : List Nat) (k c : Nat), k < l.length → reg f g (l.set k (l.getD k 0 ^^^ m)) c = reg f g l c ^^^ it f (8 * (l.length - k)) (g m)
  | [], k, c, h => by simp at h
  | x :: l, 0, c, h => by
    simp only [List.set_cons_zero, List.getD_cons_zero]
    rw [reg_cons, reg_cons, gl, ← Nat.xor_assoc, it_xor lin, reg_xor lin]
    congr 1
  | x :: l, k + 1, c, h => by
    simp only [List.set_cons_succ, List.getD_cons_succ]
    rw [reg_cons, reg_cons, reg_set g gl m l k _ (by simpa using h), List.length_cons]
    congr 2
    omega
include lt in
theorem reg_lt (g : Nat → Nat) (l : List Nat) (hg : ∀ x ∈ l, g x < 2 ^ B) {c : Nat} (h : c < 2 ^ B) : reg f g l c < 2 ^ B := by
  induction l generalizing c with
  | nil => exact h
  | cons x l ih =>
    rw [reg_cons]
    exact ih (fun y hy => hg y (by simp [hy])) (it_lt lt 8 (Nat.xor_lt_two_pow h (hg x (by simp))))
end
/-- Shifts that lose nothing. -/
theorem it_st_small : ∀ (n c : Nat), c < 2 ^ (24 - n) → n ≤ 24 → it st n c = c <<< n
  | 0, c, h, hn => by rw [Nat.shiftLeft_zero]; rfl
  | n + 1, c, h, hn => by
    have e : st c = c <<< 1 := by
      unfold st
      rw [bits_lt h (show 24 - (n + 1) ≤ 23 by omega)]
      simp
    show it st n (st c) = _
    rw [e, it_st_small n (c <<< 1) ?_ (by omega), ← Nat.shiftLeft_add, Nat.add_comm]
    rw [Nat.shiftLeft_eq, show 24 - n = 24 - (n + 1) + 1 by omega, Nat.pow_succ]
    omega
theorem it_rt_small : ∀ (n c : Nat), it rt n (c <<< n) = c
  | 0, c => by rw [Nat.shiftLeft_zero]; rfl
  | n + 1, c => by
    have e : rt (c <<< (n + 1)) = c <<< n := by
      unfold rt
      rw [Nat.testBit_shiftLeft]
      simp
      rw [Nat.shiftLeft_eq, Nat.shiftLeft_eq, Nat.shiftRight_eq_div_pow, Nat.pow_succ, ← Nat.mul_assoc, Nat.pow_one, Nat.mul_div_cancel _ (by decide)]
    show it rt n (rt (c <<< (n + 1))) = c
    rw [e, it_rt_small n c]
def g24 (x : Nat) : Nat := x <<< 16
def g32 (x : Nat) : Nat := x
theorem g32_xor (a b : Nat) : g32 (a ^^^ b) = g32 a ^^^ g32 b := by simp only [g32]
theorem g24_xor (a b : Nat) : g24 (a ^^^ b) = g24 a ^^^ g24 b := Nat.shiftLeft_xor_distrib
/-- The two registers behind a text, raw. -/
def r24 (l : List Nat) : Nat := reg st g24 l 0xb704ce
def r32 (l : List Nat) : Nat := reg rt g32 l 0xffffffff
def By (l : List Nat) : Prop := ∀ x ∈ l, x < 256
theorem st_nz (c : Nat) (_ : c < 2 ^ 24) (h : st c = 0) : c = 0 := st_zero h
theorem g24_lt {x : Nat} (h : x < 256) : g24 x < 2 ^ 24 := by
  unfold g24
  rw [Nat.shiftLeft_eq]
  omega
theorem r24_lt {l : List Nat} (h : By l) : r24 l < 2 ^ 24 := reg_lt (fun c => st_lt) g24 l (fun x hx => g24_lt (h x hx)) (by decide)
theorem r32_lt {l : List Nat} (h : By l) : r32 l < 2 ^ 32 := reg_lt (fun c => rt_lt) g32 l (fun x hx => Nat.lt_trans (h x hx) (by decide)) (by decide)
/-- Bit number 'bit' of a text turned. -/
def turn (l : List Nat) (bit : Nat) : List Nat := l.set (bit / 8) (l.getD (bit / 8) 0 ^^^ (128 >>> (bit % 8)))
theorem turn_len (l : List Nat) (bit : Nat) : (turn l bit).length = l.length := by unfold turn; rw [List.length_set]
theorem top_byte : ∀ j : Fin 8, 128 >>> j.val = 1 <<< (7 - j.val) := by decide
theorem topb (j : Nat) (h : j < 8) : 128 >>> j = 1 <<< (7 - j) := top_byte ⟨j, h⟩
theorem turn_by {l : List Nat} (h : By l) (bit : Nat) : By (turn l bit) := by
  intro x hx
  unfold turn at hx
  rcases List.mem_or_eq_of_mem_set hx with h1 | h1
  · exact h x h1
  · subst h1
    refine Nat.xor_lt_two_pow (n := 8) ?_ ?_
    · by_cases hk : bit / 8 < l.length
      · rw [List.getD_eq_getElem?_getD, List.getElem?_eq_getElem hk]
        exact h _ (List.getElem_mem hk)
      · rw [List.getD_eq_getElem?_getD, List.getElem?_eq_none (by omega)]
        decide
    · rw [Nat.shiftRight_eq_div_pow]
      have : 128 / 2 ^ (bit % 8) ≤ 128 := Nat.div_le_self _ _
      omega
theorem one_lt {n m : Nat} (h : n < m) : 1 <<< n < 2 ^ m := by
  rw [Nat.one_shiftLeft]
  exact Nat.pow_lt_pow_right (by decide) h
/-- What a turned bit does to the registers. -/
theorem turn24 {l : List Nat} {bit : Nat} (hb : bit < 8 * l.length) : r24 (turn l bit) = r24 l ^^^ it st (8 * l.length - 1 - bit + 24) 1 := by
  unfold r24 turn
  rw [reg_set st_xor g24 g24_xor _ l (bit / 8) _ (by omega), topb _ (by omega)]
  have e : g24 (1 <<< (7 - bit % 8)) = it st (23 - bit % 8) 1 := by
    rw [it_st_small _ _ (Nat.one_lt_two_pow (by omega)) (by omega)]
    unfold g24
    rw [← Nat.shiftLeft_add]
    congr 1
    omega
  rw [e, ← it_add, show 23 - bit % 8 + 8 * (l.length - bit / 8) = 8 * l.length - 1 - bit + 24 by omega]
theorem turn32 {l : List Nat} {bit : Nat} (hb : bit < 8 * l.length) : r32 (turn l bit) = r32 l ^^^ it rt (8 * (l.length - bit / 8) + 24 + bit % 8) (1 <<< 31) := by
  unfold r32 turn
  rw [reg_set rt_xor g32 g32_xor _ l (bit / 8) _ (by omega), topb _ (by omega)]
  have e : g32 (1 <<< (7 - bit % 8)) = it rt (24 + bit % 8) (1 <<< 31) := by
    rw [show 1 <<< 31 = (1 <<< (7 - bit % 8)) <<< (24 + bit % 8) by rw [← Nat.shiftLeft_add]; congr 1; omega, it_rt_small]
    rfl
  rw [e, ← it_add, show 24 + bit % 8 + 8 * (l.length - bit / 8) = 8 * (l.length - bit / 8) + 24 + bit % 8 by omega]
/-- Three bytes of a number of 24 bits, four of one of 32. -/
theorem reg3 (c x y z : Nat) (hy : y < 256) (hz : z < 256) : reg st g24 [x, y, z] c = it st 24 (c ^^^ (x <<< 16 ^^^ (y <<< 8 ^^^ z))) := by
  rw [reg_cons, reg_cons, reg_cons, reg_nil]
  have ey : g24 y = it st 8 (y <<< 8) := by
    rw [it_st_small _ _ (by rw [Nat.shiftLeft_eq]; omega) (by decide), ← Nat.shiftLeft_add]
    rfl
  have ez : g24 z = it st 16 z := by
    rw [it_st_small _ _ (by omega) (by decide)]
    rfl
  rw [ey, ez, ← it_xor st_xor, show it st 16 z = it st 8 (it st 8 z) from it_add 8 8 z, ← it_add, ← it_add, ← it_xor st_xor, ← it_add, Nat.xor_assoc, Nat.xor_assoc]
  rfl
theorem reg4 (c x y z w : Nat) : reg rt g32 [x, y, z, w] c = it rt 32 (c ^^^ (x ^^^ (y <<< 8 ^^^ (z <<< 16 ^^^ w <<< 24)))) := by
  rw [reg_cons, reg_cons, reg_cons, reg_cons, reg_nil]
  have ey : g32 y = it rt 8 (y <<< 8) := (it_rt_small 8 y).symm
  have ez : g32 z = it rt 16 (z <<< 16) := (it_rt_small 16 z).symm
  have ew : g32 w = it rt 24 (w <<< 24) := (it_rt_small 24 w).symm
  rw [ey, ez, ew, ← it_xor rt_xor, show ∀ v, it rt 16 v = it rt 8 (it rt 8 v) from fun v => it_add 8 8 v, show ∀ v, it rt 24 v = it rt 8 (it rt 8 (it rt 8 v)) from fun v => by rw [← it_add, ← it_add], ← it_xor rt_xor, ← it_xor rt_xor, ← it_xor rt_xor, ← it_xor rt_xor, ← it_xor rt_xor, ← it_add, ← it_add, ← it_add]
  simp only [Nat.xor_assoc]
  rfl
end Go.Proofs.Ytogdelhofdelgaa.Crc
