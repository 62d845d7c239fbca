/- The two sums' registers as numbers (layer 3): one step, many steps, what a turned bit does. Plain facts. -/
import Derived.IntWalk
import Derived.Lib.Bytes
import Derived.Test.YtcbjbgleflbpmaaPrint0
import Derived.Test.YtcbjbgleflbpmaaPrint7
import Derived.Test.YtcbjbgleflbpmaaPrint8
import Derived.Test.YtcbjbgleflbpmaaPrint15
import Derived.Test.YtcbjbgleflbpmaaPrint16
set_option linter.unusedVariables false
set_option linter.unusedSimpArgs false
namespace Go.Proofs.Ytcbjbgleflbpmaa.Crc
def st (c : Nat) : Nat := (c <<< 1) ^^^ (if c.testBit 23 then 0x1864cfb else 0)
def rt (c : Nat) : Nat := (c >>> 1) ^^^ (if c.testBit 0 then 0xedb88320 else 0)
theorem ite_xor (p q : Bool) (P : Nat) : (if (p ^^ q) = true then P else 0) = (if p = true then P else 0) ^^^ (if q = true then P else 0) := by cases p <;> cases q <;> simp
theorem xor4 (a b c d : Nat) : (a ^^^ b) ^^^ (c ^^^ d) = (a ^^^ c) ^^^ (b ^^^ d) := by
  rw [Nat.xor_assoc, Nat.xor_assoc, ← Nat.xor_assoc b c d, Nat.xor_comm b c, Nat.xor_assoc c b d]
theorem st_xor (a b : Nat) : st (a ^^^ b) = st a ^^^ st b := by
  unfold st
  rw [Nat.shiftLeft_xor_distrib, Nat.testBit_xor, ite_xor, xor4]
theorem rt_xor (a b : Nat) : rt (a ^^^ b) = rt a ^^^ rt b := by
  unfold rt
  rw [Nat.shiftRight_xor_distrib, Nat.testBit_xor, ite_xor, xor4]
theorem xor_eq_zero {a b : Nat} (h : a ^^^ b = 0) : a = b := by
  have : (a ^^^ b) ^^^ b = 0 ^^^ b := by rw [h]
  rw [Nat.xor_assoc, Nat.xor_self, Nat.xor_zero, Nat.zero_xor] at this
  exact this
/-- Below 2^n: no bit from n on. -/
theorem lt_bits {c n : Nat} (h : ∀ i, n ≤ i → c.testBit i = false) : c < 2 ^ n := Nat.lt_pow_two_of_testBit c fun i hi => h i hi
theorem bits_lt {c n i : Nat} (h : c < 2 ^ n) (hi : n ≤ i) : c.testBit i = false := Nat.testBit_lt_two_pow (Nat.lt_of_lt_of_le h (Nat.pow_le_pow_right (by decide) hi))
theorem P24_25 : (0x1864cfb : Nat) < 2 ^ 25 := by decide
theorem st_lt {c : Nat} (h : c < 2 ^ 24) : st c < 2 ^ 24 := by
  refine lt_bits fun i hi => ?_
  unfold st
  rw [Nat.testBit_xor, Nat.testBit_shiftLeft]
  by_cases e : i = 24
  · subst e
    cases hb : c.testBit 23 with
    | true =>
      simp only [hb, if_true]
      rw [show (0x1864cfb : Nat).testBit 24 = true by decide]
      simp [hb]
    | false => simp [hb]
  · have h1 : c.testBit (i - 1) = false := bits_lt h (by omega)
    rw [h1, Bool.and_false, Bool.false_xor]
    split
    · exact bits_lt P24_25 (by omega)
    · exact Nat.zero_testBit i
theorem rt_lt {c : Nat} (h : c < 2 ^ 32) : rt c < 2 ^ 32 := by
  unfold rt
  refine Nat.xor_lt_two_pow ?_ ?_
  · rw [Nat.shiftRight_eq_div_pow]
    omega
  · split <;> decide
theorem st_zero {c : Nat} (h : st c = 0) : c = 0 := by
  unfold st at h
  have h0 : ((c <<< 1) ^^^ (if c.testBit 23 then 0x1864cfb else 0)).testBit 0 = false := by rw [h]; exact Nat.zero_testBit 0
  rw [Nat.testBit_xor, Nat.testBit_shiftLeft] at h0
  cases hb : c.testBit 23 with
  | true =>
    rw [hb] at h0
    simp at h0
  | false =>
    rw [hb] at h
    simp at h
    exact h
theorem rt_zero {c : Nat} (hc : c < 2 ^ 32) (h : rt c = 0) : c = 0 := by
  unfold rt at h
  have h0 : ((c >>> 1) ^^^ (if c.testBit 0 then 0xedb88320 else 0)).testBit 31 = false := by rw [h]; exact Nat.zero_testBit 31
  rw [Nat.testBit_xor, Nat.testBit_shiftRight, bits_lt hc (by omega), Bool.false_xor] at h0
  cases hb : c.testBit 0 with
  | true =>
    rw [hb] at h0
    simp only [if_true] at h0
    rw [show (0xedb88320 : Nat).testBit 31 = true by decide] at h0
    cases h0
  | false =>
    rw [hb] at h
    simp only [Bool.false_eq_true, if_false, Nat.xor_zero] at h
    rw [Nat.shiftRight_eq_div_pow] at h
    rw [Nat.testBit_zero] at hb
    simp at hb
    omega
/-- So many steps. -/
def it (f : Nat → Nat) : Nat → Nat → Nat
  | 0, c => c
  | n + 1, c => it f n (f c)
section
variable {f : Nat → Nat} {B : Nat} (lin : ∀ a b, f (a ^^^ b) = f a ^^^ f b) (lt : ∀ c, c < 2 ^ B → f c < 2 ^ B) (nz : ∀ c, c < 2 ^ B → f c = 0 → c = 0)
theorem it_add (m n c : Nat) : it f (m + n) c = it f n (it f m c) := by
  induction m generalizing c with
  | zero => rw [Nat.zero_add]; rfl
  | succ m ih => rw [Nat.add_right_comm]; exact ih (f c)
include lin in
theorem it_xor (n a b : Nat) : it f n (a ^^^ b) = it f n a ^^^ it f n b := by
  induction n generalizing a b with
  | zero => rfl
  | succ n ih => show it f n (f (a ^^^ b)) = _; rw [lin, ih]; rfl
include lt in
theorem it_lt (n : Nat) {c : Nat} (h : c < 2 ^ B) : it f n c < 2 ^ B := by
  induction n generalizing c with
  | zero => exact h
  | succ n ih => exact ih (lt c h)
include lt nz in
theorem it_zero (n : Nat) {c : Nat} (h : c < 2 ^ B) (e : it f n c = 0) : c = 0 := by
  induction n generalizing c with
  | zero => exact e
  | succ n ih => exact nz c h (ih (lt c h) e)
include lin lt nz in
theorem it_inj (n : Nat) {a b : Nat} (ha : a < 2 ^ B) (hb : b < 2 ^ B) (e : it f n a = it f n b) : a = b := by
  refine xor_eq_zero (it_zero lt nz n (Nat.xor_lt_two_pow ha hb) ?_)
  rw [it_xor lin, e, Nat.xor_self]
include lin in
theorem it_nought (n : Nat) : it f n 0 = 0 := by
  have h := it_xor lin n 0 0
  rw [Nat.xor_self] at h
  rw [h, Nat.xor_self]
/-- A register behind a text; g puts a byte on it. -/
def reg (f g : Nat → Nat) (l : List Nat) (c : Nat) : Nat := l.foldl (fun c x => it f 8 (c ^^^ g x)) c
theorem reg_nil (g : Nat → Nat) (c : Nat) : reg f g [] c = c := rfl
theorem reg_cons (g : Nat → Nat) (x : Nat) (l : List Nat) (c : Nat) : reg f g (x :: l) c = reg f g l (it f 8 (c ^^^ g x)) := rfl
theorem reg_append (g : Nat → Nat) (l m : List Nat) (c : Nat) : reg f g (l ++ m) c = reg f g m (reg f g l c) := by unfold reg; rw [List.foldl_append]
include lin in
theorem reg_xor (g : Nat → Nat) (l : List Nat) (c d : Nat) : reg f g l (c ^^^ d) = reg f g l c ^^^ it f (8 * l.length) d := by
  induction l generalizing c d with
  | nil => rfl
  | cons x l ih =>
    rw [reg_cons, reg_cons, Nat.xor_assoc, Nat.xor_comm d, ← Nat.xor_assoc, it_xor lin, ih]
    congr 1
include lin in
theorem reg_set (g : Nat → Nat) (gl : ∀ a b, g (a ^^^ b) = g a ^^^ g b) (m : Nat) : ∀ (l : List Nat) (k c : Nat), k < l.length → reg f g (l.set k (l.getD k 0 ^^^ m)) c = reg f g l c ^^^ it f (8 * (l.length - k)) (g m)
  | [], k, c, h => by simp at h
  | x :: l, 0, c, h => by
    simp only [List.set_cons_zero, List.getD_cons_zero]
    rw [reg_cons, reg_cons, gl, ← Nat.xor_assoc, it_xor lin, reg_xor lin]
    congr 1
  | x :: l, k + 1, c, h => by
    simp only [List.set_cons_succ, List.getD_cons_succ]
    rw [reg_cons, reg_cons, reg_set g gl m l k _ (by simpa using h), List.length_cons]
    congr 2
    omega
include lt in
theorem reg_lt (g : Nat → Nat) (l : List Nat) (hg : ∀ x ∈ l, g x < 2 ^ B) {c : Nat} (h : c < 2 ^ B) : reg f g l c < 2 ^ B := by
  induction l generalizing c with
  | nil => exact h
  | cons x l ih =>
    rw [reg_cons]
    exact ih (fun y hy => hg y (by simp [hy])) (it_lt lt 8 (Nat.xor_lt_two_pow h (hg x (by simp))))
end
/-- Shifts that lose nothing. -/
theorem it_st_small : ∀ (n c : Nat), c < 2 ^ (24 - n) → n ≤ 24 → it st n c = c <<< n
  | 0, c, h, hn => by rw [Nat.shiftLeft_zero]; rfl
  | n + 1, c, h, hn => by
    have e : st c = c <<< 1 := by
      unfold st
      rw [bits_lt h (show 24 - (n + 1) ≤ 23 by omega)]
      simp
    show it st n (st c) = _
    rw [e, it_st_small n (c <<< 1) ?_ (by omega), ← Nat.shiftLeft_add, Nat.add_comm]
    rw [Nat.shiftLeft_eq, show 24 - n = 24 - (n + 1) + 1 by omega, Nat.pow_succ]
    omega
theorem it_rt_small : ∀ (n c : Nat), it rt n (c <<< n) = c
  | 0, c => by rw [Nat.shiftLeft_zero]; rfl
  | n + 1, c => by
    have e : rt (c <<< (n + 1)) = c <<< n := by
      unfold rt
      rw [Nat.testBit_shiftLeft]
      simp
      rw [Nat.shiftLeft_eq, Nat.shiftLeft_eq, Nat.shiftRight_eq_div_pow, Nat.pow_succ, ← Nat.mul_assoc, Nat.pow_one, Nat.mul_div_cancel _ (by decide)]
    show it rt n (rt (c <<< (n + 1))) = c
    rw [e, it_rt_small n c]
def g24 (x : Nat) : Nat := x <<< 16
def g32 (x : Nat) : Nat := x
theorem g32_xor (a b : Nat) : g32 (a ^^^ b) = g32 a ^^^ g32 b := by simp only [g32]
theorem g24_xor (a b : Nat) : g24 (a ^^^ b) = g24 a ^^^ g24 b := Nat.shiftLeft_xor_distrib
/-- The two registers behind a text, raw. -/
def r24 (l : List Nat) : Nat := reg st g24 l 0xb704ce
def r32 (l : List Nat) : Nat := reg rt g32 l 0xffffffff
def By (l : List Nat) : Prop := ∀ x ∈ l, x < 256
theorem st_nz (c : Nat) (_ : c < 2 ^ 24) (h : st c = 0) : c = 0 := st_zero h
theorem g24_lt {x : Nat} (h : x < 256) : g24 x < 2 ^ 24 := by
  unfold g24
  rw [Nat.shiftLeft_eq]
  omega
theorem r24_lt {l : List Nat} (h : By l) : r24 l < 2 ^ 24 := reg_lt (fun c => st_lt) g24 l (fun x hx => g24_lt (h x hx)) (by decide)
theorem r32_lt {l : List Nat} (h : By l) : r32 l < 2 ^ 32 := reg_lt (fun c => rt_lt) g32 l (fun x hx => Nat.lt_trans (h x hx) (by decide)) (by decide)
/-- Bit number 'bit' of a text turned. -/
def turn (l : List Nat) (bit : Nat) : List Nat := l.set (bit / 8) (l.getD (bit / 8) 0 ^^^ (128 >>> (bit % 8)))
theorem turn_len (l : List Nat) (bit : Nat) : (turn l bit).length = l.length := by unfold turn; rw [List.length_set]
theorem top_byte : ∀ j : Fin 8, 128 >>> j.val = 1 <<< (7 - j.val) := by decide
theorem topb (j : Nat) (h : j < 8) : 128 >>> j = 1 <<< (7 - j) := top_byte ⟨j, h⟩
theorem turn_by {l : List Nat} (h : By l) (bit : Nat) : By (turn l bit) := by
  intro x hx
  unfold turn at hx
  rcases List.mem_or_eq_of_mem_set hx with h1 | h1
  · exact h x h1
  · subst h1
    refine Nat.xor_lt_two_pow (n := 8) ?_ ?_
    · by_cases hk : bit / 8 < l.length
      · rw [List.getD_eq_getElem?_getD, List.getElem?_eq_getElem hk]
        exact h _ (List.getElem_mem hk)
      · rw [List.getD_eq_getElem?_getD, List.getElem?_eq_none (by omega)]
        decide
    · rw [Nat.shiftRight_eq_div_pow]
      have : 128 / 2 ^ (bit % 8) ≤ 128 := Nat.div_le_self _ _
      omega
theorem one_lt {n m : Nat} (h : n < m) : 1 <<< n < 2 ^ m := by
  rw [Nat.one_shiftLeft]
  exact Nat.pow_lt_pow_right (by decide) h
/-- What a turned bit does to the registers. -/
theorem turn24 {l : List Nat} {bit : Nat} (hb : bit < 8 * l.length) : r24 (turn l bit) = r24 l ^^^ it st (8 * l.length - 1 - bit + 24) 1 := by
  unfold r24 turn
  rw [reg_set st_xor g24 g24_xor _ l (bit / 8) _ (by omega), topb _ (by omega)]
  have e : g24 (1 <<< (7 - bit % 8)) = it st (23 - bit % 8) 1 := by
    rw [it_st_small _ _ (Nat.one_lt_two_pow (by omega)) (by omega)]
    unfold g24
    rw [← Nat.shiftLeft_add]
    congr 1
    omega
  rw [e, ← it_add, show 23 - bit % 8 + 8 * (l.length - bit / 8) = 8 * l.length - 1 - bit + 24 by omega]
theorem turn32 {l : List Nat} {bit : Nat} (hb : bit < 8 * l.length) : r32 (turn l bit) = r32 l ^^^ it rt (8 * (l.length - bit / 8) + 24 + bit % 8) (1 <<< 31) := by
  unfold r32 turn
  rw [reg_set rt_xor g32 g32_xor _ l (bit / 8) _ (by omega), topb _ (by omega)]
  have e : g32 (1 <<< (7 - bit % 8)) = it rt (24 + bit % 8) (1 <<< 31) := by
    rw [show 1 <<< 31 = (1 <<< (7 - bit % 8)) <<< (24 + bit % 8) by rw [← Nat.shiftLeft_add]; congr 1; omega, it_rt_small]
    rfl
  rw [e, ← it_add, show 24 + bit % 8 + 8 * (l.length - bit / 8) = 8 * (l.length - bit / 8) + 24 + bit % 8 by omega]
/-- Three bytes of a number of 24 bits, four of one of 32. -/
theorem reg3 (c x y z : Nat) (hy : y < 256) (hz : z < 256) : reg st g24 [x, y, z] c = it st 24 (c ^^^ (x <<< 16 ^^^ (y <<< 8 ^^^ z))) := by
  rw [reg_cons, reg_cons, reg_cons, reg_nil]
  have ey : g24 y = it st 8 (y <<< 8) := by
    rw [it_st_small _ _ (by rw [Nat.shiftLeft_eq]; omega) (by decide), ← Nat.shiftLeft_add]
    rfl
  have ez : g24 z = it st 16 z := by
    rw [it_st_small _ _ (by omega) (by decide)]
    rfl
  rw [ey, ez, ← it_xor st_xor, show it st 16 z = it st 8 (it st 8 z) from it_add 8 8 z, ← it_add, ← it_add, ← it_xor st_xor, ← it_add, Nat.xor_assoc, Nat.xor_assoc]
  rfl
theorem reg4 (c x y z w : Nat) : reg rt g32 [x, y, z, w] c = it rt 32 (c ^^^ (x ^^^ (y <<< 8 ^^^ (z <<< 16 ^^^ w <<< 24)))) := by
  rw [reg_cons, reg_cons, reg_cons, reg_cons, reg_nil]
  have ey : g32 y = it rt 8 (y <<< 8) := (it_rt_small 8 y).symm
  have ez : g32 z = it rt 16 (z <<< 16) := (it_rt_small 16 z).symm
  have ew : g32 w = it rt 24 (w <<< 24) := (it_rt_small 24 w).symm
  rw [ey, ez, ew, ← it_xor rt_xor, show ∀ v, it rt 16 v = it rt 8 (it rt 8 v) from fun v => it_add 8 8 v, show ∀ v, it rt 24 v = it rt 8 (it rt 8 (it rt 8 v)) from fun v => by rw [← it_add, ← it_add], ← it_xor rt_xor, ← it_xor rt_xor, ← it_xor rt_xor, ← it_xor rt_xor, ← it_xor rt_xor, ← it_add, ← it_add, ← it_add]
  simp only [Nat.xor_assoc]
  rfl
theorem xor_add (a b k : Nat) (h : b < 2 ^ k) : (a <<< k) ^^^ b = a * 2 ^ k + b := by
  apply Nat.eq_of_testBit_eq
  intro i
  rw [Nat.testBit_xor, Nat.testBit_shiftLeft, Nat.mul_comm, Nat.testBit_two_pow_mul_add a h]
  by_cases c : i < k
  · rw [if_pos c]
    simp [show ¬ i ≥ k by omega]
  · rw [if_neg c, bits_lt h (by omega)]
    simp [show i ≥ k by omega]
theorem three (x y z : Nat) (hy : y < 256) (hz : z < 256) : x <<< 16 ^^^ (y <<< 8 ^^^ z) = x * 65536 + y * 256 + z := by
  rw [xor_add y z 8 (by omega), xor_add x _ 16 (by omega)]
  omega
theorem four (x y z w : Nat) (hx : x < 256) (hy : y < 256) (hz : z < 256) : x ^^^ (y <<< 8 ^^^ (z <<< 16 ^^^ w <<< 24)) = w * 16777216 + z * 65536 + y * 256 + x := by
  rw [Nat.xor_comm x, Nat.xor_assoc, Nat.xor_comm (z <<< 16), Nat.xor_comm (y <<< 8), Nat.xor_assoc (w <<< 24), Nat.xor_assoc (w <<< 24), Nat.xor_assoc (z <<< 16)]
  rw [show x ^^^ y <<< 8 = y <<< 8 ^^^ x from Nat.xor_comm _ _] <;> try skip
  rw [xor_add y x 8 (by omega), xor_add z _ 16 (by omega), xor_add w _ 24 (by omega)]
  omega
end Go.Proofs.Ytcbjbgleflbpmaa.Crc
/- Sums, seals, turned bits (layer 3), as printed: what each function answers. -/
namespace Go.Proofs.Ytcbjbgleflbpmaa.CrcFn
open Go Go.RowKit Go.Proofs.Ytcbjbgleflbpmaa.Print Go.Proofs.YtcbjbgleflbpmaaW.PrintWords Go.Proofs.YtcbjbgleflbpmaaW.PrintLast Go.Proofs.YtcbjbgleflbpmaaW.PrintMore Go.Proofs.Ytcbjbgleflbpmaa.Crc
theorem w64 {x : Int} (h : -9223372036854775808 ≤ x) (h2 : x ≤ 9223372036854775807) : wrap64 x = x := by unfold wrap64; omega
def cs (l : List Nat) : List Int := l.map fun a : Nat => (a : Int)
theorem cs_append (l m : List Nat) : cs (l ++ m) = cs l ++ cs m := by unfold cs; rw [List.map_append]
theorem cs_len (l : List Nat) : (cs l).length = l.length := by unfold cs; rw [List.length_map]
theorem cs_drop (l : List Nat) (n : Nat) : (cs l).drop n = cs (l.drop n) := by unfold cs; rw [List.map_drop]
theorem cs_take (l : List Nat) (n : Nat) : (cs l).take n = cs (l.take n) := by unfold cs; rw [List.map_take]
theorem cs_set (l : List Nat) (k v : Nat) : (cs l).set k (v : Int) = cs (l.set k v) := by unfold cs; rw [List.map_set]
theorem cs_rd (l : List Nat) (i : Nat) : rd (cs l) (i : Int) = ((l.getD i 0 : Nat) : Int) := by
  unfold rd cs
  rw [Int.toNat_natCast, List.getD_eq_getElem?_getD, List.getD_eq_getElem?_getD, List.getElem?_map]
  cases l[i]? <;> rfl
theorem bytes_of {l : List Int} (h : ∀ y ∈ l, (Lit.int .u8 y).wf = true) : ∃ m : List Nat, l = cs m ∧ By m := by
  refine ⟨l.map Int.toNat, ?_, ?_⟩
  · unfold cs
    rw [List.map_map]
    have : ∀ y ∈ l, ((fun a : Nat => (a : Int)) ∘ Int.toNat) y = y := by
      intro y hy
      have h : 0 ≤ y ∧ y ≤ 255 := by simpa [Lit.wf, IntKind.min, IntKind.max, IntKind.signed, IntKind.bits] using h y hy
      show ((y.toNat : Nat) : Int) = y
      omega
    rw [List.map_congr_left this, List.map_id']
  · intro x hx
    obtain ⟨y, hy, rfl⟩ := List.mem_map.1 hx
    have h : 0 ≤ y ∧ y ≤ 255 := by simpa [Lit.wf, IntKind.min, IntKind.max, IntKind.signed, IntKind.bits] using h y hy
    omega
theorem nums_inj {l m : List Nat} (hl : By l) (hm : By m) (h : (strOfNums (cs l)).toList = (strOfNums (cs m)).toList) : l = m := by
  unfold cs at h
  rw [Go.Lib.strOfNums_toList, Go.Lib.strOfNums_toList] at h
  induction l generalizing m with
  | nil => cases m with
    | nil => rfl
    | cons b m => simp [Go.Lib.bytesOf] at h
  | cons a l ih =>
    cases m with
    | nil => simp [Go.Lib.bytesOf] at h
    | cons b m =>
      simp only [Go.Lib.bytesOf, List.map_cons, List.cons.injEq] at h
      have h1 := hl a (by simp)
      have h2 := hm b (by simp)
      have i := ih (fun c hc => hl c (by simp [hc])) (fun c hc => hm c (by simp [hc])) h.2
      have e := UInt8.toNat_inj.2 h.1
      rw [Int.toNat_natCast, Int.toNat_natCast, UInt8.toNat_ofNat', UInt8.toNat_ofNat', Nat.mod_eq_of_lt h1, Nat.mod_eq_of_lt h2] at e
      rw [e, i]
theorem text_eq {l m : List Nat} (hl : By l) (hm : By m) : ((strOfNums (cs l)).toList == (strOfNums (cs m)).toList) = decide (l = m) := by
  rw [Bool.eq_iff_iff, beq_iff_eq, decide_eq_true_eq]
  exact ⟨fun h => nums_inj hl hm h, fun h => by rw [h]⟩
/-! ### Numbers of 32 bits, bit by bit -/
theorem uw32 (x : Int) : IntKind.u32.wrap x = x % 4294967296 := by
  simp only [IntKind.wrap, IntKind.bits, IntKind.signed]
  simp
theorem xor32 {a b : Nat} (ha : a < 2 ^ 32) (hb : b < 2 ^ 32) : Go.bits .xor .u32 (a : Int) (b : Int) = ((a ^^^ b : Nat) : Int) := by
  show IntKind.u32.wrap (((BitVec.ofInt 32 (a : Int)) ^^^ (BitVec.ofInt 32 (b : Int))).toNat : Int) = _
  rw [BitVec.ofInt_natCast, BitVec.ofInt_natCast, BitVec.toNat_xor, BitVec.toNat_ofNat, BitVec.toNat_ofNat, Nat.mod_eq_of_lt ha, Nat.mod_eq_of_lt hb, uw32]
  have := Nat.xor_lt_two_pow ha hb
  omega
theorem and32 {a b : Nat} (ha : a < 2 ^ 32) (hb : b < 2 ^ 32) : Go.bits .and .u32 (a : Int) (b : Int) = ((a &&& b : Nat) : Int) := by
  show IntKind.u32.wrap (((BitVec.ofInt 32 (a : Int)) &&& (BitVec.ofInt 32 (b : Int))).toNat : Int) = _
  rw [BitVec.ofInt_natCast, BitVec.ofInt_natCast, BitVec.toNat_and, BitVec.toNat_ofNat, BitVec.toNat_ofNat, Nat.mod_eq_of_lt ha, Nat.mod_eq_of_lt hb, uw32]
  have : a &&& b ≤ a := Nat.and_le_left
  omega
theorem xor8 {a b : Nat} (ha : a < 256) (hb : b < 256) : Go.bits .xor .u8 (a : Int) (b : Int) = ((a ^^^ b : Nat) : Int) := by
  show IntKind.u8.wrap (((BitVec.ofInt 8 (a : Int)) ^^^ (BitVec.ofInt 8 (b : Int))).toNat : Int) = _
  rw [BitVec.ofInt_natCast, BitVec.ofInt_natCast, BitVec.toNat_xor, BitVec.toNat_ofNat, BitVec.toNat_ofNat, Nat.mod_eq_of_lt ha, Nat.mod_eq_of_lt hb]
  have := Nat.xor_lt_two_pow (n := 8) ha hb
  simp only [IntKind.wrap, IntKind.bits, IntKind.signed]
  simp
  omega
theorem and_pow (x i : Nat) : x &&& 2 ^ i = if x.testBit i = true then 2 ^ i else 0 := by
  apply Nat.eq_of_testBit_eq
  intro j
  rw [Nat.testBit_and, Nat.testBit_two_pow]
  by_cases e : i = j
  · subst e
    cases h : x.testBit i <;> simp
  · cases h : x.testBit i <;> simp [e]
theorem it_succ (f : Nat → Nat) (n c : Nat) : it f (n + 1) c = f (it f n c) := it_add n 1 c
theorem s32_eq {c : Nat} (h : c < 2 ^ 32) : crc_s32 (c : Int) = ((rt c : Nat) : Int) := by
  unfold crc_s32 rt
  have e0 : (c : Int) / (2 : Int) = ((c >>> 1 : Nat) : Int) := by
    rw [Nat.shiftRight_eq_div_pow]
    omega
  rw [show (1 : Int) = ((2 ^ 0 : Nat) : Int) from rfl, and32 h (by decide), and_pow, e0]
  have h1 : c >>> 1 < 2 ^ 32 := by rw [Nat.shiftRight_eq_div_pow]; omega
  cases hb : c.testBit 0
  · rw [if_neg (by decide), if_neg (by decide), show (3988292384 * ((0 : Nat) : Int)) % 4294967296 = ((0 : Nat) : Int) by decide, xor32 h1 (by decide)]
  · rw [if_pos rfl, if_pos rfl, show (3988292384 * ((2 ^ 0 : Nat) : Int)) % 4294967296 = ((0xedb88320 : Nat) : Int) by decide, xor32 h1 (by decide)]
theorem it32_eq (n : Nat) {c : Nat} (h : c < 2 ^ 32) : crc_it crc_s32 n (c : Int) = ((it rt n c : Nat) : Int) := by
  induction n with
  | zero => rfl
  | succ n ih =>
    rw [crc_it, ih, it_succ]
    exact s32_eq (it_lt (fun c => rt_lt) n h)
theorem e32_eq {i : Nat} (h : i < 256) : crc_e32 i = ((it rt 8 i : Nat) : Int) := by
  unfold crc_e32
  rw [show (i : Int) % 4294967296 = (i : Int) by omega]
  exact it32_eq 8 (by omega)
theorem split_at' (c k : Nat) : c = (c / 2 ^ k) <<< k ^^^ c % 2 ^ k := by
  rw [xor_add _ _ k (Nat.mod_lt _ (Nat.pow_pos (by decide)))]
  exact (Nat.div_add_mod' c (2 ^ k)).symm
theorem b32_eq {c y : Nat} (hc : c < 2 ^ 32) (hy : y < 256) : crc_b32 (c : Int) (y : Int) = ((it rt 8 (c ^^^ g32 y) : Nat) : Int) := by
  unfold crc_b32
  have hx : c % 256 ^^^ y < 2 ^ 8 := Nat.xor_lt_two_pow (by omega) hy
  rw [show (c : Int) % 256 = ((c % 256 : Nat) : Int) by omega, xor8 (by omega) hy, Int.toNat_natCast, e32_eq hx, show (c : Int) / 256 = ((c / 256 : Nat) : Int) by omega, xor32 (by omega) (it_lt (fun c => rt_lt) 8 (by omega))]
  congr 1
  have e : c ^^^ g32 y = (c / 256) <<< 8 ^^^ (c % 256 ^^^ y) := by
    conv => lhs; rw [split_at' c 8]
    unfold g32
    rw [Nat.xor_assoc]
  rw [e, it_xor rt_xor 8 ((c / 256) <<< 8), it_rt_small]
theorem fold32 (l : List Nat) (hl : By l) : ∀ c : Nat, c < 2 ^ 32 → (cs l).foldl crc_b32 (c : Int) = ((reg rt g32 l c : Nat) : Int) := by
  induction l with
  | nil => intro c _; rfl
  | cons x l ih =>
    intro c hc
    have hx := hl x (by simp)
    show (cs l).foldl crc_b32 (crc_b32 (c : Int) (x : Int)) = _
    rw [b32_eq hc hx, ih (fun y hy => hl y (by simp [hy])) _ (it_lt (fun c => rt_lt) 8 (Nat.xor_lt_two_pow hc (show g32 x < 2 ^ 32 from Nat.lt_trans hx (by decide))))]
    rfl
/-- The sum of 32 bits. -/
def t32 (l : List Nat) : Nat := 0xffffffff ^^^ r32 l
theorem t32_lt {l : List Nat} (h : By l) : t32 l < 2 ^ 32 := Nat.xor_lt_two_pow (by decide) (r32_lt h)
theorem Sum32_eq (l : List Nat) (hl : By l) (hn : l.length ≤ 140737488355328) : crc_Sum32.f (cs l) = some (t32 l : Int) := by
  unfold crc_Sum32.f
  rw [if_pos (by rw [cs_len]; exact hn), show (4294967295 : Int) = ((0xffffffff : Nat) : Int) from rfl, fold32 l hl _ (by decide), xor32 (by decide) (reg_lt (fun c => rt_lt) g32 l (fun x hx => Nat.lt_trans (hl x hx) (by decide)) (by decide))]
  rfl
end Go.Proofs.Ytcbjbgleflbpmaa.CrcFn
/- Seals, opened texts, turned bits, and the document's sums (layer 3), as printed. -/
namespace Go.Proofs.Ytcbjbgleflbpmaa.CrcFn
open Go Go.RowKit Go.Proofs.Ytcbjbgleflbpmaa.Print Go.Proofs.YtcbjbgleflbpmaaW.PrintWords Go.Proofs.YtcbjbgleflbpmaaW.PrintLast Go.Proofs.YtcbjbgleflbpmaaW.PrintMore Go.Proofs.Ytcbjbgleflbpmaa.Crc
theorem By.append {l m : List Nat} (h : By l) (h2 : By m) : By (l ++ m) := fun x hx => (List.mem_append.1 hx).elim (h x) (h2 x)
theorem By.take {l : List Nat} (h : By l) (n : Nat) : By (l.take n) := fun x hx => h x (List.mem_of_mem_take hx)
theorem By.drop {l : List Nat} (h : By l) (n : Nat) : By (l.drop n) := fun x hx => h x (List.mem_of_mem_drop hx)
theorem By.nil : By [] := fun x hx => by cases hx
/-- A sum's bytes. -/
def b3 (v : Nat) : List Nat := [v / 65536 % 256, v / 256 % 256, v % 256]
def b4 (v : Nat) : List Nat := [v % 256, v / 256 % 256, v / 65536 % 256, v / 16777216 % 256]
theorem b3_by (v : Nat) : By (b3 v) := by
  intro x hx
  simp [b3] at hx
  omega
theorem b4_by (v : Nat) : By (b4 v) := by
  intro x hx
  simp [b4] at hx
  omega
theorem b3_inj {v x y z : Nat} (hv : v < 2 ^ 24) (hy : y < 256) (hz : z < 256) (hx : x < 256) : b3 v = [x, y, z] ↔ v = x * 65536 + y * 256 + z := by
  unfold b3
  simp only [List.cons.injEq, and_true]
  omega
theorem b4_inj {v x y z w : Nat} (hv : v < 2 ^ 32) (hx : x < 256) (hy : y < 256) (hz : z < 256) (hw : w < 256) : b4 v = [x, y, z, w] ↔ v = w * 16777216 + z * 65536 + y * 256 + x := by
  unfold b4
  simp only [List.cons.injEq, and_true]
  omega
theorem last3 {l : List Nat} (h : 3 ≤ l.length) : ∃ p x y z, l = p ++ [x, y, z] := by
  refine ⟨l.take (l.length - 3), l.getD (l.length - 3) 0, l.getD (l.length - 2) 0, l.getD (l.length - 1) 0, ?_⟩
  have e : l.drop (l.length - 3) = [l.getD (l.length - 3) 0, l.getD (l.length - 2) 0, l.getD (l.length - 1) 0] := by
    rw [List.drop_eq_getElem_cons (by omega), List.drop_eq_getElem_cons (by omega), List.drop_eq_getElem_cons (by omega), List.drop_of_length_le (by omega)]
    simp only [List.getD_eq_getElem?_getD]
    rw [List.getElem?_eq_getElem (by omega), List.getElem?_eq_getElem (by omega), List.getElem?_eq_getElem (by omega)]
    simp only [Option.getD_some]
    congr 2
    · congr 1; omega
    · congr 1; congr 1; omega
  rw [← e, List.take_append_drop]
theorem last4 {l : List Nat} (h : 4 ≤ l.length) : ∃ p x y z w, l = p ++ [x, y, z, w] := by
  refine ⟨l.take (l.length - 4), l.getD (l.length - 4) 0, l.getD (l.length - 3) 0, l.getD (l.length - 2) 0, l.getD (l.length - 1) 0, ?_⟩
  have e : l.drop (l.length - 4) = [l.getD (l.length - 4) 0, l.getD (l.length - 3) 0, l.getD (l.length - 2) 0, l.getD (l.length - 1) 0] := by
    rw [List.drop_eq_getElem_cons (by omega), List.drop_eq_getElem_cons (by omega), List.drop_eq_getElem_cons (by omega), List.drop_eq_getElem_cons (by omega), List.drop_of_length_le (by omega)]
    simp only [List.getD_eq_getElem?_getD]
    rw [List.getElem?_eq_getElem (by omega), List.getElem?_eq_getElem (by omega), List.getElem?_eq_getElem (by omega), List.getElem?_eq_getElem (by omega)]
    simp only [Option.getD_some]
    congr 2
    · congr 1; omega
    · congr 1
      · congr 1; omega
      · congr 1; congr 1; omega
  rw [← e, List.take_append_drop]
/-- A text is sealed just if its sum is nought, or the one that all sealed texts have. -/
def good24 (l : List Nat) : Prop := b3 (r24 (l.take (l.length - 3))) = l.drop (l.length - 3)
instance (l : List Nat) : Decidable (good24 l) := by unfold good24; infer_instance
theorem good24_iff {l : List Nat} (hl : By l) (h : 3 ≤ l.length) : good24 l ↔ r24 l = 0 := by
  obtain ⟨p, x, y, z, rfl⟩ := last3 h
  have hp : By p := fun a ha => hl a (by simp [ha])
  have hx := hl x (by simp)
  have hy := hl y (by simp)
  have hz := hl z (by simp)
  have e : (p ++ [x, y, z]).length - 3 = p.length := by simp
  unfold good24
  rw [e, List.take_left, List.drop_left, b3_inj (r24_lt hp) hy hz hx]
  have e2 : r24 (p ++ [x, y, z]) = it st 24 (r24 p ^^^ (x * 65536 + y * 256 + z)) := by
    unfold r24
    rw [reg_append, reg3 _ x y z hy hz, three x y z hy hz]
  rw [e2]
  constructor
  · intro h
    rw [h, Nat.xor_self, it_nought st_xor]
  · intro h
    exact xor_eq_zero (it_zero (fun c => st_lt) st_nz 24 (Nat.xor_lt_two_pow (r24_lt hp) (by omega)) h)
def res32 : Nat := it rt 32 0xffffffff
def good32 (l : List Nat) : Prop := b4 (0xffffffff ^^^ r32 (l.take (l.length - 4))) = l.drop (l.length - 4)
instance (l : List Nat) : Decidable (good32 l) := by unfold good32; infer_instance
theorem good32_iff {l : List Nat} (hl : By l) (h : 4 ≤ l.length) : good32 l ↔ r32 l = res32 := by
  obtain ⟨p, x, y, z, w, rfl⟩ := last4 h
  have hp : By p := fun a ha => hl a (by simp [ha])
  have hx := hl x (by simp)
  have hy := hl y (by simp)
  have hz := hl z (by simp)
  have hw := hl w (by simp)
  have e : (p ++ [x, y, z, w]).length - 4 = p.length := by simp
  unfold good32
  rw [e, List.take_left, List.drop_left, b4_inj (Nat.xor_lt_two_pow (by decide) (r32_lt hp)) hx hy hz hw]
  have e2 : r32 (p ++ [x, y, z, w]) = it rt 32 (r32 p ^^^ (w * 16777216 + z * 65536 + y * 256 + x)) := by
    unfold r32
    rw [reg_append, reg4, four x y z w hx hy hz]
  rw [e2]
  have hT : w * 16777216 + z * 65536 + y * 256 + x < 2 ^ 32 := by omega
  generalize w * 16777216 + z * 65536 + y * 256 + x = T at *
  unfold res32
  constructor
  · intro h
    rw [← h, Nat.xor_comm 0xffffffff, ← Nat.xor_assoc, Nat.xor_self, Nat.zero_xor]
  · intro h
    have := it_inj rt_xor (fun c => rt_lt) (fun c hc => rt_zero hc) 32 (Nat.xor_lt_two_pow (r32_lt hp) hT) (by decide) h
    rw [← this, Nat.xor_comm (r32 p), Nat.xor_assoc, Nat.xor_self, Nat.xor_zero]
/-- What a sealed text's seal says. -/
theorem sealed24 {l : List Nat} (hl : By l) : good24 (l ++ b3 (r24 l)) := by
  unfold good24
  have e : (l ++ b3 (r24 l)).length - 3 = l.length := by simp [b3]
  rw [e, List.take_left, List.drop_left]
theorem sealed32 {l : List Nat} (hl : By l) : good32 (l ++ b4 (0xffffffff ^^^ r32 l)) := by
  unfold good32
  have e : (l ++ b4 (0xffffffff ^^^ r32 l)).length - 4 = l.length := by simp [b4]
  rw [e, List.take_left, List.drop_left]
theorem good24_take {l : List Nat} (h3 : 3 ≤ l.length) (h : good24 l) : l = l.take (l.length - 3) ++ b3 (r24 (l.take (l.length - 3))) := by
  unfold good24 at h
  rw [h, List.take_append_drop]
theorem good32_take {l : List Nat} (h4 : 4 ≤ l.length) (h : good32 l) : l = l.take (l.length - 4) ++ b4 (0xffffffff ^^^ r32 (l.take (l.length - 4))) := by
  unfold good32 at h
  rw [h, List.take_append_drop]
def op24 (l : List Nat) : List Int × Int := if l.length < 3 then ([], 3) else if 1048579 < l.length then ([], 6) else if good24 l then (cs (l.take (l.length - 3)), 0) else ([], 5)
def op32 (l : List Nat) : List Int × Int := if l.length < 4 then ([], 3) else if 1048580 < l.length then ([], 6) else if good32 l then (cs (l.take (l.length - 4)), 0) else ([], 5)
theorem clone_eq (l : List Nat) (h : l.length < 17592186044416) : slices_Clone_byte_byte.f (cs l) = some (cs l) := by unfold slices_Clone_byte_byte.f; rw [if_pos (by rw [cs_len]; exact h)]
theorem tail32_eq (l : List Nat) (hl : By l) (hn : l.length ≤ 140737488355328) : crc_tail32.f (cs l) = some (cs (b4 (0xffffffff ^^^ r32 l))) := by
  unfold crc_tail32.f
  rw [Sum32_eq l hl hn, Option.bind_some]
  rfl
theorem Open32_eq (l : List Nat) (hl : By l) (hn : l.length ≤ 10000000000) : crc_Open32.f (cs l) = some (op32 l) := by
  unfold crc_Open32.f crc_open_at_crc_tail32.f op32
  rw [cs_len, w64 (by omega) (by omega)]
  by_cases h1 : l.length < 4
  · rw [if_pos (by omega), if_pos h1]
    rfl
  rw [if_neg (by omega), if_neg h1]
  by_cases h2 : 1048580 < l.length
  · rw [if_pos (by omega), if_pos h2]
    rfl
  rw [if_neg (by omega), if_neg h2, if_pos (by omega), if_pos (by omega), show ((l.length : Int) - 4).toNat = l.length - 4 by omega, cs_take, cs_drop, tail32_eq _ (By.take hl _) (by rw [List.length_take]; omega), Option.bind_some]
  unfold bytes_Equal.f
  rw [Option.bind_some, text_eq (b4_by _) (By.drop hl _)]
  by_cases g : good32 l
  · have g' : b4 (0xffffffff ^^^ r32 (l.take (l.length - 4))) = l.drop (l.length - 4) := g
    rw [if_pos g, decide_eq_true g', if_pos rfl, clone_eq _ (by rw [List.length_take]; omega)]
    rfl
  · have g' : ¬ b4 (0xffffffff ^^^ r32 (l.take (l.length - 4))) = l.drop (l.length - 4) := g
    rw [if_neg g, decide_eq_false g', if_neg (by decide)]
    rfl
theorem getD_lt {l : List Nat} (h : By l) (k : Nat) : l.getD k 0 < 256 := by
  by_cases hk : k < l.length
  · rw [List.getD_eq_getElem?_getD, List.getElem?_eq_getElem hk]
    exact h _ (List.getElem_mem hk)
  · rw [List.getD_eq_getElem?_getD, List.getElem?_eq_none (by omega)]
    decide
theorem rs32 (x6 : List Int) (x7 x8 : Int) : ∀ (j k c : Nat), j ≤ 8 → c < 2 ^ 32 → palletref03_Sum32.l1 (k + j + 1) (c : Int) x6 x7 x8 (8 - (j : Int)) = palletref03_Sum32.l0 k ((it rt j c : Nat) : Int) x6 x7 (wrap64 (x8 + 1)) := by
  intro j
  induction j with
  | zero =>
    intro k c _ _
    rw [palletref03_Sum32.l1, if_neg (by omega)]
    rfl
  | succ j ih =>
    intro k c hj hc
    have e2 : ((c : Int) / 2) % 4294967296 = ((c / 2 : Nat) : Int) := by omega
    rw [show k + (j + 1) + 1 = (k + j + 1) + 1 by omega, palletref03_Sum32.l1, if_pos (by omega), Int.tmod_eq_emod_of_nonneg (by omega), Int.tdiv_eq_ediv_of_nonneg (by omega), e2, w64 (by omega) (by omega), show 8 - ((j + 1 : Nat) : Int) + 1 = 8 - (j : Int) by omega]
    by_cases h : (c : Int) % 2 = 1
    · have e4 : Go.bits .xor .u32 ((c / 2 : Nat) : Int) 3988292384 = ((rt c : Nat) : Int) := by
        rw [show (3988292384 : Int) = ((3988292384 : Nat) : Int) from rfl, xor32 (by omega) (by decide)]
        congr 1
        have hb : c.testBit 0 = true := by
          rw [Nat.testBit_zero, decide_eq_true_eq]
          omega
        unfold rt
        rw [hb, if_pos rfl, Nat.shiftRight_eq_div_pow, Nat.pow_one]
      rw [if_pos h, e4, ih k _ (by omega) (rt_lt hc)]
      rfl
    · have e4 : ((c / 2 : Nat) : Int) = ((rt c : Nat) : Int) := by
        have hb : c.testBit 0 = false := by
          rw [Nat.testBit_zero, decide_eq_false_iff_not]
          omega
        unfold rt
        rw [hb, if_neg (by decide), Nat.xor_zero, Nat.shiftRight_eq_div_pow, Nat.pow_one]
      rw [if_neg h, e4, ih k _ (by omega) (rt_lt hc)]
      rfl
theorem drop_cons' (xs : List Nat) (i : Nat) (h : i < xs.length) : xs.drop i = xs.getD i 0 :: xs.drop (i + 1) := by
  rw [List.drop_eq_getElem_cons h, List.getD_eq_getElem?_getD, List.getElem?_eq_getElem h]
  rfl
theorem rl32 (l : List Nat) (hl : By l) (hn : l.length ≤ 10000000000) (d : Nat) : ∀ (k i c : Nat), i ≤ l.length → l.length - i = d → 10 * d + 1 ≤ k → c < 2 ^ 32 → palletref03_Sum32.l0 k (c : Int) (cs l) (l.length : Int) (i : Int) = some ((0xffffffff ^^^ reg rt g32 (l.drop i) c : Nat) : Int) := by
  induction d with
  | zero =>
    intro k i c hi hd hk hc
    obtain ⟨k, rfl⟩ : ∃ m, k = m + 1 := ⟨k - 1, by omega⟩
    rw [palletref03_Sum32.l0, if_neg (by omega), List.drop_of_length_le (by omega), show (4294967295 : Int) = ((0xffffffff : Nat) : Int) from rfl, xor32 (by decide) hc]
    rfl
  | succ d ih =>
    intro k i c hi hd hk hc
    obtain ⟨k, rfl⟩ : ∃ m, k = (m + 8 + 1) + 1 := ⟨k - 10, by omega⟩
    have hx := getD_lt hl i
    have hx32 : g32 (l.getD i 0) < 2 ^ 32 := Nat.lt_trans hx (by decide)
    rw [palletref03_Sum32.l0, if_pos (by omega), if_pos (by omega), cs_len, if_pos (by omega), cs_rd, show ((l.getD i 0 : Nat) : Int) % 4294967296 = ((g32 (l.getD i 0) : Nat) : Int) by unfold g32; omega, xor32 hc hx32]
    have := rs32 (cs l) (l.length : Int) (i : Int) 8 k (c ^^^ g32 (l.getD i 0)) (Nat.le_refl _) (Nat.xor_lt_two_pow hc hx32)
    rw [show (8 : Int) - ((8 : Nat) : Int) = 0 by decide] at this
    rw [this, w64 (by omega) (by omega), show (i : Int) + 1 = ((i + 1 : Nat) : Int) by omega, ih k (i + 1) _ (by omega) (by omega) (by omega) (it_lt (fun c => rt_lt) 8 (Nat.xor_lt_two_pow hc hx32)), drop_cons' l i (by omega), reg_cons]
theorem RSum32_eq {k : Nat} (l : List Nat) (hl : By l) (hn : l.length ≤ 10000000000) (hk : 10 * l.length + 10 ≤ k) : palletref03_Sum32.f k (cs l) = some ((0xffffffff ^^^ r32 l : Nat) : Int) := by
  unfold palletref03_Sum32.f
  rw [cs_len]
  have := rl32 l hl hn l.length k 0 0xffffffff (by omega) (by omega) (by omega) (by decide)
  rw [List.drop_zero] at this
  exact this
end Go.Proofs.Ytcbjbgleflbpmaa.CrcFn
/- The document's sealed texts and opened texts (layer 3), and the printed functions' own, as printed: one and the same answer. -/
namespace Go.Proofs.Ytcbjbgleflbpmaa.CrcFn
open Go Go.RowKit Go.Proofs.Ytcbjbgleflbpmaa.Print Go.Proofs.YtcbjbgleflbpmaaW.PrintWords Go.Proofs.YtcbjbgleflbpmaaW.PrintLast Go.Proofs.YtcbjbgleflbpmaaW.PrintMore Go.Proofs.Ytcbjbgleflbpmaa.Crc
def sl24 (l : List Nat) : List Int × Int := if 1048576 < l.length then ([], 6) else (cs (l ++ b3 (r24 l)), 0)
def sl32 (l : List Nat) : List Int × Int := if 1048576 < l.length then ([], 6) else (cs (l ++ b4 (0xffffffff ^^^ r32 l)), 0)
theorem nums_iff {l m : List Nat} (hl : By l) (hm : By m) : (strOfNums (cs l)).toList = (strOfNums (cs m)).toList ↔ l = m := ⟨fun h => nums_inj hl hm h, fun h => by rw [h]⟩
theorem good24_iff' {l : List Nat} (h : 3 ≤ l.length) : good24 l ↔ l.take (l.length - 3) ++ b3 (r24 (l.take (l.length - 3))) = l := by
  constructor
  · intro g
    exact (good24_take h g).symm
  · intro g
    have g2 := congrArg (List.drop (l.length - 3)) g
    have e : (l.take (l.length - 3)).length = l.length - 3 := by rw [List.length_take]; omega
    rw [List.drop_left' e] at g2
    exact g2
theorem good32_iff' {l : List Nat} (h : 4 ≤ l.length) : good32 l ↔ l.take (l.length - 4) ++ b4 (0xffffffff ^^^ r32 (l.take (l.length - 4))) = l := by
  constructor
  · intro g
    exact (good32_take h g).symm
  · intro g
    have g2 := congrArg (List.drop (l.length - 4)) g
    have e : (l.take (l.length - 4)).length = l.length - 4 := by rw [List.length_take]; omega
    rw [List.drop_left' e] at g2
    exact g2
theorem RSeal32_eq {k : Nat} (l : List Nat) (hl : By l) (hn : l.length ≤ 10000000000) (hk : 1048576 < l.length ∨ 10 * l.length + 10 ≤ k) : palletref03_Seal32.f k (cs l) = some (sl32 l) := by
  unfold palletref03_Seal32.f sl32
  rw [cs_len]
  by_cases h : 1048576 < l.length
  · rw [if_pos (by omega), if_pos h]
  · rw [if_neg (by omega), if_neg h, RSum32_eq l hl hn (by omega), Option.bind_some, if_pos (show ([] : List Int).length + l.length < 140737488355328 by rw [List.length_nil]; omega), Option.bind_some, Option.bind_some, List.nil_append, cs_len, if_pos (by show l.length + 4 < 140737488355328; omega), cs_append]
    rfl
theorem ROpen32_eq {k : Nat} (l : List Nat) (hl : By l) (hn : l.length ≤ 10000000000) (hk : 10485760 + 10 ≤ k) : palletref03_Open32.f k (cs l) = some (op32 l) := by
  unfold palletref03_Open32.f op32
  rw [cs_len, w64 (by omega) (by omega)]
  by_cases h1 : l.length < 4
  · rw [if_pos (by omega), if_pos h1]
  rw [if_neg (by omega), if_neg h1]
  by_cases h2 : 1048580 < l.length
  · rw [if_pos (by omega), if_pos h2]
  have e : (l.take (l.length - 4)).length = l.length - 4 := by rw [List.length_take]; omega
  rw [if_neg (by omega), if_neg h2, if_pos (by omega), if_pos (by omega), show ((l.length : Int) - 4).toNat = l.length - 4 by omega, cs_take, cs_len, if_pos (show ([] : List Int).length + (l.take (l.length - 4)).length < 140737488355328 by rw [List.length_nil, e]; omega), Option.bind_some, List.nil_append, RSeal32_eq _ (By.take hl _) (by rw [e]; omega) (by rw [e]; omega), Option.bind_some]
  unfold sl32
  rw [if_neg (show ¬ 1048576 < (l.take (l.length - 4)).length by rw [e]; omega)]
  by_cases g : good32 l
  · rw [if_pos ((nums_iff (By.append (By.take hl _) (b4_by _)) hl).2 ((good32_iff' (by omega)).1 g)), if_pos g]
  · rw [if_neg (fun c => g ((good32_iff' (by omega)).2 ((nums_iff (By.append (By.take hl _) (b4_by _)) hl).1 c))), if_neg g]
theorem i64_le {a : Int} (h : (Lit.int .i64 a).wf = true) : -9223372036854775808 ≤ a ∧ a ≤ 9223372036854775807 := by
  simpa [Lit.wf, IntKind.min, IntKind.max, IntKind.signed, IntKind.bits] using h
end Go.Proofs.Ytcbjbgleflbpmaa.CrcFn
