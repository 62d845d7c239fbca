/- The two sums' registers as numbers (layer 3): one step, many steps, what a turned bit does. Plain facts. -/
import Derived.IntWalk
import Derived.Lib.Bytes
import Derived.Laws.Bits64
import Derived.Laws.Bits64b
import Derived.Laws.MathBits
import Derived.Test.YtcofclkgfandfaaGreatPrint0
import Derived.Test.YtcofclkgfandfaaGreatPrint6
import Derived.Test.YtcofclkgfandfaaGreatPrint11
import Derived.Test.YtcofclkgfandfaaGreatPrint13
import Derived.Test.YtcofclkgfandfaaGreatPrint25
import Derived.Test.YtcofclkgfandfaaGreatPrint32
set_option linter.unusedVariables false
set_option linter.unusedSimpArgs false
namespace Go.Proofs.YtcofclkgfandfaaGreat.Crc
def st (c : Nat) : Nat := (c <<< 1) ^^^ (if c.testBit 23 then 0x1864cfb else 0)
def rt (c : Nat) : Nat := (c >>> 1) ^^^ (if c.testBit 0 then 0xedb88320 else 0)
theorem ite_xor (p q : Bool) (P : Nat) : (if (p ^^ q) = true then P else 0) = (if p = true then P else 0) ^^^ (if q = true then P else 0) := by cases p <;> cases q <;> simp
theorem xor4 (a b c d : Nat) : (a ^^^ b) ^^^ (c ^^^ d) = (a ^^^ c) ^^^ (b ^^^ d) := by
  rw [Nat.xor_assoc, Nat.xor_assoc, ← Nat.xor_assoc b c d, Nat.xor_comm b c, Nat.xor_assoc c b d]
theorem st_xor (a b : Nat) : st (a ^^^ b) = st a ^^^ st b := by
  unfold st
  rw [Nat.shiftLeft_xor_distrib, Nat.testBit_xor, ite_xor, xor4]
/-- Below 2^n: no bit from n on. -/
theorem lt_bits {c n : Nat} (h : ∀ i, n ≤ i → c.testBit i = false) : c < 2 ^ n := Nat.lt_pow_two_of_testBit c fun i hi => h i hi
theorem bits_lt {c n i : Nat} (h : c < 2 ^ n) (hi : n ≤ i) : c.testBit i = false := Nat.testBit_lt_two_pow (Nat.lt_of_lt_of_le h (Nat.pow_le_pow_right (by decide) hi))
theorem P24_25 : (0x1864cfb : Nat) < 2 ^ 25 := by decide
theorem st_lt {c : Nat} (h : c < 2 ^ 24) : st c < 2 ^ 24 := by
  refine lt_bits fun i hi => ?_
  unfold st
  rw [Nat.testBit_xor, Nat.testBit_shiftLeft]
  by_cases e : i = 24
  · subst e
    cases hb : c.testBit 23 with
    | true =>
      simp only [hb, if_true]
      rw [show (0x1864cfb : Nat).testBit 24 = true by decide]
      simp [hb]
    | false => simp [hb]
  · have h1 : c.testBit (i - 1) = false := bits_lt h (by omega)
    rw [h1, Bool.and_false, Bool.false_xor]
    split
    · exact bits_lt P24_25 (by omega)
    · exact Nat.zero_testBit i
/-- So many steps. -/
def it (f : Nat → Nat) : Nat → Nat → Nat
  | 0, c => c
  | n + 1, c => it f n (f c)
section
variable {f : Nat → Nat} {B : Nat} (lin : ∀ a b, f (a ^^^ b) = f a ^^^ f b) (lt : ∀ c, c < 2 ^ B → f c < 2 ^ B) (nz : ∀ c, c < 2 ^ B → f c = 0 → c = 0)
theorem it_add (m n c : Nat) : it f (m + n) c = it f n (it f m c) := by
  induction m generalizing c with
  | zero => rw [Nat.zero_add]; rfl
  | succ m ih => rw [Nat.add_right_comm]; exact ih (f c)
include lin in
theorem it_xor (n a b : Nat) : it f n (a ^^^ b) = it f n a ^^^ it f n b := by
  induction n generalizing a b with
  | zero => rfl
  | succ n ih => show it f n (f (a ^^^ b)) = _; rw [lin, ih]; rfl
include lt in
theorem it_lt (n : Nat) {c : Nat} (h : c < 2 ^ B) : it f n c < 2 ^ B := by
  induction n generalizing c with
  | zero => exact h
  | succ n ih => exact ih (lt c h)
/-- A register behind a text; g puts a byte on it. -/
def reg (f g : Nat → Nat) (l : List Nat) (c : Nat) : Nat := l.foldl (fun c x => it f 8 (c ^^^ g x)) c
end
/-- Shifts that lose nothing. -/
theorem it_st_small : ∀ (n c : Nat), c < 2 ^ (24 - n) → n ≤ 24 → it st n c = c <<< n
  | 0, c, h, hn => by rw [Nat.shiftLeft_zero]; rfl
  | n + 1, c, h, hn => by
    have e : st c = c <<< 1 := by
      unfold st
      rw [bits_lt h (show 24 - (n + 1) ≤ 23 by omega)]
      simp
    show it st n (st c) = _
    rw [e, it_st_small n (c <<< 1) ?_ (by omega), ← Nat.shiftLeft_add, Nat.add_comm]
    rw [Nat.shiftLeft_eq, show 24 - n = 24 - (n + 1) + 1 by omega, Nat.pow_succ]
    omega
def g24 (x : Nat) : Nat := x <<< 16
def g32 (x : Nat) : Nat := x
/-- The two registers behind a text, raw. -/
def r24 (l : List Nat) : Nat := reg st g24 l 0xb704ce
def r32 (l : List Nat) : Nat := reg rt g32 l 0xffffffff
def By (l : List Nat) : Prop := ∀ x ∈ l, x < 256
theorem g24_lt {x : Nat} (h : x < 256) : g24 x < 2 ^ 24 := by
  unfold g24
  rw [Nat.shiftLeft_eq]
  omega
/-- Bit number 'bit' of a text turned. -/
def turn (l : List Nat) (bit : Nat) : List Nat := l.set (bit / 8) (l.getD (bit / 8) 0 ^^^ (128 >>> (bit % 8)))
theorem xor_add (a b k : Nat) (h : b < 2 ^ k) : (a <<< k) ^^^ b = a * 2 ^ k + b := by
  apply Nat.eq_of_testBit_eq
  intro i
  rw [Nat.testBit_xor, Nat.testBit_shiftLeft, Nat.mul_comm, Nat.testBit_two_pow_mul_add a h]
  by_cases c : i < k
  · rw [if_pos c]
    simp [show ¬ i ≥ k by omega]
  · rw [if_neg c, bits_lt h (by omega)]
    simp [show i ≥ k by omega]
end Go.Proofs.YtcofclkgfandfaaGreat.Crc
/- Sums, seals, turned bits (layer 3), as printed: what each function answers. -/
namespace Go.Proofs.YtcofclkgfandfaaGreat.CrcFn
open Go Go.RowKit Go.Proofs.YtcofclkgfandfaaGreat.Print Go.Proofs.YtcofclkgfandfaaGreatW.PrintWords Go.Proofs.YtcofclkgfandfaaGreatW.PrintLast Go.Proofs.YtcofclkgfandfaaGreatW.PrintMore Go.Proofs.YtcofclkgfandfaaGreat.Crc
theorem w64 {x : Int} (h : -9223372036854775808 ≤ x) (h2 : x ≤ 9223372036854775807) : wrap64 x = x := by unfold wrap64; omega
def cs (l : List Nat) : List Int := l.map fun a : Nat => (a : Int)
theorem cs_len (l : List Nat) : (cs l).length = l.length := by unfold cs; rw [List.length_map]
theorem cs_drop (l : List Nat) (n : Nat) : (cs l).drop n = cs (l.drop n) := by unfold cs; rw [List.map_drop]
theorem cs_take (l : List Nat) (n : Nat) : (cs l).take n = cs (l.take n) := by unfold cs; rw [List.map_take]
theorem cs_rd (l : List Nat) (i : Nat) : rd (cs l) (i : Int) = ((l.getD i 0 : Nat) : Int) := by
  unfold rd cs
  rw [Int.toNat_natCast, List.getD_eq_getElem?_getD, List.getD_eq_getElem?_getD, List.getElem?_map]
  cases l[i]? <;> rfl
theorem bytes_of {l : List Int} (h : ∀ y ∈ l, (Lit.int .u8 y).wf = true) : ∃ m : List Nat, l = cs m ∧ By m := by
  refine ⟨l.map Int.toNat, ?_, ?_⟩
  · unfold cs
    rw [List.map_map]
    have : ∀ y ∈ l, ((fun a : Nat => (a : Int)) ∘ Int.toNat) y = y := by
      intro y hy
      have h : 0 ≤ y ∧ y ≤ 255 := by simpa [Lit.wf, IntKind.min, IntKind.max, IntKind.signed, IntKind.bits] using h y hy
      show ((y.toNat : Nat) : Int) = y
      omega
    rw [List.map_congr_left this, List.map_id']
  · intro x hx
    obtain ⟨y, hy, rfl⟩ := List.mem_map.1 hx
    have h : 0 ≤ y ∧ y ≤ 255 := by simpa [Lit.wf, IntKind.min, IntKind.max, IntKind.signed, IntKind.bits] using h y hy
    omega
theorem nums_inj {l m : List Nat} (hl : By l) (hm : By m) (h : (strOfNums (cs l)).toList = (strOfNums (cs m)).toList) : l = m := by
  unfold cs at h
  rw [Go.Lib.strOfNums_toList, Go.Lib.strOfNums_toList] at h
  induction l generalizing m with
  | nil => cases m with
    | nil => rfl
    | cons b m => simp [Go.Lib.bytesOf] at h
  | cons a l ih =>
    cases m with
    | nil => simp [Go.Lib.bytesOf] at h
    | cons b m =>
      simp only [Go.Lib.bytesOf, List.map_cons, List.cons.injEq] at h
      have h1 := hl a (by simp)
      have h2 := hm b (by simp)
      have i := ih (fun c hc => hl c (by simp [hc])) (fun c hc => hm c (by simp [hc])) h.2
      have e := UInt8.toNat_inj.2 h.1
      rw [Int.toNat_natCast, Int.toNat_natCast, UInt8.toNat_ofNat', UInt8.toNat_ofNat', Nat.mod_eq_of_lt h1, Nat.mod_eq_of_lt h2] at e
      rw [e, i]
theorem text_eq {l m : List Nat} (hl : By l) (hm : By m) : ((strOfNums (cs l)).toList == (strOfNums (cs m)).toList) = decide (l = m) := by
  rw [Bool.eq_iff_iff, beq_iff_eq, decide_eq_true_eq]
  exact ⟨fun h => nums_inj hl hm h, fun h => by rw [h]⟩
/-! ### Numbers of 32 bits, bit by bit -/
theorem uw32 (x : Int) : IntKind.u32.wrap x = x % 4294967296 := by
  simp only [IntKind.wrap, IntKind.bits, IntKind.signed]
  simp
theorem xor32 {a b : Nat} (ha : a < 2 ^ 32) (hb : b < 2 ^ 32) : Go.bits .xor .u32 (a : Int) (b : Int) = ((a ^^^ b : Nat) : Int) := by
  show IntKind.u32.wrap (((BitVec.ofInt 32 (a : Int)) ^^^ (BitVec.ofInt 32 (b : Int))).toNat : Int) = _
  rw [BitVec.ofInt_natCast, BitVec.ofInt_natCast, BitVec.toNat_xor, BitVec.toNat_ofNat, BitVec.toNat_ofNat, Nat.mod_eq_of_lt ha, Nat.mod_eq_of_lt hb, uw32]
  have := Nat.xor_lt_two_pow ha hb
  omega
theorem and32 {a b : Nat} (ha : a < 2 ^ 32) (hb : b < 2 ^ 32) : Go.bits .and .u32 (a : Int) (b : Int) = ((a &&& b : Nat) : Int) := by
  show IntKind.u32.wrap (((BitVec.ofInt 32 (a : Int)) &&& (BitVec.ofInt 32 (b : Int))).toNat : Int) = _
  rw [BitVec.ofInt_natCast, BitVec.ofInt_natCast, BitVec.toNat_and, BitVec.toNat_ofNat, BitVec.toNat_ofNat, Nat.mod_eq_of_lt ha, Nat.mod_eq_of_lt hb, uw32]
  have : a &&& b ≤ a := Nat.and_le_left
  omega
theorem xor8 {a b : Nat} (ha : a < 256) (hb : b < 256) : Go.bits .xor .u8 (a : Int) (b : Int) = ((a ^^^ b : Nat) : Int) := by
  show IntKind.u8.wrap (((BitVec.ofInt 8 (a : Int)) ^^^ (BitVec.ofInt 8 (b : Int))).toNat : Int) = _
  rw [BitVec.ofInt_natCast, BitVec.ofInt_natCast, BitVec.toNat_xor, BitVec.toNat_ofNat, BitVec.toNat_ofNat, Nat.mod_eq_of_lt ha, Nat.mod_eq_of_lt hb]
  have := Nat.xor_lt_two_pow (n := 8) ha hb
  simp only [IntKind.wrap, IntKind.bits, IntKind.signed]
  simp
  omega
theorem and_pow (x i : Nat) : x &&& 2 ^ i = if x.testBit i = true then 2 ^ i else 0 := by
  apply Nat.eq_of_testBit_eq
  intro j
  rw [Nat.testBit_and, Nat.testBit_two_pow]
  by_cases e : i = j
  · subst e
    cases h : x.testBit i <;> simp
  · cases h : x.testBit i <;> simp [e]
theorem it_succ (f : Nat → Nat) (n c : Nat) : it f (n + 1) c = f (it f n c) := it_add n 1 c
theorem s24_eq {c : Nat} (h : c < 2 ^ 24) : crc_s24 (c : Int) = ((st c : Nat) : Int) := by
  unfold crc_s24 st
  rw [show ((c : Int) * 2) % 4294967296 = ((c * 2 : Nat) : Int) by omega, show (16777216 : Int) = ((2 ^ 24 : Nat) : Int) by decide, and32 (by omega) (by decide), and_pow, show (25578747 : Int) = ((25578747 : Nat) : Int) from rfl, xor32 (by omega) (by decide), show c * 2 = c <<< 1 by rw [Nat.shiftLeft_eq], Nat.testBit_shiftLeft]
  cases hb : c.testBit 23 <;> simp
theorem it24_eq (n : Nat) {c : Nat} (h : c < 2 ^ 24) : crc_it crc_s24 n (c : Int) = ((it st n c : Nat) : Int) := by
  induction n with
  | zero => rfl
  | succ n ih =>
    rw [crc_it, ih, it_succ]
    exact s24_eq (it_lt (fun c => st_lt) n h)
theorem e24_eq {i : Nat} (h : i < 256) : crc_e24 i = ((it st 8 (i <<< 16) : Nat) : Int) := by
  unfold crc_e24
  have e0 : (i : Int) % (4294967296 : Int) * (65536 : Int) % (4294967296 : Int) = ((i <<< 16 : Nat) : Int) := by
    rw [Nat.shiftLeft_eq]
    omega
  rw [e0]
  exact it24_eq 8 (by rw [Nat.shiftLeft_eq]; omega)
theorem split_at (c k : Nat) : c = (c / 2 ^ k) <<< k ^^^ c % 2 ^ k := by
  rw [xor_add _ _ k (Nat.mod_lt _ (Nat.pow_pos (by decide)))]
  exact (Nat.div_add_mod' c (2 ^ k)).symm
theorem b24_eq {c y : Nat} (hc : c < 2 ^ 24) (hy : y < 256) : crc_b24 (c : Int) (y : Int) = ((it st 8 (c ^^^ g24 y) : Nat) : Int) := by
  unfold crc_b24
  have hx : c / 65536 ^^^ y < 2 ^ 8 := Nat.xor_lt_two_pow (by omega) hy
  rw [show ((c : Int) / 65536) % 256 = ((c / 65536 : Nat) : Int) by omega, xor8 (by omega) hy, Int.toNat_natCast, e24_eq hx, show ((c : Int) * 256) % 4294967296 = ((c * 256 : Nat) : Int) by omega, show (16777215 : Int) = ((2 ^ 24 - 1 : Nat) : Int) by decide, and32 (by omega) (by decide), Nat.and_two_pow_sub_one_eq_mod, xor32 (by omega) (Nat.lt_trans (it_lt (fun c => st_lt) 8 (by rw [Nat.shiftLeft_eq]; omega)) (by decide))]
  congr 1
  have e : c ^^^ g24 y = (c / 65536 ^^^ y) <<< 16 ^^^ c % 65536 := by
    conv => lhs; rw [split_at c 16]
    unfold g24
    rw [Nat.shiftLeft_xor_distrib, Nat.xor_assoc, Nat.xor_comm (c % 2 ^ 16), ← Nat.xor_assoc]
  rw [e, it_xor st_xor, it_st_small 8 (c % 65536) (by omega) (by decide), Nat.xor_comm]
  congr 1
  rw [Nat.shiftLeft_eq]
  omega
theorem fold24 (l : List Nat) (hl : By l) : ∀ c : Nat, c < 2 ^ 24 → (cs l).foldl crc_b24 (c : Int) = ((reg st g24 l c : Nat) : Int) := by
  induction l with
  | nil => intro c _; rfl
  | cons x l ih =>
    intro c hc
    have hx := hl x (by simp)
    show (cs l).foldl crc_b24 (crc_b24 (c : Int) (x : Int)) = _
    rw [b24_eq hc hx, ih (fun y hy => hl y (by simp [hy])) _ (it_lt (fun c => st_lt) 8 (Nat.xor_lt_two_pow hc (g24_lt hx)))]
    rfl
theorem Sum24_eq (l : List Nat) (hl : By l) (hn : l.length ≤ 140737488355328) : crc_Sum24.f (cs l) = some (r24 l : Int) := by
  unfold crc_Sum24.f
  rw [if_pos (by rw [cs_len]; exact hn), show (11994318 : Int) = ((0xb704ce : Nat) : Int) from rfl, fold24 l hl _ (by decide)]
  rfl
end Go.Proofs.YtcofclkgfandfaaGreat.CrcFn
/- Seals, opened texts, turned bits, and the document's sums (layer 3), as printed. -/
namespace Go.Proofs.YtcofclkgfandfaaGreat.CrcFn
open Go Go.RowKit Go.Proofs.YtcofclkgfandfaaGreat.Print Go.Proofs.YtcofclkgfandfaaGreatW.PrintWords Go.Proofs.YtcofclkgfandfaaGreatW.PrintLast Go.Proofs.YtcofclkgfandfaaGreatW.PrintMore Go.Proofs.YtcofclkgfandfaaGreat.Crc
theorem By.take {l : List Nat} (h : By l) (n : Nat) : By (l.take n) := fun x hx => h x (List.mem_of_mem_take hx)
theorem By.drop {l : List Nat} (h : By l) (n : Nat) : By (l.drop n) := fun x hx => h x (List.mem_of_mem_drop hx)
theorem By.nil : By [] := fun x hx => by cases hx
/-- A sum's bytes. -/
def b3 (v : Nat) : List Nat := [v / 65536 % 256, v / 256 % 256, v % 256]
def b4 (v : Nat) : List Nat := [v % 256, v / 256 % 256, v / 65536 % 256, v / 16777216 % 256]
theorem b3_by (v : Nat) : By (b3 v) := by
  intro x hx
  simp [b3] at hx
  omega
/-- A text is sealed just if its sum is nought, or the one that all sealed texts have. -/
def good24 (l : List Nat) : Prop := b3 (r24 (l.take (l.length - 3))) = l.drop (l.length - 3)
instance (l : List Nat) : Decidable (good24 l) := by unfold good24; infer_instance
def good32 (l : List Nat) : Prop := b4 (0xffffffff ^^^ r32 (l.take (l.length - 4))) = l.drop (l.length - 4)
instance (l : List Nat) : Decidable (good32 l) := by unfold good32; infer_instance
def op24 (l : List Nat) : List Int × Int := if l.length < 3 then ([], 3) else if 1048579 < l.length then ([], 6) else if good24 l then (cs (l.take (l.length - 3)), 0) else ([], 5)
theorem clone_eq (l : List Nat) (h : l.length < 17592186044416) : slices_Clone_byte_byte.f (cs l) = some (cs l) := by unfold slices_Clone_byte_byte.f; rw [if_pos (by rw [cs_len]; exact h)]
theorem tail24_eq (l : List Nat) (hl : By l) (hn : l.length ≤ 140737488355328) : crc_tail24.f (cs l) = some (cs (b3 (r24 l))) := by
  unfold crc_tail24.f
  rw [Sum24_eq l hl hn, Option.bind_some]
  rfl
theorem Open24_eq (l : List Nat) (hl : By l) (hn : l.length ≤ 10000000000) : crc_Open24.f (cs l) = some (op24 l) := by
  unfold crc_Open24.f crc_open_at_crc_tail24.f op24
  rw [cs_len, w64 (by omega) (by omega)]
  by_cases h1 : l.length < 3
  · rw [if_pos (by omega), if_pos h1]
    rfl
  rw [if_neg (by omega), if_neg h1]
  by_cases h2 : 1048579 < l.length
  · rw [if_pos (by omega), if_pos h2]
    rfl
  rw [if_neg (by omega), if_neg h2, if_pos (by omega), if_pos (by omega), show ((l.length : Int) - 3).toNat = l.length - 3 by omega, cs_take, cs_drop, tail24_eq _ (By.take hl _) (by rw [List.length_take]; omega), Option.bind_some]
  unfold bytes_Equal.f
  rw [Option.bind_some, text_eq (b3_by _) (By.drop hl _)]
  by_cases g : good24 l
  · have g' : b3 (r24 (l.take (l.length - 3))) = l.drop (l.length - 3) := g
    rw [if_pos g, decide_eq_true g', if_pos rfl, clone_eq _ (by rw [List.length_take]; omega)]
    rfl
  · have g' : ¬ b3 (r24 (l.take (l.length - 3))) = l.drop (l.length - 3) := g
    rw [if_neg g, decide_eq_false g', if_neg (by decide)]
    rfl
theorem getD_lt {l : List Nat} (h : By l) (k : Nat) : l.getD k 0 < 256 := by
  by_cases hk : k < l.length
  · rw [List.getD_eq_getElem?_getD, List.getElem?_eq_getElem hk]
    exact h _ (List.getElem_mem hk)
  · rw [List.getD_eq_getElem?_getD, List.getElem?_eq_none (by omega)]
    decide
end Go.Proofs.YtcofclkgfandfaaGreat.CrcFn
/- The document's sealed texts and opened texts (layer 3), and the printed functions' own, as printed: one and the same answer. -/
namespace Go.Proofs.YtcofclkgfandfaaGreat.CrcFn
open Go Go.RowKit Go.Proofs.YtcofclkgfandfaaGreat.Print Go.Proofs.YtcofclkgfandfaaGreatW.PrintWords Go.Proofs.YtcofclkgfandfaaGreatW.PrintLast Go.Proofs.YtcofclkgfandfaaGreatW.PrintMore Go.Proofs.YtcofclkgfandfaaGreat.Crc
end Go.Proofs.YtcofclkgfandfaaGreat.CrcFn
/- Numbers as so many bytes of seven bits (layer 2): written and read, on lists of numbers. Plain facts, without the program. -/
namespace Go.Proofs.YtcofclkgfandfaaGreat.WireSpec
def By (l : List Nat) : Prop := ∀ x ∈ l, x < 256
theorem By.nil : By [] := fun x hx => by cases hx
theorem By.cons {x : Nat} {l : List Nat} (h : x < 256) (h2 : By l) : By (x :: l) := fun y hy => (List.mem_cons.1 hy).elim (fun e => e ▸ h) (h2 y)
theorem By.drop {l : List Nat} (h : By l) (n : Nat) : By (l.drop n) := fun x hx => h x (List.mem_of_mem_drop hx)
theorem By.take {l : List Nat} (h : By l) (n : Nat) : By (l.take n) := fun x hx => h x (List.mem_of_mem_take hx)
theorem By.tail {x : Nat} {l : List Nat} (h : By (x :: l)) : By l := fun y hy => h y (by simp [hy])
/-- A number's reading: the number till here, how many bytes till here, what is left; the number, how many bytes in all, and what is wrong. -/
def dv : Nat → Nat → List Nat → Nat × Nat × Nat
  | _, _, [] => (0, 0, 3)
  | n, i, c :: l => if i = 0 ∧ c = 128 ∨ 144115188075855872 ≤ n then (0, 0, 4) else if c < 128 then (n * 128 + c, i + 1, 0) else dv (n * 128 + (c - 128)) (i + 1) l
theorem dv_bad {n i c : Nat} {l : List Nat} (h : i = 0 ∧ c = 128 ∨ 144115188075855872 ≤ n) : dv n i (c :: l) = (0, 0, 4) := by rw [dv, if_pos h]
theorem dv_end {n i c : Nat} {l : List Nat} (h : ¬ (i = 0 ∧ c = 128 ∨ 144115188075855872 ≤ n)) (h2 : c < 128) : dv n i (c :: l) = (n * 128 + c, i + 1, 0) := by rw [dv, if_neg h, if_pos h2]
theorem dv_more {n i c : Nat} {l : List Nat} (h : ¬ (i = 0 ∧ c = 128 ∨ 144115188075855872 ≤ n)) (h2 : ¬ c < 128) : dv n i (c :: l) = dv (n * 128 + (c - 128)) (i + 1) l := by rw [dv, if_neg h, if_neg h2]
end Go.Proofs.YtcofclkgfandfaaGreat.WireSpec
/- Numbers as digits, the greatest first, and their order as texts: plain facts. -/
namespace Go.Proofs.YtcofclkgfandfaaGreat.Digits
open Go Go.Lib
/-- The j+1 lowest digits of n in base B, the greatest first, each with what is put on it. -/
def G (B : Nat) (off : Nat → Nat) : Nat → Nat → List Nat
  | 0, n => [n % B + off 0]
  | j + 1, n => ((n / B ^ (j + 1)) % B + off (j + 1)) :: G B off j n
end Go.Proofs.YtcofclkgfandfaaGreat.Digits
/- math/bits' Len64, as printed: how many bits a number has. -/
namespace Go.Proofs.YtcofclkgfandfaaGreat.Len64
open Go Go.RowKit Go.Proofs.YtcofclkgfandfaaGreat.Print Go.Proofs.YtcofclkgfandfaaGreatW.PrintWords Go.Proofs.YtcofclkgfandfaaGreatW.PrintLast Go.Proofs.YtcofclkgfandfaaGreatW.PrintMore
theorem w64 {x : Int} (h : -9223372036854775808 ≤ x) (h2 : x ≤ 9223372036854775807) : wrap64 x = x := by unfold wrap64; omega
abbrev TB : ByteArray := (⟨#[0, 1, 2, 2, 3, 3, 3, 3, 4, 4, 4, 4, 4, 4, 4, 4, 5, 5, 5, 5, 5, 5, 5, 5, 5, 5, 5, 5, 5, 5, 5, 5, 6, 6, 6, 6, 6, 6, 6, 6, 6, 6, 6, 6, 6, 6, 6, 6, 6, 6, 6, 6, 6, 6, 6, 6, 6, 6, 6, 6, 6, 6, 6, 6, 7, 7, 7, 7, 7, 7, 7, 7, 7, 7, 7, 7, 7, 7, 7, 7, 7, 7, 7, 7, 7, 7, 7, 7, 7, 7, 7, 7, 7, 7, 7, 7, 7, 7, 7, 7, 7, 7, 7, 7, 7, 7, 7, 7, 7, 7, 7, 7, 7, 7, 7, 7, 7, 7, 7, 7, 7, 7, 7, 7, 7, 7, 7, 7, 8, 8, 8, 8, 8, 8, 8, 8, 8, 8, 8, 8, 8, 8, 8, 8, 8, 8, 8, 8, 8, 8, 8, 8, 8, 8, 8, 8, 8, 8, 8, 8, 8, 8, 8, 8, 8, 8, 8, 8, 8, 8, 8, 8, 8, 8, 8, 8, 8, 8, 8, 8, 8, 8, 8, 8, 8, 8, 8, 8, 8, 8, 8, 8, 8, 8, 8, 8, 8, 8, 8, 8, 8, 8, 8, 8, 8, 8, 8, 8, 8, 8, 8, 8, 8, 8, 8, 8, 8, 8, 8, 8, 8, 8, 8, 8, 8, 8, 8, 8, 8, 8, 8, 8, 8, 8, 8, 8, 8, 8, 8, 8, 8, 8, 8, 8, 8, 8, 8, 8, 8, 8, 8, 8, 8, 8, 8, 8]⟩ : ByteArray)
set_option maxRecDepth 100000 in
theorem tab : ∀ i : Fin 256, 0 < i.val → 1 ≤ bt TB (i.val : Int) ∧ bt TB (i.val : Int) ≤ 8 ∧ 2 ^ ((bt TB (i.val : Int)).toNat - 1) ≤ i.val ∧ i.val < 2 ^ (bt TB (i.val : Int)).toNat := by decide +kernel
set_option maxRecDepth 100000 in
theorem tabi {z : Int} (h0 : 0 < z) (h1 : z < 256) : ∃ n : Nat, bt TB z = n ∧ 1 ≤ n ∧ n ≤ 8 ∧ (2 ^ (n - 1) : Int) ≤ z ∧ z < 2 ^ (n - 1) * 2 := by
  obtain ⟨m, rfl⟩ : ∃ m : Nat, z = m := ⟨z.toNat, by omega⟩
  have h := tab ⟨m, by omega⟩ (by simp only; omega)
  simp only at h
  obtain ⟨n, hn⟩ : ∃ n : Nat, bt TB (m : Int) = n := ⟨(bt TB (m : Int)).toNat, by omega⟩
  rw [hn, Int.toNat_natCast] at h
  refine ⟨n, hn, by omega, by omega, ?_, ?_⟩
  · have : ((2 ^ (n - 1) : Nat) : Int) ≤ (m : Int) := by omega
    simpa using this
  · have e : 2 ^ n = 2 ^ (n - 1) * 2 := by rw [← Nat.pow_succ, show (n - 1).succ = n by omega]
    have : (m : Int) < ((2 ^ (n - 1) * 2 : Nat) : Int) := by omega
    simpa using this
set_option maxRecDepth 100000 in
theorem j0_eq (k : Nat) (x c : Int) : bits_Len64.j0 (k + 1) x c = if x ≥ 65536 then (if (x / 65536) ≥ 256 then (if 0 ≤ (((x / 65536) / 256) % 256) then (if (((x / 65536) / 256) % 256) < 256 then (some (wrap64 ((wrap64 ((wrap64 (c + 16)) + 8)) + (wrap64 (bt TB (((x / 65536) / 256) % 256)))))) else (none)) else (none)) else (if 0 ≤ ((x / 65536) % 256) then (if ((x / 65536) % 256) < 256 then (some (wrap64 ((wrap64 (c + 16)) + (wrap64 (bt TB ((x / 65536) % 256)))))) else (none)) else (none))) else (if x ≥ 256 then (if 0 ≤ ((x / 256) % 256) then (if ((x / 256) % 256) < 256 then (some (wrap64 ((wrap64 (c + 8)) + (wrap64 (bt TB ((x / 256) % 256)))))) else (none)) else (none)) else (if 0 ≤ ((x) % 256) then (if ((x) % 256) < 256 then (some (wrap64 (c + (wrap64 (bt TB ((x) % 256)))))) else (none)) else (none))) := rfl
set_option maxRecDepth 100000 in
theorem len_j0 {k : Nat} {x : Int} (c : Int) (c0 : 0 ≤ c) (c1 : c ≤ 32) (h0 : 0 < x) (h1 : x < 4294967296) : ∃ n : Nat, bits_Len64.j0 (k + 1) x c = some (c + n) ∧ 1 ≤ n ∧ n ≤ 32 ∧ (2 ^ (n - 1) : Int) ≤ x ∧ x < 2 ^ (n - 1) * 2 := by
  have go : ∀ (s : Nat) (z : Int), s ≤ 24 → 0 < z → z < 256 → (∀ P : Int, P ≤ z → P * 2 ^ s ≤ x) → (∀ P : Int, z < P → x < P * 2 ^ s) → (∀ n : Nat, bt TB z = n → n ≤ 8 → bits_Len64.j0 (k + 1) x c = some (c + s + n)) → ∃ n : Nat, bits_Len64.j0 (k + 1) x c = some (c + n) ∧ 1 ≤ n ∧ n ≤ 32 ∧ (2 ^ (n - 1) : Int) ≤ x ∧ x < 2 ^ (n - 1) * 2 := by
    intro s z hs z0 z1 a b e
    obtain ⟨n, hn, n1, n2, n3, n4⟩ := tabi z0 z1
    refine ⟨s + n, ?_, by omega, by omega, ?_, ?_⟩
    · rw [e n hn n2]
      congr 1
      omega
    · rw [show s + n - 1 = (n - 1) + s by omega, Int.pow_add]
      exact a _ n3
    · rw [show s + n - 1 = (n - 1) + s by omega, Int.pow_add, Int.mul_right_comm]
      exact b _ n4
  by_cases h2 : x ≥ 65536
  · by_cases h3 : x / 65536 ≥ 256
    · refine go 24 (x / 65536 / 256 % 256) (by decide) (by omega) (by omega) (fun P h => by rw [show (2 : Int) ^ 24 = 16777216 by decide]; omega) (fun P h => by rw [show (2 : Int) ^ 24 = 16777216 by decide]; omega) (fun n hn n8 => ?_)
      rw [j0_eq, if_pos h2, if_pos h3, if_pos (by omega), if_pos (by omega)]
      rw [hn, w64 (x := c + 16) (by omega) (by omega), w64 (x := c + 16 + 8) (by omega) (by omega), w64 (x := (n : Int)) (by omega) (by omega), w64 (by omega) (by omega)]
      congr 1
      omega
    · refine go 16 (x / 65536 % 256) (by decide) (by omega) (by omega) (fun P h => by rw [show (2 : Int) ^ 16 = 65536 by decide]; omega) (fun P h => by rw [show (2 : Int) ^ 16 = 65536 by decide]; omega) (fun n hn n8 => ?_)
      rw [j0_eq, if_pos h2, if_neg h3, if_pos (by omega), if_pos (by omega)]
      rw [hn, w64 (x := c + 16) (by omega) (by omega), w64 (x := (n : Int)) (by omega) (by omega), w64 (by omega) (by omega)]
      congr 1
  · by_cases h3 : x ≥ 256
    · refine go 8 (x / 256 % 256) (by decide) (by omega) (by omega) (fun P h => by rw [show (2 : Int) ^ 8 = 256 by decide]; omega) (fun P h => by rw [show (2 : Int) ^ 8 = 256 by decide]; omega) (fun n hn n8 => ?_)
      rw [j0_eq, if_neg h2, if_pos h3, if_pos (by omega), if_pos (by omega)]
      rw [hn, w64 (x := c + 8) (by omega) (by omega), w64 (x := (n : Int)) (by omega) (by omega), w64 (by omega) (by omega)]
      congr 1
    · refine go 0 (x % 256) (by decide) (by omega) (by omega) (fun P h => by rw [Int.pow_zero]; omega) (fun P h => by rw [Int.pow_zero]; omega) (fun n hn n8 => ?_)
      rw [j0_eq, if_neg h2, if_neg h3, if_pos (by omega), if_pos (by omega)]
      rw [hn, w64 (x := (n : Int)) (by omega) (by omega), w64 (by omega) (by omega)]
      congr 1
      omega
theorem len_eq {k : Nat} {x : Int} (h0 : 0 < x) (h1 : x < 18446744073709551616) : ∃ n : Nat, bits_Len64.f (k + 1) x = some (n : Int) ∧ 1 ≤ n ∧ n ≤ 64 ∧ (2 ^ (n - 1) : Int) ≤ x ∧ x < 2 ^ (n - 1) * 2 := by
  by_cases h2 : x ≥ 4294967296
  · obtain ⟨n, e, n1, n2, n3, n4⟩ := len_j0 (k := k) (x := x / 4294967296) 32 (by decide) (by decide) (by omega) (by omega)
    refine ⟨32 + n, ?_, by omega, by omega, ?_, ?_⟩
    · unfold bits_Len64.f
      rw [if_pos h2, e]
      congr 1
    · rw [show 32 + n - 1 = (n - 1) + 32 by omega, Int.pow_add, show (2 : Int) ^ 32 = 4294967296 by decide]
      omega
    · rw [show 32 + n - 1 = (n - 1) + 32 by omega, Int.pow_add, show (2 : Int) ^ 32 = 4294967296 by decide]
      omega
  · obtain ⟨n, e, n1, n2, n3, n4⟩ := len_j0 (k := k) (x := x) 0 (by decide) (by decide) h0 (by omega)
    refine ⟨n, ?_, n1, by omega, n3, n4⟩
    unfold bits_Len64.f
    rw [if_neg h2, e, Int.zero_add]
theorem len_zero1 : bits_Len64.f 1 0 = some 0 := by decide +kernel
theorem len_zero {k : Nat} (hk : 1 ≤ k) : bits_Len64.f k 0 = some 0 := at_rounds (fun k => bits_Len64.mono _ k) hk len_zero1
end Go.Proofs.YtcofclkgfandfaaGreat.Len64
/- Plain facts on numbers written as bytes (layer 2), as printed. -/
namespace Go.Proofs.YtcofclkgfandfaaGreat.Wire
open Go Go.RowKit Go.Proofs.YtcofclkgfandfaaGreat.Print Go.Proofs.YtcofclkgfandfaaGreatW.PrintWords Go.Proofs.YtcofclkgfandfaaGreatW.PrintLast Go.Proofs.YtcofclkgfandfaaGreatW.PrintMore Go.Proofs.YtcofclkgfandfaaGreat.Len64 Go.Proofs.YtcofclkgfandfaaGreat.Digits
theorem and127a : ∀ i : Fin 256, Go.bits .and .u8 (i.val : Int) 127 = (i.val : Int) % 128 := by decide +kernel
def cs (l : List Nat) : List Int := l.map fun a : Nat => (a : Int)
theorem clone_eq (l : List Int) (h : l.length < 17592186044416) : slices_Clone_byte_byte.f l = some l := by unfold slices_Clone_byte_byte.f; rw [if_pos h]
end Go.Proofs.YtcofclkgfandfaaGreat.Wire
/- Numbers written as bytes, and read (layer 2), as printed: what each function answers, by WireSpec. -/
namespace Go.Proofs.YtcofclkgfandfaaGreat.Wire2
open Go Go.RowKit Go.Proofs.YtcofclkgfandfaaGreat.Print Go.Proofs.YtcofclkgfandfaaGreatW.PrintWords Go.Proofs.YtcofclkgfandfaaGreatW.PrintLast Go.Proofs.YtcofclkgfandfaaGreatW.PrintMore Go.Proofs.YtcofclkgfandfaaGreat.Len64 Go.Proofs.YtcofclkgfandfaaGreat.Digits Go.Proofs.YtcofclkgfandfaaGreat.Wire Go.Proofs.YtcofclkgfandfaaGreat.WireSpec
theorem cs_len (l : List Nat) : (cs l).length = l.length := by unfold cs; rw [List.length_map]
theorem cs_drop (l : List Nat) (n : Nat) : (cs l).drop n = cs (l.drop n) := by unfold cs; rw [List.map_drop]
theorem cs_take (l : List Nat) (n : Nat) : (cs l).take n = cs (l.take n) := by unfold cs; rw [List.map_take]
theorem cs_rd (l : List Nat) (i : Nat) : rd (cs l) (i : Int) = ((l.getD i 0 : Nat) : Int) := by
  unfold rd cs
  rw [Int.toNat_natCast, List.getD_eq_getElem?_getD, List.getD_eq_getElem?_getD, List.getElem?_map]
  cases l[i]? <;> rfl
/-- Bytes that came in are a list of numbers below 256. -/
theorem bytes_of {l : List Int} (h : ∀ y ∈ l, (Lit.int .u8 y).wf = true) : ∃ m : List Nat, l = cs m ∧ By m := by
  refine ⟨l.map Int.toNat, ?_, ?_⟩
  · unfold cs
    rw [List.map_map]
    have : ∀ y ∈ l, ((fun a : Nat => (a : Int)) ∘ Int.toNat) y = y := by
      intro y hy
      have h : 0 ≤ y ∧ y ≤ 255 := by simpa [Lit.wf, IntKind.min, IntKind.max, IntKind.signed, IntKind.bits] using h y hy
      show ((y.toNat : Nat) : Int) = y
      omega
    rw [List.map_congr_left this, List.map_id']
  · intro x hx
    obtain ⟨y, hy, rfl⟩ := List.mem_map.1 hx
    have h : 0 ≤ y ∧ y ≤ 255 := by simpa [Lit.wf, IntKind.min, IntKind.max, IntKind.signed, IntKind.bits] using h y hy
    omega
theorem drop_cons (xs : List Nat) (i : Nat) (h : i < xs.length) : xs.drop i = xs.getD i 0 :: xs.drop (i + 1) := by
  rw [List.drop_eq_getElem_cons h, List.getD_eq_getElem?_getD, List.getElem?_eq_getElem h]
  rfl
theorem getD_mem (xs : List Nat) (i : Nat) (h : i < xs.length) : xs.getD i 0 ∈ xs := by
  rw [List.getD_eq_getElem?_getD, List.getElem?_eq_getElem h]
  exact List.getElem_mem h
/-- Reading one. -/
def res (a : Int) (d : Nat × Nat × Nat) : Int × Int × Int := if d.2.2 = 0 then ((d.1 : Int), a + d.2.1, 0) else (0, 0, (d.2.2 : Int))
theorem and127' (c : Nat) (h : c < 256) : Go.bits .and .u8 (c : Int) 127 = ((c % 128 : Nat) : Int) := and127a ⟨c, h⟩
theorem and128a : ∀ i : Fin 256, Go.bits .and .u8 (i.val : Int) 128 = (if i.val < 128 then 0 else 128) := by decide +kernel
theorem and128 (c : Nat) (h : c < 256) : Go.bits .and .u8 (c : Int) 128 = (if c < 128 then 0 else 128) := and128a ⟨c, h⟩
theorem u64_in {x : Int} (h : 0 ≤ x) (h2 : x < 18446744073709551616) : IntKind.u64.wrap x = x := by
  simp only [IntKind.wrap, IntKind.bits, IntKind.signed]
  simp
  omega
theorem or7 (n c : Nat) (hn : n < 144115188075855872) (hc : c < 128) : Go.bits .or .u64 (IntKind.u64.wrap ((n : Int) * 128)) (IntKind.u64.wrap (c : Int)) = ((n * 128 + c : Nat) : Int) := by
  rw [u64_in (by omega) (by omega), u64_in (by omega) (by omega), show (n : Int) * 128 = ((n * 128 : Nat) : Int) by omega]
  show IntKind.u64.wrap (((BitVec.ofInt 64 ((n * 128 : Nat) : Int)) ||| (BitVec.ofInt 64 (c : Int))).toNat : Int) = _
  rw [BitVec.ofInt_natCast, BitVec.ofInt_natCast, BitVec.toNat_or, BitVec.toNat_ofNat, BitVec.toNat_ofNat, Nat.mod_eq_of_lt (by omega), Nat.mod_eq_of_lt (by omega)]
  have e := Nat.shiftLeft_add_eq_or_of_lt (i := 7) (show c < 2 ^ 7 by omega) n
  rw [Nat.shiftLeft_eq] at e
  rw [show n * 128 = n * 2 ^ 7 by omega, ← e, u64_in (by omega) (by omega)]
theorem len57 {k : Nat} (hk : 2 ≤ k) (n : Nat) (hn : n < 18446744073709551616) : ∃ L : Int, bits_Len64.f k (n : Int) = some L ∧ (decide (L > 57) = decide (144115188075855872 ≤ n)) := by
  obtain ⟨k, rfl⟩ : ∃ m, k = m + 1 := ⟨k - 1, by omega⟩
  by_cases h0 : n = 0
  · subst h0
    exact ⟨0, len_zero (by omega), by decide⟩
  · obtain ⟨L, e, l1, l2, l3, l4⟩ := len_eq (k := k) (x := (n : Int)) (by omega) (by omega)
    refine ⟨L, e, ?_⟩
    rw [decide_eq_decide]
    constructor
    · intro h
      have : (2 : Int) ^ 57 ≤ 2 ^ (L - 1) := by
        have := Nat.pow_le_pow_right (n := 2) (by decide) (show 57 ≤ L - 1 by omega)
        exact_mod_cast this
      have e57 : (2 : Int) ^ 57 = 144115188075855872 := by decide
      omega
    · intro h
      by_cases c : 57 < L
      · omega
      · have : (2 : Int) ^ (L - 1) ≤ 2 ^ 56 := by
          have := Nat.pow_le_pow_right (n := 2) (by decide) (show L - 1 ≤ 56 by omega)
          exact_mod_cast this
        have e56 : (2 : Int) ^ 56 = 72057594037927936 := by decide
        omega
theorem TakeVary_l0 (a : Int) (l : List Nat) (hl : By l) (hn : l.length ≤ 1000000000000) (ha : -1000000000000 ≤ a ∧ a ≤ 4000000000000000000) (d : Nat) : ∀ (k i n : Nat), i ≤ l.length → l.length - i = d → 2 * d + 10 ≤ k → n < 18446744073709551616 →
    wire_TakeVary.l0 k a (n : Int) (cs l) (l.length : Int) (i : Int) = some (res a (dv n i (l.drop i))) := by
  induction d with
  | zero =>
    intro k i n hi hd hk h0
    obtain ⟨k, rfl⟩ : ∃ m, k = m + 1 := ⟨k - 1, by omega⟩
    simp only [wire_TakeVary.l0]
    rw [if_neg (by omega), List.drop_of_length_le (by omega)]
    rfl
  | succ d ih =>
    intro k i n hi hd hk h0
    obtain ⟨k, rfl⟩ : ∃ m, k = m + 2 := ⟨k - 2, by omega⟩
    have hlt : i < l.length := by omega
    have hc : l.getD i 0 < 256 := hl _ (getD_mem l i hlt)
    obtain ⟨L, eL, dL⟩ := len57 (k := k + 1) (by omega) n h0
    rw [drop_cons l i hlt]
    simp only [wire_TakeVary.l0]
    rw [if_pos (by omega), if_pos (by omega), cs_len, if_pos (by omega), cs_rd]
    generalize hcc : l.getD i 0 = c at *
    have key : ∀ bad : Bool, bad = decide (i = 0 ∧ c = 128 ∨ 144115188075855872 ≤ n) → wire_TakeVary.j1 (k + 1) a n i c (cs l) (l.length) i bad = some (res a (dv n i (c :: l.drop (i + 1)))) := by
      intro bad hb
      simp only [wire_TakeVary.j1]
      by_cases hB : i = 0 ∧ c = 128 ∨ 144115188075855872 ≤ n
      · rw [hb, decide_eq_true hB, if_pos rfl, dv_bad hB]
        rfl
      · rw [hb, decide_eq_false hB, if_neg (by decide), and128 c hc, and127' c hc, or7 n _ (by omega) (by omega)]
        by_cases h2 : c < 128
        · rw [if_pos h2, if_pos rfl, dv_end hB h2, w64 (x := a + (i : Int)) (by omega) (by omega), w64 (by omega) (by omega), Nat.mod_eq_of_lt h2]
          unfold res
          rw [if_pos rfl]
          simp only [Option.some.injEq, Prod.mk.injEq]
          exact ⟨trivial, by omega, trivial⟩
        · rw [if_neg h2, if_neg (by decide), dv_more hB h2, w64 (by omega) (by omega), show (i : Int) + 1 = ((i + 1 : Nat) : Int) by omega, show c % 128 = c - 128 by omega, ih k (i + 1) _ (by omega) (by omega) (by omega) (by omega)]
    by_cases hi0 : i = 0
    · rw [if_pos (by omega)]
      by_cases h128 : c = 128
      · rw [if_pos (by omega)]
        exact key true (by rw [eq_comm, decide_eq_true_eq]; exact Or.inl ⟨hi0, h128⟩)
      · rw [if_neg (by omega), eL, Option.bind_some]
        refine key _ ?_
        rw [dL, decide_eq_decide]
        omega
    · rw [if_neg (by omega), eL, Option.bind_some]
      refine key _ ?_
      rw [dL, decide_eq_decide]
      omega
theorem TakeVary_eq {k : Nat} (l : List Nat) (hl : By l) (hn : l.length ≤ 1000000000000) (a : Nat) (hk : 2 * l.length + 20 ≤ k) : wire_TakeVary.f k (cs l) (a : Int) = some (res a (dv 0 0 (l.drop a))) := by
  unfold wire_TakeVary.f
  rw [if_neg (by omega), cs_len]
  have hm : mn (a : Int) (l.length : Int) = ((min a l.length : Nat) : Int) := by
    unfold mn
    split <;> omega
  rw [hm, if_pos (by omega), if_pos (by omega), Int.toNat_natCast, cs_drop, cs_len]
  by_cases h : a ≤ l.length
  · have := TakeVary_l0 a (l.drop (min a l.length)) (hl.drop _) (by rw [List.length_drop]; omega) (by omega) (l.drop (min a l.length)).length k 0 0 (by omega) (by omega) (by rw [List.length_drop]; omega) (by decide)
    rw [show ((0 : Nat) : Int) = 0 from rfl, List.drop_zero] at this
    rw [this, Nat.min_eq_left h]
  · rw [Nat.min_eq_right (by omega), List.drop_of_length_le (Nat.le_refl _), List.drop_of_length_le (by omega)]
    obtain ⟨k, rfl⟩ : ∃ m, k = m + 1 := ⟨k - 1, by omega⟩
    simp only [wire_TakeVary.l0]
    rw [if_neg (by simp)]
    rfl
end Go.Proofs.YtcofclkgfandfaaGreat.Wire2
/- Signed numbers, numbers of a width, records (layer 2), as printed: what each function answers. -/
namespace Go.Proofs.YtcofclkgfandfaaGreat.Wire3
open Go Go.RowKit Go.Proofs.YtcofclkgfandfaaGreat.Print Go.Proofs.YtcofclkgfandfaaGreatW.PrintWords Go.Proofs.YtcofclkgfandfaaGreatW.PrintLast Go.Proofs.YtcofclkgfandfaaGreatW.PrintMore Go.Proofs.YtcofclkgfandfaaGreat.Len64 Go.Proofs.YtcofclkgfandfaaGreat.Digits Go.Proofs.YtcofclkgfandfaaGreat.Wire Go.Proofs.YtcofclkgfandfaaGreat.WireSpec Go.Proofs.YtcofclkgfandfaaGreat.Wire2
end Go.Proofs.YtcofclkgfandfaaGreat.Wire3
/- Numbers of a width, and records (layer 2), as printed: what each function answers. -/
namespace Go.Proofs.YtcofclkgfandfaaGreat.Wire4
open Go Go.RowKit Go.Proofs.YtcofclkgfandfaaGreat.Print Go.Proofs.YtcofclkgfandfaaGreatW.PrintWords Go.Proofs.YtcofclkgfandfaaGreatW.PrintLast Go.Proofs.YtcofclkgfandfaaGreatW.PrintMore Go.Proofs.YtcofclkgfandfaaGreat.Len64 Go.Proofs.YtcofclkgfandfaaGreat.Digits Go.Proofs.YtcofclkgfandfaaGreat.Wire Go.Proofs.YtcofclkgfandfaaGreat.WireSpec Go.Proofs.YtcofclkgfandfaaGreat.Wire2
/-- A number's bytes, of a width. -/
def fx (w n : Nat) : List Nat := G 256 (fun _ => 0) (w - 1) n
/-- A number of a width may be written. -/
def fxOk (w : Int) (n : Nat) : Prop := 1 ≤ w ∧ w ≤ 8 ∧ n < 256 ^ w.toNat
instance (w : Int) (n : Nat) : Decidable (fxOk w n) := by unfold fxOk; infer_instance
theorem wide_eq (w : Int) : wire_wide.f w = some (decide (1 ≤ w ∧ w ≤ 8)) := by
  unfold wire_wide.f
  by_cases h : w > 0
  · rw [if_pos h]
    congr 1
    rw [decide_eq_decide]
    omega
  · rw [if_neg h, decide_eq_false (by omega)]
/-- What bytes are, as a number. -/
def bv (l : List Nat) : Nat := l.foldl (fun n c => n * 256 + c) 0
theorem bv_from (l : List Nat) (n : Nat) : l.foldl (fun n c => n * 256 + c) n = n * 256 ^ l.length + bv l := by
  induction l generalizing n with
  | nil => simp [bv]
  | cons c l ih =>
    unfold bv
    rw [List.foldl_cons, List.foldl_cons, ih, ih (0 * 256 + c), List.length_cons, Nat.pow_succ, Nat.zero_mul, Nat.zero_add]
    rw [Nat.add_mul, Nat.mul_assoc, Nat.mul_comm 256]
    omega
theorem bv_lt (l : List Nat) (h : By l) : bv l < 256 ^ l.length := by
  induction l with
  | nil => decide
  | cons c l ih =>
    have hc := h c (by simp)
    have := ih h.tail
    unfold bv
    rw [List.foldl_cons, bv_from, List.length_cons, Nat.pow_succ, Nat.zero_mul, Nat.zero_add]
    have := Nat.mul_le_mul_right (256 ^ l.length) (show c + 1 ≤ 256 by omega)
    rw [Nat.add_mul, Nat.one_mul, Nat.mul_comm 256] at this
    omega
def tf (l : List Nat) (a w : Int) : Int × Int × Int := if a < 0 ∨ ¬ (1 ≤ w ∧ w ≤ 8) then (0, 0, 1) else if a > (l.length : Int) - w then (0, 0, 3) else ((bv ((l.take (a + w).toNat).drop a.toNat) : Int), a + w, 0)
theorem tf_l0 (a w : Int) (ha : 0 ≤ a ∧ a ≤ 10000000000000) (hw : 1 ≤ w ∧ w ≤ 8) (l : List Nat) (hl : By l) (h8 : l.length ≤ 8) (d : Nat) : ∀ (k i : Nat), i ≤ l.length → l.length - i = d → d < k →
    wire_TakeFixed.l0 k a w (bv (l.take i) : Int) (cs l) (l.length : Int) (i : Int) = some ((bv l : Int), a + w, 0) := by
  induction d with
  | zero =>
    intro k i hi hd hk
    obtain ⟨k, rfl⟩ : ∃ m, k = m + 1 := ⟨k - 1, by omega⟩
    simp only [wire_TakeFixed.l0]
    rw [if_neg (by omega), List.take_of_length_le (by omega), w64 (by omega) (by omega)]
  | succ d ih =>
    intro k i hi hd hk
    obtain ⟨k, rfl⟩ : ∃ m, k = m + 1 := ⟨k - 1, by omega⟩
    have hlt : i < l.length := by omega
    have hc : l.getD i 0 < 256 := hl _ (getD_mem l i hlt)
    have hb := bv_lt (l.take i) (hl.take i)
    have hp : 256 ^ (l.take i).length ≤ 256 ^ 7 := Nat.pow_le_pow_right (by decide) (by rw [List.length_take]; omega)
    have hp7 : 256 ^ 7 = 72057594037927936 := by decide
    have e : bv (l.take (i + 1)) = bv (l.take i) * 256 + l.getD i 0 := by
      rw [List.take_add_one, List.getD_eq_getElem?_getD, List.getElem?_eq_getElem hlt]
      unfold bv
      rw [List.foldl_append]
      rfl
    simp only [wire_TakeFixed.l0]
    rw [if_pos (by omega), if_pos (by omega), cs_len, if_pos (by omega), cs_rd, u64_in (x := (bv (l.take i) : Int) * 256) (by omega) (by omega), u64_in (x := ((l.getD i 0 : Nat) : Int)) (by omega) (by omega), u64_in (by omega) (by omega), w64 (x := (i : Int) + 1) (by omega) (by omega), show (i : Int) + 1 = ((i + 1 : Nat) : Int) by omega, show (bv (l.take i) : Int) * 256 + ((l.getD i 0 : Nat) : Int) = ((bv (l.take (i + 1)) : Nat) : Int) by rw [e]; omega]
    exact ih k (i + 1) (by omega) (by omega) (by omega)
theorem TakeFixed_eq {k : Nat} (l : List Nat) (hl : By l) (hn : l.length ≤ 1000000000000) (a w : Int) (hk : 20 ≤ k) : wire_TakeFixed.f k (cs l) a w = some (tf l a w) := by
  obtain ⟨k, rfl⟩ : ∃ m, k = m + 1 := ⟨k - 1, by omega⟩
  unfold wire_TakeFixed.f tf
  by_cases h1 : a < 0
  · rw [if_pos h1, if_pos (Or.inl h1)]
    simp only [wire_TakeFixed.j0]
    rw [if_pos trivial]
  rw [if_neg h1, wide_eq, Option.bind_some]
  by_cases hw : 1 ≤ w ∧ w ≤ 8
  case neg =>
    rw [decide_eq_false hw, if_pos (Or.inr hw)]
    simp only [wire_TakeFixed.j0]
    rw [if_pos (by decide)]
  rw [decide_eq_true hw, if_neg (fun h => h.elim h1 (fun h => h hw))]
  simp only [wire_TakeFixed.j0]
  rw [if_neg (by decide), cs_len, w64 (x := (l.length : Int) - w) (by omega) (by omega)]
  by_cases h2 : a > (l.length : Int) - w
  · rw [if_pos h2, if_pos h2]
  · rw [if_neg h2, if_neg h2, if_pos (by omega), w64 (by omega) (by omega), if_pos (by omega), if_pos (by omega), cs_take, cs_drop, cs_len]
    have := tf_l0 a w (by omega) hw ((l.take (a + w).toNat).drop a.toNat) ((hl.take _).drop _) (by rw [List.length_drop, List.length_take]; omega) _ k 0 (by omega) rfl (by rw [List.length_drop, List.length_take]; omega)
    rw [show ((bv (((l.take (a + w).toNat).drop a.toNat).take 0) : Nat) : Int) = 0 from rfl, show ((0 : Nat) : Int) = 0 from rfl] at this
    rw [this]
end Go.Proofs.YtcofclkgfandfaaGreat.Wire4
/- Members as bits of a number below 65536: plain facts. -/
namespace Go.Proofs.YtcofclkgfandfaaGreat.Bits16
open Go
theorem u16_in {x : Int} (h : 0 ≤ x) (h2 : x ≤ 65535) : IntKind.u16.wrap x = x := by
  simp [IntKind.wrap, IntKind.bits, IntKind.signed]
  omega
theorem ofInt16 (a : Nat) (ha : a < 65536) : (BitVec.ofInt 16 (a : Int)).toNat = a := by
  rw [BitVec.ofInt_natCast, BitVec.toNat_ofNat]; exact Nat.mod_eq_of_lt (by omega)
theorem bits_and (a b : Nat) (ha : a < 65536) (hb : b < 65536) : Go.bits .and .u16 (a : Int) (b : Int) = ((a &&& b : Nat) : Int) := by
  have hx : a &&& b < 2 ^ 16 := Nat.and_lt_two_pow _ (by omega)
  show IntKind.u16.wrap ((BitVec.ofInt 16 (a : Int) &&& BitVec.ofInt 16 (b : Int)).toNat : Int) = _
  rw [BitVec.toNat_and, ofInt16 a ha, ofInt16 b hb, u16_in (by omega) (by omega)]
/-- A bit that is not there is put in by adding it. -/
theorem or_add : ∀ (n m : Nat), m.testBit n = false → m ||| 2 ^ n = m + 2 ^ n
  | 0, m, h => by
    have h0 : m % 2 = 0 := by
      rw [Nat.testBit_zero] at h
      have := decide_eq_false_iff_not.1 h
      omega
    have h1 := Nat.or_div_two (a := m) (b := 1)
    have h2 : (m ||| 1) % 2 = 1 := by
      rw [Nat.or_mod_two_eq_one]
      right; rfl
    rw [show (1 : Nat) / 2 = 0 from rfl, Nat.or_zero] at h1
    simp only [Nat.pow_zero]
    omega
  | n + 1, m, h => by
    rw [Nat.testBit_succ] at h
    have ih := or_add n (m / 2) h
    have h1 := Nat.or_div_two (a := m) (b := 2 ^ (n + 1))
    have e : 2 ^ (n + 1) / 2 = 2 ^ n := by rw [Nat.pow_succ]; omega
    rw [e, ih] at h1
    have h2 : (m ||| 2 ^ (n + 1)) % 2 = m % 2 := by
      have h3 := Nat.or_mod_two_eq_one (a := m) (b := 2 ^ (n + 1))
      have h4 : 2 ^ (n + 1) % 2 = 0 := by rw [Nat.pow_succ]; omega
      rw [h4] at h3
      have : (m ||| 2 ^ (n + 1)) % 2 = 1 ↔ m % 2 = 1 := by rw [h3]; simp
      omega
    rw [Nat.pow_succ] at *
    omega
end Go.Proofs.YtcofclkgfandfaaGreat.Bits16
/- Sets of members, as printed in the chapter on frames (layer 8): plain facts. -/
namespace Go.Proofs.YtcofclkgfandfaaGreat.Set08
open Go Go.RowKit Go.Proofs.YtcofclkgfandfaaGreat.Print Go.Proofs.YtcofclkgfandfaaGreatW.PrintWords Go.Proofs.YtcofclkgfandfaaGreatW.PrintLast Go.Proofs.YtcofclkgfandfaaGreatW.PrintMore Go.Proofs.YtcofclkgfandfaaGreat.Bits16
theorem w64 {x : Int} (h : -9223372036854775808 ≤ x) (h2 : x ≤ 9223372036854775807) : wrap64 x = x := by unfold wrap64; omega
def Fok (kd fr sl : Int) : Prop := (kd = 1 ∨ kd = 2) ∧ 0 ≤ fr ∧ fr < 16 ∧ sl ≤ 4294967296
instance (kd fr sl : Int) : Decidable (Fok kd fr sl) := by unfold Fok; infer_instance
theorem fcheck_eq {k : Nat} (hk : 1 ≤ k) (kd fr sl g : Int) : frame_Check.f k kd fr sl g = some (if Fok kd fr sl then 0 else 1) := by
  obtain ⟨k, rfl⟩ : ∃ m, k = m + 1 := ⟨k - 1, by omega⟩
  have j : ∀ b, frame_Check.j0 (k + 1) b kd fr sl g = some (if b = false ∧ 0 ≤ fr ∧ fr < 16 ∧ sl ≤ 4294967296 then 0 else 1) := by
    intro b
    simp only [frame_Check.j0]
    cases b
    · rw [if_neg (by decide)]
      by_cases h1 : fr < 0
      · rw [if_pos h1, if_neg (by omega)]
      rw [if_neg h1]
      by_cases h2 : fr ≥ 16
      · rw [if_pos h2, if_neg (by omega)]
      rw [if_neg h2]
      by_cases h3 : sl > 4294967296
      · rw [if_pos h3, if_neg (by omega)]
      rw [if_neg h3, if_pos ⟨rfl, by omega, by omega, by omega⟩]
    · simp
  unfold frame_Check.f
  rw [j, j]
  by_cases h1 : kd = 1
  · rw [if_pos h1]
    congr 1
    unfold Fok
    simp [h1]
  · rw [if_neg h1]
    congr 1
    unfold Fok
    by_cases h2 : kd = 2
    · simp [h2]
    · have e : (kd != 2) = true := bne_iff_ne.2 h2
      simp [h1, h2, e]
/-! ### What is no member -/
def pc (m : Nat) : Nat → Nat
  | 0 => 0
  | j + 1 => pc m j + (m.testBit j).toNat
theorem pc_le (m j : Nat) : pc m j ≤ j := by
  induction j with
  | zero => exact Nat.le_refl _
  | succ j ih =>
    rw [pc]
    have : (m.testBit j).toNat ≤ 1 := by cases m.testBit j <;> decide
    omega
theorem pc_split (m j : Nat) : pc m (8 + j) = pc (m % 256) 8 + pc (m / 256) j := by
  induction j with
  | zero =>
    have h : ∀ i, i < 8 → (m % 256).testBit i = m.testBit i := by
      intro i hi
      rw [show 256 = 2 ^ 8 by decide, Nat.testBit_mod_two_pow, decide_eq_true hi, Bool.true_and]
    show pc m 8 = pc (m % 256) 8 + 0
    simp only [pc]
    rw [h 0 (by decide), h 1 (by decide), h 2 (by decide), h 3 (by decide), h 4 (by decide), h 5 (by decide), h 6 (by decide), h 7 (by decide)]
    rfl
  | succ j ih =>
    show pc m (8 + j) + (m.testBit (8 + j)).toNat = pc (m % 256) 8 + (pc (m / 256) j + ((m / 256).testBit j).toNat)
    rw [ih, show m / 256 = m >>> 8 by rw [Nat.shiftRight_eq_div_pow], Nat.testBit_shiftRight, Nat.add_assoc]
def T8 : ByteArray := ⟨#[0, 1, 1, 2, 1, 2, 2, 3, 1, 2, 2, 3, 2, 3, 3, 4, 1, 2, 2, 3, 2, 3, 3, 4, 2, 3, 3, 4, 3, 4, 4, 5, 1, 2, 2, 3, 2, 3, 3, 4, 2, 3, 3, 4, 3, 4, 4, 5, 2, 3, 3, 4, 3, 4, 4, 5, 3, 4, 4, 5, 4, 5, 5, 6, 1, 2, 2, 3, 2, 3, 3, 4, 2, 3, 3, 4, 3, 4, 4, 5, 2, 3, 3, 4, 3, 4, 4, 5, 3, 4, 4, 5, 4, 5, 5, 6, 2, 3, 3, 4, 3, 4, 4, 5, 3, 4, 4, 5, 4, 5, 5, 6, 3, 4, 4, 5, 4, 5, 5, 6, 4, 5, 5, 6, 5, 6, 6, 7, 1, 2, 2, 3, 2, 3, 3, 4, 2, 3, 3, 4, 3, 4, 4, 5, 2, 3, 3, 4, 3, 4, 4, 5, 3, 4, 4, 5, 4, 5, 5, 6, 2, 3, 3, 4, 3, 4, 4, 5, 3, 4, 4, 5, 4, 5, 5, 6, 3, 4, 4, 5, 4, 5, 5, 6, 4, 5, 5, 6, 5, 6, 6, 7, 2, 3, 3, 4, 3, 4, 4, 5, 3, 4, 4, 5, 4, 5, 5, 6, 3, 4, 4, 5, 4, 5, 5, 6, 4, 5, 5, 6, 5, 6, 6, 7, 3, 4, 4, 5, 4, 5, 5, 6, 4, 5, 5, 6, 5, 6, 6, 7, 4, 5, 5, 6, 5, 6, 6, 7, 5, 6, 6, 7, 6, 7, 7, 8]⟩
theorem T8_eq : ∀ i : Fin 256, bt T8 (i.val : Int) = ((pc i.val 8 : Nat) : Int) := by decide +kernel
/-- What is turned on in each half, told by the table. -/
theorem count_eq {m : Nat} (hm : m < 65536) : frame_Count.f (m : Int) = some ((pc m 16 : Nat) : Int) := by
  have e0 : (m : Int) / 256 = ((m / 256 : Nat) : Int) := by omega
  have e1 : Go.bits .and .u16 (m : Int) 255 = ((m % 256 : Nat) : Int) := by
    rw [show (255 : Int) = ((255 : Nat) : Int) from rfl, bits_and m 255 hm (by decide), show 255 = 2 ^ 8 - 1 by decide, Nat.and_two_pow_sub_one_eq_mod]
  unfold frame_Count.f bits_OnesCount16.f
  rw [e0, e1, if_pos (by omega), if_pos (by omega), if_pos (by omega), if_pos (by omega)]
  show (some ((bt T8 ((m / 256 : Nat) : Int) + bt T8 ((m % 256 : Nat) : Int)) % 256)).bind _ = _
  have t1 := T8_eq ⟨m / 256, by omega⟩
  have t2 := T8_eq ⟨m % 256, by omega⟩
  simp only at t1 t2
  rw [t1, t2, Option.bind_some, show 16 = 8 + 8 from rfl, pc_split]
  have h1 := pc_le (m % 256) 8
  have h2 := pc_le (m / 256) 8
  show some _ = some _
  refine congrArg some ?_
  generalize pc (m % 256) 8 = a at *
  generalize pc (m / 256) 8 = b at *
  omega
end Go.Proofs.YtcofclkgfandfaaGreat.Set08
/- Frames written (layer 8), as printed: which, and their bytes. -/
namespace Go.Proofs.YtcofclkgfandfaaGreat.Frame08
open Go Go.RowKit Go.Proofs.YtcofclkgfandfaaGreat.Print Go.Proofs.YtcofclkgfandfaaGreatW.PrintWords Go.Proofs.YtcofclkgfandfaaGreatW.PrintLast Go.Proofs.YtcofclkgfandfaaGreatW.PrintMore Go.Proofs.YtcofclkgfandfaaGreat.Wire Go.Proofs.YtcofclkgfandfaaGreat.WireSpec Go.Proofs.YtcofclkgfandfaaGreat.Wire2 Go.Proofs.YtcofclkgfandfaaGreat.Wire4 Go.Proofs.YtcofclkgfandfaaGreat.Set08
end Go.Proofs.YtcofclkgfandfaaGreat.Frame08
/- Frames read (layer 8), as printed: by the code and by the document, one and the same answer. -/
namespace Go.Proofs.YtcofclkgfandfaaGreat.Frame08
open Go Go.RowKit Go.Proofs.YtcofclkgfandfaaGreat.Print Go.Proofs.YtcofclkgfandfaaGreatW.PrintWords Go.Proofs.YtcofclkgfandfaaGreatW.PrintLast Go.Proofs.YtcofclkgfandfaaGreatW.PrintMore Go.Proofs.YtcofclkgfandfaaGreat.Wire Go.Proofs.YtcofclkgfandfaaGreat.WireSpec Go.Proofs.YtcofclkgfandfaaGreat.Wire2 Go.Proofs.YtcofclkgfandfaaGreat.Wire4 Go.Proofs.YtcofclkgfandfaaGreat.Set08
theorem getD_by {l : List Nat} (h : By l) (i : Nat) : l.getD i 0 < 256 := CrcFn.getD_lt h i
theorem fx2 (g : Nat) : fx 2 g = [g / 256 % 256, g % 256] := by
  show [g / 256 % 256 + 0, g % 256 + 0] = _
  rfl
theorem tf1 (o : List Nat) (a : Nat) : tf o (a : Int) 1 = if a + 1 ≤ o.length then (((o.getD a 0 : Nat) : Int), ((a + 1 : Nat) : Int), 0) else (0, 0, 3) := by
  unfold tf
  rw [if_neg (by omega)]
  by_cases h : a + 1 ≤ o.length
  · rw [if_pos h, if_neg (by omega), show ((a : Int) + 1).toNat = a + 1 by omega, Int.toNat_natCast]
    have e : (o.take (a + 1)).drop a = [o.getD a 0] := by
      rw [List.drop_take, show a + 1 - a = 1 by omega, drop_cons o a (by omega)]
      rfl
    rw [e]
    show (((0 * 256 + o.getD a 0 : Nat) : Int), (a : Int) + 1, (0 : Int)) = _
    rw [Nat.zero_mul, Nat.zero_add, show (a : Int) + 1 = ((a + 1 : Nat) : Int) by omega]
  · rw [if_neg h, if_pos (by omega)]
theorem tf2 (o : List Nat) (a : Nat) : tf o (a : Int) 2 = if a + 2 ≤ o.length then (((bv ((o.take (a + 2)).drop a) : Nat) : Int), ((a + 2 : Nat) : Int), 0) else (0, 0, 3) := by
  unfold tf
  rw [if_neg (by omega)]
  by_cases h : a + 2 ≤ o.length
  · rw [if_pos h, if_neg (by omega), show ((a : Int) + 2).toNat = a + 2 by omega, Int.toNat_natCast, show (a : Int) + 2 = ((a + 2 : Nat) : Int) by omega]
  · rw [if_neg h, if_pos (by omega)]
def FOK (o : List Nat) : Prop := 3 ≤ o.length ∧ (dv 0 0 (o.drop 3)).2.2 = 0 ∧ o.length = 3 + (dv 0 0 (o.drop 3)).2.1 + 2 ∧ o.getD 0 0 = 161 ∧ Fok ((o.getD 1 0 : Nat) : Int) ((o.getD 2 0 : Nat) : Int) (((dv 0 0 (o.drop 3)).1 : Nat) : Int)
instance (o : List Nat) : Decidable (FOK o) := by unfold FOK; infer_instance
def F (o : List Nat) : Int × Int × Int × Int × Int := if FOK o then (((o.getD 1 0 : Nat) : Int), ((o.getD 2 0 : Nat) : Int), (((dv 0 0 (o.drop 3)).1 : Nat) : Int), ((bv (o.drop (3 + (dv 0 0 (o.drop 3)).2.1)) : Nat) : Int), 0) else (0, 0, 0, 0, 4)
def rdF (l : List Nat) : Int × Int × Int × Int × Int := if (CrcFn.op24 l).2 = 0 then F (l.take (l.length - 3)) else (0, 0, 0, 0, (CrcFn.op24 l).2)
theorem op_ok {l : List Nat} (h : (CrcFn.op24 l).2 = 0) : CrcFn.op24 l = (cs (l.take (l.length - 3)), 0) ∧ 3 ≤ l.length ∧ l.length ≤ 1048579 ∧ CrcFn.good24 l := by
  unfold CrcFn.op24 at h ⊢
  by_cases h1 : l.length < 3
  · rw [if_pos h1] at h
    exact absurd h (by decide)
  rw [if_neg h1] at h ⊢
  by_cases h2 : 1048579 < l.length
  · rw [if_pos h2] at h
    exact absurd h (by decide)
  rw [if_neg h2] at h ⊢
  by_cases h3 : CrcFn.good24 l
  · rw [if_pos h3]
    exact ⟨rfl, by omega, by omega, h3⟩
  · rw [if_neg h3] at h
    exact absurd h (by decide)
theorem bv2 {l : List Nat} (h : By l) (h2 : l.length = 2) : bv l < 65536 ∧ fx 2 (bv l) = l := by
  match l, h2 with
  | [x, y], _ =>
    have hx := h x (by simp)
    have hy := h y (by simp)
    have e : bv [x, y] = x * 256 + y := by
      show (0 * 256 + x) * 256 + y = _
      omega
    rw [e, fx2]
    refine ⟨by omega, ?_⟩
    rw [show (x * 256 + y) / 256 % 256 = x by omega, show (x * 256 + y) % 256 = y by omega]
end Go.Proofs.YtcofclkgfandfaaGreat.Frame08
/- Frames read (layer 8): the code's walk and the document's, told by one function. -/
namespace Go.Proofs.YtcofclkgfandfaaGreat.Frame08
open Go Go.RowKit Go.Proofs.YtcofclkgfandfaaGreat.Print Go.Proofs.YtcofclkgfandfaaGreatW.PrintWords Go.Proofs.YtcofclkgfandfaaGreatW.PrintLast Go.Proofs.YtcofclkgfandfaaGreatW.PrintMore Go.Proofs.YtcofclkgfandfaaGreat.Wire Go.Proofs.YtcofclkgfandfaaGreat.WireSpec Go.Proofs.YtcofclkgfandfaaGreat.Wire2 Go.Proofs.YtcofclkgfandfaaGreat.Wire4 Go.Proofs.YtcofclkgfandfaaGreat.Set08
theorem inner_ok {k : Nat} (o : List Nat) (ho : By o) (hn : o.length ≤ 1000000000000) (p w : Int) (hk : 20 ≤ k) : frame_Read_1.f k (cs o) 0 p w = some (tf o p w) := by
  unfold frame_Read_1.f
  rw [if_pos rfl, TakeFixed_eq o ho hn p w hk]
theorem inner_no {k : Nat} (o : List Int) (e p w : Int) (h : e ≠ 0) : frame_Read_1.f k o e p w = some (0, p, e) := by
  unfold frame_Read_1.f
  rw [if_neg h]
theorem getD_wrap (o : List Nat) (ho : By o) (i : Nat) : wrap64 ((o.getD i 0 : Nat) : Int) = ((o.getD i 0 : Nat) : Int) := by
  have := getD_by ho i
  exact Set08.w64 (by omega) (by omega)
/-- What the code does behind the seal. -/
theorem code_F {k : Nat} (o : List Nat) (ho : By o) (hn : o.length ≤ 1000000) (hk : 2 * o.length + 100 ≤ k) : ((frame_Read_1.f k (cs o) 0 0 1).bind fun h => (frame_Read_1.f k (cs o) h.2.2 h.2.1 1).bind fun a => (frame_Read_1.f k (cs o) a.2.2 a.2.1 1).bind fun b => (if b.2.2 = 0 then wire_TakeVary.f k (cs o) b.2.1 else some (0, b.2.1, b.2.2)).bind fun v => (frame_Read_1.f k (cs o) v.2.2 v.2.1 2).bind fun m => if m.2.2 = 0 ∧ h.1 = 161 ∧ m.2.1 = ((cs o).length : Int) then ((frame_Check.f k (wrap64 a.1) (wrap64 b.1) v.1 (IntKind.u16.wrap m.1)).bind fun c => some (if c = 0 then (wrap64 a.1, wrap64 b.1, v.1, IntKind.u16.wrap m.1, 0) else (0, 0, 0, 0, 4))) else some (0, 0, 0, 0, 4)) = some (F o) := by
  have t0 := tf1 o 0
  have t1 := tf1 o 1
  have t2 := tf1 o 2
  have nf : ¬ FOK o → some (F o) = some (0, 0, 0, 0, 4) := by
    intro h
    unfold F
    rw [if_neg h]
  have bad : ∀ (h0 x y z p e : Int), e ≠ 0 → ¬ FOK o → ((frame_Read_1.f k (cs o) e p 2).bind fun m => if m.2.2 = 0 ∧ h0 = 161 ∧ m.2.1 = ((cs o).length : Int) then ((frame_Check.f k x y z (IntKind.u16.wrap m.1)).bind fun c => some (if c = 0 then (x, y, z, IntKind.u16.wrap m.1, 0) else (0, 0, 0, 0, 4))) else some (0, 0, 0, 0, 4)) = some (F o) := by
    intro h0 x y z p e he hf
    rw [inner_no _ _ _ _ he, Option.bind_some, if_neg (fun q => he q.1), nf hf]
  by_cases h1 : 1 ≤ o.length
  case neg =>
    have hf : ¬ FOK o := fun q => by have := q.1; omega
    rw [if_neg (by omega)] at t0
    rw [inner_ok o ho (by omega) 0 1 (by omega), show tf o 0 1 = (0, 0, 3) from t0, Option.bind_some, inner_no _ _ _ _ (show (3 : Int) ≠ 0 by decide), Option.bind_some, inner_no _ _ _ _ (show (3 : Int) ≠ 0 by decide), Option.bind_some, if_neg (show ¬ (3 : Int) = 0 by decide), Option.bind_some]
    exact bad _ _ _ _ _ 3 (by decide) hf
  rw [if_pos (by omega)] at t0
  rw [inner_ok o ho (by omega) 0 1 (by omega), show tf o 0 1 = _ from t0, Option.bind_some]
  by_cases h2 : 2 ≤ o.length
  case neg =>
    have hf : ¬ FOK o := fun q => by have := q.1; omega
    rw [if_neg (by omega)] at t1
    show ((frame_Read_1.f k (cs o) 0 1 1).bind _) = _
    rw [inner_ok o ho (by omega) 1 1 (by omega), show tf o 1 1 = (0, 0, 3) from t1, Option.bind_some, inner_no _ _ _ _ (show (3 : Int) ≠ 0 by decide), Option.bind_some, if_neg (show ¬ (3 : Int) = 0 by decide), Option.bind_some]
    exact bad _ _ _ _ _ 3 (by decide) hf
  rw [if_pos (by omega)] at t1
  show ((frame_Read_1.f k (cs o) 0 1 1).bind _) = _
  rw [inner_ok o ho (by omega) 1 1 (by omega), show tf o 1 1 = _ from t1, Option.bind_some]
  by_cases h3 : 3 ≤ o.length
  case neg =>
    have hf : ¬ FOK o := fun q => by have := q.1; omega
    rw [if_neg (by omega)] at t2
    show ((frame_Read_1.f k (cs o) 0 2 1).bind _) = _
    rw [inner_ok o ho (by omega) 2 1 (by omega), show tf o 2 1 = (0, 0, 3) from t2, Option.bind_some, if_neg (show ¬ (3 : Int) = 0 by decide), Option.bind_some]
    exact bad _ _ _ _ _ 3 (by decide) hf
  rw [if_pos (by omega)] at t2
  show ((frame_Read_1.f k (cs o) 0 2 1).bind _) = _
  rw [inner_ok o ho (by omega) 2 1 (by omega), show tf o 2 1 = _ from t2, Option.bind_some, if_pos rfl]
  have tv := TakeVary_eq (k := k) o ho (by omega) 3 (by omega)
  rw [show wire_TakeVary.f k (cs o) ((((o.getD 2 0 : Nat) : Int), ((2 + 1 : Nat) : Int), (0 : Int)).2.1) = _ from tv, Option.bind_some]
  unfold res
  by_cases hd : (dv 0 0 (o.drop 3)).2.2 = 0
  case neg =>
    have hf : ¬ FOK o := fun q => hd q.2.1
    rw [if_neg hd]
    exact bad _ _ _ _ _ _ (by show ((dv 0 0 (o.drop 3)).2.2 : Int) ≠ 0; omega) hf
  rw [if_pos hd]
  have ew : wrap64 ((o.getD 1 0 : Nat) : Int) = _ := getD_wrap o ho 1
  have ew2 : wrap64 ((o.getD 2 0 : Nat) : Int) = _ := getD_wrap o ho 2
  show ((frame_Read_1.f k (cs o) 0 ((3 : Nat) + ((dv 0 0 (o.drop 3)).2.1 : Int)) 2).bind fun m => if m.2.2 = 0 ∧ ((o.getD 0 0 : Nat) : Int) = 161 ∧ m.2.1 = ((cs o).length : Int) then ((frame_Check.f k (wrap64 ((o.getD 1 0 : Nat) : Int)) (wrap64 ((o.getD 2 0 : Nat) : Int)) (((dv 0 0 (o.drop 3)).1 : Nat) : Int) (IntKind.u16.wrap m.1)).bind fun c => some (if c = 0 then (wrap64 ((o.getD 1 0 : Nat) : Int), wrap64 ((o.getD 2 0 : Nat) : Int), (((dv 0 0 (o.drop 3)).1 : Nat) : Int), IntKind.u16.wrap m.1, 0) else (0, 0, 0, 0, 4))) else some (0, 0, 0, 0, 4)) = some (F o)
  rw [ew, ew2, show (((3 : Nat) : Int) + ((dv 0 0 (o.drop 3)).2.1 : Int)) = ((3 + (dv 0 0 (o.drop 3)).2.1 : Nat) : Int) by omega, inner_ok o ho (by omega) _ 2 (by omega), tf2, Option.bind_some, cs_len]
  by_cases h5 : 3 + (dv 0 0 (o.drop 3)).2.1 + 2 ≤ o.length
  case neg =>
    have hf : ¬ FOK o := fun q => by have := q.2.2.1; omega
    rw [if_neg h5, if_neg (fun q => absurd q.1 (by decide)), nf hf]
  rw [if_pos h5]
  by_cases h6 : o.length = 3 + (dv 0 0 (o.drop 3)).2.1 + 2
  case neg =>
    have hf : ¬ FOK o := fun q => h6 q.2.2.1
    rw [if_neg (fun q => h6 (by have : ((3 + (dv 0 0 (o.drop 3)).2.1 + 2 : Nat) : Int) = (o.length : Int) := q.2.2; omega)), nf hf]
  by_cases h7 : o.getD 0 0 = 161
  case neg =>
    have hf : ¬ FOK o := fun q => h7 q.2.2.2.1
    rw [if_neg (fun q => h7 (by have := q.2.1; omega)), nf hf]
  have edrop : (o.take (3 + (dv 0 0 (o.drop 3)).2.1 + 2)).drop (3 + (dv 0 0 (o.drop 3)).2.1) = o.drop (3 + (dv 0 0 (o.drop 3)).2.1) := by
    rw [← h6, List.take_length]
  have hdl : (o.drop (3 + (dv 0 0 (o.drop 3)).2.1)).length = 2 := by rw [List.length_drop]; omega
  obtain ⟨g1, g2⟩ := bv2 (ho.drop (3 + (dv 0 0 (o.drop 3)).2.1)) hdl
  rw [edrop, if_pos ⟨rfl, by omega, by show ((3 + (dv 0 0 (o.drop 3)).2.1 + 2 : Nat) : Int) = _; omega⟩]
  simp only []
  rw [Bits16.u16_in (by omega) (by omega), fcheck_eq (by omega), Option.bind_some]
  by_cases h8 : Fok ((o.getD 1 0 : Nat) : Int) ((o.getD 2 0 : Nat) : Int) (((dv 0 0 (o.drop 3)).1 : Nat) : Int)
  · have hf : FOK o := ⟨h3, hd, h6, h7, h8⟩
    unfold F
    rw [if_pos h8, if_pos rfl, if_pos hf]
  · have hf : ¬ FOK o := fun q => h8 q.2.2.2.2
    rw [if_neg h8, if_neg (by decide), nf hf]
theorem Read_eq {k : Nat} (l : List Nat) (hl : By l) (hn : l.length ≤ 10000) (hk : 30000 ≤ k) : frame_Read.f k (cs l) = some (rdF l) := by
  unfold frame_Read.f rdF
  rw [show crc_Open24.f (cs l) = some (CrcFn.op24 l) from CrcFn.Open24_eq l hl (by omega), Option.bind_some]
  by_cases h0 : (CrcFn.op24 l).2 = 0
  · obtain ⟨e, h3, h4, gd⟩ := op_ok h0
    rw [if_pos h0, if_pos h0, e]
    exact code_F (l.take (l.length - 3)) (hl.take _) (by rw [List.length_take]; omega) (by rw [List.length_take]; omega)
  · rw [if_neg h0, if_neg h0]
end Go.Proofs.YtcofclkgfandfaaGreat.Frame08
/- Plain facts on the schedule's functions (layer 7): what each printed function comes to. -/
namespace Go.Proofs.YtcofclkgfandfaaGreat.Medl
open Go.RowKit Go.Proofs.YtcofclkgfandfaaGreat.Print Go.Proofs.YtcofclkgfandfaaGreatW.PrintWords Go.Proofs.YtcofclkgfandfaaGreatW.PrintLast Go.Proofs.YtcofclkgfandfaaGreatW.PrintMore
theorem w64 {x : Int} (h : -9223372036854775808 ≤ x) (h2 : x ≤ 9223372036854775807) : wrap64 x = x := by unfold wrap64; omega
theorem u64 {x : Int} (h : 0 ≤ x) (h2 : x ≤ 18446744073709551615) : IntKind.u64.wrap x = x := IntWalk.u64_in x ⟨h, h2⟩
theorem wf64 {x : Int} (h : (Lit.int .i64 x).wf = true) : -9223372036854775808 ≤ x ∧ x ≤ 9223372036854775807 := by
  simpa [Lit.wf, IntKind.min, IntKind.max, IntKind.signed, IntKind.bits] using h
/-- A schedule that may be. -/
def Ok (n s l f w : Int) : Prop := 2 ≤ n ∧ n ≤ 16 ∧ 16 ≤ s ∧ s ≤ 1048576 ∧ 1 ≤ l ∧ l ≤ s ∧ 1 ≤ f ∧ f ≤ s ∧ 1 ≤ w ∧ w ≤ s ∧ w ≤ l ∧ l + f + w < s
instance (n s l f w : Int) : Decidable (Ok n s l f w) := by unfold Ok; infer_instance
section
variable {n s l f w : Int}
theorem check (n s l f w : Int) : medl_Check.f n s l f w = some (if Ok n s l f w then 0 else 1) := rfl
theorem check_ok (h : Ok n s l f w) : medl_Check.f n s l f w = some 0 := by rw [check, if_pos h]
theorem check_no (h : ¬ Ok n s l f w) : medl_Check.f n s l f w = some 1 := by rw [check, if_neg h]
theorem may_ok (h : Ok n s l f w) {x : Int} (hx : x ≤ 4294967296) : medl_may.f n s l f w x = some 0 := by
  unfold medl_may.f
  rw [if_neg (by omega), check_ok h]
  first | rfl | simp
theorem may_no {x : Int} (h : ¬ (Ok n s l f w ∧ x ≤ 4294967296)) : medl_may.f n s l f w x = some 1 := by
  unfold medl_may.f
  by_cases hx : x ≤ 4294967296
  · rw [if_neg (by omega), check_no (fun ho => h ⟨ho, hx⟩)]
    first | rfl | simp
  · rw [if_pos (by omega)]
theorem mod_lt {x : Int} (h : Ok n s l f w) (h0 : 0 ≤ x) : 0 ≤ x % n ∧ x % n < n := by
  have := h.1
  exact ⟨Int.emod_nonneg _ (by omega), Int.emod_lt_of_pos _ (by omega)⟩
theorem owner_ok (h : Ok n s l f w) {x : Int} (h0 : 0 ≤ x) (hx : x ≤ 4294967296) : medl_Owner.f n s l f w x = some (x % n, 0) := by
  have hn := h.1
  have hn2 := h.2.1
  have hm := mod_lt h h0
  unfold medl_Owner.f
  rw [may_ok h hx]
  simp only [Option.bind_some, if_true]
  rw [u64 (by omega) (by omega), if_neg (by omega), Int.tmod_eq_emod_of_nonneg h0, w64 (by omega) (by omega)]
theorem owner_no {x : Int} (h : ¬ (Ok n s l f w ∧ x ≤ 4294967296)) : medl_Owner.f n s l f w x = some (0, 1) := by
  unfold medl_Owner.f
  rw [may_no h]
  simp
end
end Go.Proofs.YtcofclkgfandfaaGreat.Medl
/- A node's next slot, as printed. -/
namespace Go.Proofs.YtcofclkgfandfaaGreat.Medl
open Go.RowKit Go.Proofs.YtcofclkgfandfaaGreat.Print Go.Proofs.YtcofclkgfandfaaGreatW.PrintWords Go.Proofs.YtcofclkgfandfaaGreatW.PrintLast Go.Proofs.YtcofclkgfandfaaGreatW.PrintMore
section
variable {n s l f w : Int}
/-- The next slot of a node that owns 'node'. -/
def nx (n x node : Int) : Int := x + (if node - x % n ≤ 0 then node - x % n + n else node - x % n)
end
end Go.Proofs.YtcofclkgfandfaaGreat.Medl
/- Whether a slot is the last of its round, as printed. -/
namespace Go.Proofs.YtcofclkgfandfaaGreat.Medl
open Go.RowKit Go.Proofs.YtcofclkgfandfaaGreat.Print Go.Proofs.YtcofclkgfandfaaGreatW.PrintWords Go.Proofs.YtcofclkgfandfaaGreatW.PrintLast Go.Proofs.YtcofclkgfandfaaGreatW.PrintMore
section
variable {n s l f w : Int}
theorem last_ok (h : Ok n s l f w) {x : Int} (h0 : 0 ≤ x) (hx : x ≤ 4294967296) : medl_Last.f n s l f w x = some (decide (x % n + 1 = n), 0) := by
  have hn := h.1
  have hn2 := h.2.1
  have hm := mod_lt h h0
  unfold medl_Last.f
  rw [owner_ok h h0 hx]
  simp only [Option.bind_some, if_true]
  rw [w64 (by omega) (by omega)]
  rfl
end
end Go.Proofs.YtcofclkgfandfaaGreat.Medl
/- How late a frame is, as printed. -/
namespace Go.Proofs.YtcofclkgfandfaaGreat.Medl
open Go.RowKit Go.Proofs.YtcofclkgfandfaaGreat.Print Go.Proofs.YtcofclkgfandfaaGreatW.PrintWords Go.Proofs.YtcofclkgfandfaaGreatW.PrintLast Go.Proofs.YtcofclkgfandfaaGreatW.PrintMore
section
variable {n s l f w : Int}
theorem within_eq (a b c : Int) : medl_within.f a b c = some (decide (b ≤ a ∧ a ≤ c)) := by
  unfold medl_within.f
  by_cases h : a ≥ b
  · rw [if_pos h]
    congr 1
    by_cases h2 : a ≤ c
    · rw [decide_eq_true h2, decide_eq_true ⟨h, h2⟩]
    · rw [decide_eq_false h2, decide_eq_false (fun q => h2 q.2)]
  · rw [if_neg h, decide_eq_false (fun q => h q.1)]
end
end Go.Proofs.YtcofclkgfandfaaGreat.Medl
/- Plain facts on the document's answers for layer 7, as printed. -/
namespace Go.Proofs.YtcofclkgfandfaaGreat.Medl
open Go.RowKit Go.Proofs.YtcofclkgfandfaaGreat.Print Go.Proofs.YtcofclkgfandfaaGreatW.PrintWords Go.Proofs.YtcofclkgfandfaaGreatW.PrintLast Go.Proofs.YtcofclkgfandfaaGreatW.PrintMore
section
variable {n s l f w : Int}
end
end Go.Proofs.YtcofclkgfandfaaGreat.Medl
/- Plain facts on members and verdicts (layer 10), as printed. -/
namespace Go.Proofs.YtcofclkgfandfaaGreat.Mem
open Go.RowKit Go.Proofs.YtcofclkgfandfaaGreat.Print Go.Proofs.YtcofclkgfandfaaGreatW.PrintWords Go.Proofs.YtcofclkgfandfaaGreatW.PrintLast Go.Proofs.YtcofclkgfandfaaGreatW.PrintMore Go.Proofs.YtcofclkgfandfaaGreat.Medl Go.Proofs.YtcofclkgfandfaaGreat.Bits16
/-- A schedule, a slot and a node that may be. -/
def MGood (n s l f w x me : Int) : Prop := Ok n s l f w ∧ x ≤ 4294967296 ∧ 0 ≤ me ∧ me < n
instance (n s l f w x me : Int) : Decidable (MGood n s l f w x me) := by unfold MGood; infer_instance
def Fok (kd fr sl : Int) : Prop := (kd = 1 ∨ kd = 2) ∧ 0 ≤ fr ∧ fr < 16 ∧ sl ≤ 4294967296
instance (kd fr sl : Int) : Decidable (Fok kd fr sl) := by unfold Fok; infer_instance
section
variable {n s l f w x me : Int}
theorem sit_eq (h0 : 0 ≤ x) : member_sit.f n s l f w me x = some (if MGood n s l f w x me then (me, x % n, 0) else (0, 0, 1)) := by
  unfold member_sit.f
  by_cases h : Ok n s l f w ∧ x ≤ 4294967296
  · rw [owner_ok h.1 h0 h.2]
    simp only [Option.bind_some, if_true]
    by_cases h1 : me < 0
    · rw [if_pos h1, if_neg (fun q => by have := q.2.2.1; omega)]
    rw [if_neg h1]
    by_cases h2 : me ≥ n
    · rw [if_pos h2, if_neg (fun q => by have := q.2.2.2; omega)]
    rw [if_neg h2, if_pos ⟨h.1, h.2, by omega, by omega⟩]
  · rw [owner_no h]
    simp only [Option.bind_some]
    rw [if_neg (by decide), if_neg (fun q => h ⟨q.1, q.2.1⟩)]
theorem fcheck_eq {k : Nat} (hk : 1 ≤ k) (kd fr sl g : Int) : frame_Check.f k kd fr sl g = some (if Fok kd fr sl then 0 else 1) := by
  obtain ⟨k, rfl⟩ : ∃ m, k = m + 1 := ⟨k - 1, by omega⟩
  have j : ∀ b, frame_Check.j0 (k + 1) b kd fr sl g = some (if b = false ∧ 0 ≤ fr ∧ fr < 16 ∧ sl ≤ 4294967296 then 0 else 1) := by
    intro b
    simp only [frame_Check.j0]
    cases b
    · rw [if_neg (by decide)]
      by_cases h1 : fr < 0
      · rw [if_pos h1, if_neg (by omega)]
      rw [if_neg h1]
      by_cases h2 : fr ≥ 16
      · rw [if_pos h2, if_neg (by omega)]
      rw [if_neg h2]
      by_cases h3 : sl > 4294967296
      · rw [if_pos h3, if_neg (by omega)]
      rw [if_neg h3, if_pos ⟨rfl, by omega, by omega, by omega⟩]
    · simp
  unfold frame_Check.f
  rw [j, j]
  by_cases h1 : kd = 1
  · rw [if_pos h1]
    congr 1
    unfold Fok
    simp [h1]
  · rw [if_neg h1]
    congr 1
    unfold Fok
    by_cases h2 : kd = 2
    · simp [h2]
    · have e : (kd != 2) = true := bne_iff_ne.2 h2
      simp [h1, h2, e]
end
end Go.Proofs.YtcofclkgfandfaaGreat.Mem
/- What the document says of members and verdicts (layer 10), as printed. -/
namespace Go.Proofs.YtcofclkgfandfaaGreat.Mem
open Go.RowKit Go.Proofs.YtcofclkgfandfaaGreat.Print Go.Proofs.YtcofclkgfandfaaGreatW.PrintWords Go.Proofs.YtcofclkgfandfaaGreatW.PrintLast Go.Proofs.YtcofclkgfandfaaGreatW.PrintMore Go.Proofs.YtcofclkgfandfaaGreat.Medl Go.Proofs.YtcofclkgfandfaaGreat.Bits16
section
variable {n s l f w x me : Int}
end
/-- A tally behind one more. -/
def Cok (g b v : Int) : Prop := 0 ≤ v ∧ v ≤ 3 ∧ 0 ≤ g ∧ 0 ≤ b ∧ g ≤ 1073741824 ∧ b ≤ 1073741824
instance (g b v : Int) : Decidable (Cok g b v) := by unfold Cok; infer_instance
end Go.Proofs.YtcofclkgfandfaaGreat.Mem
/- Plain facts on tallies (layer 10), as printed. -/
namespace Go.Proofs.YtcofclkgfandfaaGreat.Mem
open Go.RowKit Go.Proofs.YtcofclkgfandfaaGreat.Print Go.Proofs.YtcofclkgfandfaaGreatW.PrintWords Go.Proofs.YtcofclkgfandfaaGreatW.PrintLast Go.Proofs.YtcofclkgfandfaaGreatW.PrintMore
theorem w64 {x : Int} (h : -9223372036854775808 ≤ x) (h2 : x ≤ 9223372036854775807) : wrap64 x = x := by unfold wrap64; omega
theorem count_eq {k : Nat} {g b v : Int} (hk : 2 ≤ k) (g0 : 0 ≤ g) (g1 : g < 1073741824) (b0 : 0 ≤ b) (b1 : b < 1073741824) (v0 : 0 ≤ v) (v1 : v ≤ 3) : member_Count.f k g b v = some (if v = 1 ∨ v = 2 then (g + 1, b, 0) else if v = 3 then (g, b + 1, 0) else (g, b, 0)) := by
  obtain ⟨k, rfl⟩ : ∃ m, k = m + 2 := ⟨k - 2, by omega⟩
  have m1 : ¬ mn g b < 0 := by unfold mn; split <;> omega
  have m2 : ¬ mx g b > 1073741824 := by unfold mx; split <;> omega
  have e1 : mn (wrap64 (g + 1)) 1073741824 = g + 1 := by rw [w64 (by omega) (by omega)]; unfold mn; split <;> omega
  have e2 : mn (wrap64 (b + 1)) 1073741824 = b + 1 := by rw [w64 (by omega) (by omega)]; unfold mn; split <;> omega
  unfold member_Count.f
  rw [if_neg m1, decide_eq_false m2]
  simp only [member_Count.j0, member_Count.j1, e1, e2]
  have : v = 0 ∨ v = 1 ∨ v = 2 ∨ v = 3 := by omega
  rcases this with rfl | rfl | rfl | rfl <;> simp
end Go.Proofs.YtcofclkgfandfaaGreat.Mem
/- math/bits' Div64, as printed: the quotient and what is left. -/
namespace Go.Proofs.YtcofclkgfandfaaGreat.Div64
open Go Go.RowKit Go.Proofs.YtcofclkgfandfaaGreat.Print Go.Proofs.YtcofclkgfandfaaGreatW.PrintWords Go.Proofs.YtcofclkgfandfaaGreatW.PrintLast Go.Proofs.YtcofclkgfandfaaGreatW.PrintMore
theorem uw (x : Int) : IntKind.u64.wrap x = x % 18446744073709551616 := IntKind.wrap_u64 x
theorem uin {x : Int} (h : 0 ≤ x) (h2 : x < 18446744073709551616) : IntKind.u64.wrap x = x := by rw [uw]; omega
/-- What a digit's guess is tested by. -/
theorem mulY (q y1 y0 : Int) : q * (y1 * 4294967296 + y0) = q * y1 * 4294967296 + q * y0 := by rw [Int.mul_add, Int.mul_assoc]
theorem gt_of {q Q Y V : Int} (hY : 0 ≤ Y) (h : q * Y > V) (h1 : Q * Y ≤ V) : Q < q := by
  by_cases c : q ≤ Q
  · have := Int.mul_le_mul_of_nonneg_right c hY
    omega
  · omega
theorem le_of {q Q Y V : Int} (hY : 0 ≤ Y) (h : q * Y ≤ V) (h1 : V < (Q + 1) * Y) : q ≤ Q := by
  by_cases c : Q + 1 ≤ q
  · have := Int.mul_le_mul_of_nonneg_right c hY
    omega
  · omega
section
variable {s y1 y0 U u1 u0 Q : Int}
theorem step (h1 : 2147483648 ≤ y1) (h2 : y1 < 4294967296) (h3 : 0 ≤ y0) (h4 : y0 < 4294967296) {q r : Int} (q0 : 0 ≤ q) (e : q * y1 + r = U) : q * (y1 * 4294967296 + y0) = (U - r) * 4294967296 + q * y0 := by
  rw [mulY]
  omega
theorem l0_eq (h1 : 2147483648 ≤ y1) (h2 : y1 < 4294967296) (h3 : 0 ≤ y0) (h4 : y0 < 4294967296) (v0 : 0 ≤ u1) (v1 : u1 < 4294967296) (Q0 : 0 ≤ Q) (Q1 : Q < 4294967296)
    (Qa : Q * (y1 * 4294967296 + y0) ≤ U * 4294967296 + u1) (Qb : U * 4294967296 + u1 < (Q + 1) * (y1 * 4294967296 + y0)) : ∀ (d : Nat) (k : Nat) (q r : Int), 0 ≤ r → r < 4294967296 → q * y1 + r = U → Q ≤ q → q ≤ 4294967297 → 4294967296 ≤ r + d * y1 → 2 * d + 2 ≤ k →
    ∃ j, k ≤ j + (2 * d + 2) ∧ bits_Div64.l0 k (y1 * 4294967296 + y0) s y1 y0 U u1 u0 q r = bits_Div64.j2 j (y1 * 4294967296 + y0) s y1 y0 U u1 u0 Q := by
  intro d
  induction d with
  | zero =>
    intro k q r r0 r1 e ha hb hd hk
    omega
  | succ d ih =>
    intro k q r r0 r1 e ha hb hd hk
    obtain ⟨k, rfl⟩ : ∃ j, k = j + 2 := ⟨k - 2, by omega⟩
    have hY : 0 ≤ y1 * 4294967296 + y0 := by omega
    have st := step h1 h2 h3 h4 (by omega) e
    have zq : 0 ≤ q * y0 := Int.mul_nonneg (by omega) h3
    -- the test
    obtain ⟨t, ht, hl⟩ : ∃ t : Bool, (t = true ↔ (4294967296 ≤ q ∨ q * (y1 * 4294967296 + y0) > U * 4294967296 + u1)) ∧ bits_Div64.l0 (k + 2) (y1 * 4294967296 + y0) s y1 y0 U u1 u0 q r = bits_Div64.j1 (k + 1) (y1 * 4294967296 + y0) s y1 y0 U u1 u0 q r t := by
      by_cases c : q ≥ 4294967296
      · refine ⟨true, by simp; exact Or.inl c, ?_⟩
        simp only [bits_Div64.l0]
        rw [if_pos c]
      · refine ⟨decide (q * y0 > 4294967296 * r + u1), ?_, ?_⟩
        · rw [decide_eq_true_eq]
          constructor
          · intro h; right; omega
          · rintro (h | h) <;> omega
        · have z2 : q * y0 < 18446744073709551616 := by
            have a1 := Int.mul_le_mul (show q ≤ 4294967295 by omega) (show y0 ≤ 4294967295 by omega) h3 (by omega)
            omega
          simp only [bits_Div64.l0]
          rw [if_neg c, uin zq z2, uin (x := 4294967296 * r) (by omega) (by omega), uin (by omega) (by omega)]
    rw [hl]
    simp only [bits_Div64.j1]
    by_cases c : t = true
    · rw [if_pos c]
      have hq : Q < q := by
        rcases ht.1 c with h | h
        · omega
        · exact gt_of hY h Qa
      rw [uin (x := r + y1) (by omega) (by omega), uin (x := q - 1) (by omega) (by omega)]
      have e2 : (q - 1) * y1 + (r + y1) = U := by rw [Int.sub_mul]; omega
      by_cases c2 : r + y1 ≥ 4294967296
      · rw [if_pos c2]
        refine ⟨k, by omega, ?_⟩
        have st2 := step h1 h2 h3 h4 (show 0 ≤ q - 1 by omega) e2
        have z3 : (q - 1) * y0 ≤ 4294967296 * 4294967295 := Int.mul_le_mul (show q - 1 ≤ 4294967296 by omega) (show y0 ≤ 4294967295 by omega) h3 (by omega)
        have := le_of hY (show (q - 1) * (y1 * 4294967296 + y0) ≤ U * 4294967296 + u1 by omega) Qb
        have : q - 1 = Q := by omega
        rw [this]
      · rw [if_neg c2]
        obtain ⟨j, hj, ej⟩ := ih k (q - 1) (r + y1) (by omega) (by omega) e2 (by omega) (by omega) (by
          have : ((d + 1 : Nat) : Int) * y1 = d * y1 + y1 := by rw [Int.natCast_add, Int.add_mul]; simp
          omega) (by omega)
        exact ⟨j, by omega, ej⟩
    · rw [if_neg c]
      refine ⟨k, by omega, ?_⟩
      have hn : ¬ (4294967296 ≤ q ∨ q * (y1 * 4294967296 + y0) > U * 4294967296 + u1) := fun h => c (ht.2 h)
      have := le_of hY (show q * (y1 * 4294967296 + y0) ≤ U * 4294967296 + u1 by omega) Qb
      have : q = Q := by omega
      rw [this]
/-- The second digit: the same loop; its way out tells the answer. -/
theorem l1_eq {q1 : Int} (h1 : 2147483648 ≤ y1) (h2 : y1 < 4294967296) (h3 : 0 ≤ y0) (h4 : y0 < 4294967296) (v0 : 0 ≤ u0) (v1 : u0 < 4294967296) (s0 : 0 ≤ s) (Q0 : 0 ≤ Q) (Q1 : Q < 4294967296)
    (Qa : Q * (y1 * 4294967296 + y0) ≤ U * 4294967296 + u0) (Qb : U * 4294967296 + u0 < (Q + 1) * (y1 * 4294967296 + y0)) : ∀ (d : Nat) (k : Nat) (q r : Int), 0 ≤ r → r < 4294967296 → q * y1 + r = U → Q ≤ q → q ≤ 4294967297 → 4294967296 ≤ r + d * y1 → 2 * d + 2 ≤ k →
    bits_Div64.l1 k (y1 * 4294967296 + y0) s y1 y0 u0 q1 r U q = some (IntKind.u64.wrap ((IntKind.u64.wrap (q1 * 4294967296)) + Q), shr .u64 (IntKind.u64.wrap ((IntKind.u64.wrap ((IntKind.u64.wrap (U * 4294967296)) + u0)) - (IntKind.u64.wrap (Q * (y1 * 4294967296 + y0))))) s) := by
  intro d
  induction d with
  | zero =>
    intro k q r r0 r1 e ha hb hd hk
    omega
  | succ d ih =>
    intro k q r r0 r1 e ha hb hd hk
    obtain ⟨k, rfl⟩ : ∃ j, k = j + 2 := ⟨k - 2, by omega⟩
    have hY : 0 ≤ y1 * 4294967296 + y0 := by omega
    have st := step h1 h2 h3 h4 (by omega) e
    have zq : 0 ≤ q * y0 := Int.mul_nonneg (by omega) h3
    obtain ⟨t, ht, hl⟩ : ∃ t : Bool, (t = true ↔ (4294967296 ≤ q ∨ q * (y1 * 4294967296 + y0) > U * 4294967296 + u0)) ∧ bits_Div64.l1 (k + 2) (y1 * 4294967296 + y0) s y1 y0 u0 q1 r U q = bits_Div64.j4 (k + 1) (y1 * 4294967296 + y0) s y1 y0 u0 q1 r U q t := by
      by_cases c : q ≥ 4294967296
      · refine ⟨true, by simp; exact Or.inl c, ?_⟩
        simp only [bits_Div64.l1]
        rw [if_pos c]
      · refine ⟨decide (q * y0 > 4294967296 * r + u0), ?_, ?_⟩
        · rw [decide_eq_true_eq]
          constructor
          · intro h; right; omega
          · rintro (h | h) <;> omega
        · have z2 : q * y0 < 18446744073709551616 := by
            have a1 := Int.mul_le_mul (show q ≤ 4294967295 by omega) (show y0 ≤ 4294967295 by omega) h3 (by omega)
            omega
          simp only [bits_Div64.l1]
          rw [if_neg c, uin zq z2, uin (x := 4294967296 * r) (by omega) (by omega), uin (by omega) (by omega)]
    rw [hl]
    simp only [bits_Div64.j4]
    by_cases c : t = true
    · rw [if_pos c]
      have hq : Q < q := by
        rcases ht.1 c with h | h
        · omega
        · exact gt_of hY h Qa
      rw [uin (x := r + y1) (by omega) (by omega), uin (x := q - 1) (by omega) (by omega)]
      have e2 : (q - 1) * y1 + (r + y1) = U := by rw [Int.sub_mul]; omega
      by_cases c2 : r + y1 ≥ 4294967296
      · rw [if_pos c2, if_pos s0]
        have st2 := step h1 h2 h3 h4 (show 0 ≤ q - 1 by omega) e2
        have z3 : (q - 1) * y0 ≤ 4294967296 * 4294967295 := Int.mul_le_mul (show q - 1 ≤ 4294967296 by omega) (show y0 ≤ 4294967295 by omega) h3 (by omega)
        have := le_of hY (show (q - 1) * (y1 * 4294967296 + y0) ≤ U * 4294967296 + u0 by omega) Qb
        have : q - 1 = Q := by omega
        rw [this]
      · rw [if_neg c2]
        exact ih k (q - 1) (r + y1) (by omega) (by omega) e2 (by omega) (by omega) (by
          have : ((d + 1 : Nat) : Int) * y1 = d * y1 + y1 := by rw [Int.natCast_add, Int.add_mul]; simp
          omega) (by omega)
    · rw [if_neg c, if_pos s0]
      have hn : ¬ (4294967296 ≤ q ∨ q * (y1 * 4294967296 + y0) > U * 4294967296 + u0) := fun h => c (ht.2 h)
      have := le_of hY (show q * (y1 * 4294967296 + y0) ≤ U * 4294967296 + u0 by omega) Qb
      have : q = Q := by omega
      rw [this]
end
theorem guess {y1 y0 U u1 : Int} (h1 : 2147483648 ≤ y1) (h2 : y1 < 4294967296) (h3 : 0 ≤ y0) (h4 : y0 < 4294967296) (U0 : 0 ≤ U) (UY : U < y1 * 4294967296 + y0) (v0 : 0 ≤ u1) (v1 : u1 < 4294967296) :
    ∃ Q R : Int, 0 ≤ Q ∧ Q < 4294967296 ∧ Q * (y1 * 4294967296 + y0) + R = U * 4294967296 + u1 ∧ 0 ≤ R ∧ R < y1 * 4294967296 + y0 ∧ Q ≤ U / y1 ∧ U / y1 ≤ 4294967297 ∧ U / y1 * y1 + U % y1 = U ∧ 0 ≤ U % y1 ∧ U % y1 < y1 := by
  have hY : 0 < y1 * 4294967296 + y0 := by omega
  have e := Int.mul_ediv_add_emod (U * 4294967296 + u1) (y1 * 4294967296 + y0)
  have r0 := Int.emod_nonneg (U * 4294967296 + u1) (show y1 * 4294967296 + y0 ≠ 0 by omega)
  have r1 := Int.emod_lt_of_pos (U * 4294967296 + u1) hY
  have q0 : 0 ≤ (U * 4294967296 + u1) / (y1 * 4294967296 + y0) := Int.ediv_nonneg (by omega) (by omega)
  have q1 : (U * 4294967296 + u1) / (y1 * 4294967296 + y0) < 4294967296 := Int.ediv_lt_of_lt_mul hY (by omega)
  have e2 := Int.mul_ediv_add_emod U y1
  have s0 := Int.emod_nonneg U (show y1 ≠ 0 by omega)
  have s1 := Int.emod_lt_of_pos U (show 0 < y1 by omega)
  rw [Int.mul_comm] at e e2
  refine ⟨_, _, q0, q1, e, r0, r1, ?_, ?_, e2, s0, s1⟩
  · generalize (U * 4294967296 + u1) / (y1 * 4294967296 + y0) = Q at *
    apply Int.le_ediv_of_mul_le (by omega)
    rw [mulY] at e
    have : 0 ≤ Q * y0 := Int.mul_nonneg q0 h3
    omega
  · have : U / y1 < 4294967298 := Int.ediv_lt_of_lt_mul (by omega) (by omega)
    omega
theorem or_add {a b s : Nat} (hb : b < 2 ^ s) : (a * 2 ^ s) ||| b = a * 2 ^ s + b := by
  apply Nat.eq_of_testBit_eq
  intro i
  rw [Nat.testBit_or, Nat.mul_comm a, Nat.testBit_two_pow_mul_add a hb]
  by_cases h : i < s
  · rw [if_pos h, Nat.testBit_two_pow_mul]
    simp [show ¬ s ≤ i by omega]
  · rw [if_neg h, Nat.testBit_two_pow_mul]
    have : b.testBit i = false := Nat.testBit_lt_two_pow (Nat.lt_of_lt_of_le hb (Nat.pow_le_pow_right (by decide) (by omega)))
    simp [this, show s ≤ i by omega]
theorem and32 {a : Int} (h : 0 ≤ a) (h2 : a < 18446744073709551616) : Go.bits .and .u64 a 4294967295 = a % 4294967296 := by
  obtain ⟨m, rfl⟩ : ∃ m : Nat, a = m := ⟨a.toNat, by omega⟩
  rw [show (4294967295 : Int) = ((4294967295 : Nat) : Int) from rfl, bits_and_u64_nat m _ (by omega) (by decide), show 4294967295 = 2 ^ 32 - 1 from rfl, Nat.and_two_pow_sub_one_eq_mod]
  omega
/-- One digit, of its parts. -/
theorem div_eq {k s : Nat} {hi lo d : Int} (hs : s ≤ 63) (hz : bits_LeadingZeros64.f k d = some (s : Int)) (d0 : 9223372036854775808 ≤ d * 2 ^ s) (d1 : d * 2 ^ s < 18446744073709551616) (i0 : 0 ≤ hi) (i1 : hi < d) (l0 : 0 ≤ lo) (l1 : lo < 18446744073709551616) (hk : 30 ≤ k) :
    bits_Div64.f k hi lo d = some ((hi * 18446744073709551616 + lo) / d, (hi * 18446744073709551616 + lo) % d) := by
  have p0 : (0 : Int) < 2 ^ s := Int.pow_pos (by decide)
  have dY : d ≤ d * 2 ^ s := by
    have := Int.mul_le_mul_of_nonneg_left (show (1 : Int) ≤ 2 ^ s by omega) (show 0 ≤ d by omega)
    omega
  unfold bits_Div64.f
  rw [if_neg (by omega), if_neg (by omega)]
  by_cases h0 : hi = 0
  · subst h0
    have e1 : 0 ≤ lo / d := Int.ediv_nonneg l0 (by omega)
    have e2 : lo / d ≤ lo := Int.ediv_le_self _ l0
    rw [if_pos rfl, Int.tdiv_eq_ediv_of_nonneg l0, Int.tmod_eq_emod_of_nonneg l0, uin e1 (by omega), Int.zero_mul, Int.zero_add]
  rw [if_neg h0, hz, Option.bind_some, uin (x := (s : Int)) (by omega) (by omega), uin (x := 64 - (s : Int)) (by omega) (by omega), if_pos (by omega), if_pos (by omega)]
  -- the parts
  have m1 : min ((s : Int).toNat) (IntKind.bits .u64) = s := by simp [IntKind.bits]; omega
  have m2 : min ((64 - (s : Int)).toNat) (IntKind.bits .u64) = 64 - s := by
    rw [show (64 - (s : Int)).toNat = 64 - s by omega, show IntKind.bits .u64 = 64 from rfl]
    omega
  have hiY : hi * 2 ^ s < d * 2 ^ s := Int.mul_lt_mul_of_pos_right i1 p0
  have hi0 : 0 ≤ hi * 2 ^ s := Int.mul_nonneg i0 (by omega)
  have sd : shl .u64 d (s : Int) = d * 2 ^ s := by unfold shl; rw [m1, uin (by omega) d1]
  have sh : shl .u64 hi (s : Int) = hi * 2 ^ s := by unfold shl; rw [m1, uin hi0 (by omega)]
  have sl : shl .u64 lo (s : Int) = (lo * 2 ^ s) % 18446744073709551616 := by unfold shl; rw [m1, uw]
  have sr : shr .u64 lo (64 - (s : Int)) = lo * 2 ^ s / 18446744073709551616 := by
    unfold shr
    rw [m2, show (18446744073709551616 : Int) = 2 ^ (64 - s) * 2 ^ s by rw [← Int.pow_add, show 64 - s + s = 64 by omega]; decide, Int.mul_ediv_mul_of_pos_left _ _ p0]
  have c0 : 0 ≤ lo * 2 ^ s / 18446744073709551616 := Int.ediv_nonneg (Int.mul_nonneg l0 (by omega)) (by omega)
  have c1 : lo * 2 ^ s / 18446744073709551616 < 2 ^ s := Int.ediv_lt_of_lt_mul (by omega) (by rw [Int.mul_comm]; exact Int.mul_lt_mul_of_pos_left l1 p0)
  have so : Go.bits .or .u64 (hi * 2 ^ s) (lo * 2 ^ s / 18446744073709551616) = hi * 2 ^ s + lo * 2 ^ s / 18446744073709551616 := by
    obtain ⟨a, rfl⟩ : ∃ a : Nat, hi = a := ⟨hi.toNat, by omega⟩
    obtain ⟨b, eb⟩ : ∃ b : Nat, lo * 2 ^ s / 18446744073709551616 = b := ⟨(lo * 2 ^ s / 18446744073709551616).toNat, by omega⟩
    rw [eb] at c1 ⊢
    have ep : ((2 : Int) ^ s) = ((2 ^ s : Nat) : Int) := by simp
    rw [ep] at c1 hiY d1 hi0 ⊢
    have hb : b < 2 ^ s := by omega
    have ha : a * 2 ^ s < 18446744073709551616 := by
      have : ((a * 2 ^ s : Nat) : Int) = (a : Int) * ((2 ^ s : Nat) : Int) := by simp
      omega
    have p64 : 2 ^ s ≤ 2 ^ 63 := Nat.pow_le_pow_right (by decide) hs
    rw [show (a : Int) * ((2 ^ s : Nat) : Int) = ((a * 2 ^ s : Nat) : Int) by simp, bits_or_u64_nat _ _ ha (by omega), or_add hb]
    omega
  rw [sd, sh, sl, sr, so]
  obtain ⟨Y, eY⟩ : ∃ Y, d * 2 ^ s = Y := ⟨_, rfl⟩
  obtain ⟨y1, ey1⟩ : ∃ y1, Y / 4294967296 = y1 := ⟨_, rfl⟩
  obtain ⟨y0, ey0⟩ : ∃ y0, Y % 4294967296 = y0 := ⟨_, rfl⟩
  have eY2 : Y = y1 * 4294967296 + y0 := by omega
  obtain ⟨U, eU⟩ : ∃ U, hi * 2 ^ s + lo * 2 ^ s / 18446744073709551616 = U := ⟨_, rfl⟩
  obtain ⟨L, eL⟩ : ∃ L, (lo * 2 ^ s) % 18446744073709551616 = L := ⟨_, rfl⟩
  have L0 : 0 ≤ L ∧ L < 18446744073709551616 := by omega
  have hN : U * 18446744073709551616 + L = (hi * 18446744073709551616 + lo) * 2 ^ s := by
    rw [Int.add_mul, Int.mul_right_comm]
    omega
  have UY : U < Y := by
    have : (hi * 18446744073709551616 + lo) * 2 ^ s < (d * 18446744073709551616) * 2 ^ s := Int.mul_lt_mul_of_pos_right (by omega) p0
    rw [Int.mul_right_comm d] at this
    omega
  rw [eY, eU, eL, and32 (by omega) (by omega), and32 L0.1 L0.2, ey1, ey0]
  rw [eY] at d0 d1
  have h1 : 2147483648 ≤ y1 := by omega
  have h2 : y1 < 4294967296 := by omega
  have h3 : 0 ≤ y0 := by omega
  have h4 : y0 < 4294967296 := by omega
  have U0 : 0 ≤ U := by omega
  obtain ⟨u1, eu1⟩ : ∃ u1, L / 4294967296 = u1 := ⟨_, rfl⟩
  obtain ⟨u0, eu0⟩ : ∃ u0, L % 4294967296 = u0 := ⟨_, rfl⟩
  rw [eu1, eu0]
  have eL2 : L = u1 * 4294967296 + u0 := by omega
  have b1 : 0 ≤ u1 ∧ u1 < 4294967296 := by omega
  have b0 : 0 ≤ u0 ∧ u0 < 4294967296 := by omega
  clear sd sh sl sr so m1 m2 hiY hi0 c0 c1
  rw [eY2] at UY ⊢
  obtain ⟨Q, R, Q0, Q1, e1, R0, R1, g1, g2, g3, g4, g5⟩ := guess h1 h2 h3 h4 U0 UY b1.1 b1.2
  obtain ⟨P, S, P0, P1, f1, S0, S1, k1, k2, k3, k4, k5⟩ := guess h1 h2 h3 h4 R0 R1 b0.1 b0.2
  have t1 : 0 ≤ U / y1 := Int.ediv_nonneg U0 (by omega)
  have t2 : 0 ≤ U / y1 * y1 := Int.mul_nonneg t1 (by omega)
  rw [if_neg (by omega), Int.tdiv_eq_ediv_of_nonneg U0, uin (x := U / y1) t1 (by omega), uin (x := U / y1 * y1) t2 (by omega), uin (x := U - U / y1 * y1) (by omega) (by omega), show U - U / y1 * y1 = U % y1 by omega]
  obtain ⟨j, hj, ej⟩ := l0_eq (s := (s : Int)) (u0 := u0) h1 h2 h3 h4 b1.1 b1.2 Q0 Q1 (show Q * (y1 * 4294967296 + y0) ≤ U * 4294967296 + u1 by omega) (show U * 4294967296 + u1 < (Q + 1) * (y1 * 4294967296 + y0) by rw [Int.add_mul]; omega) 2 k (U / y1) (U % y1) g4 (by omega) g3 g1 g2 (by omega) (by omega)
  rw [ej]
  obtain ⟨j, rfl⟩ : ∃ i, j = i + 1 := ⟨j - 1, by omega⟩
  simp only [bits_Div64.j2]
  have w1 : IntKind.u64.wrap ((IntKind.u64.wrap ((IntKind.u64.wrap (U * 4294967296)) + u1)) - (IntKind.u64.wrap (Q * (y1 * 4294967296 + y0)))) = R := by
    generalize Q * (y1 * 4294967296 + y0) = Z at *
    rw [uw, uw, uw, uw]
    omega
  have t3 : 0 ≤ R / y1 := Int.ediv_nonneg R0 (by omega)
  have t4 : 0 ≤ R / y1 * y1 := Int.mul_nonneg t3 (by omega)
  rw [if_neg (by omega), w1, Int.tdiv_eq_ediv_of_nonneg R0, uin (x := R / y1) t3 (by omega), uin (x := R / y1 * y1) t4 (by omega), uin (x := R - R / y1 * y1) (by omega) (by omega), show R - R / y1 * y1 = R % y1 by omega,
    l1_eq (s := (s : Int)) (q1 := Q) h1 h2 h3 h4 b0.1 b0.2 (by omega) P0 P1 (show P * (y1 * 4294967296 + y0) ≤ R * 4294967296 + u0 by omega) (show R * 4294967296 + u0 < (P + 1) * (y1 * 4294967296 + y0) by rw [Int.add_mul]; omega) 2 j (R / y1) (R % y1) k4 (by omega) k3 k1 k2 (by omega) (by omega)]
  have w2 : IntKind.u64.wrap ((IntKind.u64.wrap ((IntKind.u64.wrap (R * 4294967296)) + u0)) - (IntKind.u64.wrap (P * (y1 * 4294967296 + y0)))) = S := by
    generalize P * (y1 * 4294967296 + y0) = Z at *
    rw [uw, uw, uw, uw]
    omega
  have w3 : IntKind.u64.wrap ((IntKind.u64.wrap (Q * 4294967296)) + P) = Q * 4294967296 + P := by
    rw [uin (x := Q * 4294967296) (by omega) (by omega), uin (by omega) (by omega)]
  rw [w2, w3]
  -- what it comes to
  have fin : (hi * 18446744073709551616 + lo) * 2 ^ s = (Q * 4294967296 + P) * d * 2 ^ s + S := by
    rw [Int.mul_assoc (Q * 4294967296 + P), eY, eY2, Int.add_mul (Q * 4294967296), Int.mul_right_comm Q]
    omega
  obtain ⟨V, eV⟩ : ∃ V, hi * 18446744073709551616 + lo = V := ⟨_, rfl⟩
  rw [eV] at fin ⊢
  have fin2 : S = (V - (Q * 4294967296 + P) * d) * 2 ^ s := by rw [Int.sub_mul]; omega
  have sS : shr .u64 S (s : Int) = V - (Q * 4294967296 + P) * d := by
    unfold shr
    rw [show min ((s : Int).toNat) (IntKind.bits .u64) = s by simp [IntKind.bits]; omega, fin2, Int.mul_ediv_cancel _ (by omega)]
  rw [sS]
  have r0 : 0 ≤ V - (Q * 4294967296 + P) * d := by
    rw [← sS]
    unfold shr
    exact Int.ediv_nonneg S0 (Int.le_of_lt (Int.pow_pos (by decide)))
  have r1 : V - (Q * 4294967296 + P) * d < d := by
    apply Int.lt_of_mul_lt_mul_right (a := (2 : Int) ^ s) _ (by omega)
    rw [← fin2, eY, eY2]
    exact S1
  have u := (Int.ediv_emod_unique (a := V) (b := d) (r := V - (Q * 4294967296 + P) * d) (q := Q * 4294967296 + P) (by omega)).2 ⟨by rw [Int.mul_comm d]; omega, r0, r1⟩
  rw [u.1, u.2]
end Go.Proofs.YtcofclkgfandfaaGreat.Div64
/- Plain facts on oscillators (layer 6), as printed. -/
namespace Go.Proofs.YtcofclkgfandfaaGreat.Osc
open Go.RowKit Go.Proofs.YtcofclkgfandfaaGreat.Print Go.Proofs.YtcofclkgfandfaaGreatW.PrintWords Go.Proofs.YtcofclkgfandfaaGreatW.PrintLast Go.Proofs.YtcofclkgfandfaaGreatW.PrintMore Go.Proofs.YtcofclkgfandfaaGreat.Medl Go.Proofs.YtcofclkgfandfaaGreat.Div64
theorem mul64_eq {a b : Int} (a0 : 0 ≤ a) (a1 : a < 18446744073709551616) (b0 : 0 ≤ b) (b1 : b < 18446744073709551616) : bits_Mul64.f a b = some (a * b / 18446744073709551616, a * b % 18446744073709551616) := by
  unfold bits_Mul64.f
  have h := mul64_arith a b a0 a1 b0 b1
  have e : ∀ x : Int, Go.bits .and .u64 (IntKind.u64.wrap x) 4294967295 = (x % 18446744073709551616) % 4294967296 := fun x => by
    rw [uw, and32 (by omega) (by omega)]
  rw [e, and32 a0 a1, and32 b0 b1]
  simp only [uw]
  rw [h]
theorem addLo {x y : Int} (x0 : 0 ≤ x) (y0 : 0 ≤ y) : Go.Proofs.YtcofclkgfandfaaGreatX.add64Lo x y = (x + y) % 18446744073709551616 := by
  unfold Go.Proofs.YtcofclkgfandfaaGreatX.add64Lo
  rw [show Extern.MathBitsCarry.m64 = 18446744073709551616 from rfl]
  omega
theorem addHi {x y : Int} (x0 : 0 ≤ x) (y0 : 0 ≤ y) : Go.Proofs.YtcofclkgfandfaaGreatX.add64Hi x y = (x + y) / 18446744073709551616 := by
  unfold Go.Proofs.YtcofclkgfandfaaGreatX.add64Hi
  rw [show Extern.MathBitsCarry.m64 = 18446744073709551616 from rfl]
  omega
/-- An oscillator that may be. -/
def Oc (p d r : Int) : Prop := 1 ≤ p ∧ p ≤ 1000000000 ∧ -1000000 ≤ d ∧ d ≤ 1000000 ∧ 0 ≤ r ∧ r < 1000000000
instance (p d r : Int) : Decidable (Oc p d r) := by unfold Oc; infer_instance
section
variable {p d r t : Int}
theorem ocheck (hd : -9223372036854775808 ≤ d ∧ d ≤ 9223372036854775807) : osc_Check.f p d r = some (if Oc p d r then 0 else 1) := by
  unfold osc_Check.f
  by_cases h1 : p < 1
  · rw [if_pos h1, if_neg (fun q => by have := q.1; omega)]
  rw [if_neg h1]
  by_cases h2 : p > 1000000000
  · rw [if_pos h2, if_neg (fun q => by have := q.2.1; omega)]
  rw [if_neg h2]
  by_cases h3 : mx d (wrap64 (-d)) > 1000000
  · rw [if_pos h3, if_neg (fun q => by
      obtain ⟨_, _, a, b, _⟩ := q
      rw [w64 (by omega) (by omega)] at h3
      unfold mx at h3
      split at h3 <;> omega)]
  rw [if_neg h3]
  by_cases h4 : d < -1000000
  · rw [if_pos h4, if_neg (fun q => by have := q.2.2.1; omega)]
  rw [if_neg h4]
  by_cases h5 : r < 0
  · rw [if_pos h5, if_neg (fun q => by have := q.2.2.2.2.1; omega)]
  rw [if_neg h5]
  by_cases h6 : r ≥ 1000000000
  · rw [if_pos h6, if_neg (fun q => by have := q.2.2.2.2.2; omega)]
  have h7 : d ≤ 1000000 := by
    unfold mx at h3
    split at h3 <;> omega
  rw [if_neg h6, if_pos ⟨by omega, by omega, by omega, h7, by omega, by omega⟩]
/-- Its rate. -/
def rt (p d : Int) : Int := p * (1000000000 + d)
theorem rt_bound (h : Oc p d r) : 999000000 * p ≤ rt p d ∧ rt p d ≤ 1001000000 * p := by
  obtain ⟨a1, a2, a3, a4, _⟩ := h
  unfold rt
  have e1 := Int.mul_le_mul_of_nonneg_left (show 999000000 ≤ 1000000000 + d by omega) (show 0 ≤ p by omega)
  have e2 := Int.mul_le_mul_of_nonneg_left (show 1000000000 + d ≤ 1001000000 by omega) (show 0 ≤ p by omega)
  omega
theorem rate_eq (hd : -9223372036854775808 ≤ d ∧ d ≤ 9223372036854775807) : osc_Rate.f p d r = some (if Oc p d r then (rt p d, 0) else (0, 1)) := by
  unfold osc_Rate.f
  rw [ocheck hd]
  by_cases h : Oc p d r
  · have b := rt_bound h
    obtain ⟨a1, a2, a3, a4, _⟩ := id h
    rw [if_pos h, if_pos h, Option.bind_some, if_pos rfl, w64 (x := 1000000000 + d) (by omega) (by omega)]
    unfold rt at *
    rw [w64 (by omega) (by omega)]
  · rw [if_neg h, if_neg h]
    rfl
/-- How long ticks take. -/
def run (p d r t : Int) : Int × Int × Int × Int × Int :=
  if Oc p d r ∧ 0 ≤ t ∧ t ≤ 1099511627776 then (if (rt p d * t + r) / 1000000000 > 1152921504606846976 then (0, 0, 0, 0, 2) else ((rt p d * t + r) / 1000000000, p, d, (rt p d * t + r) % 1000000000, 0)) else (0, 0, 0, 0, 1)
theorem lz30 : bits_LeadingZeros64.f 30 1000000000 = some 34 := by decide +kernel
theorem lz {k : Nat} (hk : 30 ≤ k) : bits_LeadingZeros64.f k 1000000000 = some ((34 : Nat) : Int) := at_rounds (fun k => bits_LeadingZeros64.mono _ k) hk lz30
theorem run_eq {k : Nat} (hk : 40 ≤ k) (hd : -9223372036854775808 ≤ d ∧ d ≤ 9223372036854775807) : osc_Run.f k p d r t = some (run p d r t) := by
  obtain ⟨k, rfl⟩ : ∃ j, k = j + 1 := ⟨k - 1, by omega⟩
  unfold osc_Run.f run
  rw [rate_eq hd, Option.bind_some]
  have no : ∀ q : Int, osc_Run.j0 (k + 1) t q true p d r = some (0, 0, 0, 0, 1) := fun q => by simp [osc_Run.j0]
  by_cases h : Oc p d r
  case neg =>
    have hr : ¬ (Oc p d r ∧ 0 ≤ t ∧ t ≤ 1099511627776) := fun q => h q.1
    rw [if_neg h, if_neg hr, if_neg (show ¬ (0, 1).2 = (0 : Int) by decide), no]
  rw [if_pos h, if_pos rfl]
  by_cases h1 : t < 0
  · have hr : ¬ (Oc p d r ∧ 0 ≤ t ∧ t ≤ 1099511627776) := fun q => by have := q.2.1; omega
    rw [if_pos h1, if_neg hr, no]
  rw [if_neg h1]
  by_cases h2 : t > 1099511627776
  · have hr : ¬ (Oc p d r ∧ 0 ≤ t ∧ t ≤ 1099511627776) := fun q => by have := q.2.2; omega
    rw [decide_eq_true h2, if_neg hr, no]
  have hr : Oc p d r ∧ 0 ≤ t ∧ t ≤ 1099511627776 := ⟨h, by omega, by omega⟩
  have b := rt_bound h
  obtain ⟨a1, a2, a3, a4, a5, a6⟩ := id h
  rw [decide_eq_false h2, if_pos hr]
  simp only [osc_Run.j0]
  have z0 : 0 ≤ rt p d * t := Int.mul_nonneg (by omega) (by omega)
  have z1 : rt p d * t ≤ 1001000000000000000 * 1099511627776 := Int.mul_le_mul (by omega) (by omega) (by omega) (by omega)
  rw [if_neg (by decide), uin (x := rt p d) (by omega) (by omega), uin (x := t) (by omega) (by omega), mul64_eq (by omega) (by omega) (by omega) (by omega), Option.bind_some, uin (x := r) (by omega) (by omega)]
  simp only
  generalize rt p d * t = N at *
  rw [addHi (by omega) (by omega), addLo (by omega) (by omega), uin (x := N / 18446744073709551616 + _) (by omega) (by omega)]
  have e1 : N / 18446744073709551616 + (N % 18446744073709551616 + r) / 18446744073709551616 = (N + r) / 18446744073709551616 := by omega
  have e2 : (N % 18446744073709551616 + r) % 18446744073709551616 = (N + r) % 18446744073709551616 := by omega
  rw [e1, e2]
  by_cases h3 : (N + r) / 18446744073709551616 ≥ 1000000000
  · rw [if_pos h3, if_pos (by omega)]
  rw [if_neg h3, div_eq (s := 34) (by decide) (lz (by omega)) (by decide) (by decide) (by omega) (by omega) (by omega) (by omega) (by omega), Option.bind_some, show (N + r) / 18446744073709551616 * 18446744073709551616 + (N + r) % 18446744073709551616 = N + r by omega]
  simp only
  by_cases h4 : (N + r) / 1000000000 > 1152921504606846976
  · rw [if_pos h4, if_pos h4]
  · rw [if_neg h4, if_neg h4, w64 (by omega) (by omega), w64 (by omega) (by omega)]
end
end Go.Proofs.YtcofclkgfandfaaGreat.Osc
/- Plain facts on times that may be (layer 1), as printed. -/
namespace Go.Proofs.YtcofclkgfandfaaGreat.Medl
open Go.RowKit Go.Proofs.YtcofclkgfandfaaGreat.Print Go.Proofs.YtcofclkgfandfaaGreatW.PrintWords Go.Proofs.YtcofclkgfandfaaGreatW.PrintLast Go.Proofs.YtcofclkgfandfaaGreatW.PrintMore
/-- A time that may be. -/
def Tm (x : Int) : Prop := -1152921504606846976 ≤ x ∧ x ≤ 1152921504606846976
instance (x : Int) : Decidable (Tm x) := by unfold Tm; infer_instance
theorem may1_eq (x : Int) : pico_May_1.f x = some (decide (¬ Tm x)) := by
  unfold pico_May_1.f
  by_cases h : x > 1152921504606846976
  · rw [if_pos h, decide_eq_true (show ¬ Tm x by unfold Tm; omega)]
  · rw [if_neg h]
    congr 1
    rw [decide_eq_decide]
    unfold Tm
    omega
theorem rd_nat (xs : List Int) (j : Nat) : rd xs (j : Int) = xs.getD j 0 := by simp [rd]
theorem mayidx (xs : List Int) (hx : xs.length ≤ 9223372036854775807) (d : Nat) : ∀ (k : Nat) (i : Nat), i ≤ xs.length → xs.length - i = d → d < k →
    ∃ r, slices_IndexFunc_int64_int64_at_pico_May_1.l0 k xs (xs.length : Int) (i : Int) = some r ∧ (r ≥ 0 ↔ ∃ x ∈ xs.drop i, ¬ Tm x) := by
  induction d with
  | zero =>
    intro k i hi hd hk
    obtain ⟨k, rfl⟩ : ∃ m, k = m + 1 := ⟨k - 1, by omega⟩
    refine ⟨-1, ?_, ?_⟩
    · simp only [slices_IndexFunc_int64_int64_at_pico_May_1.l0]
      rw [if_neg (by omega)]
    · rw [List.drop_of_length_le (by omega)]
      simp
  | succ d ih =>
    intro k i hi hd hk
    obtain ⟨k, rfl⟩ : ∃ m, k = m + 1 := ⟨k - 1, by omega⟩
    have hlt : i < xs.length := by omega
    have hdrop : xs.drop i = xs.getD i 0 :: xs.drop (i + 1) := by rw [List.drop_eq_getElem_cons hlt, List.getD_eq_getElem?_getD, List.getElem?_eq_getElem hlt]; rfl
    simp only [slices_IndexFunc_int64_int64_at_pico_May_1.l0]
    rw [if_pos (by omega), if_pos (by omega), if_pos (by omega), rd_nat, may1_eq]
    simp only [Option.bind_some]
    by_cases ht : Tm (xs.getD i 0)
    · rw [decide_eq_false (by simpa using ht), if_neg (by decide), w64 (by omega) (by omega)]
      obtain ⟨r, hr, h⟩ := ih k (i + 1) (by omega) (by omega) (by omega)
      refine ⟨r, hr, ?_⟩
      rw [h, hdrop]
      constructor
      · rintro ⟨x, hx2, hq⟩
        exact ⟨x, List.mem_cons_of_mem _ hx2, hq⟩
      · rintro ⟨x, hx2, hq⟩
        rcases List.mem_cons.1 hx2 with rfl | h2
        · exact absurd ht hq
        · exact ⟨x, h2, hq⟩
    · rw [decide_eq_true ht, if_pos rfl]
      refine ⟨i, rfl, ?_⟩
      rw [hdrop]
      exact ⟨fun _ => ⟨_, List.mem_cons_self, ht⟩, fun _ => by omega⟩
theorem may_eq {k : Nat} (xs : List Int) (hx : xs.length ≤ 9223372036854775807) (hk : xs.length < k) : pico_May.f k xs = some (decide (∀ x ∈ xs, Tm x)) := by
  unfold pico_May.f slices_ContainsFunc_int64_int64_at_pico_May_1.f slices_IndexFunc_int64_int64_at_pico_May_1.f
  obtain ⟨r, hr, h⟩ := mayidx xs hx xs.length k 0 (by omega) (by omega) hk
  rw [show (0 : Int) = ((0 : Nat) : Int) from rfl, hr]
  simp only [Option.bind_some, Option.some.injEq]
  rw [Bool.eq_iff_iff]
  simp only [Bool.not_eq_true', decide_eq_false_iff_not, decide_eq_true_eq]
  rw [show ((r : Int) ≥ ((0 : Nat) : Int)) ↔ r ≥ 0 from Iff.rfl, h, List.drop_zero]
  constructor
  · intro h1 x hx
    by_cases q : Tm x
    · exact q
    · exact absurd ⟨x, hx, q⟩ h1
  · rintro h1 ⟨x, hx, q⟩
    exact q (h1 x hx)
theorem may_one {k : Nat} (hk : 2 ≤ k) (x : Int) : pico_May.f k [x] = some (decide (Tm x)) := by
  rw [may_eq [x] (by simp) (by simp; omega)]
  simp
theorem may_two {k : Nat} (hk : 3 ≤ k) (x y : Int) : pico_May.f k [x, y] = some (decide (Tm x ∧ Tm y)) := by
  rw [may_eq [x, y] (by simp) (by simp; omega)]
  simp
theorem told_eq {k : Nat} (hk : 2 ≤ k) (x : Int) : pico_told.f k x = some (if Tm x then (x, 0) else (0, 2)) := by
  unfold pico_told.f
  rw [may_one hk]
  by_cases h : Tm x
  · simp [h]
  · simp [h]
theorem add_eq {k : Nat} (hk : 3 ≤ k) (x y : Int) : pico_Add.f k x y = some (if Tm x ∧ Tm y then (if Tm (x + y) then (x + y, 0) else (0, 2)) else (0, 1)) := by
  unfold pico_Add.f
  rw [may_two hk]
  by_cases h : Tm x ∧ Tm y
  · rw [decide_eq_true h, if_pos h]
    have h1 := h.1
    have h2 := h.2
    unfold Tm at h1 h2
    simp only [Option.bind_some, if_true]
    rw [told_eq (by omega), w64 (by omega) (by omega)]
    simp only [Option.bind_some]
  · rw [decide_eq_false h, if_neg h]
    simp
end Go.Proofs.YtcofclkgfandfaaGreat.Medl
/- How many ticks there are in a time (layer 6), as printed. -/
namespace Go.Proofs.YtcofclkgfandfaaGreat.Osc
open Go.RowKit Go.Proofs.YtcofclkgfandfaaGreat.Print Go.Proofs.YtcofclkgfandfaaGreatW.PrintWords Go.Proofs.YtcofclkgfandfaaGreatW.PrintLast Go.Proofs.YtcofclkgfandfaaGreatW.PrintMore Go.Proofs.YtcofclkgfandfaaGreat.Medl Go.Proofs.YtcofclkgfandfaaGreat.Div64
abbrev TB : ByteArray := (⟨#[0, 1, 2, 2, 3, 3, 3, 3, 4, 4, 4, 4, 4, 4, 4, 4, 5, 5, 5, 5, 5, 5, 5, 5, 5, 5, 5, 5, 5, 5, 5, 5, 6, 6, 6, 6, 6, 6, 6, 6, 6, 6, 6, 6, 6, 6, 6, 6, 6, 6, 6, 6, 6, 6, 6, 6, 6, 6, 6, 6, 6, 6, 6, 6, 7, 7, 7, 7, 7, 7, 7, 7, 7, 7, 7, 7, 7, 7, 7, 7, 7, 7, 7, 7, 7, 7, 7, 7, 7, 7, 7, 7, 7, 7, 7, 7, 7, 7, 7, 7, 7, 7, 7, 7, 7, 7, 7, 7, 7, 7, 7, 7, 7, 7, 7, 7, 7, 7, 7, 7, 7, 7, 7, 7, 7, 7, 7, 7, 8, 8, 8, 8, 8, 8, 8, 8, 8, 8, 8, 8, 8, 8, 8, 8, 8, 8, 8, 8, 8, 8, 8, 8, 8, 8, 8, 8, 8, 8, 8, 8, 8, 8, 8, 8, 8, 8, 8, 8, 8, 8, 8, 8, 8, 8, 8, 8, 8, 8, 8, 8, 8, 8, 8, 8, 8, 8, 8, 8, 8, 8, 8, 8, 8, 8, 8, 8, 8, 8, 8, 8, 8, 8, 8, 8, 8, 8, 8, 8, 8, 8, 8, 8, 8, 8, 8, 8, 8, 8, 8, 8, 8, 8, 8, 8, 8, 8, 8, 8, 8, 8, 8, 8, 8, 8, 8, 8, 8, 8, 8, 8, 8, 8, 8, 8, 8, 8, 8, 8, 8, 8, 8, 8, 8, 8, 8, 8]⟩ : ByteArray)
set_option maxRecDepth 100000 in
theorem tab : ∀ i : Fin 256, 0 < i.val → 1 ≤ bt TB (i.val : Int) ∧ bt TB (i.val : Int) ≤ 8 ∧ 2 ^ ((bt TB (i.val : Int)).toNat - 1) ≤ i.val ∧ i.val < 2 ^ (bt TB (i.val : Int)).toNat := by decide +kernel
set_option maxRecDepth 100000 in
theorem tabi {z : Int} (h0 : 0 < z) (h1 : z < 256) : ∃ n : Nat, bt TB z = n ∧ 1 ≤ n ∧ n ≤ 8 ∧ (2 ^ (n - 1) : Int) ≤ z ∧ z < 2 ^ (n - 1) * 2 := by
  obtain ⟨m, rfl⟩ : ∃ m : Nat, z = m := ⟨z.toNat, by omega⟩
  have h := tab ⟨m, by omega⟩ (by simp only; omega)
  simp only at h
  obtain ⟨n, hn⟩ : ∃ n : Nat, bt TB (m : Int) = n := ⟨(bt TB (m : Int)).toNat, by omega⟩
  rw [hn, Int.toNat_natCast] at h
  refine ⟨n, hn, by omega, by omega, ?_, ?_⟩
  · have : ((2 ^ (n - 1) : Nat) : Int) ≤ (m : Int) := by omega
    simpa using this
  · have e : 2 ^ n = 2 ^ (n - 1) * 2 := by rw [← Nat.pow_succ, show (n - 1).succ = n by omega]
    have : (m : Int) < ((2 ^ (n - 1) * 2 : Nat) : Int) := by omega
    simpa using this
set_option maxRecDepth 100000 in
theorem j0_eq (k : Nat) (x c : Int) : bits_Len64.j0 (k + 1) x c = if x ≥ 65536 then (if (x / 65536) ≥ 256 then (if 0 ≤ (((x / 65536) / 256) % 256) then (if (((x / 65536) / 256) % 256) < 256 then (some (wrap64 ((wrap64 ((wrap64 (c + 16)) + 8)) + (wrap64 (bt TB (((x / 65536) / 256) % 256)))))) else (none)) else (none)) else (if 0 ≤ ((x / 65536) % 256) then (if ((x / 65536) % 256) < 256 then (some (wrap64 ((wrap64 (c + 16)) + (wrap64 (bt TB ((x / 65536) % 256)))))) else (none)) else (none))) else (if x ≥ 256 then (if 0 ≤ ((x / 256) % 256) then (if ((x / 256) % 256) < 256 then (some (wrap64 ((wrap64 (c + 8)) + (wrap64 (bt TB ((x / 256) % 256)))))) else (none)) else (none)) else (if 0 ≤ ((x) % 256) then (if ((x) % 256) < 256 then (some (wrap64 (c + (wrap64 (bt TB ((x) % 256)))))) else (none)) else (none))) := rfl
set_option maxRecDepth 100000 in
theorem len_j0 {k : Nat} {x : Int} (c : Int) (c0 : 0 ≤ c) (c1 : c ≤ 32) (h0 : 0 < x) (h1 : x < 4294967296) : ∃ n : Nat, bits_Len64.j0 (k + 1) x c = some (c + n) ∧ 1 ≤ n ∧ n ≤ 32 ∧ (2 ^ (n - 1) : Int) ≤ x ∧ x < 2 ^ (n - 1) * 2 := by
  have go : ∀ (s : Nat) (z : Int), s ≤ 24 → 0 < z → z < 256 → (∀ P : Int, P ≤ z → P * 2 ^ s ≤ x) → (∀ P : Int, z < P → x < P * 2 ^ s) → (∀ n : Nat, bt TB z = n → n ≤ 8 → bits_Len64.j0 (k + 1) x c = some (c + s + n)) → ∃ n : Nat, bits_Len64.j0 (k + 1) x c = some (c + n) ∧ 1 ≤ n ∧ n ≤ 32 ∧ (2 ^ (n - 1) : Int) ≤ x ∧ x < 2 ^ (n - 1) * 2 := by
    intro s z hs z0 z1 a b e
    obtain ⟨n, hn, n1, n2, n3, n4⟩ := tabi z0 z1
    refine ⟨s + n, ?_, by omega, by omega, ?_, ?_⟩
    · rw [e n hn n2]
      congr 1
      omega
    · rw [show s + n - 1 = (n - 1) + s by omega, Int.pow_add]
      exact a _ n3
    · rw [show s + n - 1 = (n - 1) + s by omega, Int.pow_add, Int.mul_right_comm]
      exact b _ n4
  by_cases h2 : x ≥ 65536
  · by_cases h3 : x / 65536 ≥ 256
    · refine go 24 (x / 65536 / 256 % 256) (by decide) (by omega) (by omega) (fun P h => by rw [show (2 : Int) ^ 24 = 16777216 by decide]; omega) (fun P h => by rw [show (2 : Int) ^ 24 = 16777216 by decide]; omega) (fun n hn n8 => ?_)
      rw [j0_eq, if_pos h2, if_pos h3, if_pos (by omega), if_pos (by omega)]
      rw [hn, w64 (x := c + 16) (by omega) (by omega), w64 (x := c + 16 + 8) (by omega) (by omega), w64 (x := (n : Int)) (by omega) (by omega), w64 (by omega) (by omega)]
      congr 1
      omega
    · refine go 16 (x / 65536 % 256) (by decide) (by omega) (by omega) (fun P h => by rw [show (2 : Int) ^ 16 = 65536 by decide]; omega) (fun P h => by rw [show (2 : Int) ^ 16 = 65536 by decide]; omega) (fun n hn n8 => ?_)
      rw [j0_eq, if_pos h2, if_neg h3, if_pos (by omega), if_pos (by omega)]
      rw [hn, w64 (x := c + 16) (by omega) (by omega), w64 (x := (n : Int)) (by omega) (by omega), w64 (by omega) (by omega)]
      congr 1
  · by_cases h3 : x ≥ 256
    · refine go 8 (x / 256 % 256) (by decide) (by omega) (by omega) (fun P h => by rw [show (2 : Int) ^ 8 = 256 by decide]; omega) (fun P h => by rw [show (2 : Int) ^ 8 = 256 by decide]; omega) (fun n hn n8 => ?_)
      rw [j0_eq, if_neg h2, if_pos h3, if_pos (by omega), if_pos (by omega)]
      rw [hn, w64 (x := c + 8) (by omega) (by omega), w64 (x := (n : Int)) (by omega) (by omega), w64 (by omega) (by omega)]
      congr 1
    · refine go 0 (x % 256) (by decide) (by omega) (by omega) (fun P h => by rw [Int.pow_zero]; omega) (fun P h => by rw [Int.pow_zero]; omega) (fun n hn n8 => ?_)
      rw [j0_eq, if_neg h2, if_neg h3, if_pos (by omega), if_pos (by omega)]
      rw [hn, w64 (x := (n : Int)) (by omega) (by omega), w64 (by omega) (by omega)]
      congr 1
      omega
theorem lz_eq {k : Nat} {x : Int} (hk : 1 ≤ k) (h0 : 0 < x) (h1 : x < 18446744073709551616) : ∃ s : Nat, s ≤ 63 ∧ bits_LeadingZeros64.f k x = some (s : Int) ∧ 9223372036854775808 ≤ x * 2 ^ s ∧ x * 2 ^ s < 18446744073709551616 := by
  obtain ⟨k, rfl⟩ : ∃ j, k = j + 1 := ⟨k - 1, by omega⟩
  have main : ∀ n : Nat, 1 ≤ n → n ≤ 64 → (2 ^ (n - 1) : Int) ≤ x → x < 2 ^ (n - 1) * 2 → bits_Len64.f (k + 1) x = some (n : Int) → ∃ s : Nat, s ≤ 63 ∧ bits_LeadingZeros64.f (k + 1) x = some (s : Int) ∧ 9223372036854775808 ≤ x * 2 ^ s ∧ x * 2 ^ s < 18446744073709551616 := by
    intro n n1 n2 n3 n4 e
    have p0 : (0 : Int) < 2 ^ (64 - n) := Int.pow_pos (by decide)
    have e1 : (2 : Int) ^ (n - 1) * 2 ^ (64 - n) = 9223372036854775808 := by rw [← Int.pow_add, show n - 1 + (64 - n) = 63 by omega]; decide
    refine ⟨64 - n, by omega, ?_, ?_, ?_⟩
    · unfold bits_LeadingZeros64.f
      rw [e, Option.bind_some, w64 (by omega) (by omega)]
      congr 1
      omega
    · have := Int.mul_le_mul_of_nonneg_right n3 (Int.le_of_lt p0)
      omega
    · have := Int.mul_lt_mul_of_pos_right n4 p0
      rw [Int.mul_right_comm, e1] at this
      omega
  by_cases h2 : x ≥ 4294967296
  · obtain ⟨n, e, n1, n2, n3, n4⟩ := len_j0 (k := k) (x := x / 4294967296) 32 (by decide) (by decide) (by omega) (by omega)
    refine main (32 + n) (by omega) (by omega) ?_ ?_ ?_
    · rw [show 32 + n - 1 = (n - 1) + 32 by omega, Int.pow_add, show (2 : Int) ^ 32 = 4294967296 by decide]
      omega
    · rw [show 32 + n - 1 = (n - 1) + 32 by omega, Int.pow_add, show (2 : Int) ^ 32 = 4294967296 by decide]
      omega
    · unfold bits_Len64.f
      rw [if_pos h2, e]
      congr 1
  · obtain ⟨n, e, n1, n2, n3, n4⟩ := len_j0 (k := k) (x := x) 0 (by decide) (by decide) h0 (by omega)
    refine main n n1 (by omega) n3 n4 ?_
    unfold bits_Len64.f
    rw [if_neg h2, e, Int.zero_add]
theorem subLo {x y : Int} (x0 : 0 ≤ x) (y0 : 0 ≤ y) (y1 : y < 18446744073709551616) : Go.Proofs.YtcofclkgfandfaaGreatX.sub64Lo x y = (x - y) % 18446744073709551616 := by
  unfold Go.Proofs.YtcofclkgfandfaaGreatX.sub64Lo
  rw [show Extern.MathBitsCarry.m64 = 18446744073709551616 from rfl]
  omega
theorem subHi {x y : Int} (x0 : 0 ≤ x) (y0 : 0 ≤ y) : Go.Proofs.YtcofclkgfandfaaGreatX.sub64Hi x y = if x < y then 1 else 0 := by
  unfold Go.Proofs.YtcofclkgfandfaaGreatX.sub64Hi
  by_cases h : x < y
  · rw [if_pos h, if_pos (by omega)]
    rfl
  · rw [if_neg h, if_neg (by omega)]
    rfl
section
variable {p d r x : Int}
/-- How many ticks there are. -/
def tk (p d r x : Int) : Int × Int := if Oc p d r ∧ 0 ≤ x ∧ x ≤ 1152921504606846976 then (mn (((x + 1) * 1000000000 - (r + 1)) / rt p d) 1099511627776, 0) else (0, 1)
theorem ticks_eq {k : Nat} (hk : 60 ≤ k) (hd : -9223372036854775808 ≤ d ∧ d ≤ 9223372036854775807) : osc_Ticks.f k p d r x = some (tk p d r x) := by
  obtain ⟨k, rfl⟩ : ∃ j, k = j + 1 := ⟨k - 1, by omega⟩
  unfold osc_Ticks.f tk
  rw [rate_eq hd, Option.bind_some]
  have no : ∀ q : Int, osc_Ticks.j0 (k + 1) x q true p d r = some (0, 1) := fun q => by simp [osc_Ticks.j0]
  by_cases h : Oc p d r
  case neg =>
    have hr : ¬ (Oc p d r ∧ 0 ≤ x ∧ x ≤ 1152921504606846976) := fun q => h q.1
    rw [if_neg h, if_neg hr, if_neg (show ¬ (0, 1).2 = (0 : Int) by decide), no]
  rw [if_pos h, if_pos rfl]
  by_cases h1 : x < 0
  · have hr : ¬ (Oc p d r ∧ 0 ≤ x ∧ x ≤ 1152921504606846976) := fun q => by have := q.2.1; omega
    rw [if_pos h1, if_neg hr, no]
  rw [if_neg h1, may_eq [x] (by simp) (by simp; omega), Option.bind_some]
  by_cases h2 : x ≤ 1152921504606846976
  case neg =>
    have hr : ¬ (Oc p d r ∧ 0 ≤ x ∧ x ≤ 1152921504606846976) := fun q => h2 q.2.2
    have e : decide (∀ y ∈ [x], Tm y) = false := decide_eq_false (fun q => by have := (q x (by simp)).2; omega)
    rw [e, if_neg hr, Bool.not_false, no]
  have e : decide (∀ y ∈ [x], Tm y) = true := decide_eq_true (fun y hy => by
    rw [List.mem_singleton] at hy
    subst hy
    exact ⟨by omega, h2⟩)
  have hr : Oc p d r ∧ 0 ≤ x ∧ x ≤ 1152921504606846976 := ⟨h, by omega, h2⟩
  have b := rt_bound h
  obtain ⟨a1, a2, a3, a4, a5, a6⟩ := id h
  rw [e, Bool.not_true, if_pos hr]
  simp only [osc_Ticks.j0]
  rw [if_neg (by decide), uin (x := x) (by omega) (by omega), uin (x := x + 1) (by omega) (by omega), mul64_eq (by omega) (by omega) (by omega) (by omega), Option.bind_some, uin (x := r) (by omega) (by omega), uin (x := r + 1) (by omega) (by omega), uin (x := rt p d) (by omega) (by omega)]
  simp only
  rw [subHi (by omega) (by omega), subLo (by omega) (by omega) (by omega)]
  obtain ⟨N, eN⟩ : ∃ N, (x + 1) * 1000000000 - (r + 1) = N := ⟨_, rfl⟩
  have n0 : 0 ≤ N := by omega
  have n1 : N < 1152921504606846977 * 1000000000 := by omega
  have e1 : IntKind.u64.wrap ((x + 1) * 1000000000 / 18446744073709551616 - (if (x + 1) * 1000000000 % 18446744073709551616 < r + 1 then 1 else 0)) = N / 18446744073709551616 := by
    rw [uw]
    generalize (x + 1) * 1000000000 = A at *
    by_cases c : A % 18446744073709551616 < r + 1
    · rw [if_pos c]
      omega
    · rw [if_neg c]
      omega
  have e2 : ((x + 1) * 1000000000 % 18446744073709551616 - (r + 1)) % 18446744073709551616 = N % 18446744073709551616 := by omega
  rw [e1, e2, eN]
  by_cases h3 : N / 18446744073709551616 ≥ rt p d
  · have : rt p d * 18446744073709551616 ≤ N := by omega
    have : 18446744073709551616 ≤ N / rt p d := Int.le_ediv_of_mul_le (by omega) (by rw [Int.mul_comm]; omega)
    rw [if_pos h3]
    unfold mn
    rw [if_pos (by omega)]
  rw [if_neg h3]
  obtain ⟨s, s1, s2, s3, s4⟩ := lz_eq (k := k) (x := rt p d) (by omega) (by omega) (by omega)
  have q0 : 0 ≤ N / rt p d := Int.ediv_nonneg n0 (by omega)
  rw [div_eq s1 s2 s3 s4 (by omega) (by omega) (by omega) (by omega) (by omega), Option.bind_some, show N / 18446744073709551616 * 18446744073709551616 + N % 18446744073709551616 = N by omega]
  simp only
  rw [w64 (by unfold mn; split <;> omega) (by unfold mn; split <;> omega)]
end
end Go.Proofs.YtcofclkgfandfaaGreat.Osc
/- Plain facts on nodes (layer 13), as printed: which may be, and which are the same. -/
namespace Go.Proofs.YtcofclkgfandfaaGreat.Node13
open Go Go.RowKit Go.Proofs.YtcofclkgfandfaaGreat.Print Go.Proofs.YtcofclkgfandfaaGreatW.PrintWords Go.Proofs.YtcofclkgfandfaaGreatW.PrintLast Go.Proofs.YtcofclkgfandfaaGreatW.PrintMore Go.Proofs.YtcofclkgfandfaaGreat.Medl Go.Proofs.YtcofclkgfandfaaGreat.Osc
def W64 (x : Int) : Prop := -9223372036854775808 ≤ x ∧ x ≤ 9223372036854775807
theorem rd_at {l : List Int} {i : Nat} (h : i < l.length) : rd l (i : Int) = l[i] := by
  unfold rd
  rw [Int.toNat_natCast]
  simp [List.getD, List.getElem?_eq_getElem h]
theorem eqs_l0 (a b : List Int) (hab : a.length = b.length) (ha : a.length ≤ 4611686018427387904) (d : Nat) : ∀ (k i : Nat), i ≤ a.length → a.length - i = d → d < k → slices_Equal_int64_int64.l0 k a b (a.length : Int) (i : Int) = some (decide (a.drop i = b.drop i)) := by
  induction d with
  | zero =>
    intro k i hi hd hk
    obtain ⟨k, rfl⟩ : ∃ m, k = m + 1 := ⟨k - 1, by omega⟩
    rw [slices_Equal_int64_int64.l0, if_neg (by omega), List.drop_of_length_le (by omega), List.drop_of_length_le (by omega), decide_eq_true rfl]
  | succ d ih =>
    intro k i hi hd hk
    obtain ⟨k, rfl⟩ : ∃ m, k = m + 1 := ⟨k - 1, by omega⟩
    have h1 : i < a.length := by omega
    have h2 : i < b.length := by omega
    rw [slices_Equal_int64_int64.l0, if_pos (by omega), if_pos (by omega), if_pos (by omega), if_pos (by omega), rd_at h1, rd_at h2, List.drop_eq_getElem_cons h1, List.drop_eq_getElem_cons h2]
    by_cases h : a[i] = b[i]
    · rw [if_pos h, show wrap64 ((i : Int) + 1) = ((i + 1 : Nat) : Int) from by unfold wrap64; omega, ih k (i + 1) (by omega) (by omega) (by omega)]
      exact congrArg some (decide_eq_decide.2 ⟨fun e => by rw [h, e], fun e => (List.cons.inj e).2⟩)
    · rw [if_neg h, decide_eq_false fun e => h (List.cons.inj e).1]
theorem eqs {k : Nat} (a b : List Int) (ha : a.length ≤ 1000000) (hk : a.length < k) : slices_Equal_int64_int64.f k a b = some (decide (a = b)) := by
  unfold slices_Equal_int64_int64.f
  by_cases h : (a.length : Int) = (b.length : Int)
  · rw [if_pos h]
    exact eqs_l0 a b (by omega) (by omega) a.length k 0 (by omega) (by omega) hk
  · rw [if_neg h, decide_eq_false fun e => h (by rw [e])]
/-- Which nodes are the same. -/
theorem same {k : Nat} (a b c d e f g h i j m : Int) (l : List Int) (s : Bool) (v a' b' c' d' e' f' g' h' i' j' m' : Int) (l' : List Int) (s' : Bool) (v' : Int) (hl : l.length ≤ 1000000) (hk : l.length < k) :
    node_Same.f k a b c d e f g h i j m l s v a' b' c' d' e' f' g' h' i' j' m' l' s' v' = some (decide (a = a' ∧ b = b' ∧ c = c' ∧ d = d' ∧ e = e' ∧ f = f' ∧ g = g' ∧ h = h' ∧ i = i' ∧ j = j' ∧ m = m' ∧ l = l' ∧ s = s' ∧ v = v')) := by
  unfold node_Same.f
  rw [eqs l l' hl hk, Option.bind_some]
  by_cases q : l = l'
  · rw [decide_eq_true q, if_pos rfl]
    simp only [node_Same_1.f, Option.bind_some]
    congr 1
    rw [Bool.eq_iff_iff]
    simp only [Bool.and_eq_true, beq_iff_eq, decide_eq_true_eq]
    constructor
    · rintro ⟨x1, x2, x3, x4, ⟨x5, x6, x7⟩, x8, x9, ⟨x10, x11⟩, x12, x13⟩
      exact ⟨x1, x2, x3, x4, x5, x6, x7, x8, x9, x10, x11, q, x12, x13⟩
    · rintro ⟨x1, x2, x3, x4, x5, x6, x7, x8, x9, x10, x11, _, x12, x13⟩
      exact ⟨x1, x2, x3, x4, ⟨x5, x6, x7⟩, x8, x9, ⟨x10, x11⟩, x12, x13⟩
  · rw [decide_eq_false q, if_neg (by decide), decide_eq_false fun z => q z.2.2.2.2.2.2.2.2.2.2.2.1]
theorem same_self {k : Nat} (a b c d e f g h i j m : Int) (l : List Int) (s : Bool) (v : Int) (hl : l.length ≤ 100) (hk : 200 ≤ k) : node_Same.f k a b c d e f g h i j m l s v a b c d e f g h i j m l s v = some true := by
  rw [same _ _ _ _ _ _ _ _ _ _ _ _ _ _ _ _ _ _ _ _ _ _ _ _ _ _ _ _ (by omega) (by omega), decide_eq_true ⟨rfl, rfl, rfl, rfl, rfl, rfl, rfl, rfl, rfl, rfl, rfl, rfl, rfl, rfl⟩]
/-! Which nodes may be. -/
theorem far {m4 d : Int} (h1 : 0 ≤ m4) (h2 : m4 ≤ 1048576) : node_far.f (wrap64 (-m4)) m4 d = some (decide ¬(-m4 ≤ d ∧ d ≤ m4)) := by
  unfold node_far.f node_within_int64.f
  rw [show wrap64 (-m4) = -m4 from by unfold wrap64; omega]
  by_cases a : d ≥ -m4
  · rw [if_pos a, Option.bind_some]
    by_cases b : d ≤ m4
    · rw [decide_eq_true b, decide_eq_false (show ¬¬(-m4 ≤ d ∧ d ≤ m4) from fun z => z ⟨a, b⟩)]
      rfl
    · rw [decide_eq_false b, decide_eq_true (show ¬(-m4 ≤ d ∧ d ≤ m4) from fun z => b z.2)]
      rfl
  · rw [if_neg a, Option.bind_some, decide_eq_true (show ¬(-m4 ≤ d ∧ d ≤ m4) from fun z => a z.1)]
    rfl
theorem idx {m4 : Int} (h1 : 0 ≤ m4) (h2 : m4 ≤ 1048576) (l : List Int) (hl : l.length ≤ 1000000) (d : Nat) : ∀ (k i : Nat), i ≤ l.length → l.length - i = d → d < k → ∃ r, node_idxFar.l0 (wrap64 (-m4)) m4 k l (l.length : Int) (i : Int) = some r ∧ ((0 ≤ r) ↔ ¬ ∀ x ∈ l.drop i, -m4 ≤ x ∧ x ≤ m4) := by
  induction d with
  | zero =>
    intro k i hi hd hk
    obtain ⟨k, rfl⟩ : ∃ m, k = m + 1 := ⟨k - 1, by omega⟩
    rw [node_idxFar.l0, if_neg (by omega), List.drop_of_length_le (by omega)]
    exact ⟨-1, rfl, ⟨fun z => absurd z (by decide), fun z => absurd (fun x hx => absurd hx List.not_mem_nil) z⟩⟩
  | succ d ih =>
    intro k i hi hd hk
    obtain ⟨k, rfl⟩ : ∃ m, k = m + 1 := ⟨k - 1, by omega⟩
    have h : i < l.length := by omega
    rw [node_idxFar.l0, if_pos (by omega), if_pos (by omega), if_pos (by omega), rd_at h, far h1 h2, Option.bind_some, List.drop_eq_getElem_cons h]
    by_cases q : -m4 ≤ l[i] ∧ l[i] ≤ m4
    · rw [decide_eq_false (show ¬¬(-m4 ≤ l[i] ∧ l[i] ≤ m4) from fun z => z q), if_neg (by decide), show wrap64 ((i : Int) + 1) = ((i + 1 : Nat) : Int) from by unfold wrap64; omega]
      obtain ⟨r, e, hr⟩ := ih k (i + 1) (by omega) (by omega) (by omega)
      refine ⟨r, e, hr.trans (not_congr ?_)⟩
      constructor
      · intro z x hx
        rcases List.mem_cons.1 hx with rfl | hx
        · exact q
        · exact z x hx
      · exact fun z x hx => z x (List.mem_cons_of_mem _ hx)
    · rw [decide_eq_true q, if_pos rfl]
      exact ⟨(i : Int), rfl, ⟨fun _ z => q (z _ (List.mem_cons_self ..)), fun _ => by omega⟩⟩
def Near (m4 : Int) (l : List Int) : Prop := ∀ x ∈ l, -m4 ≤ x ∧ x ≤ m4
instance (m4 : Int) (l : List Int) : Decidable (Near m4 l) := by unfold Near; infer_instance
theorem any {m4 : Int} (h1 : 0 ≤ m4) (h2 : m4 ≤ 1048576) (l : List Int) (hl : l.length ≤ 1000000) {k : Nat} (hk : l.length < k) : node_anyFar.f (wrap64 (-m4)) m4 k l = some (decide ¬ Near m4 l) := by
  obtain ⟨r, e, hr⟩ := idx h1 h2 l hl l.length k 0 (by omega) (by omega) hk
  have e : node_idxFar.l0 (wrap64 (-m4)) m4 k l (l.length : Int) 0 = some r := e
  unfold node_anyFar.f node_idxFar.f
  rw [e, Option.bind_some]
  exact congrArg some (decide_eq_decide.2 hr)
theorem win (a b c : Int) : node_within_int.f a b c = some (decide (b ≤ a ∧ a ≤ c)) := by
  unfold node_within_int.f
  by_cases h : a ≥ b
  · rw [if_pos h]
    exact congrArg some (decide_eq_decide.2 ⟨fun z => ⟨h, z⟩, fun z => z.2⟩)
  · rw [if_neg h, decide_eq_false fun z => h z.1]
theorem win64 (a b c : Int) : node_within_int64.f a b c = some (decide (b ≤ a ∧ a ≤ c)) := win a b c
/-- A node that may be. -/
def Nok (m0 m1 m2 m3 m4 a b c d e f g h i j m : Int) (l : List Int) (s : Bool) (v : Int) : Prop :=
  (Ok m0 m1 m2 m3 m4 ∧ Oc e f g ∧ (0 ≤ a ∧ a < m0) ∧ (0 ≤ b ∧ b ≤ 3) ∧ c ≤ 4294967296 ∧ 0 ≤ d ∧ Tm d) ∧ ((-m4 ≤ h ∧ h ≤ m4) ∧ Near m4 l ∧ (l.length : Int) ≤ m0 ∧ (0 ≤ j ∧ j ≤ 1073741824) ∧ (0 ≤ m ∧ m ≤ 1073741824) ∧ (0 ≤ v ∧ v ≤ 3)) ∧ (b = 0 → c = 0 ∧ d = 0 ∧ h = 0 ∧ i = 0 ∧ j = 0 ∧ m = 0 ∧ l = [] ∧ s = false ∧ v = 0)
instance (m0 m1 m2 m3 m4 a b c d e f g h i j m : Int) (l : List Int) (s : Bool) (v : Int) : Decidable (Nok m0 m1 m2 m3 m4 a b c d e f g h i j m l s v) := by unfold Nok Ok Tm; infer_instance
theorem j0_no {k : Nat} (x y m0 m1 m2 m3 m4 a b c d e f g h i j m : Int) (l : List Int) (s : Bool) (v : Int) : node_Check.j0 (k + 1) false x y m0 m1 m2 m3 m4 a b c d e f g h i j m l s v = some 1 := by
  simp only [node_Check.j0]
  rfl
theorem j0_yes {k : Nat} {m0 m1 m2 m3 m4 a b c d e f g h i j m : Int} {l : List Int} {s : Bool} {v : Int} (h1 : 0 ≤ m4) (h2 : m4 ≤ 1048576) (hl : l.length ≤ 1000000) (hk : l.length < k) : node_Check.j0 (k + 1) true m4 (wrap64 (-m4)) m0 m1 m2 m3 m4 a b c d e f g h i j m l s v =
    some (if ((-m4 ≤ h ∧ h ≤ m4) ∧ Near m4 l ∧ (l.length : Int) ≤ m0 ∧ (0 ≤ j ∧ j ≤ 1073741824) ∧ (0 ≤ m ∧ m ≤ 1073741824) ∧ (0 ≤ v ∧ v ≤ 3)) ∧ (b = 0 → c = 0 ∧ d = 0 ∧ h = 0 ∧ i = 0 ∧ j = 0 ∧ m = 0 ∧ l = [] ∧ s = false ∧ v = 0) then 0 else 1) := by
  simp only [node_Check.j0]
  rw [if_pos trivial, win64, Option.bind_some, any h1 h2 l hl hk, show wrap64 (-m4) = -m4 from by unfold wrap64; omega]
  by_cases c1 : -m4 ≤ h ∧ h ≤ m4
  case neg => rw [decide_eq_false c1, if_neg (by decide), if_neg fun z => c1 z.1.1]
  rw [decide_eq_true c1, if_pos rfl, Option.bind_some]
  by_cases c2 : Near m4 l
  case neg => rw [decide_eq_true c2, if_pos rfl, if_neg fun z => c2 z.1.2.1]
  rw [decide_eq_false (show ¬¬Near m4 l from fun z => z c2), if_neg (by decide)]
  by_cases c3 : (l.length : Int) ≤ m0
  case neg => rw [if_neg c3, if_neg fun z => c3 z.1.2.2.1]
  rw [if_pos c3, win, Option.bind_some]
  by_cases c4 : 0 ≤ j ∧ j ≤ 1073741824
  case neg => rw [decide_eq_false c4, if_neg (by decide), if_neg fun z => c4 z.1.2.2.2.1]
  rw [decide_eq_true c4, if_pos rfl, win, Option.bind_some]
  by_cases c5 : 0 ≤ m ∧ m ≤ 1073741824
  case neg => rw [decide_eq_false c5, if_neg (by decide), if_neg fun z => c5 z.1.2.2.2.2.1]
  rw [decide_eq_true c5, if_pos rfl, win, Option.bind_some]
  by_cases c6 : 0 ≤ v ∧ v ≤ 3
  case neg => rw [decide_eq_false c6, if_neg (by decide), if_neg fun z => c6 z.1.2.2.2.2.2]
  rw [decide_eq_true c6, if_pos rfl]
  by_cases c7 : b = 0
  case neg => rw [if_neg c7, if_pos ⟨⟨c1, c2, c3, c4, c5, c6⟩, fun z => absurd z c7⟩]
  rw [if_pos c7, same _ _ _ _ _ _ _ _ _ _ _ _ _ _ _ _ _ _ _ _ _ _ _ _ _ _ _ _ hl hk, Option.bind_some]
  by_cases c8 : c = 0 ∧ d = 0 ∧ h = 0 ∧ i = 0 ∧ j = 0 ∧ m = 0 ∧ l = [] ∧ s = false ∧ v = 0
  · rw [decide_eq_true ⟨rfl, c7, c8.1, c8.2.1, rfl, rfl, rfl, c8.2.2.1, c8.2.2.2.1, c8.2.2.2.2.1, c8.2.2.2.2.2.1, c8.2.2.2.2.2.2.1, c8.2.2.2.2.2.2.2.1, c8.2.2.2.2.2.2.2.2⟩, if_pos rfl, if_pos ⟨⟨c1, c2, c3, c4, c5, c6⟩, fun _ => c8⟩]
  · rw [decide_eq_false (fun z => c8 (by obtain ⟨_, _, z1, z2, _, _, _, z3, z4, z5, z6, z7, z8, z9⟩ := z; exact ⟨z1, z2, z3, z4, z5, z6, z7, z8, z9⟩)), if_neg (by decide), if_neg fun z => c8 (z.2 c7)]
theorem check13 {k : Nat} {m0 m1 m2 m3 m4 a b c d e f g h i j m : Int} {l : List Int} {s : Bool} {v : Int} (hf : W64 f) (hl : l.length ≤ 1000000) (hk : l.length + 4 ≤ k) : node_Check.f k m0 m1 m2 m3 m4 a b c d e f g h i j m l s v = some (if Nok m0 m1 m2 m3 m4 a b c d e f g h i j m l s v then 0 else 1) := by
  obtain ⟨k, rfl⟩ : ∃ z, k = z + 1 := ⟨k - 1, by omega⟩
  unfold node_Check.f
  by_cases c0 : Ok m0 m1 m2 m3 m4
  case neg => rw [check_no c0, Option.bind_some, if_neg (by decide), j0_no, if_neg fun z => c0 z.1.1]
  have hm : 0 ≤ m4 ∧ m4 ≤ 1048576 ∧ 2 ≤ m0 ∧ m0 ≤ 16 := by
    have := c0
    unfold Ok at this
    omega
  rw [check_ok c0, Option.bind_some, if_pos rfl, ocheck hf]
  by_cases c1 : Oc e f g
  case neg => rw [if_neg c1, Option.bind_some, if_neg (by decide), j0_no, if_neg fun z => c1 z.1.2.1]
  rw [if_pos c1, Option.bind_some, if_pos rfl, win, Option.bind_some, show wrap64 (m0 - 1) = m0 - 1 from by unfold wrap64; omega]
  by_cases c2 : 0 ≤ a ∧ a ≤ m0 - 1
  case neg => rw [decide_eq_false c2, if_neg (by decide), j0_no, if_neg fun z => c2 ⟨z.1.2.2.1.1, by have := z.1.2.2.1.2; omega⟩]
  rw [decide_eq_true c2, if_pos rfl, win, Option.bind_some]
  by_cases c3 : 0 ≤ b ∧ b ≤ 3
  case neg => rw [decide_eq_false c3, if_neg (by decide), j0_no, if_neg fun z => c3 z.1.2.2.2.1]
  rw [decide_eq_true c3, if_pos rfl]
  by_cases c4 : c ≤ 4294967296
  case neg => rw [if_neg c4, j0_no, if_neg fun z => c4 z.1.2.2.2.2.1]
  rw [if_pos c4]
  by_cases c5 : d ≥ 0
  case neg => rw [if_neg c5, j0_no, if_neg fun z => c5 z.1.2.2.2.2.2.1]
  rw [if_pos c5, may_one (by omega), Option.bind_some]
  by_cases c6 : Tm d
  case neg => rw [decide_eq_false c6, j0_no, if_neg fun z => c6 z.1.2.2.2.2.2.2]
  rw [decide_eq_true c6, j0_yes hm.1 hm.2.1 hl (by omega)]
  have hA : Ok m0 m1 m2 m3 m4 ∧ Oc e f g ∧ (0 ≤ a ∧ a < m0) ∧ (0 ≤ b ∧ b ≤ 3) ∧ c ≤ 4294967296 ∧ 0 ≤ d ∧ Tm d := ⟨c0, c1, ⟨c2.1, by omega⟩, c3, c4, c5, c6⟩
  split
  · rename_i q
    have hN : Nok m0 m1 m2 m3 m4 a b c d e f g h i j m l s v := ⟨hA, q⟩
    rw [if_pos hN]
  · rename_i q
    have hN : ¬ Nok m0 m1 m2 m3 m4 a b c d e f g h i j m l s v := fun z => q z.2
    rw [if_neg hN]
/-! Beginning. -/
theorem begin13 {k : Nat} {m0 m1 m2 m3 m4 a b c d e f g h i j m : Int} {l : List Int} {s : Bool} {v now : Int} (hf : W64 f) (hl : l.length ≤ 1000000) (hk : l.length + 4 ≤ k) :
    node_begin.f k m0 m1 m2 m3 m4 a b c d e f g h i j m v s l now = some (if Nok m0 m1 m2 m3 m4 a b c d e f g h i j m l s v ∧ 0 ≤ now ∧ Tm now then 0 else 1) := by
  unfold node_begin.f
  rw [if_pos (by omega), check13 hf hl hk, Option.bind_some]
  by_cases h1 : Nok m0 m1 m2 m3 m4 a b c d e f g h i j m l s v
  · rw [if_pos h1, if_pos rfl]
    by_cases h2 : now < 0
    · rw [if_pos h2, if_neg fun z => by have := z.2.1; omega]
    · rw [if_neg h2, may_one (by omega), Option.bind_some]
      by_cases h3 : Tm now
      · rw [decide_eq_true h3, if_pos rfl, if_pos ⟨h1, by omega, h3⟩]
      · rw [decide_eq_false h3, if_neg (by decide), if_neg fun z => h3 z.2.2]
  · rw [if_neg h1, if_neg (by decide), if_neg fun z => h1 z.1]
theorem run_fine {k : Nat} (hk : 40 ≤ k) {p d r t : Int} (h : Oc p d r) (hd : W64 d) (h0 : 0 ≤ t) (h1 : t ≤ 1099511627776) (h2 : (rt p d * t + r) / 1000000000 ≤ 1152921504606846976) : osc_Run.f k p d r t = some ((rt p d * t + r) / 1000000000, p, d, (rt p d * t + r) % 1000000000, 0) := by
  rw [run_eq hk hd]
  unfold run
  rw [if_pos ⟨h, h0, h1⟩, if_neg (by omega)]
theorem run_small {p d r t : Int} (h : Oc p d r) (h0 : 0 ≤ t) (h1 : t ≤ 134217728) : 0 ≤ (rt p d * t + r) / 1000000000 ∧ (rt p d * t + r) / 1000000000 ≤ 144115188075855872 := by
  have b := rt_bound h
  obtain ⟨p1, p2, _, _, r0, r1⟩ := h
  have e3 : 0 ≤ rt p d * t := Int.mul_nonneg (by omega) (by omega)
  have e4 : rt p d * t ≤ 1001000000000000000 * 134217728 := Int.mul_le_mul (by omega) h1 (by omega) (by omega)
  omega
/-- A time from now that is not too far. -/
theorem timer_fine {k : Nat} (hk : 40 ≤ k) (s : Rs) (hd : W64 s.od) (ho : Oc s.op s.od s.orr) (he : s.er = 0) {t : Int} (h0 : 0 ≤ t) (h1 : t ≤ 134217728) (hs : 0 ≤ s.st) (hs2 : s.st ≤ 1008806316530991104) :
    node_timer.f k s t = some { s with ac := s.ac ++ [⟨1, s.st + (rt s.op s.od * t + s.orr) / 1000000000, z43, 0, 0⟩] } := by
  have b := run_small ho h0 h1
  have hfl : s.fl 0 = s := by unfold Rs.fl; rw [if_pos he, if_pos rfl]
  unfold node_timer.f node_at.f
  rw [run_fine hk ho hd h0 (by omega) (by omega), Option.bind_some, add_eq (by omega)]
  have t1 : Tm s.st ∧ Tm ((rt s.op s.od * t + s.orr) / 1000000000) := by unfold Tm; omega
  have t2 : Tm (s.st + (rt s.op s.od * t + s.orr) / 1000000000) := by unfold Tm; omega
  rw [if_pos t1, if_pos t2, Option.bind_some, Option.bind_some]
  simp only [hfl]
end Go.Proofs.YtcofclkgfandfaaGreat.Node13
