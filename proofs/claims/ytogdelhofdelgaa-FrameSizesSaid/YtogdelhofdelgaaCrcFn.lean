/- Sums, seals, turned bits (layer 3), as printed: what each function answers. -/
import Derived.Test.YtogdelhofdelgaaCrcBurst
import Derived.IntWalk
import Derived.Lib.Bytes
import Derived.Test.YtogdelhofdelgaaPrint0
import Derived.Test.YtogdelhofdelgaaPrint2
set_option linter.unusedVariables false
set_option linter.unusedSimpArgs false
namespace Go.Proofs.Ytogdelhofdelgaa.CrcFn
open Go Go.RowKit Go.Proofs.Ytogdelhofdelgaa.Print Go.Proofs.YtogdelhofdelgaaW.PrintWords Go.Proofs.YtogdelhofdelgaaW.PrintLast Go.Proofs.YtogdelhofdelgaaW.PrintMore Go.Proofs.Ytogdelhofdelgaa.Crc
theorem w64 {x : Int} (h : -9223372036854775808 ≤ x) (h2 : x ≤ 9223372036854775807) : wrap64 x = x := by unfold wrap64; omega
def cs (l : List Nat) : List Int := l.map fun a : Nat => (a : Int)
theorem cs_append (l m : List Nat) : cs (l ++ m) = cs l ++ cs m := by unfold cs; rw [List.map_append]
theorem cs_len (l : List Nat) : (cs l).length = l.length := by unfold cs; rw [List.length_map]
theorem cs_drop (l : List Nat) (n : Nat) : (cs l).drop n = cs (l.drop n) := by unfold cs; rw [List.map_drop]
theorem cs_take (l : List Nat) (n : Nat) : (cs l).take n = cs (l.take n) := by unfold cs; rw [List.map_take]
theorem cs_set (l : List Nat) (k v : Nat) : (cs l).set k (v : Int) = cs (l.set k v) := by unfold cs; rw [List.map_set]
theorem cs_rd (l : List Nat) (i : Nat) : rd (cs l) (i : Int) = ((l.getD i 0 : Nat) : Int) := by
  unfold rd cs
  rw [Int.toNat_natCast, List.getD_eq_getElem?_getD, List.getD_eq_getElem?_getD, List.getElem?_map]
  cases l[i]? <;> rfl
theorem bytes_of {l : List Int} (h : ∀ y ∈ l, (Lit.int .u8 y).wf = true) : ∃ m : List Nat, l = cs m ∧ By m := by
  refine ⟨l.map Int.toNat, ?_, ?_⟩
  · unfold cs
    rw [List.map_map]
    have : ∀ y ∈ l, ((fun a : Nat => (a : Int)) ∘ Int.toNat) y = y := by
      intro y hy
      have h : 0 ≤ y ∧ y ≤ 255 := by simpa [Lit.wf, IntKind.min, IntKind.max, IntKind.signed, IntKind.bits] using h y hy
      show ((y.toNat : Nat) : Int) = y
      omega
    rw [List.map_congr_left this, List.map_id']
  · intro x hx
    obtain ⟨y, hy, rfl⟩ := List.mem_map.1 hx
    have h : 0 ≤ y ∧ y ≤ 255 := by simpa [Lit.wf, IntKind.min, IntKind.max, IntKind.signed, IntKind.bits] using h y hy
    omega
theorem nums_inj {l m : List Nat} (hl : By l) (hm : By m) (h : (strOfNums (cs l)).toList = (strOfNums (cs m)).toList) : l = m := by
  unfold cs at h
  rw [Go.Lib.strOfNums_toList, Go.Lib.strOfNums_toList] at h
  induction l generalizing m with
  | nil => cases m with
    | nil => rfl
    | cons b m => simp [Go.Lib.bytesOf] at h
  | cons a l ih =>
    cases m with
    | nil => simp [Go.Lib.bytesOf] at h
    | cons b m =>
      simp only [Go.Lib.bytesOf, List.map_cons, List.cons.injEq] at h
      have h1 := hl a (by simp)
      have h2 := hm b (by simp)
      have i := ih (fun c hc => hl c (by simp [hc])) (fun c hc => hm c (by simp [hc])) h.2
      have e := UInt8.toNat_inj.2 h.1
      rw [Int.toNat_natCast, Int.toNat_natCast, UInt8.toNat_ofNat', UInt8.toNat_ofNat', Nat.mod_eq_of_lt h1, Nat.mod_eq_of_lt h2] at e
      rw [e, i]
theorem text_eq {l m : List Nat} (hl : By l) (hm : By m) : ((strOfNums (cs l)).toList == (strOfNums (cs m)).toList) = decide (l = m) := by
  rw [Bool.eq_iff_iff, beq_iff_eq, decide_eq_true_eq]
  exact ⟨fun h => nums_inj hl hm h, fun h => by rw [h]⟩
/-! ### Numbers of 32 bits, bit by bit -/
theorem uw32 (x : Int) : IntKind.u32.wrap x = x % 4294967296 := by
  simp only [IntKind.wrap, IntKind.bits, IntKind.signed]
  simp
theorem xor32 {a b : Nat} (ha : a < 2 ^ 32) (hb : b < 2 ^ 32) : Go.bits .xor .u32 (a : Int) (b : Int) = ((a ^^^ b : Nat) : Int) := by
  show IntKind.u32.wrap (((BitVec.ofInt 32 (a : Int)) ^^^ (BitVec.ofInt 32 (b : Int))).toNat : Int) = _
  rw [BitVec.ofInt_natCast, BitVec.ofInt_natCast, BitVec.toNat_xor, BitVec.toNat_ofNat, BitVec.toNat_ofNat, Nat.mod_eq_of_lt ha, Nat.mod_eq_of_lt hb, uw32]
  have := Nat.xor_lt_two_pow ha hb
  omega
theorem and32 {a b : Nat} (ha : a < 2 ^ 32) (hb : b < 2 ^ 32) : Go.bits .and .u32 (a : Int) (b : Int) = ((a &&& b : Nat) : Int) := by
  show IntKind.u32.wrap (((BitVec.ofInt 32 (a : Int)) &&& (BitVec.ofInt 32 (b : Int))).toNat : Int) = _
  rw [BitVec.ofInt_natCast, BitVec.ofInt_natCast, BitVec.toNat_and, BitVec.toNat_ofNat, BitVec.toNat_ofNat, Nat.mod_eq_of_lt ha, Nat.mod_eq_of_lt hb, uw32]
  have : a &&& b ≤ a := Nat.and_le_left
  omega
theorem xor8 {a b : Nat} (ha : a < 256) (hb : b < 256) : Go.bits .xor .u8 (a : Int) (b : Int) = ((a ^^^ b : Nat) : Int) := by
  show IntKind.u8.wrap (((BitVec.ofInt 8 (a : Int)) ^^^ (BitVec.ofInt 8 (b : Int))).toNat : Int) = _
  rw [BitVec.ofInt_natCast, BitVec.ofInt_natCast, BitVec.toNat_xor, BitVec.toNat_ofNat, BitVec.toNat_ofNat, Nat.mod_eq_of_lt ha, Nat.mod_eq_of_lt hb]
  have := Nat.xor_lt_two_pow (n := 8) ha hb
  simp only [IntKind.wrap, IntKind.bits, IntKind.signed]
  simp
  omega
theorem and_pow (x i : Nat) : x &&& 2 ^ i = if x.testBit i = true then 2 ^ i else 0 := by
  apply Nat.eq_of_testBit_eq
  intro j
  rw [Nat.testBit_and, Nat.testBit_two_pow]
  by_cases e : i = j
  · subst e
    cases h : x.testBit i <;> simp
  · cases h : x.testBit i <;> simp [e]
theorem it_succ (f : Nat → Nat) (n c : Nat) : it f (n + 1) c = f (it f n c) := it_add n 1 c
theorem s24_eq {c : Nat} (h : c < 2 ^ 24) : crc_s24 (c : Int) = ((st c : Nat) : Int) := by
  unfold crc_s24 st
  rw [show ((c : Int) * 2) % 4294967296 = ((c * 2 : Nat) : Int) by omega, show (16777216 : Int) = ((2 ^ 24 : Nat) : Int) by decide, and32 (by omega) (by decide), and_pow, show (25578747 : Int) = ((25578747 : Nat) : Int) from rfl, xor32 (by omega) (by decide), show c * 2 = c <<< 1 by rw [Nat.shiftLeft_eq], Nat.testBit_shiftLeft]
  cases hb : c.testBit 23 <;> simp
theorem it24_eq (n : Nat) {c : Nat} (h : c < 2 ^ 24) : crc_it crc_s24 n (c : Int) = ((it st n c : Nat) : Int) := by
  induction n with
  | zero => rfl
  | succ n ih =>
    rw [crc_it, ih, it_succ]
    exact s24_eq (it_lt (fun c => st_lt) n h)
theorem e24_eq {i : Nat} (h : i < 256) : crc_e24 i = ((it st 8 (i <<< 16) : Nat) : Int) := by
  unfold crc_e24
  have e0 : (i : Int) % (4294967296 : Int) * (65536 : Int) % (4294967296 : Int) = ((i <<< 16 : Nat) : Int) := by
    rw [Nat.shiftLeft_eq]
    omega
  rw [e0]
  exact it24_eq 8 (by rw [Nat.shiftLeft_eq]; omega)
theorem split_at (c k : Nat) : c = (c / 2 ^ k) <<< k ^^^ c % 2 ^ k := by
  rw [xor_add _ _ k (Nat.mod_lt _ (Nat.pow_pos (by decide)))]
  exact (Nat.div_add_mod' c (2 ^ k)).symm
theorem b24_eq {c y : Nat} (hc : c < 2 ^ 24) (hy : y < 256) : crc_b24 (c : Int) (y : Int) = ((it st 8 (c ^^^ g24 y) : Nat) : Int) := by
  unfold crc_b24
  have hx : c / 65536 ^^^ y < 2 ^ 8 := Nat.xor_lt_two_pow (by omega) hy
  rw [show ((c : Int) / 65536) % 256 = ((c / 65536 : Nat) : Int) by omega, xor8 (by omega) hy, Int.toNat_natCast, e24_eq hx, show ((c : Int) * 256) % 4294967296 = ((c * 256 : Nat) : Int) by omega, show (16777215 : Int) = ((2 ^ 24 - 1 : Nat) : Int) by decide, and32 (by omega) (by decide), Nat.and_two_pow_sub_one_eq_mod, xor32 (by omega) (Nat.lt_trans (it_lt (fun c => st_lt) 8 (by rw [Nat.shiftLeft_eq]; omega)) (by decide))]
  congr 1
  have e : c ^^^ g24 y = (c / 65536 ^^^ y) <<< 16 ^^^ c % 65536 := by
    conv => lhs; rw [split_at c 16]
    unfold g24
    rw [Nat.shiftLeft_xor_distrib, Nat.xor_assoc, Nat.xor_comm (c % 2 ^ 16), ← Nat.xor_assoc]
  rw [e, it_xor st_xor, it_st_small 8 (c % 65536) (by omega) (by decide), Nat.xor_comm]
  congr 1
  rw [Nat.shiftLeft_eq]
  omega
theorem fold24 (l : List Nat) (hl : By l) : ∀ c : Nat, c < 2 ^ 24 → (cs l).foldl crc_b24 (c : Int) = ((reg st g24 l c : Nat) : Int) := by
  induction l with
  | nil => intro c _; rfl
  | cons x l ih =>
    intro c hc
    have hx := hl x (by simp)
    show (cs l).foldl crc_b24 (crc_b24 (c : Int) (x : Int)) = _
    rw [b24_eq hc hx, ih (fun y hy => hl y (by simp [hy])) _ (it_lt (fun c => st_lt) 8 (Nat.xor_lt_two_pow hc (g24_lt hx)))]
    rfl
theorem Sum24_eq (l : List Nat) (hl : By l) (hn : l.length ≤ 140737488355328) : crc_Sum24.f (cs l) = some (r24 l : Int) := by
  unfold crc_Sum24.f
  rw [if_pos (by rw [cs_len]; exact hn), show (11994318 : Int) = ((0xb704ce : Nat) : Int) from rfl, fold24 l hl _ (by decide)]
  rfl
end Go.Proofs.Ytogdelhofdelgaa.CrcFn
