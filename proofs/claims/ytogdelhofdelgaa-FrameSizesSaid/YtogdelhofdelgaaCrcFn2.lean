/- Seals, opened texts, turned bits, and the document's sums (layer 3), as printed. -/
import Derived.Test.YtogdelhofdelgaaCrcFn
import Derived.Test.YtogdelhofdelgaaPrint0
import Derived.Test.YtogdelhofdelgaaPrint2
import Derived.Test.YtogdelhofdelgaaPrint14
import Derived.Test.YtogdelhofdelgaaPrint15
import Derived.Test.YtogdelhofdelgaaPrint16
import Derived.Test.YtogdelhofdelgaaPrint21
set_option linter.unusedVariables false
set_option linter.unusedSimpArgs false
namespace Go.Proofs.Ytogdelhofdelgaa.CrcFn
open Go Go.RowKit Go.Proofs.Ytogdelhofdelgaa.Print Go.Proofs.YtogdelhofdelgaaW.PrintWords Go.Proofs.YtogdelhofdelgaaW.PrintLast Go.Proofs.YtogdelhofdelgaaW.PrintMore Go.Proofs.Ytogdelhofdelgaa.Crc
theorem By.append {l m : List Nat} (h : By l) (h2 : By m) : By (l ++ m) := fun x hx => (List.mem_append.1 hx).elim (h x) (h2 x)
theorem By.take {l : List Nat} (h : By l) (n : Nat) : By (l.take n) := fun x hx => h x (List.mem_of_mem_take hx)
theorem By.drop {l : List Nat} (h : By l) (n : Nat) : By (l.drop n) := fun x hx => h x (List.mem_of_mem_drop hx)
theorem By.nil : By [] := fun x hx => by cases hx
/-- A sum's bytes. -/
def b3 (v : Nat) : List Nat := [v / 65536 % 256, v / 256 % 256, v % 256]
def b4 (v : Nat) : List Nat := [v % 256, v / 256 % 256, v / 65536 % 256, v / 16777216 % 256]
theorem b3_by (v : Nat) : By (b3 v) := by
  intro x hx
  simp [b3] at hx
  omega
theorem b4_by (v : Nat) : By (b4 v) := by
  intro x hx
  simp [b4] at hx
  omega
theorem b3_inj {v x y z : Nat} (hv : v < 2 ^ 24) (hy : y < 256) (hz : z < 256) (hx : x < 256) : b3 v = [x, y, z] ↔ v = x * 65536 + y * 256 + z := by
  unfold b3
  simp only [List.cons.injEq, and_true]
  omega
theorem b4_inj {v x y z w : Nat} (hv : v < 2 ^ 32) (hx : x < 256) (hy : y < 256) (hz : z < 256) (hw : w < 256) : b4 v = [x, y, z, w] ↔ v = w * 16777216 + z * 65536 + y * 256 + x := by
  unfold b4
  simp only [List.cons.injEq, and_true]
  omega
theorem last3 {l : List Nat} (h : 3 ≤ l.length) : ∃ p x y z, l = p ++ [x, y, z] := by
  refine ⟨l.take (l.length - 3), l.getD (l.length - 3) 0, l.getD (l.length - 2) 0, l.getD (l.length - 1) 0, ?_⟩
  have e : l.drop (l.length - 3) = [l.getD (l.length - 3) 0, l.getD (l.length - 2) 0, l.getD (l.length - 1) 0] := by
    rw [List.drop_eq_getElem_cons (by omega), List.drop_eq_getElem_cons (by omega), List.drop_eq_getElem_cons (by omega), List.drop_of_length_le (by omega)]
    simp only [List.getD_eq_getElem?_getD]
    rw [List.getElem?_eq_getElem (by omega), List.getElem?_eq_getElem (by omega), List.getElem?_eq_getElem (by omega)]
    simp only [Option.getD_some]
    congr 2
    · congr 1; omega
    · congr 1; congr 1; omega
  rw [← e, List.take_append_drop]
theorem last4 {l : List Nat} (h : 4 ≤ l.length) : ∃ p x y z w, l = p ++ [x, y, z, w] := by
  refine ⟨l.take (l.length - 4), l.getD (l.length - 4) 0, l.getD (l.length - 3) 0, l.getD (l.length - 2) 0, l.getD (l.length - 1) 0, ?_⟩
  have e : l.drop (l.length - 4) = [l.getD (l.length - 4) 0, l.getD (l.length - 3) 0, l.getD (l.length - 2) 0, l.getD (l.length - 1) 0] := by
    rw [List.drop_eq_getElem_cons (by omega), List.drop_eq_getElem_cons (by omega), List.drop_eq_getElem_cons (by omega), List.drop_eq_getElem_cons (by omega), List.drop_of_length_le (by omega)]
    simp only [List.getD_eq_getElem?_getD]
    rw [List.getElem?_eq_getElem (by omega), List.getElem?_eq_getElem (by omega), List.getElem?_eq_getElem (by omega), List.getElem?_eq_getElem (by omega)]
    simp only [Option.getD_some]
    congr 2
    · congr 1; omega
    · congr 1
      · congr 1; omega
      · congr 1; congr 1; omega
  rw [← e, List.take_append_drop]
/-- A text is sealed just if its sum is nought, or the one that all sealed texts have. -/
def good24 (l : List Nat) : Prop := b3 (r24 (l.take (l.length - 3))) = l.drop (l.length - 3)
instance (l : List Nat) : Decidable (good24 l) := by unfold good24; infer_instance
theorem good24_iff {l : List Nat} (hl : By l) (h : 3 ≤ l.length) : good24 l ↔ r24 l = 0 := by
  obtain ⟨p, x, y, z, rfl⟩ := last3 h
  have hp : By p := fun a ha => hl a (by simp [ha])
  have hx := hl x (by simp)
  have hy := hl y (by simp)
  have hz := hl z (by simp)
  have e : (p ++ [x, y, z]).length - 3 = p.length := by simp
  unfold good24
  rw [e, List.take_left, List.drop_left, b3_inj (r24_lt hp) hy hz hx]
  have e2 : r24 (p ++ [x, y, z]) = it st 24 (r24 p ^^^ (x * 65536 + y * 256 + z)) := by
    unfold r24
    rw [reg_append, reg3 _ x y z hy hz, three x y z hy hz]
  rw [e2]
  constructor
  · intro h
    rw [h, Nat.xor_self, it_nought st_xor]
  · intro h
    exact xor_eq_zero (it_zero (fun c => st_lt) st_nz 24 (Nat.xor_lt_two_pow (r24_lt hp) (by omega)) h)
def res32 : Nat := it rt 32 0xffffffff
def good32 (l : List Nat) : Prop := b4 (0xffffffff ^^^ r32 (l.take (l.length - 4))) = l.drop (l.length - 4)
instance (l : List Nat) : Decidable (good32 l) := by unfold good32; infer_instance
theorem good32_iff {l : List Nat} (hl : By l) (h : 4 ≤ l.length) : good32 l ↔ r32 l = res32 := by
  obtain ⟨p, x, y, z, w, rfl⟩ := last4 h
  have hp : By p := fun a ha => hl a (by simp [ha])
  have hx := hl x (by simp)
  have hy := hl y (by simp)
  have hz := hl z (by simp)
  have hw := hl w (by simp)
  have e : (p ++ [x, y, z, w]).length - 4 = p.length := by simp
  unfold good32
  rw [e, List.take_left, List.drop_left, b4_inj (Nat.xor_lt_two_pow (by decide) (r32_lt hp)) hx hy hz hw]
  have e2 : r32 (p ++ [x, y, z, w]) = it rt 32 (r32 p ^^^ (w * 16777216 + z * 65536 + y * 256 + x)) := by
    unfold r32
    rw [reg_append, reg4, four x y z w hx hy hz]
  rw [e2]
  have hT : w * 16777216 + z * 65536 + y * 256 + x < 2 ^ 32 := by omega
  generalize w * 16777216 + z * 65536 + y * 256 + x = T at *
  unfold res32
  constructor
  · intro h
    rw [← h, Nat.xor_comm 0xffffffff, ← Nat.xor_assoc, Nat.xor_self, Nat.zero_xor]
  · intro h
    have := it_inj rt_xor (fun c => rt_lt) (fun c hc => rt_zero hc) 32 (Nat.xor_lt_two_pow (r32_lt hp) hT) (by decide) h
    rw [← this, Nat.xor_comm (r32 p), Nat.xor_assoc, Nat.xor_self, Nat.xor_zero]
/-- What a sealed text's seal says. -/
theorem sealed24 {l : List Nat} (hl : By l) : good24 (l ++ b3 (r24 l)) := by
  unfold good24
  have e : (l ++ b3 (r24 l)).length - 3 = l.length := by simp [b3]
  rw [e, List.take_left, List.drop_left]
theorem sealed32 {l : List Nat} (hl : By l) : good32 (l ++ b4 (0xffffffff ^^^ r32 l)) := by
  unfold good32
  have e : (l ++ b4 (0xffffffff ^^^ r32 l)).length - 4 = l.length := by simp [b4]
  rw [e, List.take_left, List.drop_left]
theorem good24_take {l : List Nat} (h3 : 3 ≤ l.length) (h : good24 l) : l = l.take (l.length - 3) ++ b3 (r24 (l.take (l.length - 3))) := by
  unfold good24 at h
  rw [h, List.take_append_drop]
theorem good32_take {l : List Nat} (h4 : 4 ≤ l.length) (h : good32 l) : l = l.take (l.length - 4) ++ b4 (0xffffffff ^^^ r32 (l.take (l.length - 4))) := by
  unfold good32 at h
  rw [h, List.take_append_drop]
def op24 (l : List Nat) : List Int × Int := if l.length < 3 then ([], 3) else if 1048579 < l.length then ([], 6) else if good24 l then (cs (l.take (l.length - 3)), 0) else ([], 5)
def op32 (l : List Nat) : List Int × Int := if l.length < 4 then ([], 3) else if 1048580 < l.length then ([], 6) else if good32 l then (cs (l.take (l.length - 4)), 0) else ([], 5)
theorem clone_eq (l : List Nat) (h : l.length < 17592186044416) : slices_Clone_byte_byte.f (cs l) = some (cs l) := by unfold slices_Clone_byte_byte.f; rw [if_pos (by rw [cs_len]; exact h)]
theorem tail24_eq (l : List Nat) (hl : By l) (hn : l.length ≤ 140737488355328) : crc_tail24.f (cs l) = some (cs (b3 (r24 l))) := by
  unfold crc_tail24.f
  rw [Sum24_eq l hl hn, Option.bind_some]
  rfl
theorem Seal24_eq (l : List Nat) (hl : By l) (hn : l.length ≤ 10000000000) : crc_Seal24.f (cs l) = some (if 1048576 < l.length then ([], 6) else (cs (l ++ b3 (r24 l)), 0)) := by
  unfold crc_Seal24.f crc_seal_at_crc_tail24.f
  rw [cs_len]
  by_cases h : 1048576 < l.length
  · rw [if_pos (by omega), if_pos h]
    rfl
  · rw [if_neg (by omega), if_neg h, clone_eq l (by omega), Option.bind_some, tail24_eq l hl (by omega), Option.bind_some, cs_len, cs_len, if_pos (by simp [b3]; omega), ← cs_append]
    rfl
theorem Open24_eq (l : List Nat) (hl : By l) (hn : l.length ≤ 10000000000) : crc_Open24.f (cs l) = some (op24 l) := by
  unfold crc_Open24.f crc_open_at_crc_tail24.f op24
  rw [cs_len, w64 (by omega) (by omega)]
  by_cases h1 : l.length < 3
  · rw [if_pos (by omega), if_pos h1]
    rfl
  rw [if_neg (by omega), if_neg h1]
  by_cases h2 : 1048579 < l.length
  · rw [if_pos (by omega), if_pos h2]
    rfl
  rw [if_neg (by omega), if_neg h2, if_pos (by omega), if_pos (by omega), show ((l.length : Int) - 3).toNat = l.length - 3 by omega, cs_take, cs_drop, tail24_eq _ (By.take hl _) (by rw [List.length_take]; omega), Option.bind_some]
  unfold bytes_Equal.f
  rw [Option.bind_some, text_eq (b3_by _) (By.drop hl _)]
  by_cases g : good24 l
  · have g' : b3 (r24 (l.take (l.length - 3))) = l.drop (l.length - 3) := g
    rw [if_pos g, decide_eq_true g', if_pos rfl, clone_eq _ (by rw [List.length_take]; omega)]
    rfl
  · have g' : ¬ b3 (r24 (l.take (l.length - 3))) = l.drop (l.length - 3) := g
    rw [if_neg g, decide_eq_false g', if_neg (by decide)]
    rfl
theorem and7 (a : Int) (h : 0 ≤ a) (h2 : a ≤ 9223372036854775807) : Go.bits .and .i64 a 7 = a % 8 := by
  show IntKind.i64.wrap ((BitVec.ofInt 64 a &&& BitVec.ofInt 64 7).toNat : Int) = _
  rw [BitVec.toNat_and, show (BitVec.ofInt 64 7).toNat = 2 ^ 3 - 1 by decide, Nat.and_two_pow_sub_one_eq_mod, BitVec.toNat_ofInt]
  simp only [IntKind.wrap, IntKind.bits, IntKind.signed]
  simp
  omega
theorem shl1 : ∀ j : Fin 8, shl .u8 1 ((7 : Int) - (j.val : Int)) = ((128 >>> j.val : Nat) : Int) := by decide
theorem shr128 : ∀ j : Fin 8, shr .u8 128 (j.val : Int) = ((128 >>> j.val : Nat) : Int) := by decide
theorem top_lt (j : Nat) : 128 >>> j < 256 := by
  rw [Nat.shiftRight_eq_div_pow]
  have : 128 / 2 ^ j ≤ 128 := Nat.div_le_self _ _
  omega
def tr (l : List Nat) (bit : Int) : List Int × Int := if bit < 0 ∨ (l.length : Int) ≤ bit / 8 then ([], 1) else (cs (turn l bit.toNat), 0)
theorem getD_lt {l : List Nat} (h : By l) (k : Nat) : l.getD k 0 < 256 := by
  by_cases hk : k < l.length
  · rw [List.getD_eq_getElem?_getD, List.getElem?_eq_getElem hk]
    exact h _ (List.getElem_mem hk)
  · rw [List.getD_eq_getElem?_getD, List.getElem?_eq_none (by omega)]
    decide
theorem Turn_eq (l : List Nat) (hl : By l) (hn : l.length ≤ 10000000000) (bit : Int) (hb : bit ≤ 9223372036854775807) : crc_Turn.f (cs l) bit = some (tr l bit) := by
  unfold crc_Turn.f tr
  by_cases h1 : bit < 0
  · rw [if_pos h1, if_pos (Or.inl h1)]
  rw [if_neg h1, cs_len]
  by_cases h2 : bit / 8 ≥ (l.length : Int)
  · rw [if_pos h2, if_pos (Or.inr h2)]
  obtain ⟨b, rfl⟩ : ∃ b : Nat, bit = b := ⟨bit.toNat, by omega⟩
  rw [if_neg h2, if_neg (by omega), clone_eq l (by omega), Option.bind_some, if_pos (by omega), cs_len, if_pos (by omega), and7 _ (by omega) hb, w64 (by omega) (by omega), if_pos (by omega), show (b : Int) / 8 = ((b / 8 : Nat) : Int) by omega, cs_rd, Int.toNat_natCast, Int.toNat_natCast]
  have e := shl1 ⟨b % 8, by omega⟩
  simp only at e
  rw [show (7 : Int) - (b : Int) % 8 = 7 - ((b % 8 : Nat) : Int) by omega, e, xor8 (getD_lt hl _) (top_lt _), cs_set]
  rfl
theorem rs24 (x6 : List Int) (x7 x8 : Int) : ∀ (j k c : Nat), j ≤ 8 → c < 2 ^ 24 → palletref03_Sum24.l1 (k + j + 1) (c : Int) x6 x7 x8 (8 - (j : Int)) = palletref03_Sum24.l0 k ((it st j c : Nat) : Int) x6 x7 (wrap64 (x8 + 1)) := by
  intro j
  induction j with
  | zero =>
    intro k c _ _
    rw [palletref03_Sum24.l1, if_neg (by omega)]
    rfl
  | succ j ih =>
    intro k c hj hc
    have e2 : ((c : Int) * 2) % 4294967296 = ((c * 2 : Nat) : Int) := by omega
    rw [show k + (j + 1) + 1 = (k + j + 1) + 1 by omega, palletref03_Sum24.l1, if_pos (by omega), e2, w64 (by omega) (by omega), show 8 - ((j + 1 : Nat) : Int) + 1 = 8 - (j : Int) by omega]
    by_cases h : ((c * 2 : Nat) : Int) ≥ 16777216
    · have e3 : (((c * 2 : Nat) : Int) - 16777216) % 4294967296 = ((c * 2 - 16777216 : Nat) : Int) := by omega
      have e4 : Go.bits .xor .u32 ((c * 2 - 16777216 : Nat) : Int) 8801531 = ((st c : Nat) : Int) := by
        rw [show (8801531 : Int) = ((8801531 : Nat) : Int) from rfl, xor32 (by omega) (by decide)]
        refine congrArg Nat.cast ?_
        have a1 : 1 <<< 24 ^^^ (c * 2 - 16777216) = c * 2 := by rw [xor_add 1 _ 24 (by omega)]; omega
        have a2 : (1 <<< 24 ^^^ 8801531 : Nat) = 0x1864cfb := by decide +kernel
        have hb : c.testBit 23 = true := by
          rw [Nat.testBit_eq_decide_div_mod_eq, decide_eq_true_eq]
          omega
        unfold st
        rw [hb, if_pos rfl, Nat.shiftLeft_eq, Nat.pow_one]
        generalize c * 2 - 16777216 = d at a1 ⊢
        rw [← a1, ← a2, xor4, Nat.xor_self, Nat.zero_xor]
      rw [if_pos h, e3, e4, ih k _ (by omega) (st_lt hc)]
      rfl
    · have e4 : ((c * 2 : Nat) : Int) = ((st c : Nat) : Int) := by
        have hb : c.testBit 23 = false := by
          rw [Nat.testBit_eq_decide_div_mod_eq, decide_eq_false_iff_not]
          omega
        unfold st
        rw [hb, if_neg (by decide), Nat.xor_zero, Nat.shiftLeft_eq]
      rw [if_neg h, e4, ih k _ (by omega) (st_lt hc)]
      rfl
theorem drop_cons (xs : List Nat) (i : Nat) (h : i < xs.length) : xs.drop i = xs.getD i 0 :: xs.drop (i + 1) := by
  rw [List.drop_eq_getElem_cons h, List.getD_eq_getElem?_getD, List.getElem?_eq_getElem h]
  rfl
theorem rl24 (l : List Nat) (hl : By l) (hn : l.length ≤ 10000000000) (d : Nat) : ∀ (k i c : Nat), i ≤ l.length → l.length - i = d → 10 * d + 1 ≤ k → c < 2 ^ 24 → palletref03_Sum24.l0 k (c : Int) (cs l) (l.length : Int) (i : Int) = some ((reg st g24 (l.drop i) c : Nat) : Int) := by
  induction d with
  | zero =>
    intro k i c hi hd hk hc
    obtain ⟨k, rfl⟩ : ∃ m, k = m + 1 := ⟨k - 1, by omega⟩
    rw [palletref03_Sum24.l0, if_neg (by omega), List.drop_of_length_le (by omega)]
    rfl
  | succ d ih =>
    intro k i c hi hd hk hc
    obtain ⟨k, rfl⟩ : ∃ m, k = (m + 8 + 1) + 1 := ⟨k - 10, by omega⟩
    have hx := getD_lt hl i
    rw [palletref03_Sum24.l0, if_pos (by omega), if_pos (by omega), cs_len, if_pos (by omega), cs_rd]
    have e0 : ((l.getD i 0 : Nat) : Int) % (4294967296 : Int) * (65536 : Int) % (4294967296 : Int) = ((g24 (l.getD i 0) : Nat) : Int) := by
      unfold g24
      rw [Nat.shiftLeft_eq]
      omega
    rw [e0, xor32 (by omega) (Nat.lt_trans (g24_lt hx) (by decide))]
    have := rs24 (cs l) (l.length : Int) (i : Int) 8 k (c ^^^ g24 (l.getD i 0)) (Nat.le_refl _) (Nat.xor_lt_two_pow hc (g24_lt hx))
    rw [show (8 : Int) - ((8 : Nat) : Int) = 0 by decide] at this
    rw [this, w64 (by omega) (by omega), show (i : Int) + 1 = ((i + 1 : Nat) : Int) by omega, ih k (i + 1) _ (by omega) (by omega) (by omega) (it_lt (fun c => st_lt) 8 (Nat.xor_lt_two_pow hc (g24_lt hx))), drop_cons l i (by omega), reg_cons]
theorem RSum24_eq {k : Nat} (l : List Nat) (hl : By l) (hn : l.length ≤ 10000000000) (hk : 10 * l.length + 10 ≤ k) : palletref03_Sum24.f k (cs l) = some (r24 l : Int) := by
  unfold palletref03_Sum24.f
  rw [cs_len]
  have := rl24 l hl hn l.length k 0 0xb704ce (by omega) (by omega) (by omega) (by decide)
  rw [List.drop_zero] at this
  exact this
end Go.Proofs.Ytogdelhofdelgaa.CrcFn
