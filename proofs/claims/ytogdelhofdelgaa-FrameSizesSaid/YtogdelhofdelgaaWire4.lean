/- Numbers of a width, and records (layer 2), as printed: what each function answers. -/
import Derived.Test.YtogdelhofdelgaaWire3
import Derived.Test.YtogdelhofdelgaaPrint0
import Derived.Test.YtogdelhofdelgaaPrint3
import Derived.Test.YtogdelhofdelgaaPrint4
import Derived.Test.YtogdelhofdelgaaPrint5
import Derived.Test.YtogdelhofdelgaaPrint17
set_option linter.unusedVariables false
set_option linter.unusedSimpArgs false
namespace Go.Proofs.Ytogdelhofdelgaa.Wire4
open Go Go.RowKit Go.Proofs.Ytogdelhofdelgaa.Print Go.Proofs.YtogdelhofdelgaaW.PrintWords Go.Proofs.YtogdelhofdelgaaW.PrintLast Go.Proofs.YtogdelhofdelgaaW.PrintMore Go.Proofs.Ytogdelhofdelgaa.Len64 Go.Proofs.Ytogdelhofdelgaa.Digits Go.Proofs.Ytogdelhofdelgaa.Wire Go.Proofs.Ytogdelhofdelgaa.WireSpec Go.Proofs.Ytogdelhofdelgaa.Wire2 Go.Proofs.Ytogdelhofdelgaa.Wire3
/-- A number's bytes, of a width. -/
def fx (w n : Nat) : List Nat := G 256 (fun _ => 0) (w - 1) n
theorem fx_len (w n : Nat) (h : 1 ≤ w) : (fx w n).length = w := by
  unfold fx
  rw [G_len]
  omega
theorem fx_by (w n : Nat) : By (fx w n) := fun x hx => G_lt 256 _ zero_lt n _ x hx
/-- A number of a width may be written. -/
def fxOk (w : Int) (n : Nat) : Prop := 1 ≤ w ∧ w ≤ 8 ∧ n < 256 ^ w.toNat
instance (w : Int) (n : Nat) : Decidable (fxOk w n) := by unfold fxOk; infer_instance
theorem pow256 (w : Nat) : 2 ^ (8 * w) = 256 ^ w := by rw [Nat.pow_mul]
theorem fixed_l0' (n : Nat) : ∀ (j k : Nat) (x0 : List Int), j ≤ 7 → j + 1 < k → x0.length + j ≤ 140737488355000 → wire_Fixed.l0 k (n : Int) x0 (8 * ((j : Int) + 1)) = some (x0 ++ cs (G 256 (fun _ => 0) j n), 0)
  | 0, k, x0, hj, hk, hx => by
    obtain ⟨k, rfl⟩ : ∃ m, k = m + 2 := ⟨k - 2, by omega⟩
    have s0 := shr8 n 0 (by omega)
    rw [show 8 * ((0 : Nat) : Int) = 0 by decide, Nat.pow_zero, Nat.div_one] at s0
    simp only [wire_Fixed.l0]
    rw [if_pos (by omega), show wrap64 (8 * (((0 : Nat) : Int) + 1) - 8) = 0 by decide +kernel, if_pos (by omega), if_pos (by omega), s0, if_neg (by omega)]
    simp [G, cs]
  | j + 1, k, x0, hj, hk, hx => by
    obtain ⟨k, rfl⟩ : ∃ m, k = m + 1 := ⟨k - 1, by omega⟩
    have ih := fixed_l0' n j k (x0 ++ [(((n / 256 ^ (j + 1)) % 256 : Nat) : Int)]) (by omega) (by omega) (by rw [List.length_append, List.length_singleton]; omega)
    simp only [wire_Fixed.l0]
    rw [if_pos (by omega), w64 (by omega) (by omega), show 8 * (((j + 1 : Nat) : Int) + 1) - 8 = 8 * ((j + 1 : Nat) : Int) by omega, if_pos (by omega), if_pos (by omega), shr8 n (j + 1) (by omega), show (((n / 256 ^ (j + 1) : Nat) : Int) % 256) = (((n / 256 ^ (j + 1)) % 256 : Nat) : Int) by omega, show 8 * ((j + 1 : Nat) : Int) = 8 * ((j : Int) + 1) by omega, ih, List.append_assoc]
    rfl
theorem wide_eq (w : Int) : wire_wide.f w = some (decide (1 ≤ w ∧ w ≤ 8)) := by
  unfold wire_wide.f
  by_cases h : w > 0
  · rw [if_pos h]
    congr 1
    rw [decide_eq_decide]
    omega
  · rw [if_neg h, decide_eq_false (by omega)]
theorem len_gt {k : Nat} (hk : 2 ≤ k) (n : Nat) (hn : n < 18446744073709551616) (w : Nat) (hw : w ≤ 8) : ∃ L : Int, bits_Len64.f k (n : Int) = some L ∧ (decide (L > 8 * (w : Int)) = decide (256 ^ w ≤ n)) := by
  obtain ⟨k, rfl⟩ : ∃ m, k = m + 1 := ⟨k - 1, by omega⟩
  by_cases h0 : n = 0
  · subst h0
    refine ⟨0, len_zero (by omega), ?_⟩
    have := Nat.pow_pos (n := w) (show 0 < 256 by decide)
    rw [decide_eq_decide]
    omega
  · obtain ⟨L, e, l1, l2, l3, l4⟩ := len_eq (k := k) (x := (n : Int)) (by omega) (by omega)
    refine ⟨L, e, ?_⟩
    have l3 : 2 ^ (L - 1) ≤ n := by
      have : ((2 ^ (L - 1) : Nat) : Int) ≤ n := by simpa using l3
      omega
    have l4 : n < 2 ^ L := by
      have e2 : 2 ^ L = 2 ^ (L - 1) * 2 := by rw [← Nat.pow_succ, show (L - 1).succ = L by omega]
      have : (n : Int) < ((2 ^ (L - 1) * 2 : Nat) : Int) := by simpa using l4
      omega
    rw [decide_eq_decide, ← pow256]
    constructor
    · intro h
      exact Nat.le_trans (Nat.pow_le_pow_right (by decide) (by omega)) l3
    · intro h
      by_cases c : 8 * w < L
      · omega
      · have := Nat.pow_le_pow_right (n := 2) (by decide) (show L ≤ 8 * w by omega)
        omega
theorem Fixed_eq {k : Nat} (b : List Nat) (w : Int) (n : Nat) (hn : n < 18446744073709551616) (hb : b.length ≤ 10000000000000) (hk : 40 ≤ k) :
    wire_Fixed.f k (cs b) w (n : Int) = some (if fxOk w n then (cs (b ++ fx w.toNat n), 0) else ([], 1)) := by
  obtain ⟨k, rfl⟩ : ∃ m, k = m + 1 := ⟨k - 1, by omega⟩
  unfold wire_Fixed.f
  rw [wide_eq, Option.bind_some]
  by_cases hw : 1 ≤ w ∧ w ≤ 8
  case neg =>
    rw [decide_eq_false hw, if_neg (by decide), if_neg (fun h => hw ⟨h.1, h.2.1⟩)]
    simp only [wire_Fixed.j0]
    rw [if_pos trivial]
  obtain ⟨u, rfl⟩ : ∃ u : Nat, w = u := ⟨w.toNat, by omega⟩
  obtain ⟨L, eL, dL⟩ := len_gt (k := k + 1) (by omega) n hn u (by omega)
  rw [decide_eq_true hw, if_pos rfl, eL, Option.bind_some, w64 (x := 8 * (u : Int)) (by omega) (by omega), dL]
  simp only [wire_Fixed.j0]
  by_cases hp : 256 ^ u ≤ n
  · rw [decide_eq_true hp, if_pos rfl, if_neg (fun h => by have := h.2.2; rw [Int.toNat_natCast] at this; omega)]
  · rw [decide_eq_false hp, if_neg (by decide), clone_cs _ (by omega), Option.bind_some, if_pos ⟨hw.1, hw.2, by rw [Int.toNat_natCast]; omega⟩]
    have g : slices_Grow_byte_byte.f (cs b) (u : Int) = some (cs b) := by
      unfold slices_Grow_byte_byte.f
      rw [if_pos (by omega), if_pos (by rw [cs_len]; omega)]
    rw [g, Option.bind_some, w64 (by omega) (by omega)]
    have := fixed_l0' n (u - 1) k (cs b) (by omega) (by omega) (by rw [cs_len]; omega)
    rw [show 8 * (((u - 1 : Nat) : Int) + 1) = 8 * (u : Int) by omega] at this
    rw [this, cs_append, Int.toNat_natCast]
    rfl
/-- What bytes are, as a number. -/
def bv (l : List Nat) : Nat := l.foldl (fun n c => n * 256 + c) 0
theorem bv_from (l : List Nat) (n : Nat) : l.foldl (fun n c => n * 256 + c) n = n * 256 ^ l.length + bv l := by
  induction l generalizing n with
  | nil => simp [bv]
  | cons c l ih =>
    unfold bv
    rw [List.foldl_cons, List.foldl_cons, ih, ih (0 * 256 + c), List.length_cons, Nat.pow_succ, Nat.zero_mul, Nat.zero_add]
    rw [Nat.add_mul, Nat.mul_assoc, Nat.mul_comm 256]
    omega
theorem bv_lt (l : List Nat) (h : By l) : bv l < 256 ^ l.length := by
  induction l with
  | nil => decide
  | cons c l ih =>
    have hc := h c (by simp)
    have := ih h.tail
    unfold bv
    rw [List.foldl_cons, bv_from, List.length_cons, Nat.pow_succ, Nat.zero_mul, Nat.zero_add]
    have := Nat.mul_le_mul_right (256 ^ l.length) (show c + 1 ≤ 256 by omega)
    rw [Nat.add_mul, Nat.one_mul, Nat.mul_comm 256] at this
    omega
theorem bv_G (n : Nat) : ∀ j, bv (G 256 (fun _ => 0) j n) = n % 256 ^ (j + 1)
  | 0 => by simp [bv, G]
  | j + 1 => by
    unfold bv
    rw [G, List.foldl_cons, bv_from, G_len, bv_G n j, mod_top 256 (by decide) n j]
    simp
theorem bv_fx (w n : Nat) (h : 1 ≤ w) (h2 : n < 256 ^ w) : bv (fx w n) = n := by
  unfold fx
  rw [bv_G, show w - 1 + 1 = w by omega, Nat.mod_eq_of_lt h2]
def tf (l : List Nat) (a w : Int) : Int × Int × Int := if a < 0 ∨ ¬ (1 ≤ w ∧ w ≤ 8) then (0, 0, 1) else if a > (l.length : Int) - w then (0, 0, 3) else ((bv ((l.take (a + w).toNat).drop a.toNat) : Int), a + w, 0)
theorem tf_l0 (a w : Int) (ha : 0 ≤ a ∧ a ≤ 10000000000000) (hw : 1 ≤ w ∧ w ≤ 8) (l : List Nat) (hl : By l) (h8 : l.length ≤ 8) (d : Nat) : ∀ (k i : Nat), i ≤ l.length → l.length - i = d → d < k →
    wire_TakeFixed.l0 k a w (bv (l.take i) : Int) (cs l) (l.length : Int) (i : Int) = some ((bv l : Int), a + w, 0) := by
  induction d with
  | zero =>
    intro k i hi hd hk
    obtain ⟨k, rfl⟩ : ∃ m, k = m + 1 := ⟨k - 1, by omega⟩
    simp only [wire_TakeFixed.l0]
    rw [if_neg (by omega), List.take_of_length_le (by omega), w64 (by omega) (by omega)]
  | succ d ih =>
    intro k i hi hd hk
    obtain ⟨k, rfl⟩ : ∃ m, k = m + 1 := ⟨k - 1, by omega⟩
    have hlt : i < l.length := by omega
    have hc : l.getD i 0 < 256 := hl _ (getD_mem l i hlt)
    have hb := bv_lt (l.take i) (hl.take i)
    have hp : 256 ^ (l.take i).length ≤ 256 ^ 7 := Nat.pow_le_pow_right (by decide) (by rw [List.length_take]; omega)
    have hp7 : 256 ^ 7 = 72057594037927936 := by decide
    have e : bv (l.take (i + 1)) = bv (l.take i) * 256 + l.getD i 0 := by
      rw [List.take_add_one, List.getD_eq_getElem?_getD, List.getElem?_eq_getElem hlt]
      unfold bv
      rw [List.foldl_append]
      rfl
    simp only [wire_TakeFixed.l0]
    rw [if_pos (by omega), if_pos (by omega), cs_len, if_pos (by omega), cs_rd, u64_in (x := (bv (l.take i) : Int) * 256) (by omega) (by omega), u64_in (x := ((l.getD i 0 : Nat) : Int)) (by omega) (by omega), u64_in (by omega) (by omega), w64 (x := (i : Int) + 1) (by omega) (by omega), show (i : Int) + 1 = ((i + 1 : Nat) : Int) by omega, show (bv (l.take i) : Int) * 256 + ((l.getD i 0 : Nat) : Int) = ((bv (l.take (i + 1)) : Nat) : Int) by rw [e]; omega]
    exact ih k (i + 1) (by omega) (by omega) (by omega)
theorem TakeFixed_eq {k : Nat} (l : List Nat) (hl : By l) (hn : l.length ≤ 1000000000000) (a w : Int) (hk : 20 ≤ k) : wire_TakeFixed.f k (cs l) a w = some (tf l a w) := by
  obtain ⟨k, rfl⟩ : ∃ m, k = m + 1 := ⟨k - 1, by omega⟩
  unfold wire_TakeFixed.f tf
  by_cases h1 : a < 0
  · rw [if_pos h1, if_pos (Or.inl h1)]
    simp only [wire_TakeFixed.j0]
    rw [if_pos trivial]
  rw [if_neg h1, wide_eq, Option.bind_some]
  by_cases hw : 1 ≤ w ∧ w ≤ 8
  case neg =>
    rw [decide_eq_false hw, if_pos (Or.inr hw)]
    simp only [wire_TakeFixed.j0]
    rw [if_pos (by decide)]
  rw [decide_eq_true hw, if_neg (fun h => h.elim h1 (fun h => h hw))]
  simp only [wire_TakeFixed.j0]
  rw [if_neg (by decide), cs_len, w64 (x := (l.length : Int) - w) (by omega) (by omega)]
  by_cases h2 : a > (l.length : Int) - w
  · rw [if_pos h2, if_pos h2]
  · rw [if_neg h2, if_neg h2, if_pos (by omega), w64 (by omega) (by omega), if_pos (by omega), if_pos (by omega), cs_take, cs_drop, cs_len]
    have := tf_l0 a w (by omega) hw ((l.take (a + w).toNat).drop a.toNat) ((hl.take _).drop _) (by rw [List.length_drop, List.length_take]; omega) _ k 0 (by omega) rfl (by rw [List.length_drop, List.length_take]; omega)
    rw [show ((bv (((l.take (a + w).toNat).drop a.toNat).take 0) : Nat) : Int) = 0 from rfl, show ((0 : Nat) : Int) = 0 from rfl] at this
    rw [this]
end Go.Proofs.Ytogdelhofdelgaa.Wire4
