/- Any sealed text's sum of 24 bits is nought; a text with a bit turned is not that text, and turned again is; a sum of 24 bits is less than 2 to the 24. Conditions: none but the kinds of the values. -/
import Derived.Test.YtjohinenaamdcaaCrcRef
import Derived.Test.YtjohinenaamdcaaPrint0
import Derived.Test.YtjohinenaamdcaaPrint2
import Derived.Test.YtjohinenaamdcaaPrint8
set_option linter.unusedVariables false
set_option linter.unusedSimpArgs false
namespace Go.Proofs.Ytjohinenaamdcaa.Pure
open Go Go.RowKit Go.Proofs.Ytjohinenaamdcaa.Print Go.Proofs.YtjohinenaamdcaaW.PrintWords Go.Proofs.YtjohinenaamdcaaW.PrintLast Go.Proofs.YtjohinenaamdcaaW.PrintMore Go.Proofs.Ytjohinenaamdcaa.Crc Go.Proofs.Ytjohinenaamdcaa.CrcFn
theorem live3 : palletlaw03_live.f = some true := by decide +kernel
theorem set_ne {l : List Nat} {k v : Nat} (hk : k < l.length) (h : v ≠ l.getD k 0) : l.set k v ≠ l := by
  intro e
  apply h
  have := congrArg (fun m => m.getD k 0) e
  simp only [List.getD_eq_getElem?_getD] at this
  rw [List.getElem?_set_self hk] at this
  rw [List.getD_eq_getElem?_getD]
  exact this
theorem top_ne (j : Nat) (h : j < 8) : 128 >>> j ≠ 0 := by
  have : ∀ j : Fin 8, 128 >>> j.val ≠ 0 := by decide
  exact this ⟨j, h⟩
theorem turn_ne {l : List Nat} {b : Nat} (hb : b / 8 < l.length) : turn l b ≠ l := by
  unfold turn
  refine set_ne hb fun e => top_ne (b % 8) (by omega) ?_
  have := congrArg (fun x => l.getD (b / 8) 0 ^^^ x) e
  simp only [← Nat.xor_assoc, Nat.xor_self, Nat.zero_xor] at this
  exact this
theorem turn_turn {l : List Nat} {b : Nat} (hb : b / 8 < l.length) : turn (turn l b) b = l := by
  unfold turn
  rw [List.set_set, List.getD_eq_getElem?_getD (l := l.set _ _), List.getElem?_set_self hb, Option.getD_some, Nat.xor_assoc, Nat.xor_self, Nat.xor_zero, List.getD_eq_getElem?_getD, List.getElem?_eq_getElem hb, Option.getD_some, List.set_getElem_self]
theorem tails_j0 (l : List Nat) (hl : By l) (hn : l.length ≤ 5000) (k : Nat) : palletlaw03_CrcTails.j0 (k + 1) (cs l) true (sl24 l).1 (sl24 l).2 false = some true := by
  have e : sl24 l = (cs (l ++ b3 (r24 l)), 0) := by
    unfold sl24
    rw [if_neg (by omega)]
  have hb : By (l ++ b3 (r24 l)) := By.append hl (b3_by _)
  have e3 : (l ++ b3 (r24 l)).length = l.length + 3 := by rw [List.length_append]; rfl
  have e2 : r24 (l ++ b3 (r24 l)) = 0 := (good24_iff hb (by omega)).1 (sealed24 hl)
  rw [palletlaw03_CrcTails.j0, if_neg (by decide), if_pos rfl, e, if_pos rfl, Sum24_eq _ hb (by omega), Option.bind_some, e2, if_pos (show ((0 : Nat) : Int) = 0 from rfl), Sum24_eq l hl (by omega), Option.bind_some]
  have := r24_lt hl
  rw [decide_eq_true (by omega)]
theorem CrcTails : ∀ (l0 : List Int) (a1 : Int), l0.length ≤ maxLen → l0.length * 1 ≤ 140737488351232 → (∀ y ∈ l0, (Lit.int .u8 y).wf = true) → (Lit.int .i64 a1).wf = true → ∃ k, palletlaw03_CrcTails.f k l0 a1 = some true := by
  intro l0 a1 hm h1 hy ha
  obtain ⟨l, rfl, hl⟩ := bytes_of hy
  refine ⟨10, ?_⟩
  unfold palletlaw03_CrcTails.f
  rw [live3, Option.bind_some, if_pos rfl, cs_len]
  by_cases h : (l.length : Int) > 5000
  · rw [if_pos h]
  have hn : l.length ≤ 10000000000 := by omega
  have hA := (i64_le ha).2
  rw [if_neg h, Seal24_sl l hl hn, Option.bind_some, Turn_eq l hl hn a1 hA, Option.bind_some]
  by_cases g : a1 < 0 ∨ (l.length : Int) ≤ a1 / 8
  · have e : tr l a1 = (cs [], 1) := by
      unfold tr
      rw [if_pos g]
      rfl
    rw [e, Turn_eq [] By.nil (by decide) a1 hA, Option.bind_some, if_neg (by decide)]
    exact tails_j0 l hl (by omega) 9
  · have e : tr l a1 = (cs (turn l a1.toNat), 0) := by
      unfold tr
      rw [if_neg g]
    have ht : By (turn l a1.toNat) := turn_by hl _
    have e2 : tr (turn l a1.toNat) a1 = (cs l, 0) := by
      unfold tr
      rw [turn_len, if_neg g, turn_turn (by omega)]
    rw [e, Turn_eq _ ht (by rw [turn_len]; exact hn) a1 hA, Option.bind_some, e2, if_pos rfl, if_pos rfl, Same_self, Option.bind_some, if_pos rfl, Same_eq ht hl, Option.bind_some, decide_eq_false (turn_ne (by omega))]
    exact tails_j0 l hl (by omega) 9
end Go.Proofs.Ytjohinenaamdcaa.Pure
