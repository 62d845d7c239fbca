/- The trimmed middle of some numbers: plain facts. -/
import Derived.IntWalk
import Derived.Laws.Bits64
import Derived.Lib.Slices
import Derived.Test.YticlckhgobegnaaPrint0
set_option linter.unusedVariables false
set_option linter.unusedSimpArgs false
namespace Go.Proofs.Yticlckhgobegnaa.Fta09
open Go
theorem i64_in {x : Int} (h : -9223372036854775808 ≤ x) (h2 : x ≤ 9223372036854775807) : IntKind.i64.wrap x = x := by
  simp [IntKind.wrap, IntKind.bits, IntKind.signed]
  omega
theorem nat_and_xor : ∀ (n a b : Nat), a < 2 ^ n → a + b = 2 * (a &&& b) + (a ^^^ b)
  | 0, a, b, h => by
    have : a = 0 := by omega
    subst this
    simp
  | n + 1, a, b, h => by
    have ih := nat_and_xor n (a / 2) (b / 2) (by omega)
    rw [← Nat.and_div_two, ← Nat.xor_div_two] at ih
    have h3 := Nat.and_mod_two_eq_one (a := a) (b := b)
    have h4 := Nat.xor_mod_two_eq_one (a := a) (b := b)
    generalize a &&& b = u at *
    generalize a ^^^ b = v at *
    have hv := Nat.mod_two_eq_zero_or_one v
    have hu := Nat.mod_two_eq_zero_or_one u
    rcases Nat.mod_two_eq_zero_or_one a with ha | ha <;> rcases Nat.mod_two_eq_zero_or_one b with hb | hb <;> rw [ha, hb] at h3 h4 <;> simp only [true_and, and_true, false_and, and_false, iff_true, iff_false, not_true, not_false_iff, Nat.zero_ne_one, and_self, iff_self] at h3 h4 <;> omega
theorem hi_bit (a b : Nat) (ha : a < 2 ^ 64) (hb : b < 2 ^ 64) : (2 ^ 63 ≤ a &&& b ↔ 2 ^ 63 ≤ a ∧ 2 ^ 63 ≤ b) ∧ (2 ^ 63 ≤ a ^^^ b ↔ ¬ (2 ^ 63 ≤ a ↔ 2 ^ 63 ≤ b)) := by
  have h1 := Nat.and_div_two_pow (a := a) (b := b) (n := 63)
  have h2 := Nat.xor_div_two_pow (a := a) (b := b) (n := 63)
  have xa : a / 2 ^ 63 = 0 ∨ a / 2 ^ 63 = 1 := by omega
  have xb : b / 2 ^ 63 = 0 ∨ b / 2 ^ 63 = 1 := by omega
  rcases xa with xa | xa <;> rcases xb with xb | xb <;> rw [xa, xb] at h1 h2 <;> simp at h1 h2 <;> omega
theorem wrap_nat (n : Nat) (h : n < 2 ^ 64) : IntKind.i64.wrap (n : Int) = ((if 2 ^ 63 ≤ n then (n : Int) - 2 ^ 64 else (n : Int)) : Int) := by
  simp [IntKind.wrap, IntKind.bits, IntKind.signed]
  split <;> omega
theorem of_nat (a : Int) (h : -9223372036854775808 ≤ a) (h2 : a ≤ 9223372036854775807) : ∃ A : Nat, (BitVec.ofInt 64 a).toNat = A ∧ A < 2 ^ 64 ∧ a = ((if 2 ^ 63 ≤ A then (A : Int) - 2 ^ 64 else (A : Int)) : Int) := by
  refine ⟨_, rfl, BitVec.isLt _, ?_⟩
  rw [BitVec.toNat_ofInt]
  split <;> omega
/-- The middle of two numbers. -/
def mid (a b : Int) : Int := (a + b) / 2
theorem middle_eq (a b : Int) (ha : -9223372036854775808 ≤ a) (ha2 : a ≤ 9223372036854775807) (hb : -9223372036854775808 ≤ b) (hb2 : b ≤ 9223372036854775807) :
    IntKind.i64.wrap (Go.bits .and .i64 a b + Go.bits .xor .i64 a b / 2) = mid a b := by
  obtain ⟨A, hA, lA, eA⟩ := of_nat a ha ha2
  obtain ⟨B, hB, lB, eB⟩ := of_nat b hb hb2
  have e1 : Go.bits .and .i64 a b = IntKind.i64.wrap ((A &&& B : Nat) : Int) := by
    show IntKind.i64.wrap ((BitVec.ofInt 64 a &&& BitVec.ofInt 64 b).toNat : Int) = _
    rw [BitVec.toNat_and, hA, hB]
  have e2 : Go.bits .xor .i64 a b = IntKind.i64.wrap ((A ^^^ B : Nat) : Int) := by
    show IntKind.i64.wrap ((BitVec.ofInt 64 a ^^^ BitVec.ofInt 64 b).toNat : Int) = _
    rw [BitVec.toNat_xor, hA, hB]
  have l1 : A &&& B < 2 ^ 64 := Nat.and_lt_two_pow _ lB
  have l2 : A ^^^ B < 2 ^ 64 := Nat.xor_lt_two_pow lA lB
  rw [e1, e2, wrap_nat _ l1, wrap_nat _ l2]
  have h1 := nat_and_xor 64 A B lA
  obtain ⟨b1, b2⟩ := hi_bit A B lA lB
  generalize A &&& B = U at *
  generalize A ^^^ B = V at *
  unfold mid
  have key : ((if 2 ^ 63 ≤ U then (U : Int) - 2 ^ 64 else (U : Int) : Int) + (if 2 ^ 63 ≤ V then (V : Int) - 2 ^ 64 else (V : Int) : Int) / 2) = (a + b) / 2 := by
    by_cases cA : 2 ^ 63 ≤ A <;> by_cases cB : 2 ^ 63 ≤ B <;> simp only [cA, cB, and_self, and_true, true_and, and_false, false_and, iff_true, true_iff, iff_false, false_iff, not_true, not_false_iff, if_true, if_false] at b1 b2 eA eB <;> rw [eA, eB] <;> (repeat' split) <;> omega
  rw [key]
  exact i64_in (by omega) (by omega)
theorem mid_shift (a b c : Int) : mid (a + c) (b + c) = mid a b + c := by
  unfold mid
  omega
/-! Sorted. -/
def srt (l : List Int) : List Int := l.mergeSort fun x y => decide (x ≤ y)
theorem srt_perm (l : List Int) : (srt l).Perm l := List.mergeSort_perm _ _
theorem srt_len (l : List Int) : (srt l).length = l.length := List.length_mergeSort l
theorem srt_le (l : List Int) : (srt l).Pairwise (· ≤ ·) := by
  have := List.pairwise_mergeSort (le := fun x y : Int => decide (x ≤ y)) (fun a b c h1 h2 => by simp only [decide_eq_true_eq] at *; omega) (fun a b => by simp only [Bool.or_eq_true, decide_eq_true_eq]; omega) l
  exact this.imp fun h => by simpa using h
theorem srt_eq {l s : List Int} (hs : s.Pairwise (· ≤ ·)) (hp : s.Perm l) : srt l = s :=
  List.Perm.eq_of_pairwise (le := fun a b => a ≤ b) (fun a b _ _ h1 h2 => by omega) (srt_le l) hs ((srt_perm l).trans hp.symm)
theorem srt_shift (l : List Int) (c : Int) : srt (l.map (· + c)) = (srt l).map (· + c) :=
  srt_eq (List.pairwise_map.2 ((srt_le l).imp fun h => by omega)) ((srt_perm l).map _)
theorem srt_rev (l : List Int) : srt l.reverse = srt l :=
  srt_eq (srt_le l) ((srt_perm l).trans (List.reverse_perm l).symm)
theorem srt_zeros (n : Nat) : srt (List.replicate n 0) = List.replicate n 0 :=
  srt_eq (List.pairwise_replicate.2 (Or.inr (by omega))) (List.Perm.refl _)
theorem srt_mem {l : List Int} {x : Int} : x ∈ srt l ↔ x ∈ l := (srt_perm l).mem_iff
/-! In order: the k-th. -/
theorem kth_le {S : List Int} (hS : S.Pairwise (· ≤ ·)) (v : Int) (k : Nat) (hk : k < S.length) (hc : k < S.countP fun x => decide (x ≤ v)) : S[k] ≤ v := by
  induction S generalizing k with
  | nil => simp at hk
  | cons a S ih =>
    rw [List.pairwise_cons] at hS
    rw [List.countP_cons] at hc
    cases k with
    | zero =>
      by_cases ha : a ≤ v
      · exact ha
      · have : (S.countP fun x => decide (x ≤ v)) = 0 := by
          rw [List.countP_eq_zero]
          intro x hx
          have := hS.1 x hx
          simp only [decide_eq_true_eq]
          omega
        rw [this] at hc
        simp [ha] at hc
    | succ k =>
      simp only [List.getElem_cons_succ]
      refine ih hS.2 k (by simp at hk; omega) ?_
      by_cases ha : a ≤ v
      · simp only [ha, decide_true, if_true] at hc
        omega
      · simp only [ha, decide_false] at hc
        simp at hc
        omega
theorem kth_ge {S : List Int} (hS : S.Pairwise (· ≤ ·)) (v : Int) (k : Nat) (hk : k < S.length) (hc : S.length - 1 - k < S.countP fun x => decide (v ≤ x)) : v ≤ S[k] := by
  have hR : (S.map fun x => -x).reverse.Pairwise (· ≤ ·) := by
    rw [List.pairwise_reverse, List.pairwise_map]
    exact hS.imp fun h => by omega
  have := kth_le hR (-v) (S.length - 1 - k) (by simp; omega) (by
    rw [List.countP_reverse, List.countP_map]
    refine Nat.lt_of_lt_of_le hc (Nat.le_of_eq ?_)
    congr 1
    funext x
    simp)
  rw [List.getElem_reverse] at this
  simp only [List.length_map, List.getElem_map] at this
  have e : S.length - 1 - (S.length - 1 - k) = k := by omega
  simp only [e] at this
  omega
end Go.Proofs.Yticlckhgobegnaa.Fta09
