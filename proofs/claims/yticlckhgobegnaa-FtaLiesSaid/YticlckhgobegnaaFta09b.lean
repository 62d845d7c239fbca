/- The mean of some numbers, as printed. -/
import Derived.Test.YticlckhgobegnaaFta09
import Derived.Test.YticlckhgobegnaaPrint0
import Derived.Test.YticlckhgobegnaaPrint9
set_option linter.unusedVariables false
set_option linter.unusedSimpArgs false
namespace Go.Proofs.Yticlckhgobegnaa.Fta09
open Go Go.RowKit Go.Proofs.Yticlckhgobegnaa.Print Go.Proofs.YticlckhgobegnaaW.PrintWords Go.Proofs.YticlckhgobegnaaW.PrintLast Go.Proofs.YticlckhgobegnaaW.PrintMore
theorem wf64 {x : Int} (h : (Lit.int .i64 x).wf = true) : -9223372036854775808 ≤ x ∧ x ≤ 9223372036854775807 := by
  simpa [Lit.wf, IntKind.min, IntKind.max, IntKind.signed, IntKind.bits] using h
theorem i64 {x : Int} (h : -9223372036854775808 ≤ x) (h2 : x ≤ 9223372036854775807) : wrap64 x = x := by unfold wrap64; omega
theorem w_eq (x : Int) : wrap64 x = IntKind.i64.wrap x := by
  simp [wrap64, IntKind.wrap, IntKind.bits, IntKind.signed]
  split <;> omega
theorem gD {l : List Int} {k : Nat} (h : k < l.length) : l.getD k 0 = l[k] := by
  simp [h]
theorem gD0 {l : List Int} {k : Nat} (h : l.length ≤ k) : l.getD k 0 = 0 := by
  simp [h]
/-- The second least, or the least of two. -/
def lo (l : List Int) : Int := (srt l).getD (if 2 < l.length then 1 else 0) 0
/-- The second greatest, or the greater of two. -/
def hi (l : List Int) : Int := (srt l).getD (if 2 < l.length then l.length - 2 else l.length - 1) 0
def avg (l : List Int) : Int × Int := if 64 < l.length then (0, 7) else if l.length = 0 then (0, 8) else (mid (lo l) (hi l), 0)
def W (l : List Int) : Prop := ∀ y ∈ l, -9223372036854775808 ≤ y ∧ y ≤ 9223372036854775807
theorem getD_W {l : List Int} (h : W l) (k : Nat) : -9223372036854775808 ≤ (srt l).getD k 0 ∧ (srt l).getD k 0 ≤ 9223372036854775807 := by
  by_cases hk : k < (srt l).length
  · rw [gD hk]
    exact h _ (srt_mem.1 (List.getElem_mem _))
  · rw [gD0 (by omega)]
    omega
theorem avg_eq (l : List Int) (h : W l) : fta_Average.f l = some (avg l) := by
  have hs : fta_srt l = srt l := rfl
  unfold fta_Average.f fta_Trim.f avg
  rw [hs]
  by_cases h1 : l.length ≤ 64
  · rw [if_pos h1, if_neg (show ¬ 64 < l.length by omega)]
    by_cases h2 : 2 < l.length
    · rw [if_pos h2, Option.bind_some, if_pos rfl, if_neg (show ¬ l.length = 0 by omega)]
      have hl : (((srt l).take (l.length - 1)).drop 1).length = l.length - 2 := by
        rw [List.length_drop, List.length_take, srt_len]
        omega
      dsimp only
      rw [hl, if_neg (by omega), if_pos (by omega), i64 (by omega) (by omega), if_pos (by omega), if_pos (by omega)]
      have e0 : rd (((srt l).take (l.length - 1)).drop 1) 0 = lo l := by
        unfold rd lo
        rw [if_pos h2]
        simp only [List.getD_eq_getElem?_getD, List.getElem?_drop, List.getElem?_take]
        rw [if_pos (by simp; omega)]
        rfl
      have e1 : rd (((srt l).take (l.length - 1)).drop 1) (((l.length - 2 : Nat) : Int) - 1) = hi l := by
        unfold rd hi
        rw [if_pos h2]
        simp only [List.getD_eq_getElem?_getD, List.getElem?_drop, List.getElem?_take]
        rw [if_pos (by omega), show 1 + (((l.length - 2 : Nat) : Int) - 1).toNat = l.length - 2 by omega]
      rw [e0, e1]
      unfold fta_Middle.f
      have a1 : -9223372036854775808 ≤ lo l ∧ lo l ≤ 9223372036854775807 := getD_W h _
      have a2 : -9223372036854775808 ≤ hi l ∧ hi l ≤ 9223372036854775807 := getD_W h _
      rw [Option.bind_some]
      exact congrArg (fun x => some (x, (0 : Int))) ((w_eq _).trans (middle_eq _ _ a1.1 a1.2 a2.1 a2.2))
    · rw [if_neg h2, Option.bind_some, if_pos rfl]
      dsimp only
      rw [srt_len]
      by_cases h3 : l.length = 0
      · rw [if_pos (by omega), if_pos h3]
      · rw [if_neg (by omega), if_neg h3, if_pos (by omega), i64 (by omega) (by omega), if_pos (by omega), if_pos (by omega)]
        have e0 : rd (srt l) 0 = lo l := by
          unfold rd lo
          rw [if_neg h2]
          rfl
        have e1 : rd (srt l) ((l.length : Int) - 1) = hi l := by
          unfold rd hi
          rw [if_neg h2, show ((l.length : Int) - 1).toNat = l.length - 1 by omega]
        rw [e0, e1]
        unfold fta_Middle.f
        have a1 : -9223372036854775808 ≤ lo l ∧ lo l ≤ 9223372036854775807 := getD_W h _
        have a2 : -9223372036854775808 ≤ hi l ∧ hi l ≤ 9223372036854775807 := getD_W h _
        rw [Option.bind_some]
        exact congrArg (fun x => some (x, (0 : Int))) ((w_eq _).trans (middle_eq _ _ a1.1 a1.2 a2.1 a2.2))
  · rw [if_neg h1, if_pos (show 64 < l.length by omega), Option.bind_some, if_neg (by simp)]
theorem avg_shift (l : List Int) (c : Int) : avg (l.map (· + c)) = if (avg l).2 = 0 then ((avg l).1 + c, 0) else avg l := by
  unfold avg
  rw [List.length_map]
  by_cases h1 : 64 < l.length
  · rw [if_pos h1, if_pos h1, if_neg (by simp)]
  · rw [if_neg h1, if_neg h1]
    by_cases h2 : l.length = 0
    · rw [if_pos h2, if_pos h2, if_neg (by simp)]
    · rw [if_neg h2, if_neg h2, if_pos rfl]
      have g : ∀ k, k < l.length → ((srt l).map (· + c)).getD k 0 = (srt l).getD k 0 + c := by
        intro k hk
        rw [gD (by rw [List.length_map, srt_len]; exact hk), gD (by rw [srt_len]; exact hk), List.getElem_map]
      have e0 : lo (l.map (· + c)) = lo l + c := by
        unfold lo
        rw [srt_shift, List.length_map]
        exact g _ (by split <;> omega)
      have e1 : hi (l.map (· + c)) = hi l + c := by
        unfold hi
        rw [srt_shift, List.length_map]
        exact g _ (by split <;> omega)
      rw [e0, e1, mid_shift]
theorem avg_rev (l : List Int) : avg l.reverse = avg l := by
  unfold avg lo hi
  rw [srt_rev, List.length_reverse]
theorem avg_zeros (n : Nat) (h : n ≤ 64) (h0 : 0 < n) : avg (List.replicate n 0) = (0, 0) := by
  unfold avg
  rw [List.length_replicate, if_neg (by omega), if_neg (by omega)]
  have g : ∀ k, (List.replicate n (0 : Int)).getD k 0 = 0 := by
    intro k
    rw [List.getD_eq_getElem?_getD, List.getElem?_replicate]
    split <;> rfl
  unfold lo hi
  rw [srt_zeros, g, g]
  rfl
theorem live9 : palletlaw09_live.f = some true := by
  unfold palletlaw09_live.f
  have hw : W [5, -100, 7, 100] := by
    intro y hy
    simp only [List.mem_cons, List.not_mem_nil, or_false] at hy
    omega
  have hs : srt [5, -100, 7, 100] = [-100, 5, 7, 100] := srt_eq (by decide) (by decide)
  rw [avg_eq _ hw]
  have : avg [5, -100, 7, 100] = (6, 0) := by
    unfold avg lo hi
    rw [hs]
    rfl
  rw [this, Option.bind_some, if_pos rfl]
  rfl
end Go.Proofs.Yticlckhgobegnaa.Fta09
