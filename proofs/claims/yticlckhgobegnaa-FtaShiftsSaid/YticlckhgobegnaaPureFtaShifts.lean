/- All numbers greater by the same have a mean greater by it, and the same spread; the other way round they have the same mean. Conditions: none but that each number is of its kind, and the list's length a slice's. -/
import Derived.Test.YticlckhgobegnaaFta09b
import Derived.Test.YticlckhgobegnaaPrint0
import Derived.Test.YticlckhgobegnaaPrint11
import Derived.Test.YticlckhgobegnaaPrint13
set_option linter.unusedVariables false
set_option linter.unusedSimpArgs false
namespace Go.Proofs.Yticlckhgobegnaa.Pure
open Go Go.RowKit Go.Proofs.Yticlckhgobegnaa.Print Go.Proofs.YticlckhgobegnaaW.PrintWords Go.Proofs.YticlckhgobegnaaW.PrintLast Go.Proofs.YticlckhgobegnaaW.PrintMore Go.Proofs.Yticlckhgobegnaa.Fta09
theorem wf32 {x : Int} (h : (Lit.int .i32 x).wf = true) : -2147483648 ≤ x ∧ x ≤ 2147483647 := by
  simpa [Lit.wf, IntKind.min, IntKind.max, IntKind.signed, IntKind.bits] using h
theorem fold_max (c : Int) (l : List Int) : ∀ a : Int, (l.map (· + c)).foldl max (a + c) = l.foldl max a + c := by
  induction l with
  | nil => intro a; rfl
  | cons b l ih =>
    intro a
    rw [List.map_cons, List.foldl_cons, List.foldl_cons, show max (a + c) (b + c) = max a b + c by omega]
    exact ih _
theorem fold_min (c : Int) (l : List Int) : ∀ a : Int, (l.map (· + c)).foldl min (a + c) = l.foldl min a + c := by
  induction l with
  | nil => intro a; rfl
  | cons b l ih =>
    intro a
    rw [List.map_cons, List.foldl_cons, List.foldl_cons, show min (a + c) (b + c) = min a b + c by omega]
    exact ih _
theorem spread_shift (l : List Int) (c : Int) : fta_Spread.f (l.map (· + c)) = fta_Spread.f l ∧ ∃ s, fta_Spread.f l = some s := by
  unfold fta_Spread.f
  rw [List.length_map]
  by_cases h1 : (l.length : Int) > 64
  · rw [if_pos h1, if_pos h1]
    exact ⟨rfl, _, rfl⟩
  · rw [if_neg h1, if_neg h1]
    by_cases h2 : (l.length : Int) = 0
    · rw [if_pos h2, if_pos h2]
      exact ⟨rfl, _, rfl⟩
    · rw [if_neg h2, if_neg h2]
      unfold slices_Max_int64_int64.f slices_Min_int64_int64.f
      rw [List.length_map, if_pos (by omega), if_pos (by omega), if_pos (by omega), if_pos (by omega)]
      have e1 : Lib.maxOf (l.map (· + c)) = Lib.maxOf l + c := by
        cases l with
        | nil => simp at h2
        | cons a l => exact fold_max c (a :: l) a
      have e2 : Lib.minOf (l.map (· + c)) = Lib.minOf l + c := by
        cases l with
        | nil => simp at h2
        | cons a l => exact fold_min c (a :: l) a
      rw [e1, e2, Option.bind_some, Option.bind_some, Option.bind_some, Option.bind_some, show Lib.maxOf l + c - (Lib.minOf l + c) = Lib.maxOf l - Lib.minOf l by omega]
      exact ⟨rfl, _, rfl⟩
theorem rdn (l : List Int) (i : Nat) : rd l (i : Int) = l.getD i 0 := by
  unfold rd
  rw [Int.toNat_natCast]
theorem shifts_l0 (l : List Int) (hl : W l) (by_ : Int) (h1 : -2147483648 ≤ by_) (h2 : by_ ≤ 2147483647) (hn : l.length ≤ 200) (d : Nat) : ∀ (k i : Nat), l.length - i = d → i ≤ l.length → d + 1 ≤ k → (∀ y ∈ l.take i, -1152921504606846976 ≤ y ∧ y ≤ 1152921504606846976) →
    palletlaw09_FtaShifts.l0 k l by_ true ((l.map (· + by_)).take i) (l.reverse.take i) l (l.length : Int) (i : Int) = some true := by
  induction d with
  | zero =>
    intro k i hd hil hk hb
    obtain ⟨k, rfl⟩ : ∃ m, k = m + 1 := ⟨k - 1, by omega⟩
    have hie : i = l.length := by omega
    subst hie
    rw [List.take_length] at hb
    have t1 : (l.map (· + by_)).take l.length = l.map (· + by_) := List.take_of_length_le (by rw [List.length_map]; omega)
    have t2 : l.reverse.take l.length = l.reverse := List.take_of_length_le (by rw [List.length_reverse]; omega)
    have w1 : W (l.map (· + by_)) := by
      intro y hy
      obtain ⟨x, hx, rfl⟩ := List.mem_map.1 hy
      have := hb x hx
      omega
    have w2 : W l.reverse := fun y hy => hl y (List.mem_reverse.1 hy)
    obtain ⟨es, s, hs⟩ := spread_shift l by_
    rw [palletlaw09_FtaShifts.l0, if_neg (by omega), t1, t2, avg_eq _ hl, avg_eq _ w1, avg_eq _ w2, es, hs, avg_rev, avg_shift]
    simp only [Option.bind_some, if_true]
    by_cases c : (avg l).2 = 0
    · have hm : -1152921504606846976 ≤ (avg l).1 ∧ (avg l).1 ≤ 1152921504606846976 := by
        unfold avg at c ⊢
        by_cases g1 : 64 < l.length
        · rw [if_pos g1] at c
          simp at c
        · rw [if_neg g1] at c ⊢
          by_cases g2 : l.length = 0
          · rw [if_pos g2] at c
            simp at c
          · rw [if_neg g2]
            have g : ∀ k, k < l.length → -1152921504606846976 ≤ (srt l).getD k 0 ∧ (srt l).getD k 0 ≤ 1152921504606846976 := by
              intro k hk
              rw [gD (by rw [srt_len]; exact hk)]
              exact hb _ (srt_mem.1 (List.getElem_mem _))
            have a1 : -1152921504606846976 ≤ lo l ∧ lo l ≤ 1152921504606846976 := g _ (by split <;> omega)
            have a2 : -1152921504606846976 ≤ hi l ∧ hi l ≤ 1152921504606846976 := g _ (by split <;> omega)
            unfold mid
            dsimp only
            omega
      simp only [c, if_true]
      rw [Go.Proofs.Yticlckhgobegnaa.Fta09.i64 (x := by_) (by omega) (by omega), Go.Proofs.Yticlckhgobegnaa.Fta09.i64 (by omega) (by omega), if_pos rfl]
      simp
    · simp only [c, if_false, if_true]
      simp
  | succ d ih =>
    intro k i hd hil hk hb
    obtain ⟨k, rfl⟩ : ∃ m, k = m + 1 := ⟨k - 1, by omega⟩
    have hil : i < l.length := by omega
    rw [palletlaw09_FtaShifts.l0, if_pos (by omega), if_pos (by omega), if_pos (by omega), rdn, gD hil]
    by_cases g1 : l[i] > 1152921504606846976
    · rw [if_pos g1]
    · rw [if_neg g1]
      by_cases g2 : l[i] < -1152921504606846976
      · rw [if_pos g2]
      · rw [if_neg g2, if_pos (by rw [List.length_take]; omega), Go.Proofs.Yticlckhgobegnaa.Fta09.i64 (x := (l.length : Int) - 1) (by omega) (by omega), Go.Proofs.Yticlckhgobegnaa.Fta09.i64 (x := (l.length : Int) - 1 - (i : Int)) (by omega) (by omega), if_pos (by omega), if_pos (by omega), if_pos (by rw [List.length_take]; omega), Go.Proofs.Yticlckhgobegnaa.Fta09.i64 (x := by_) (by omega) (by omega), Go.Proofs.Yticlckhgobegnaa.Fta09.i64 (x := l[i] + by_) (by omega) (by omega), Go.Proofs.Yticlckhgobegnaa.Fta09.i64 (x := (i : Int) + 1) (by omega) (by omega), show (l.length : Int) - 1 - (i : Int) = ((l.length - 1 - i : Nat) : Int) by omega, rdn, gD (by omega), show (i : Int) + 1 = ((i + 1 : Nat) : Int) by omega]
        have s1 : (l.map (· + by_)).take i ++ [l[i] + by_] = (l.map (· + by_)).take (i + 1) := by
          rw [List.take_succ_eq_append_getElem (by rw [List.length_map]; exact hil), List.getElem_map]
        have s2 : l.reverse.take i ++ [l[l.length - 1 - i]] = l.reverse.take (i + 1) := by
          rw [List.take_succ_eq_append_getElem (by rw [List.length_reverse]; exact hil), List.getElem_reverse]
        rw [s1, s2]
        refine ih k (i + 1) (by omega) (by omega) (by omega) ?_
        intro y hy
        rw [List.take_succ_eq_append_getElem hil, List.mem_append] at hy
        rcases hy with hy | hy
        · exact hb y hy
        · rw [List.mem_singleton] at hy
          subst hy
          omega
theorem FtaShifts : ∀ (l0 : List Int) (a1 : Int), l0.length ≤ maxLen → l0.length * 8 ≤ 140737488351232 → (∀ y ∈ l0, (Lit.int .i64 y).wf = true) → (Lit.int .i32 a1).wf = true → ∃ k, palletlaw09_FtaShifts.f k l0 a1 = some true := by
  intro l c hl1 hl2 hl hc
  have hc := wf32 hc
  have hl : W l := fun y hy => wf64 (hl y hy)
  refine ⟨300, ?_⟩
  unfold palletlaw09_FtaShifts.f
  rw [live9, Option.bind_some, if_pos rfl]
  by_cases hn : (l.length : Int) > 200
  · rw [if_pos hn]
  · rw [if_neg hn]
    have := shifts_l0 l hl c hc.1 hc.2 (by omega) l.length 300 0 (by omega) (by omega) (by omega) (by simp)
    simpa using this
end Go.Proofs.Yticlckhgobegnaa.Pure
