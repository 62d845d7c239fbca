/- As many wrong frames as others are too many, one fewer is not; a tally counts each frame once. Conditions: none but that each number is of its kind, and the list's length a slice's. -/
import Derived.Test.YtcanccdhedmdmaaMemCount
import Derived.Test.YtcanccdhedmdmaaLive10
import Derived.Test.YtcanccdhedmdmaaPrint0
import Derived.Test.YtcanccdhedmdmaaPrint6
import Derived.Test.YtcanccdhedmdmaaPrint7
set_option linter.unusedVariables false
set_option linter.unusedSimpArgs false
namespace Go.Proofs.Ytcanccdhedmdmaa.Pure
open Go.RowKit Go.Proofs.Ytcanccdhedmdmaa.Print Go.Proofs.YtcanccdhedmdmaaW.PrintWords Go.Proofs.YtcanccdhedmdmaaW.PrintLast Go.Proofs.YtcanccdhedmdmaaW.PrintMore Go.Proofs.Ytcanccdhedmdmaa.Mem

theorem clique_eq (g b : Int) : member_Clique.f g b = some (decide (b > 0) && decide (b ≥ g)) := by
  unfold member_Clique.f
  by_cases h : b > 0
  · rw [if_pos h, decide_eq_true h, Bool.true_and]
  · rw [if_neg h, decide_eq_false h, Bool.false_and]
theorem mod4 {x : Int} (h0 : 0 ≤ x) (h1 : x ≤ 255) : ∃ v, wrap64 (Int.tmod x 4) = v ∧ 0 ≤ v ∧ v ≤ 3 := by
  rw [Int.tmod_eq_emod_of_nonneg h0, w64 (by omega) (by omega)]
  exact ⟨_, rfl, by omega, by omega⟩
theorem cliques_l0 (l : List Int) (hl : l.length ≤ 500) (h8 : ∀ y ∈ l, 0 ≤ y ∧ y ≤ 255) : ∀ (d k i : Nat) (g b : Int), i ≤ l.length → l.length - i = d → 2 * d + 4 ≤ k → 0 ≤ g → g ≤ i → 0 ≤ b → b ≤ i → palletlaw10_MemberCliques.l0 k true g b l (l.length : Int) (i : Int) g b = some true := by
  intro d
  induction d with
  | zero =>
    intro k i g b hi hd hk g0 g1 b0 b1
    obtain ⟨k, rfl⟩ : ∃ m, k = m + 1 := ⟨k - 1, by omega⟩
    simp only [palletlaw10_MemberCliques.l0]
    rw [if_neg (by omega)]
  | succ d ih =>
    intro k i g b hi hd hk g0 g1 b0 b1
    obtain ⟨k, rfl⟩ : ∃ m, k = m + 2 := ⟨k - 2, by omega⟩
    have i1 : i + 1 ≤ l.length := by omega
    have i2 : l.length - (i + 1) = d := by omega
    have i3 : 2 * d + 4 ≤ k := by omega
    have ih' := fun (g b : Int) (h1 : 0 ≤ g) (h2 : g ≤ (i + 1 : Nat)) (h3 : 0 ≤ b) (h4 : b ≤ (i + 1 : Nat)) => ih k (i + 1) g b i1 i2 i3 h1 h2 h3 h4
    have hy : 0 ≤ rd l (i : Int) ∧ rd l (i : Int) ≤ 255 := by
      unfold rd
      rw [Int.toNat_natCast, List.getD_eq_getElem?_getD, List.getElem?_eq_getElem (by omega)]
      exact h8 _ (List.getElem_mem (by omega))
    have hs : wrap64 (i + 1 : Int) = ((i + 1 : Nat) : Int) := by rw [w64 (by omega) (by omega)]; omega
    rw [← hs] at ih'
    simp only [palletlaw10_MemberCliques.l0]
    rw [if_pos (by omega), if_pos (by omega), if_pos (by omega)]
    obtain ⟨v, hv, v0, v1⟩ := mod4 hy.1 hy.2
    clear hy
    rw [hv]
    clear hv
    rw [count_eq (by omega) g0 (by omega) b0 (by omega) v0 v1]
    have wg : wrap64 (g + 1) = g + 1 := w64 (by omega) (by omega)
    have wb : wrap64 (b + 1) = b + 1 := w64 (by omega) (by omega)
    have hv4 : v = 0 ∨ v = 1 ∨ v = 2 ∨ v = 3 := by omega
    have c1 : member_Clique.f (g + 1) b = some (decide (b > 0) && decide (b ≥ g + 1)) := clique_eq _ _
    have c2 : member_Clique.f g (b + 1) = some (decide (b + 1 > 0) && decide (b + 1 ≥ g)) := clique_eq _ _
    have c3 : member_Clique.f g b = some (decide (b > 0) && decide (b ≥ g)) := clique_eq _ _
    have hw := ih' (g + 1) b (by omega) (by omega) (by omega) (by omega)
    have hx := ih' g (b + 1) (by omega) (by omega) (by omega) (by omega)
    have hz := ih' g b (by omega) (by omega) (by omega) (by omega)
    rcases hv4 with rfl | rfl | rfl | rfl
    · simp [palletlaw10_MemberCliques.j1, c3, hz]
      by_cases hb : b > 0
      · simp [hb]
      · simp [hb]
    · simp [palletlaw10_MemberCliques.j1, c1, wg, hw]
      by_cases hb : b > 0
      · simp [hb]
      · simp [hb]
    · simp [palletlaw10_MemberCliques.j1, c1, wg, hw]
      by_cases hb : b > 0
      · simp [hb]
      · simp [hb]
    · simp [palletlaw10_MemberCliques.j1, c2, wb, hx]
      by_cases hb : b + 1 > 0
      · simp [hb]
      · omega

theorem MemberCliques : ∀ (l0 : List Int), l0.length ≤ maxLen → l0.length * 1 ≤ 140737488351232 → (∀ y ∈ l0, (Lit.int .u8 y).wf = true) → ∃ k, palletlaw10_MemberCliques.f k l0 = some true := by
  intro l h1 h2 h3
  obtain ⟨k, hk⟩ : ∃ k : Nat, k = 2000 := ⟨2000, rfl⟩
  refine ⟨k, ?_⟩
  unfold palletlaw10_MemberCliques.f
  rw [live10 (by omega)]
  simp only [Option.bind_some, if_true]
  by_cases c : (l.length : Int) > 500
  · rw [if_pos c]
  rw [if_neg c]
  exact cliques_l0 l (by omega) (fun y hy => by simpa [Lit.wf, IntKind.min, IntKind.max, IntKind.signed, IntKind.bits] using h3 y hy) l.length k 0 0 0 (by omega) (by omega) (by omega) (by omega) (by omega) (by omega) (by omega)
end Go.Proofs.Ytcanccdhedmdmaa.Pure
