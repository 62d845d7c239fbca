/- Plain facts on the document's answers for layer 7, as printed. -/
import Derived.Test.YtcanccdhedmdmaaMedlNx
import Derived.Test.YtcanccdhedmdmaaPrint0
import Derived.Test.YtcanccdhedmdmaaPrint12
import Derived.Test.YtcanccdhedmdmaaPrint13
set_option linter.unusedVariables false
set_option linter.unusedSimpArgs false
namespace Go.Proofs.Ytcanccdhedmdmaa.Medl
open Go.RowKit Go.Proofs.Ytcanccdhedmdmaa.Print Go.Proofs.YtcanccdhedmdmaaW.PrintWords Go.Proofs.YtcanccdhedmdmaaW.PrintLast Go.Proofs.YtcanccdhedmdmaaW.PrintMore
section
variable {n s l f w : Int}
theorem refcheck_l0 (k : Nat) (n s l f w : Int) : palletref07_Check.l0 (k + 4) [l, f, w] 3 0 n s l f w = (if l < 1 then some 1 else if l ≥ s then some 1 else if f < 1 then some 1 else if f ≥ s then some 1 else if w < 1 then some 1 else if w ≥ s then some 1 else if w > l then some 1 else if (wrap64 ((wrap64 (l + f)) + w)) ≥ s then some 1 else some 0) := by
  have e1 : wrap64 1 = 1 := w64 (x := 1) (by omega) (by omega)
  have e2 : wrap64 2 = 2 := w64 (x := 2) (by omega) (by omega)
  have e3 : wrap64 3 = 3 := w64 (x := 3) (by omega) (by omega)
  have r0 : rd [l, f, w] 0 = l := rfl
  have r1 : rd [l, f, w] 1 = f := rfl
  have r2 : rd [l, f, w] 2 = w := rfl
  simp [palletref07_Check.l0, e1, e2, e3, r0, r1, r2]
theorem refcheck_eq {k : Nat} (hk : 5 ≤ k) (n s l f w : Int) : palletref07_Check.f k n s l f w = some (if Ok n s l f w then 0 else 1) := by
  obtain ⟨k, rfl⟩ : ∃ m, k = m + 5 := ⟨k - 5, by omega⟩
  have no : ∀ (r : Option Int), ¬ Ok n s l f w → r = some 1 → r = some (if Ok n s l f w then 0 else 1) := fun r h1 h2 => by rw [if_neg h1, h2]
  have j : palletref07_Check.j0 (k + 5) false n s l f w = palletref07_Check.l0 (k + 4) [l, f, w] 3 0 n s l f w := by simp [palletref07_Check.j0]
  unfold palletref07_Check.f
  by_cases h1 : n < 2
  · rw [if_pos h1]; exact no _ (fun h => by have := h.1; omega) (by simp [palletref07_Check.j0])
  by_cases h2 : n > 16
  · rw [if_neg h1, if_pos h2]; exact no _ (fun h => by have := h.2.1; omega) (by simp [palletref07_Check.j0])
  by_cases h3 : s < 16
  · rw [if_neg h1, if_neg h2, if_pos h3]; exact no _ (fun h => by have := h.2.2.1; omega) (by simp [palletref07_Check.j0])
  rw [if_neg h1, if_neg h2, if_neg h3]
  by_cases h4 : s > 1048576
  · rw [decide_eq_true h4]; exact no _ (fun h => by have := h.2.2.2.1; omega) (by simp [palletref07_Check.j0])
  rw [decide_eq_false h4, j, refcheck_l0]
  by_cases h5 : l < 1
  · rw [if_pos h5]; exact no _ (fun h => by have := h.2.2.2.2.1; omega) rfl
  by_cases h6 : l ≥ s
  · rw [if_neg h5, if_pos h6]; exact no _ (fun h => by obtain ⟨_, _, _, _, a1, a2, a3, a4, a5, a6, a7, a8⟩ := h; omega) rfl
  by_cases h7 : f < 1
  · rw [if_neg h5, if_neg h6, if_pos h7]; exact no _ (fun h => by obtain ⟨_, _, _, _, a1, a2, a3, a4, a5, a6, a7, a8⟩ := h; omega) rfl
  by_cases h8 : f ≥ s
  · rw [if_neg h5, if_neg h6, if_neg h7, if_pos h8]; exact no _ (fun h => by obtain ⟨_, _, _, _, a1, a2, a3, a4, a5, a6, a7, a8⟩ := h; omega) rfl
  by_cases h9 : w < 1
  · rw [if_neg h5, if_neg h6, if_neg h7, if_neg h8, if_pos h9]; exact no _ (fun h => by obtain ⟨_, _, _, _, a1, a2, a3, a4, a5, a6, a7, a8⟩ := h; omega) rfl
  by_cases h10 : w ≥ s
  · rw [if_neg h5, if_neg h6, if_neg h7, if_neg h8, if_neg h9, if_pos h10]; exact no _ (fun h => by obtain ⟨_, _, _, _, a1, a2, a3, a4, a5, a6, a7, a8⟩ := h; omega) rfl
  by_cases h11 : w > l
  · rw [if_neg h5, if_neg h6, if_neg h7, if_neg h8, if_neg h9, if_neg h10, if_pos h11]; exact no _ (fun h => by obtain ⟨_, _, _, _, a1, a2, a3, a4, a5, a6, a7, a8⟩ := h; omega) rfl
  rw [if_neg h5, if_neg h6, if_neg h7, if_neg h8, if_neg h9, if_neg h10, if_neg h11, w64 (x := l + f) (by omega) (by omega), w64 (by omega) (by omega)]
  by_cases h12 : l + f + w ≥ s
  · rw [if_pos h12]; exact no _ (fun h => by obtain ⟨_, _, _, _, a1, a2, a3, a4, a5, a6, a7, a8⟩ := h; omega) rfl
  · rw [if_neg h12, if_pos (show Ok n s l f w from ⟨by omega, by omega, by omega, by omega, by omega, by omega, by omega, by omega, by omega, by omega, by omega, by omega⟩)]
theorem refcheck_ok (h : Ok n s l f w) {k : Nat} (hk : 5 ≤ k) : palletref07_Check.f k n s l f w = some 0 := by rw [refcheck_eq hk, if_pos h]
theorem refcheck_no (h : ¬ Ok n s l f w) {k : Nat} (hk : 5 ≤ k) : palletref07_Check.f k n s l f w = some 1 := by rw [refcheck_eq hk, if_neg h]
theorem refmay {k : Nat} (hk : 5 ≤ k) (x : Int) : palletref07_may.f k n s l f w x = some (decide (Ok n s l f w ∧ x ≤ 4294967296)) := by
  unfold palletref07_may.f
  by_cases h : Ok n s l f w
  · rw [refcheck_ok h hk]
    simp [h]
  · rw [refcheck_no h hk]
    simp [h]
theorem refowner_ok (h : Ok n s l f w) {k : Nat} (hk : 5 ≤ k) {x : Int} (h0 : 0 ≤ x) (hx : x ≤ 4294967296) : palletref07_Owner.f k n s l f w x = some (x % n, 0) := by
  have hn := h.1
  have hn2 := h.2.1
  have hm := mod_lt h h0
  unfold palletref07_Owner.f
  rw [refmay hk, decide_eq_true ⟨h, hx⟩]
  simp only [Option.bind_some, if_true]
  rw [u64 (by omega) (by omega), if_neg (by omega), Int.tmod_eq_emod_of_nonneg h0, w64 (by omega) (by omega)]
theorem refowner_no {k : Nat} (hk : 5 ≤ k) {x : Int} (h : ¬ (Ok n s l f w ∧ x ≤ 4294967296)) : palletref07_Owner.f k n s l f w x = some (0, 1) := by
  unfold palletref07_Owner.f
  rw [refmay hk, decide_eq_false h]
  simp
end
end Go.Proofs.Ytcanccdhedmdmaa.Medl
