/- Plain facts on the document's answers for layer 7, as printed. -/
import Derived.Test.YtpfkiljakiiieaaMedl
import Derived.Test.YtpfkiljakiiieaaPrint0
import Derived.Test.YtpfkiljakiiieaaPrint12
import Derived.Test.YtpfkiljakiiieaaPrint13
import Derived.Test.YtpfkiljakiiieaaPrint14
set_option linter.unusedVariables false
set_option linter.unusedSimpArgs false
namespace Go.Proofs.Ytpfkiljakiiieaa.Medl
open Go.RowKit Go.Proofs.Ytpfkiljakiiieaa.Print Go.Proofs.YtpfkiljakiiieaaW.PrintWords Go.Proofs.YtpfkiljakiiieaaW.PrintLast Go.Proofs.YtpfkiljakiiieaaW.PrintMore
section
variable {n s l f w : Int}
theorem refcheck_l0 (k : Nat) (n s l f w : Int) : palletref07_Check.l0 (k + 4) [l, f, w] 3 0 n s l f w = (if l < 1 then some 1 else if l ≥ s then some 1 else if f < 1 then some 1 else if f ≥ s then some 1 else if w < 1 then some 1 else if w ≥ s then some 1 else if w > l then some 1 else if (wrap64 ((wrap64 (l + f)) + w)) ≥ s then some 1 else some 0) := by
  have e1 : wrap64 1 = 1 := w64 (x := 1) (by omega) (by omega)
  have e2 : wrap64 2 = 2 := w64 (x := 2) (by omega) (by omega)
  have e3 : wrap64 3 = 3 := w64 (x := 3) (by omega) (by omega)
  have r0 : rd [l, f, w] 0 = l := rfl
  have r1 : rd [l, f, w] 1 = f := rfl
  have r2 : rd [l, f, w] 2 = w := rfl
  simp [palletref07_Check.l0, e1, e2, e3, r0, r1, r2]
theorem refcheck_eq {k : Nat} (hk : 5 ≤ k) (n s l f w : Int) : palletref07_Check.f k n s l f w = some (if Ok n s l f w then 0 else 1) := by
  obtain ⟨k, rfl⟩ : ∃ m, k = m + 5 := ⟨k - 5, by omega⟩
  have no : ∀ (r : Option Int), ¬ Ok n s l f w → r = some 1 → r = some (if Ok n s l f w then 0 else 1) := fun r h1 h2 => by rw [if_neg h1, h2]
  have j : palletref07_Check.j0 (k + 5) false n s l f w = palletref07_Check.l0 (k + 4) [l, f, w] 3 0 n s l f w := by simp [palletref07_Check.j0]
  unfold palletref07_Check.f
  by_cases h1 : n < 2
  · rw [if_pos h1]; exact no _ (fun h => by have := h.1; omega) (by simp [palletref07_Check.j0])
  by_cases h2 : n > 16
  · rw [if_neg h1, if_pos h2]; exact no _ (fun h => by have := h.2.1; omega) (by simp [palletref07_Check.j0])
  by_cases h3 : s < 16
  · rw [if_neg h1, if_neg h2, if_pos h3]; exact no _ (fun h => by have := h.2.2.1; omega) (by simp [palletref07_Check.j0])
  rw [if_neg h1, if_neg h2, if_neg h3]
  by_cases h4 : s > 1048576
  · rw [decide_eq_true h4]; exact no _ (fun h => by have := h.2.2.2.1; omega) (by simp [palletref07_Check.j0])
  rw [decide_eq_false h4, j, refcheck_l0]
  by_cases h5 : l < 1
  · rw [if_pos h5]; exact no _ (fun h => by have := h.2.2.2.2.1; omega) rfl
  by_cases h6 : l ≥ s
  · rw [if_neg h5, if_pos h6]; exact no _ (fun h => by obtain ⟨_, _, _, _, a1, a2, a3, a4, a5, a6, a7, a8⟩ := h; omega) rfl
  by_cases h7 : f < 1
  · rw [if_neg h5, if_neg h6, if_pos h7]; exact no _ (fun h => by obtain ⟨_, _, _, _, a1, a2, a3, a4, a5, a6, a7, a8⟩ := h; omega) rfl
  by_cases h8 : f ≥ s
  · rw [if_neg h5, if_neg h6, if_neg h7, if_pos h8]; exact no _ (fun h => by obtain ⟨_, _, _, _, a1, a2, a3, a4, a5, a6, a7, a8⟩ := h; omega) rfl
  by_cases h9 : w < 1
  · rw [if_neg h5, if_neg h6, if_neg h7, if_neg h8, if_pos h9]; exact no _ (fun h => by obtain ⟨_, _, _, _, a1, a2, a3, a4, a5, a6, a7, a8⟩ := h; omega) rfl
  by_cases h10 : w ≥ s
  · rw [if_neg h5, if_neg h6, if_neg h7, if_neg h8, if_neg h9, if_pos h10]; exact no _ (fun h => by obtain ⟨_, _, _, _, a1, a2, a3, a4, a5, a6, a7, a8⟩ := h; omega) rfl
  by_cases h11 : w > l
  · rw [if_neg h5, if_neg h6, if_neg h7, if_neg h8, if_neg h9, if_neg h10, if_pos h11]; exact no _ (fun h => by obtain ⟨_, _, _, _, a1, a2, a3, a4, a5, a6, a7, a8⟩ := h; omega) rfl
  rw [if_neg h5, if_neg h6, if_neg h7, if_neg h8, if_neg h9, if_neg h10, if_neg h11, w64 (x := l + f) (by omega) (by omega), w64 (by omega) (by omega)]
  by_cases h12 : l + f + w ≥ s
  · rw [if_pos h12]; exact no _ (fun h => by obtain ⟨_, _, _, _, a1, a2, a3, a4, a5, a6, a7, a8⟩ := h; omega) rfl
  · rw [if_neg h12, if_pos (show Ok n s l f w from ⟨by omega, by omega, by omega, by omega, by omega, by omega, by omega, by omega, by omega, by omega, by omega, by omega⟩)]
theorem refcheck_ok (h : Ok n s l f w) {k : Nat} (hk : 5 ≤ k) : palletref07_Check.f k n s l f w = some 0 := by rw [refcheck_eq hk, if_pos h]
theorem refcheck_no (h : ¬ Ok n s l f w) {k : Nat} (hk : 5 ≤ k) : palletref07_Check.f k n s l f w = some 1 := by rw [refcheck_eq hk, if_neg h]
theorem refmay {k : Nat} (hk : 5 ≤ k) (x : Int) : palletref07_may.f k n s l f w x = some (decide (Ok n s l f w ∧ x ≤ 4294967296)) := by
  unfold palletref07_may.f
  by_cases h : Ok n s l f w
  · rw [refcheck_ok h hk]
    simp [h]
  · rw [refcheck_no h hk]
    simp [h]
theorem refat_ok (h : Ok n s l f w) {k : Nat} (hk : 5 ≤ k) {x : Int} (h0 : 0 ≤ x) (hx : x ≤ 9223372036854775807) :
    palletref07_At.f k n s l f w x = some (if x / s > 4294967296 then (0, 0, 2) else (x / s, x % s, 0)) := by
  obtain ⟨_, _, h1, h2, _⟩ := id h
  have hd : 0 ≤ x / s := Int.ediv_nonneg h0 (by omega)
  have hd2 : x / s ≤ x := Int.ediv_le_self _ h0
  unfold palletref07_At.f
  rw [refcheck_ok h hk]
  simp only [Option.bind_some, if_true]
  obtain ⟨k, rfl⟩ : ∃ m, k = m + 1 := ⟨k - 1, by omega⟩
  rw [decide_eq_false (by omega)]
  simp only [palletref07_At.j0]
  rw [if_neg (by decide), if_neg (by omega), Int.tdiv_eq_ediv_of_nonneg h0, w64 (x := x / s) (by omega) (by omega), Int.tmod_eq_emod_of_nonneg h0]
  split
  · rfl
  · rw [u64 (by omega) (by omega)]
theorem refat_no {k : Nat} (hk : 5 ≤ k) {x : Int} (h : ¬ (Ok n s l f w ∧ 0 ≤ x)) : palletref07_At.f k n s l f w x = some (0, 0, 1) := by
  unfold palletref07_At.f
  by_cases h1 : Ok n s l f w
  · rw [refcheck_ok h1 hk]
    obtain ⟨k, rfl⟩ : ∃ m, k = m + 1 := ⟨k - 1, by omega⟩
    simp only [Option.bind_some, if_true]
    rw [decide_eq_true (by by_cases hh : 0 ≤ x; exact absurd ⟨h1, hh⟩ h; omega)]
    simp [palletref07_At.j0]
  · rw [refcheck_no h1 hk]
    obtain ⟨k, rfl⟩ : ∃ m, k = m + 1 := ⟨k - 1, by omega⟩
    simp [palletref07_At.j0]
theorem refoff_ok (h : Ok n s l f w) {k : Nat} (hk : 5 ≤ k) {x : Int} (h0 : -9223372036854775808 ≤ x) (hx : x ≤ 9223372036854775807) :
    palletref07_Off.f k n s l f w x = some (if x - l < -9223372036854775808 then (0, false, 2) else (x - l, decide (-w ≤ x - l ∧ x - l ≤ w), 0)) := by
  obtain ⟨_, _, h1, h2, h10, h3, h4, h5, h6, h7, h8, h9⟩ := id h
  unfold palletref07_Off.f
  rw [refcheck_ok h hk]
  simp only [Option.bind_some, if_true]
  rw [w64 (x := -9223372036854775808 + l) (by omega) (by omega), w64 (x := -w) (by omega) (by omega)]
  by_cases hc : x - l < -9223372036854775808
  · rw [if_pos (by omega), if_pos hc]
  · rw [if_neg (by omega), w64 (x := x - l) (by omega) (by omega), if_neg hc]
    by_cases hd : x - l ≤ w
    · rw [if_pos hd]
      simp only [Option.some.injEq, Prod.mk.injEq, true_and, and_true, decide_eq_decide]
      omega
    · rw [if_neg hd, decide_eq_false (fun q => hd q.2)]
theorem refoff_no (h : ¬ Ok n s l f w) {k : Nat} (hk : 5 ≤ k) {x : Int} : palletref07_Off.f k n s l f w x = some (0, false, 1) := by
  unfold palletref07_Off.f
  rw [refcheck_no h hk]
  simp
theorem nx_least (h : Ok n s l f w) {x node z : Int} (h0 : 0 ≤ x) (ha : 0 ≤ node) (hb : node < n) (h1 : x < z) (h2 : z < nx n x node) : z % n ≠ node := by
  intro hz
  have r := nx_range h h0 ha hb
  have m := nx_mod h h0 ha hb
  have e := Int.emod_eq_emod_iff_emod_sub_eq_zero.1 (m.trans hz.symm)
  rw [Int.emod_eq_of_lt (by omega) (by omega)] at e
  omega
theorem refnext_l0 (h : Ok n s l f w) {x node : Int} (h0 : 0 ≤ x) (hx : x ≤ 4294967296) (ha : 0 ≤ node) (hb : node < n) (d : Nat) : ∀ (k : Nat) (z : Int), x < z → z ≤ nx n x node → nx n x node - z = d → d < k →
    palletref07_Next.l0 k z node n s l f w = some (if nx n x node > 4294967296 then (0, 2) else (nx n x node, 0)) := by
  have hn := h.1
  have hn2 := h.2.1
  have r := nx_range h h0 ha hb
  induction d with
  | zero =>
    intro k z h1 h2 h3 hk
    obtain ⟨k, rfl⟩ : ∃ m, k = m + 1 := ⟨k - 1, by omega⟩
    obtain rfl : z = nx n x node := by omega
    have m := nx_mod h h0 ha hb
    simp only [palletref07_Next.l0]
    rw [u64 (x := n) (by omega) (by omega), if_neg (by omega), Int.tmod_eq_emod_of_nonneg (by omega), m, w64 (by omega) (by omega), if_pos rfl]
    split <;> rfl
  | succ d ih =>
    intro k z h1 h2 h3 hk
    obtain ⟨k, rfl⟩ : ∃ m, k = m + 1 := ⟨k - 1, by omega⟩
    have hm := mod_lt h (x := z) (by omega)
    have hne := nx_least h h0 ha hb h1 (by omega)
    simp only [palletref07_Next.l0]
    rw [u64 (x := n) (by omega) (by omega), if_neg (by omega), Int.tmod_eq_emod_of_nonneg (by omega), w64 (by omega) (by omega), if_neg hne, u64 (x := z + 1) (by omega) (by omega)]
    exact ih k (z + 1) (by omega) (by omega) (by omega) (by omega)
theorem refnext_ok (h : Ok n s l f w) {k : Nat} (hk : 20 ≤ k) {x node : Int} (h0 : 0 ≤ x) (hx : x ≤ 4294967296) (ha : 0 ≤ node) (hb : node < n) :
    palletref07_Next.f k n s l f w x node = some (if nx n x node > 4294967296 then (0, 2) else (nx n x node, 0)) := by
  have hn := h.1
  have hn2 := h.2.1
  have r := nx_range h h0 ha hb
  unfold palletref07_Next.f
  rw [refmay (by omega), decide_eq_true ⟨h, hx⟩]
  simp only [Option.bind_some, if_true]
  rw [if_neg (by omega), decide_eq_false (by omega)]
  obtain ⟨k, rfl⟩ : ∃ m, k = m + 1 := ⟨k - 1, by omega⟩
  simp only [palletref07_Next.j0]
  rw [if_neg (by decide), u64 (x := x + 1) (by omega) (by omega)]
  exact refnext_l0 h h0 hx ha hb (nx n x node - (x + 1)).toNat k (x + 1) (by omega) (by omega) (by omega) (by omega)
theorem refnext_no {k : Nat} (hk : 20 ≤ k) {x node : Int} (h : ¬ (Ok n s l f w ∧ x ≤ 4294967296 ∧ 0 ≤ node ∧ node < n)) : palletref07_Next.f k n s l f w x node = some (0, 1) := by
  unfold palletref07_Next.f
  rw [refmay (by omega)]
  obtain ⟨k, rfl⟩ : ∃ m, k = m + 1 := ⟨k - 1, by omega⟩
  by_cases h1 : Ok n s l f w ∧ x ≤ 4294967296
  · rw [decide_eq_true h1]
    simp only [Option.bind_some, if_true]
    by_cases hneg : node < 0
    · rw [if_pos hneg]
      simp [palletref07_Next.j0]
    · rw [if_neg hneg, decide_eq_true (by by_cases hh : node < n; exact absurd ⟨h1.1, h1.2, by omega, hh⟩ h; omega)]
      simp [palletref07_Next.j0]
  · rw [decide_eq_false h1]
    simp [palletref07_Next.j0]
end
end Go.Proofs.Ytpfkiljakiiieaa.Medl
