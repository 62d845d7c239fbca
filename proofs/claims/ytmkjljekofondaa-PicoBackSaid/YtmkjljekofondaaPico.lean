/- Plain facts on times that may be (layer 1), as printed. -/
import Derived.Test.YtmkjljekofondaaMedl
import Derived.Test.YtmkjljekofondaaPrint0
import Derived.Test.YtmkjljekofondaaPrint1
import Derived.Test.YtmkjljekofondaaPrint4
import Derived.Test.YtmkjljekofondaaPrint11
set_option linter.unusedVariables false
set_option linter.unusedSimpArgs false
namespace Go.Proofs.Ytmkjljekofondaa.Medl
open Go.RowKit Go.Proofs.Ytmkjljekofondaa.Print Go.Proofs.YtmkjljekofondaaW.PrintWords Go.Proofs.YtmkjljekofondaaW.PrintLast Go.Proofs.YtmkjljekofondaaW.PrintMore
/-- A time that may be. -/
def Tm (x : Int) : Prop := -1152921504606846976 ≤ x ∧ x ≤ 1152921504606846976
instance (x : Int) : Decidable (Tm x) := by unfold Tm; infer_instance
theorem may1_eq (x : Int) : pico_May_1.f x = some (decide (¬ Tm x)) := by
  unfold pico_May_1.f
  by_cases h : x > 1152921504606846976
  · rw [if_pos h, decide_eq_true (show ¬ Tm x by unfold Tm; omega)]
  · rw [if_neg h]
    congr 1
    rw [decide_eq_decide]
    unfold Tm
    omega
theorem rd_nat (xs : List Int) (j : Nat) : rd xs (j : Int) = xs.getD j 0 := by simp [rd]
theorem mayidx (xs : List Int) (hx : xs.length ≤ 9223372036854775807) (d : Nat) : ∀ (k : Nat) (i : Nat), i ≤ xs.length → xs.length - i = d → d < k →
    ∃ r, slices_IndexFunc_int64_int64_at_pico_May_1.l0 k xs (xs.length : Int) (i : Int) = some r ∧ (r ≥ 0 ↔ ∃ x ∈ xs.drop i, ¬ Tm x) := by
  induction d with
  | zero =>
    intro k i hi hd hk
    obtain ⟨k, rfl⟩ : ∃ m, k = m + 1 := ⟨k - 1, by omega⟩
    refine ⟨-1, ?_, ?_⟩
    · simp only [slices_IndexFunc_int64_int64_at_pico_May_1.l0]
      rw [if_neg (by omega)]
    · rw [List.drop_of_length_le (by omega)]
      simp
  | succ d ih =>
    intro k i hi hd hk
    obtain ⟨k, rfl⟩ : ∃ m, k = m + 1 := ⟨k - 1, by omega⟩
    have hlt : i < xs.length := by omega
    have hdrop : xs.drop i = xs.getD i 0 :: xs.drop (i + 1) := by rw [List.drop_eq_getElem_cons hlt, List.getD_eq_getElem?_getD, List.getElem?_eq_getElem hlt]; rfl
    simp only [slices_IndexFunc_int64_int64_at_pico_May_1.l0]
    rw [if_pos (by omega), if_pos (by omega), if_pos (by omega), rd_nat, may1_eq]
    simp only [Option.bind_some]
    by_cases ht : Tm (xs.getD i 0)
    · rw [decide_eq_false (by simpa using ht), if_neg (by decide), w64 (by omega) (by omega)]
      obtain ⟨r, hr, h⟩ := ih k (i + 1) (by omega) (by omega) (by omega)
      refine ⟨r, hr, ?_⟩
      rw [h, hdrop]
      constructor
      · rintro ⟨x, hx2, hq⟩
        exact ⟨x, List.mem_cons_of_mem _ hx2, hq⟩
      · rintro ⟨x, hx2, hq⟩
        rcases List.mem_cons.1 hx2 with rfl | h2
        · exact absurd ht hq
        · exact ⟨x, h2, hq⟩
    · rw [decide_eq_true ht, if_pos rfl]
      refine ⟨i, rfl, ?_⟩
      rw [hdrop]
      exact ⟨fun _ => ⟨_, List.mem_cons_self, ht⟩, fun _ => by omega⟩
theorem may_eq {k : Nat} (xs : List Int) (hx : xs.length ≤ 9223372036854775807) (hk : xs.length < k) : pico_May.f k xs = some (decide (∀ x ∈ xs, Tm x)) := by
  unfold pico_May.f slices_ContainsFunc_int64_int64_at_pico_May_1.f slices_IndexFunc_int64_int64_at_pico_May_1.f
  obtain ⟨r, hr, h⟩ := mayidx xs hx xs.length k 0 (by omega) (by omega) hk
  rw [show (0 : Int) = ((0 : Nat) : Int) from rfl, hr]
  simp only [Option.bind_some, Option.some.injEq]
  rw [Bool.eq_iff_iff]
  simp only [Bool.not_eq_true', decide_eq_false_iff_not, decide_eq_true_eq]
  rw [show ((r : Int) ≥ ((0 : Nat) : Int)) ↔ r ≥ 0 from Iff.rfl, h, List.drop_zero]
  constructor
  · intro h1 x hx
    by_cases q : Tm x
    · exact q
    · exact absurd ⟨x, hx, q⟩ h1
  · rintro h1 ⟨x, hx, q⟩
    exact q (h1 x hx)
theorem may_one {k : Nat} (hk : 2 ≤ k) (x : Int) : pico_May.f k [x] = some (decide (Tm x)) := by
  rw [may_eq [x] (by simp) (by simp; omega)]
  simp
theorem may_two {k : Nat} (hk : 3 ≤ k) (x y : Int) : pico_May.f k [x, y] = some (decide (Tm x ∧ Tm y)) := by
  rw [may_eq [x, y] (by simp) (by simp; omega)]
  simp
theorem may_three {k : Nat} (hk : 4 ≤ k) (x y z : Int) : pico_May.f k [x, y, z] = some (decide (Tm x ∧ Tm y ∧ Tm z)) := by
  rw [may_eq [x, y, z] (by simp) (by simp; omega)]
  simp
theorem told_eq {k : Nat} (hk : 2 ≤ k) (x : Int) : pico_told.f k x = some (if Tm x then (x, 0) else (0, 2)) := by
  unfold pico_told.f
  rw [may_one hk]
  by_cases h : Tm x
  · simp [h]
  · simp [h]
theorem add_eq {k : Nat} (hk : 3 ≤ k) (x y : Int) : pico_Add.f k x y = some (if Tm x ∧ Tm y then (if Tm (x + y) then (x + y, 0) else (0, 2)) else (0, 1)) := by
  unfold pico_Add.f
  rw [may_two hk]
  by_cases h : Tm x ∧ Tm y
  · rw [decide_eq_true h, if_pos h]
    have h1 := h.1
    have h2 := h.2
    unfold Tm at h1 h2
    simp only [Option.bind_some, if_true]
    rw [told_eq (by omega), w64 (by omega) (by omega)]
    simp only [Option.bind_some]
  · rw [decide_eq_false h, if_neg h]
    simp
theorem sub_eq {k : Nat} (hk : 3 ≤ k) (x y : Int) : pico_Sub.f k x y = some (if Tm x ∧ Tm y then (if Tm (x - y) then (x - y, 0) else (0, 2)) else (0, 1)) := by
  unfold pico_Sub.f
  rw [may_two hk]
  by_cases h : Tm x ∧ Tm y
  · rw [decide_eq_true h, if_pos h]
    have h1 := h.1
    have h2 := h.2
    unfold Tm at h1 h2
    simp only [Option.bind_some, if_true]
    rw [told_eq (by omega), w64 (by omega) (by omega)]
    simp only [Option.bind_some]
  · rw [decide_eq_false h, if_neg h]
    simp
theorem refmay01_l0 (xs : List Int) (hx : xs.length ≤ 9223372036854775807) (d : Nat) : ∀ (k : Nat) (i : Nat), i ≤ xs.length → xs.length - i = d → d < k →
    palletref01_May.l0 k xs (xs.length : Int) (i : Int) = some (decide (∀ x ∈ xs.drop i, Tm x)) := by
  induction d with
  | zero =>
    intro k i hi hd hk
    obtain ⟨k, rfl⟩ : ∃ m, k = m + 1 := ⟨k - 1, by omega⟩
    simp only [palletref01_May.l0]
    rw [if_neg (by omega), List.drop_of_length_le (by omega)]
    simp
  | succ d ih =>
    intro k i hi hd hk
    obtain ⟨k, rfl⟩ : ∃ m, k = m + 1 := ⟨k - 1, by omega⟩
    have hlt : i < xs.length := by omega
    have hdrop : xs.drop i = xs.getD i 0 :: xs.drop (i + 1) := by rw [List.drop_eq_getElem_cons hlt, List.getD_eq_getElem?_getD, List.getElem?_eq_getElem hlt]; rfl
    simp only [palletref01_May.l0]
    rw [if_pos (by omega), if_pos (by omega), if_pos (by omega), rd_nat, w64 (by omega) (by omega), hdrop]
    generalize xs.getD i 0 = x
    by_cases h1 : x > 1152921504606846976
    · rw [if_pos h1, decide_eq_false]
      intro h
      have := h x (by simp)
      unfold Tm at this
      omega
    · rw [if_neg h1]
      by_cases h2 : x < -1152921504606846976
      · rw [if_pos h2, decide_eq_false]
        intro h
        have := h x (by simp)
        unfold Tm at this
        omega
      · rw [if_neg h2, show (i : Int) + 1 = ((i + 1 : Nat) : Int) by omega, ih k (i + 1) (by omega) (by omega) (by omega)]
        congr 1
        rw [decide_eq_decide]
        have : Tm x := by unfold Tm; omega
        simp [this]
theorem refmay01 {k : Nat} (xs : List Int) (hx : xs.length ≤ 9223372036854775807) (hk : xs.length < k) : palletref01_May.f k xs = some (decide (∀ x ∈ xs, Tm x)) := by
  unfold palletref01_May.f
  have := refmay01_l0 xs hx xs.length k 0 (by omega) (by omega) hk
  simpa using this
theorem refmay01_one {k : Nat} (hk : 2 ≤ k) (x : Int) : palletref01_May.f k [x] = some (decide (Tm x)) := by
  rw [refmay01 [x] (by simp) (by simp; omega)]
  simp
end Go.Proofs.Ytmkjljekofondaa.Medl
