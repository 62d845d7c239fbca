/- Records (layer 2) on lists of numbers: one's measures, and all. Plain facts, without the program. -/
import Derived.Test.YtnmepjpjpillcaaWireSpec
import Derived.Test.YtnmepjpjpillcaaPrint0
set_option linter.unusedVariables false
set_option linter.unusedSimpArgs false
namespace Go.Proofs.Ytnmepjpjpillcaa.Recs
open Go.Proofs.Ytnmepjpjpillcaa.WireSpec
/-- A record at a text's beginning: its head's length, its body's, and what is wrong. -/
def sp1 (t : List Nat) : Nat × Nat × Nat :=
  match t with
  | [] => (0, 0, 3)
  | _ :: r => if (dv 0 0 r).2.2 ≠ 0 then (0, 0, (dv 0 0 r).2.2) else if 1048576 < (dv 0 0 r).1 then (0, 0, 6) else if r.length - (dv 0 0 r).2.1 < (dv 0 0 r).1 then (0, 0, 3) else (1 + (dv 0 0 r).2.1, (dv 0 0 r).1, 0)
theorem sp1_ok {t : List Nat} (ht : By t) {h n : Nat} (e : sp1 t = (h, n, 0)) : ∃ kd r, t = kd :: r ∧ dv 0 0 r = (n, h - 1, 0) ∧ 2 ≤ h ∧ n ≤ 1048576 ∧ h + n ≤ t.length := by
  cases t with
  | nil => simp [sp1] at e
  | cons kd r =>
    refine ⟨kd, r, rfl, ?_⟩
    rcases hd : dv 0 0 r with ⟨a, c, x⟩
    simp only [sp1, hd] at e
    by_cases h1 : x ≠ 0
    · rw [if_pos h1] at e
      simp only [Prod.mk.injEq] at e
      omega
    rw [if_neg h1] at e
    have h1 : x = 0 := by omega
    subst h1
    by_cases h2 : 1048576 < a
    · rw [if_pos h2] at e
      simp at e
    rw [if_neg h2] at e
    by_cases h3 : r.length - c < a
    · rw [if_pos h3] at e
      simp at e
    rw [if_neg h3] at e
    simp only [Prod.mk.injEq] at e
    obtain ⟨rfl, rfl, _⟩ := e
    have := dv_bound r 0 0 a c ht.tail hd
    refine ⟨by rw [show 1 + c - 1 = c by omega], by omega, by omega, ?_⟩
    rw [List.length_cons]
    omega
theorem sp1_shape {t : List Nat} : (sp1 t).2.2 = 0 ∨ ∃ x, sp1 t = (0, 0, x) ∧ (x = 3 ∨ x = 4 ∨ x = 6) := by
  cases t with
  | nil => exact Or.inr ⟨3, rfl, Or.inl rfl⟩
  | cons kd r =>
    rcases hd : dv 0 0 r with ⟨a, c, x⟩
    simp only [sp1, hd]
    have hx := dv_errs r 0 0
    rw [hd] at hx
    by_cases h1 : x ≠ 0
    · rw [if_pos h1]
      refine Or.inr ⟨x, rfl, ?_⟩
      rcases hx with h | h | h
      · exact absurd h h1
      · simp only [Prod.mk.injEq] at h
        omega
      · simp only [Prod.mk.injEq] at h
        omega
    rw [if_neg h1]
    by_cases h2 : 1048576 < a
    · rw [if_pos h2]
      exact Or.inr ⟨6, rfl, Or.inr (Or.inr rfl)⟩
    rw [if_neg h2]
    by_cases h3 : r.length - c < a
    · rw [if_pos h3]
      exact Or.inr ⟨3, rfl, Or.inl rfl⟩
    · rw [if_neg h3]
      exact Or.inl rfl
/-- More bytes behind change nothing, but where some are lacking. -/
theorem sp1_append {t : List Nat} (ht : By t) (u : List Nat) (h : (sp1 t).2.2 ≠ 3) : sp1 (t ++ u) = sp1 t := by
  cases t with
  | nil => exact absurd rfl h
  | cons kd r =>
    rw [List.cons_append]
    by_cases h0 : (dv 0 0 r).2.2 = 3
    · exfalso
      apply h
      simp only [sp1]
      rw [if_pos (by rw [h0]; decide)]
      exact h0
    have e := dv_append r u 0 0 h0
    simp only [sp1]
    rw [e]
    rcases hd : dv 0 0 r with ⟨a, c, x⟩
    simp only [sp1, hd] at h
    simp only
    by_cases h1 : x ≠ 0
    · rw [if_pos h1, if_pos h1]
    rw [if_neg h1] at h
    rw [if_neg h1, if_neg h1]
    by_cases h2 : 1048576 < a
    · rw [if_pos h2, if_pos h2]
    rw [if_neg h2] at h
    rw [if_neg h2, if_neg h2]
    by_cases h3 : r.length - c < a
    · rw [if_pos h3] at h
      exact absurd rfl h
    rw [if_neg h3, if_neg (by rw [List.length_append]; omega)]
/-- All records, by so many rounds. -/
def recs : Nat → List Nat → List (List Nat) × Nat
  | 0, _ => ([], 0)
  | f + 1, t => if t = [] then ([], 0) else if (sp1 t).2.2 ≠ 0 then ([], (sp1 t).2.2) else if (recs f (t.drop ((sp1 t).1 + (sp1 t).2.1))).2 ≠ 0 then ([], (recs f (t.drop ((sp1 t).1 + (sp1 t).2.1))).2) else (t.take ((sp1 t).1 + (sp1 t).2.1) :: (recs f (t.drop ((sp1 t).1 + (sp1 t).2.1))).1, 0)
theorem recs_nil (f : Nat) : recs f [] = ([], 0) := by
  cases f with
  | zero => rfl
  | succ f => rw [recs, if_pos rfl]
theorem recs_bad {f : Nat} {t : List Nat} (h : t ≠ []) (h2 : (sp1 t).2.2 ≠ 0) : recs (f + 1) t = ([], (sp1 t).2.2) := by rw [recs, if_neg h, if_pos h2]
theorem recs_step {f : Nat} {t : List Nat} (h : t ≠ []) {a n : Nat} (h2 : sp1 t = (a, n, 0)) : recs (f + 1) t = if (recs f (t.drop (a + n))).2 ≠ 0 then ([], (recs f (t.drop (a + n))).2) else (t.take (a + n) :: (recs f (t.drop (a + n))).1, 0) := by
  rw [recs, if_neg h, h2]
  simp
theorem recs_fuel : ∀ (f g : Nat) (t : List Nat), By t → t.length ≤ f → t.length ≤ g → recs f t = recs g t := by
  intro f
  induction f with
  | zero =>
    intro g t ht h1 h2
    rw [List.eq_nil_of_length_eq_zero (l := t) (by omega), recs_nil, recs_nil]
  | succ f ih =>
    intro g t ht h1 h2
    by_cases h0 : t = []
    · rw [h0, recs_nil, recs_nil]
    have hp : 0 < t.length := List.length_pos_iff.2 h0
    obtain ⟨g, rfl⟩ : ∃ m, g = m + 1 := ⟨g - 1, by omega⟩
    by_cases hb : (sp1 t).2.2 = 0
    · rcases hs : sp1 t with ⟨a, n, x⟩
      rw [hs] at hb
      simp only at hb
      subst hb
      obtain ⟨kd, r, _, _, h3, _, h4⟩ := sp1_ok ht hs
      rw [recs_step h0 hs, recs_step h0 hs, ih g _ (ht.drop _) (by rw [List.length_drop]; omega) (by rw [List.length_drop]; omega)]
    · rw [recs_bad h0 hb, recs_bad h0 hb]
theorem recs_append_ok : ∀ (f : Nat) (t u : List Nat) (g : Nat), By t → By u → t.length ≤ f → u.length ≤ g → (recs f t).2 = 0 → recs (f + g) (t ++ u) = if (recs g u).2 ≠ 0 then ([], (recs g u).2) else ((recs f t).1 ++ (recs g u).1, 0) := by
  intro f
  induction f with
  | zero =>
    intro t u g ht hu h1 h2 h3
    rw [List.eq_nil_of_length_eq_zero (l := t) (by omega), List.nil_append, Nat.zero_add, recs]
    by_cases h : (recs g u).2 ≠ 0
    · rw [if_pos h]
      rcases hr : recs g u with ⟨x, e⟩
      rw [hr] at h
      cases g with
      | zero => simp [recs] at hr; omega
      | succ g =>
        by_cases h0 : u = []
        · rw [h0, recs_nil] at hr; simp at hr; omega
        by_cases hb : (sp1 u).2.2 = 0
        · rcases hs : sp1 u with ⟨a, n, y⟩
          rw [hs] at hb
          simp only at hb
          subst hb
          rw [recs_step h0 hs] at hr
          split at hr
          · rw [Prod.mk.injEq] at hr
            rw [← hr.1, ← hr.2]
          · rw [Prod.mk.injEq] at hr
            omega
        · rw [recs_bad h0 hb, Prod.mk.injEq] at hr
          rw [← hr.1, ← hr.2]
    · rw [if_neg h, List.nil_append]
      rcases hr : recs g u with ⟨x, e⟩
      rw [hr] at h
      simp only at h
      have : e = 0 := by omega
      rw [this]
  | succ f ih =>
    intro t u g ht hu h1 h2 h3
    by_cases h0 : t = []
    · subst h0
      rw [recs_nil, List.nil_append, List.nil_append, recs_fuel (f + 1 + g) (f + g) u hu (by omega) (by omega)]
      have := ih [] u g ht hu (by simp) h2 (by rw [recs_nil])
      rw [recs_nil, List.nil_append, List.nil_append] at this
      exact this
    have hp : 0 < t.length := List.length_pos_iff.2 h0
    by_cases hb : (sp1 t).2.2 = 0
    · rcases hs : sp1 t with ⟨a, n, x⟩
      rw [hs] at hb
      simp only at hb
      subst hb
      obtain ⟨kd, r, _, _, h4, _, h5⟩ := sp1_ok ht hs
      have hs2 : sp1 (t ++ u) = (a, n, 0) := by rw [sp1_append ht u (by rw [hs]; simp), hs]
      rw [recs_step h0 hs] at h3 ⊢
      have hr : (recs f (t.drop (a + n))).2 = 0 := by
        by_cases c : (recs f (t.drop (a + n))).2 = 0
        · exact c
        · rw [if_pos c] at h3
          exact h3
      have e3 : (if (recs f (t.drop (a + n))).2 ≠ 0 then ([], (recs f (t.drop (a + n))).2) else (t.take (a + n) :: (recs f (t.drop (a + n))).1, 0)) = (t.take (a + n) :: (recs f (t.drop (a + n))).1, 0) := if_neg (fun h => h hr)
      rw [e3, show f + 1 + g = (f + g) + 1 by omega, recs_step (by simp [h0]) hs2, List.drop_append_of_le_length h5, List.take_append_of_le_length h5, ih _ u g (ht.drop _) hu (by rw [List.length_drop]; omega) h2 hr]
      by_cases c : (recs g u).2 = 0
      · simp [c]
      · simp [c]
    · rw [recs_bad h0 hb] at h3
      exact absurd h3 hb
theorem recs_append_bad : ∀ (f : Nat) (t u : List Nat) (g : Nat), By t → By u → t.length ≤ f → (recs f t).2 ≠ 0 → (recs f t).2 ≠ 3 → (recs (f + g) (t ++ u)).2 = (recs f t).2 := by
  intro f
  induction f with
  | zero => intro t u g ht hu h1 h2 h3; exact absurd rfl h2
  | succ f ih =>
    intro t u g ht hu h1 h2 h3
    by_cases h0 : t = []
    · subst h0
      rw [recs_nil] at h2
      exact absurd rfl h2
    have hp : 0 < t.length := List.length_pos_iff.2 h0
    by_cases hb : (sp1 t).2.2 = 0
    · rcases hs : sp1 t with ⟨a, n, x⟩
      rw [hs] at hb
      simp only at hb
      subst hb
      obtain ⟨kd, r, _, _, h4, _, h5⟩ := sp1_ok ht hs
      have hs2 : sp1 (t ++ u) = (a, n, 0) := by rw [sp1_append ht u (by rw [hs]; simp), hs]
      rw [recs_step h0 hs] at h2 h3 ⊢
      have hr : (recs f (t.drop (a + n))).2 ≠ 0 := by
        intro c
        rw [if_neg (by omega)] at h2
        exact h2 rfl
      rw [if_pos hr] at h2 h3 ⊢
      have e := ih (t.drop (a + n)) u g (ht.drop _) hu (by rw [List.length_drop]; omega) hr h3
      rw [show f + 1 + g = (f + g) + 1 by omega, recs_step (by simp [h0]) hs2, List.drop_append_of_le_length h5, if_pos (by rw [e]; exact hr)]
      exact e
    · rw [recs_bad h0 hb] at h2 h3 ⊢
      have e := sp1_append ht u h3
      rw [show f + 1 + g = (f + g) + 1 by omega, recs_bad (by simp [h0]) (by rw [e]; exact hb), e]
theorem recs_err {f : Nat} {t : List Nat} (h : (recs f t).2 ≠ 0) : (recs f t).1 = [] := by
  cases f with
  | zero => rfl
  | succ f =>
    rw [recs] at h ⊢
    split
    · rfl
    · split
      · rfl
      · split
        · rfl
        · rename_i h1 h2 h3
          rw [if_neg h1, if_neg h2, if_neg h3] at h
          exact absurd rfl h
/-- All of them together are the text. -/
theorem recs_flat : ∀ (f : Nat) (t : List Nat), By t → t.length ≤ f → (recs f t).2 = 0 → (recs f t).1.flatten = t ∧ ∀ x ∈ (recs f t).1, 2 ≤ x.length := by
  intro f
  induction f with
  | zero =>
    intro t ht h1 h2
    rw [List.eq_nil_of_length_eq_zero (show t.length = 0 by omega), recs_nil]
    simp
  | succ f ih =>
    intro t ht h1 h2
    by_cases h0 : t = []
    · subst h0
      rw [recs_nil]
      simp
    by_cases hb : (sp1 t).2.2 = 0
    · rcases hs : sp1 t with ⟨a, n, x⟩
      rw [hs] at hb
      simp only at hb
      subst hb
      obtain ⟨kd, r, _, _, h4, _, h5⟩ := sp1_ok ht hs
      rw [recs_step h0 hs] at h2 ⊢
      have hr : (recs f (t.drop (a + n))).2 = 0 := by
        by_cases c : (recs f (t.drop (a + n))).2 = 0
        · exact c
        · rw [if_pos c] at h2
          exact h2
      have hp : 0 < t.length := List.length_pos_iff.2 h0
      obtain ⟨e1, e2⟩ := ih (t.drop (a + n)) (ht.drop _) (by rw [List.length_drop]; omega) hr
      rw [if_neg (by omega)]
      refine ⟨by rw [List.flatten_cons, e1, List.take_append_drop], ?_⟩
      intro x hx
      rcases List.mem_cons.1 hx with rfl | hx
      · rw [List.length_take]
        omega
      · exact e2 x hx
    · rw [recs_bad h0 hb] at h2
      exact absurd h2 hb
theorem recs_by : ∀ (f : Nat) (t : List Nat), By t → ∀ x ∈ (recs f t).1, By x := by
  intro f
  induction f with
  | zero => intro t ht x hx; cases hx
  | succ f ih =>
    intro t ht x hx
    rw [recs] at hx
    split at hx
    · cases hx
    · split at hx
      · cases hx
      · split at hx
        · cases hx
        · rcases List.mem_cons.1 hx with rfl | hx
          · exact ht.take _
          · exact ih _ (ht.drop _) x hx
end Go.Proofs.Ytnmepjpjpillcaa.Recs
