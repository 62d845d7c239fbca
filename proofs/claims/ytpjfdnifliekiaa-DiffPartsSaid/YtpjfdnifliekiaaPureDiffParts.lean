/- What is put behind both lists alike leaves where they dpart, if they do; a list, and it with more behind, dpart where it ends. Conditions: none but that each number is of its kind, and each list's length a slice's. -/
import Derived.Test.YtpjfdnifliekiaaDiff
import Derived.Test.YtpjfdnifliekiaaDiff23b
import Derived.Test.YtpjfdnifliekiaaPrint0
import Derived.Test.YtpjfdnifliekiaaPrint7
set_option linter.unusedVariables false
set_option linter.unusedSimpArgs false
namespace Go.Proofs.Ytpjfdnifliekiaa.Pure
open Go.RowKit Go.Proofs.Ytpjfdnifliekiaa.Print Go.Proofs.YtpjfdnifliekiaaW.PrintWords Go.Proofs.YtpjfdnifliekiaaW.PrintLast Go.Proofs.YtpjfdnifliekiaaW.PrintMore Go.Proofs.Ytpjfdnifliekiaa.Diff

theorem getD_app {a c : List E} {i : Nat} (h : i < a.length) : (a ++ c).getD i z = a.getD i z := by
  rw [List.getD_eq_getElem?_getD, List.getD_eq_getElem?_getD, List.getElem?_append_left h]
theorem pre_app {a b c : List E} (h1 : pre a b < a.length) (h2 : pre a b < b.length) : pre (a ++ c) (b ++ c) = pre a b := by
  refine pre_unique (by rw [List.length_append]; omega) (by rw [List.length_append]; omega) (fun i hi => ?_) (fun _ _ => ?_)
  · rw [getD_app (by omega), getD_app (by omega)]
    exact pre_get a b i hi
  · rw [getD_app h1, getD_app h2]
    exact pre_ne a b h1 h2
theorem pre_more (a c : List E) : pre a (a ++ c) = a.length := by
  refine pre_unique (Nat.le_refl _) (by rw [List.length_append]; omega) (fun i hi => ?_) (fun h => absurd h (Nat.lt_irrefl _))
  rw [getD_app hi]
theorem part_app {a b c : List E} (h1 : pre a b < a.length) (h2 : pre a b < b.length) : dpart (a ++ c) (b ++ c) = dpart a b := by
  have hp := pre_app (c := c) h1 h2
  unfold dpart
  rw [hp, if_neg (by rw [List.length_append]; omega), if_neg (by rw [List.length_append]; omega), if_neg (by omega), if_neg (by omega), getD_app h1, getD_app h2]
theorem part_how {a b : List E} (h : (dpart a b).2.1 = 1) : pre a b < a.length ∧ pre a b < b.length := by
  have hl := pre_left a b
  have hr := pre_right a b
  unfold dpart at h
  by_cases h1 : pre a b = a.length
  · by_cases h2 : pre a b = b.length
    · rw [if_pos h1, if_pos h2] at h
      simp [tup] at h
    · rw [if_pos h1, if_neg h2] at h
      simp [tup] at h
  · by_cases h2 : pre a b = b.length
    · rw [if_neg h1, if_pos h2] at h
      simp [tup] at h
    · omega
theorem DiffParts : ∀ (l0 : List (S25)) (l1 : List (S25)) (l2 : List (S25)), l0.length ≤ maxLen → l0.length * 40 ≤ 140737488351232 → (∀ y ∈ l0, ((Lit.int .i64 y.f0).wf = true) ∧ (((Lit.int .i64 y.f1).wf = true) ∧ (((Lit.int .i64 y.f2).wf = true) ∧ (((Lit.int .i64 y.f3).wf = true) ∧ (((Lit.int .i64 y.f4).wf = true)))))) → l1.length ≤ maxLen → l1.length * 40 ≤ 140737488351232 → (∀ y ∈ l1, ((Lit.int .i64 y.f0).wf = true) ∧ (((Lit.int .i64 y.f1).wf = true) ∧ (((Lit.int .i64 y.f2).wf = true) ∧ (((Lit.int .i64 y.f3).wf = true) ∧ (((Lit.int .i64 y.f4).wf = true)))))) → l2.length ≤ maxLen → l2.length * 40 ≤ 140737488351232 → (∀ y ∈ l2, ((Lit.int .i64 y.f0).wf = true) ∧ (((Lit.int .i64 y.f1).wf = true) ∧ (((Lit.int .i64 y.f2).wf = true) ∧ (((Lit.int .i64 y.f3).wf = true) ∧ (((Lit.int .i64 y.f4).wf = true)))))) → ∃ k, palletlaw23_DiffParts.f k l0 l1 l2 = some true := by
  intro a b c ha1 ha2 ha hb1 hb2 hb hc1 hc2 hc
  obtain ⟨k, hk⟩ : ∃ k : Nat, k = 4000 := ⟨4000, rfl⟩
  refine ⟨k + 2, ?_⟩
  unfold palletlaw23_DiffParts.f
  rw [live23 (by omega)]
  simp only [Option.bind_some, if_true]
  by_cases c1 : (a.length : Int) > 300
  · rw [if_pos c1]
    simp [palletlaw23_DiffParts.j0]
  rw [if_neg c1]
  by_cases c2 : (b.length : Int) > 300
  · rw [if_pos c2]
    simp [palletlaw23_DiffParts.j0]
  rw [if_neg c2]
  by_cases c3 : (c.length : Int) > 300
  · rw [decide_eq_true c3]
    simp [palletlaw23_DiffParts.j0]
  rw [decide_eq_false c3]
  have fin : palletlaw23_DiffParts.j1 (k + 1) a c true (a ++ c) false = some true := by
    simp only [palletlaw23_DiffParts.j1]
    rw [if_neg (by decide), events_eq a (a ++ c) (by omega) (by omega)]
    simp only [Option.bind_some, if_true]
    unfold dpart
    rw [pre_more, if_pos rfl]
    by_cases h0 : c.length = 0
    · rw [if_pos (by omega), if_pos (by rw [List.length_append]; omega)]
      simp [tup, z]
    · rw [if_neg (by omega), if_pos (by omega), if_neg (by rw [List.length_append]; omega)]
      have e : (a ++ c).getD a.length z = c.getD 0 z := by
        rw [List.getD_eq_getElem?_getD, List.getElem?_append_right (Nat.le_refl _), Nat.sub_self, ← List.getD_eq_getElem?_getD]
      rw [show (0 : Int) = ((0 : Nat) : Int) from rfl, rd_eq, e]
      simp [tup, z]
  simp only [palletlaw23_DiffParts.j0, List.nil_append, List.length_nil, Nat.zero_add]
  rw [if_neg (by decide), events_eq a b (by omega) (by omega)]
  simp only [Option.bind_some]
  rw [if_pos (by omega), if_pos (by omega), if_pos (by omega), if_pos (by omega)]
  by_cases hh : (dpart a b).2.1 = 1
  · have hp := part_how hh
    rw [if_pos hh, events_eq (a ++ c) (b ++ c) (by rw [List.length_append]; omega) (by rw [List.length_append]; omega), part_app hp.1 hp.2]
    simp only [Option.bind_some, beq_self_eq_true, Bool.not_true, Bool.or_false]
    exact fin
  · rw [if_neg hh]
    exact fin
end Go.Proofs.Ytpjfdnifliekiaa.Pure
