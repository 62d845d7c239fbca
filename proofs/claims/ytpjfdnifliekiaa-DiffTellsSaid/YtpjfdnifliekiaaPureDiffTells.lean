/- How many events of any two lists are the same, how they dpart, and a diff the other way round: the program and the document say the same. Conditions: none but that each number is of its kind, and each list's length a slice's. -/
import Derived.Test.YtpjfdnifliekiaaDiff
import Derived.Test.YtpjfdnifliekiaaDiff23
import Derived.Test.YtpjfdnifliekiaaPrint0
import Derived.Test.YtpjfdnifliekiaaPrint12
import Derived.Test.YtpjfdnifliekiaaPrint14
set_option linter.unusedVariables false
set_option linter.unusedSimpArgs false
namespace Go.Proofs.Ytpjfdnifliekiaa.Pure
open Go.RowKit Go.Proofs.Ytpjfdnifliekiaa.Print Go.Proofs.YtpjfdnifliekiaaW.PrintWords Go.Proofs.YtpjfdnifliekiaaW.PrintLast Go.Proofs.YtpjfdnifliekiaaW.PrintMore Go.Proofs.Ytpjfdnifliekiaa.Diff

theorem DiffTells : ∀ (l0 : List (S25)) (l1 : List (S25)) (a2_0 : Int) (a2_1 : Int) (a2_2 : Int) (a2_3 : Int) (a2_4 : Int) (a2_5 : Int) (a2_6 : Int) (a2_7 : Int) (a2_8 : Int) (a2_9 : Int) (a2_10 : Int) (a2_11 : Int), l0.length ≤ maxLen → l0.length * 40 ≤ 140737488351232 → (∀ y ∈ l0, ((Lit.int .i64 y.f0).wf = true) ∧ (((Lit.int .i64 y.f1).wf = true) ∧ (((Lit.int .i64 y.f2).wf = true) ∧ (((Lit.int .i64 y.f3).wf = true) ∧ (((Lit.int .i64 y.f4).wf = true)))))) → l1.length ≤ maxLen → l1.length * 40 ≤ 140737488351232 → (∀ y ∈ l1, ((Lit.int .i64 y.f0).wf = true) ∧ (((Lit.int .i64 y.f1).wf = true) ∧ (((Lit.int .i64 y.f2).wf = true) ∧ (((Lit.int .i64 y.f3).wf = true) ∧ (((Lit.int .i64 y.f4).wf = true)))))) → (Lit.int .i64 a2_0).wf = true → (Lit.int .i64 a2_1).wf = true → (Lit.int .i64 a2_2).wf = true → (Lit.int .i64 a2_3).wf = true → (Lit.int .i64 a2_4).wf = true → (Lit.int .i64 a2_5).wf = true → (Lit.int .i64 a2_6).wf = true → (Lit.int .i64 a2_7).wf = true → (Lit.int .i64 a2_8).wf = true → (Lit.int .i64 a2_9).wf = true → (Lit.int .i64 a2_10).wf = true → (Lit.int .i64 a2_11).wf = true → ∃ k, palletlaw23_DiffTells.f k l0 l1 a2_0 a2_1 a2_2 a2_3 a2_4 a2_5 a2_6 a2_7 a2_8 a2_9 a2_10 a2_11 = some true := by
  intro a b a0 a1 a2 a3 a4 a5 a6 a7 a8 a9 a10 a11 ha1 ha2 ha hb1 hb2 hb h0 h1 h2 h3 h4 h5 h6 h7 h8 h9 h10 h11
  obtain ⟨k, hk⟩ : ∃ k : Nat, k = 2000 := ⟨2000, rfl⟩
  refine ⟨k + 1, ?_⟩
  unfold palletlaw23_DiffTells.f
  rw [live23 (by omega)]
  simp only [Option.bind_some, if_true]
  by_cases c1 : (a.length : Int) > 300
  · rw [if_pos c1]
    simp [palletlaw23_DiffTells.j0]
  rw [if_neg c1]
  by_cases c2 : (b.length : Int) > 300
  · rw [decide_eq_true c2]
    simp [palletlaw23_DiffTells.j0]
  rw [decide_eq_false c2]
  simp only [palletlaw23_DiffTells.j0]
  rw [if_neg (by decide), if_pos trivial, prefix_eq a b (by omega) (by omega), refprefix_eq a b (by omega) (by omega), events_eq a b (by omega) (by omega), refevents_eq a b (by omega) (by omega), refback_eq (by omega)]
  simp only [Option.bind_some, if_true, beq_self_eq_true, Bool.and_self]
  obtain ⟨r, hr⟩ : ∃ r, diff_Back.f a0 a1 a2 a3 a4 a5 a6 a7 a8 a9 a10 a11 = some r := by
    unfold diff_Back.f
    split
    · exact ⟨_, rfl⟩
    · split <;> exact ⟨_, rfl⟩
  rw [hr]
  simp
end Go.Proofs.Ytpjfdnifliekiaa.Pure
