/- The other way round a diff is turned; turned twice it is as it was; of three lists the third one has as much of the first one as the second one has of both, at the least. Conditions: none but that each number is of its kind, and each list's length a slice's. -/
import Derived.Test.YtpjfdnifliekiaaDiff
import Derived.Test.YtpjfdnifliekiaaDiff23b
import Derived.Test.YtpjfdnifliekiaaPrint0
import Derived.Test.YtpjfdnifliekiaaPrint12
import Derived.Test.YtpjfdnifliekiaaPrint15
set_option linter.unusedVariables false
set_option linter.unusedSimpArgs false
namespace Go.Proofs.Ytpjfdnifliekiaa.Pure
open Go.RowKit Go.Proofs.Ytpjfdnifliekiaa.Print Go.Proofs.YtpjfdnifliekiaaW.PrintWords Go.Proofs.YtpjfdnifliekiaaW.PrintLast Go.Proofs.YtpjfdnifliekiaaW.PrintMore Go.Proofs.Ytpjfdnifliekiaa.Diff

theorem back_tup (n how : Int) (x y : E) : diff_Back.f n how x.f0 x.f1 x.f2 x.f3 x.f4 y.f0 y.f1 y.f2 y.f3 y.f4 = some (tup n (if how = 2 then 3 else if how = 3 then 2 else how) y x) := by
  unfold diff_Back.f tup
  split
  · rfl
  · split <;> rfl
theorem dpart_shape (a b : List E) : ∃ n how x y, dpart a b = tup n how x y ∧ dpart b a = tup n (if how = 2 then 3 else if how = 3 then 2 else how) y x := by
  unfold dpart
  rw [pre_comm b a]
  by_cases h1 : pre a b = a.length
  · by_cases h2 : pre a b = b.length
    · rw [if_pos h1, if_pos h2, if_pos h2, if_pos h1]
      exact ⟨_, _, _, _, rfl, rfl⟩
    · rw [if_pos h1, if_neg h2, if_neg h2, if_pos h1]
      exact ⟨_, _, _, _, rfl, rfl⟩
  · by_cases h2 : pre a b = b.length
    · rw [if_neg h1, if_pos h2, if_pos h2, if_neg h1]
      exact ⟨_, _, _, _, rfl, rfl⟩
    · rw [if_neg h1, if_neg h2, if_neg h2, if_neg h1]
      exact ⟨_, _, _, _, rfl, rfl⟩
theorem pre_tri : ∀ a b c : List E, min (pre a b) (pre b c) ≤ pre a c
  | [], _, _ => by simp [pre]
  | _ :: _, [], _ => by simp [pre]
  | _ :: _, _ :: _, [] => by simp [pre]
  | a :: x, b :: y, c :: w => by
    have := pre_tri x y w
    simp only [pre]
    by_cases h1 : a = b
    · by_cases h2 : b = c
      · rw [if_pos h1, if_pos h2, if_pos (h1.trans h2)]
        omega
      · rw [if_pos h1, if_neg h2]
        omega
    · rw [if_neg h1]
      omega
theorem DiffBack : ∀ (l0 : List (S25)) (l1 : List (S25)) (l2 : List (S25)), l0.length ≤ maxLen → l0.length * 40 ≤ 140737488351232 → (∀ y ∈ l0, ((Lit.int .i64 y.f0).wf = true) ∧ (((Lit.int .i64 y.f1).wf = true) ∧ (((Lit.int .i64 y.f2).wf = true) ∧ (((Lit.int .i64 y.f3).wf = true) ∧ (((Lit.int .i64 y.f4).wf = true)))))) → l1.length ≤ maxLen → l1.length * 40 ≤ 140737488351232 → (∀ y ∈ l1, ((Lit.int .i64 y.f0).wf = true) ∧ (((Lit.int .i64 y.f1).wf = true) ∧ (((Lit.int .i64 y.f2).wf = true) ∧ (((Lit.int .i64 y.f3).wf = true) ∧ (((Lit.int .i64 y.f4).wf = true)))))) → l2.length ≤ maxLen → l2.length * 40 ≤ 140737488351232 → (∀ y ∈ l2, ((Lit.int .i64 y.f0).wf = true) ∧ (((Lit.int .i64 y.f1).wf = true) ∧ (((Lit.int .i64 y.f2).wf = true) ∧ (((Lit.int .i64 y.f3).wf = true) ∧ (((Lit.int .i64 y.f4).wf = true)))))) → ∃ k, palletlaw23_DiffBack.f k l0 l1 l2 = some true := by
  intro a b c ha1 ha2 ha hb1 hb2 hb hc1 hc2 hc
  obtain ⟨k, hk⟩ : ∃ k : Nat, k = 2000 := ⟨2000, rfl⟩
  refine ⟨k + 1, ?_⟩
  unfold palletlaw23_DiffBack.f
  rw [live23 (by omega)]
  simp only [Option.bind_some, if_true]
  by_cases c1 : (a.length : Int) > 300
  · rw [if_pos c1]
    simp [palletlaw23_DiffBack.j0]
  rw [if_neg c1]
  by_cases c2 : (b.length : Int) > 300
  · rw [if_pos c2]
    simp [palletlaw23_DiffBack.j0]
  rw [if_neg c2]
  by_cases c3 : (c.length : Int) > 300
  · rw [decide_eq_true c3]
    simp [palletlaw23_DiffBack.j0]
  rw [decide_eq_false c3]
  simp only [palletlaw23_DiffBack.j0]
  obtain ⟨n, how, x, y, e1, e2⟩ := dpart_shape a b
  have hn : (if (if how = 2 then (3 : Int) else if how = 3 then 2 else how) = 2 then (3 : Int) else if (if how = 2 then (3 : Int) else if how = 3 then 2 else how) = 3 then 2 else (if how = 2 then (3 : Int) else if how = 3 then 2 else how)) = how := by
    by_cases h2 : how = 2
    · subst h2; rfl
    · by_cases h3 : how = 3
      · subst h3; rfl
      · simp [h2, h3]
  rw [if_neg (by decide), events_eq a b (by omega) (by omega), events_eq b a (by omega) (by omega), e1, e2, prefix_eq a c (by omega) (by omega), prefix_eq a b (by omega) (by omega), prefix_eq b c (by omega) (by omega)]
  have b1 := back_tup n how x y
  have b2 := back_tup n (if how = 2 then 3 else if how = 3 then 2 else how) y x
  rw [hn] at b2
  unfold tup at *
  simp only [Option.bind_some, if_true]
  rw [b1]
  simp only [Option.bind_some]
  rw [b2]
  simp only [Option.bind_some, beq_self_eq_true, Bool.and_self, if_true]
  have ht := pre_tri a b c
  congr 1
  rw [decide_eq_true_eq]
  unfold mn
  split <;> omega
end Go.Proofs.Ytpjfdnifliekiaa.Pure
