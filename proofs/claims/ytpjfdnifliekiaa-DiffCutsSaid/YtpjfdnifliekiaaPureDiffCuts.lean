/- A list, and its beginning, dpart where that ends; the events that two lists share are those that their beginnings share, as far as these go. Conditions: none but that each number is of its kind, and each list's length a slice's. -/
import Derived.Test.YtpjfdnifliekiaaDiff
import Derived.Test.YtpjfdnifliekiaaDiff23b
import Derived.Test.YtpjfdnifliekiaaPrint0
import Derived.Test.YtpjfdnifliekiaaPrint8
set_option linter.unusedVariables false
set_option linter.unusedSimpArgs false
namespace Go.Proofs.Ytpjfdnifliekiaa.Pure
open Go.RowKit Go.Proofs.Ytpjfdnifliekiaa.Print Go.Proofs.YtpjfdnifliekiaaW.PrintWords Go.Proofs.YtpjfdnifliekiaaW.PrintLast Go.Proofs.YtpjfdnifliekiaaW.PrintMore Go.Proofs.Ytpjfdnifliekiaa.Diff

theorem getD_take {a : List E} {i n : Nat} (h : i < n) : (a.take n).getD i z = a.getD i z := by
  rw [List.getD_eq_getElem?_getD, List.getD_eq_getElem?_getD, List.getElem?_take_of_lt h]
theorem pre_take (a b : List E) {n : Nat} (hn : n ≤ a.length) : pre (a.take n) b = min n (pre a b) := by
  have hl := pre_left a b
  have hr := pre_right a b
  have hlen : (a.take n).length = n := by rw [List.length_take]; omega
  refine pre_unique (by omega) (by omega) (fun i hi => ?_) (fun h1 h2 => ?_)
  · rw [getD_take (by omega)]
    exact pre_get a b i (by omega)
  · rw [hlen] at h1
    rw [getD_take h1, show min n (pre a b) = pre a b by omega]
    exact pre_ne a b (by omega) (by omega)
theorem pre_self (a : List E) : pre a a = a.length := pre_unique (Nat.le_refl _) (Nat.le_refl _) (fun _ _ => rfl) (fun h => absurd h (Nat.lt_irrefl _))
theorem DiffCuts : ∀ (l0 : List (S25)) (l1 : List (S25)) (a2 : Int), l0.length ≤ maxLen → l0.length * 40 ≤ 140737488351232 → (∀ y ∈ l0, ((Lit.int .i64 y.f0).wf = true) ∧ (((Lit.int .i64 y.f1).wf = true) ∧ (((Lit.int .i64 y.f2).wf = true) ∧ (((Lit.int .i64 y.f3).wf = true) ∧ (((Lit.int .i64 y.f4).wf = true)))))) → l1.length ≤ maxLen → l1.length * 40 ≤ 140737488351232 → (∀ y ∈ l1, ((Lit.int .i64 y.f0).wf = true) ∧ (((Lit.int .i64 y.f1).wf = true) ∧ (((Lit.int .i64 y.f2).wf = true) ∧ (((Lit.int .i64 y.f3).wf = true) ∧ (((Lit.int .i64 y.f4).wf = true)))))) → (Lit.int .i64 a2).wf = true → ∃ k, palletlaw23_DiffCuts.f k l0 l1 a2 = some true := by
  intro a b x ha1 ha2 ha hb1 hb2 hb hx
  obtain ⟨k, hk⟩ : ∃ k : Nat, k = 2000 := ⟨2000, rfl⟩
  refine ⟨k + 2, ?_⟩
  have hx : -9223372036854775808 ≤ x ∧ x ≤ 9223372036854775807 := by simpa [Lit.wf, IntKind.min, IntKind.max, IntKind.signed, IntKind.bits] using hx
  unfold palletlaw23_DiffCuts.f
  rw [live23 (by omega)]
  simp only [Option.bind_some, if_true]
  by_cases c1 : (a.length : Int) > 300
  · rw [if_pos c1]
    simp [palletlaw23_DiffCuts.j0]
  rw [if_neg c1]
  by_cases c2 : (b.length : Int) > 300
  · rw [decide_eq_true c2]
    simp [palletlaw23_DiffCuts.j0]
  rw [decide_eq_false c2]
  have hmod : -((a.length : Int) + 1) < Int.tmod x ((a.length : Int) + 1) ∧ Int.tmod x ((a.length : Int) + 1) < (a.length : Int) + 1 := by
    have e1 := Int.lt_tmod_of_pos x (show 0 < (a.length : Int) + 1 by omega)
    have e2 := Int.tmod_lt_of_pos x (show 0 < (a.length : Int) + 1 by omega)
    omega
  obtain ⟨n, hn, en⟩ : ∃ n : Nat, n ≤ a.length ∧ Int.tmod (wrap64 ((wrap64 ((Int.tmod x (wrap64 ((a.length : Int) + 1))) + (a.length : Int))) + 1)) (wrap64 ((a.length : Int) + 1)) = (n : Int) := by
    rw [w64 (x := (a.length : Int) + 1) (by omega) (by omega)]
    generalize Int.tmod x ((a.length : Int) + 1) = m at *
    rw [w64 (x := m + (a.length : Int)) (by omega) (by omega), w64 (x := m + (a.length : Int) + 1) (by omega) (by omega), Int.tmod_eq_emod_of_nonneg (by omega)]
    have h0 := Int.emod_nonneg (m + (a.length : Int) + 1) (show (a.length : Int) + 1 ≠ 0 by omega)
    have h1 := Int.emod_lt_of_pos (m + (a.length : Int) + 1) (show 0 < (a.length : Int) + 1 by omega)
    exact ⟨((m + (a.length : Int) + 1) % ((a.length : Int) + 1)).toNat, by omega, by omega⟩
  simp only [palletlaw23_DiffCuts.j0, en]
  rw [if_neg (by decide), if_neg (by rw [w64 (by omega) (by omega)]; omega), if_pos (by omega), if_pos (by omega), Int.toNat_natCast]
  have hlen : (a.take n).length = n := by rw [List.length_take]; omega
  rw [events_eq (a.take n) a (by omega) (by omega)]
  simp only [Option.bind_some]
  have hp : pre (a.take n) a = n := by rw [pre_take a a hn, pre_self]; omega
  have fin : palletlaw23_DiffCuts.j1 (k + 1) a b (n : Int) true false = some true := by
    simp only [palletlaw23_DiffCuts.j1]
    rw [if_neg (by decide), if_pos trivial, if_pos (by omega), if_pos (by omega), Int.toNat_natCast, prefix_eq (a.take n) b (by omega) (by omega), prefix_eq a b (by omega) (by omega), pre_take a b hn]
    simp only [Option.bind_some, Option.some.injEq, beq_iff_eq]
    unfold mn
    split <;> omega
  unfold dpart
  rw [hp, if_pos hlen.symm]
  by_cases hc : n = a.length
  · rw [if_pos hc]
    have e1 : ((n : Int) == (a.length : Int)) = true := by rw [beq_iff_eq]; omega
    simp only [tup, e1]
    rw [if_pos trivial, if_neg (by decide), if_neg (by omega)]
    exact fin
  · rw [if_neg hc]
    have e1 : ((n : Int) == (a.length : Int)) = false := by rw [beq_eq_false_iff_ne]; omega
    simp only [tup, e1]
    rw [if_pos trivial, if_neg (by decide), if_pos (by omega), if_pos trivial, rd_eq]
    simp only [beq_self_eq_true, Bool.not_true, Bool.or_false]
    exact fin
end Go.Proofs.Ytpjfdnifliekiaa.Pure
