/- As many ticks as there are in a time take no more than it, and one more takes longer; of as long as ticks take there are as many, at the least. Conditions: none but that each number is of its kind. -/
import Derived.Test.YtmkjljekofondaaOscTicks
import Derived.Test.YtmkjljekofondaaPrint0
import Derived.Test.YtmkjljekofondaaPrint12
set_option linter.unusedVariables false
set_option linter.unusedSimpArgs false
namespace Go.Proofs.Ytmkjljekofondaa.Pure
open Go.RowKit Go.Proofs.Ytmkjljekofondaa.Print Go.Proofs.YtmkjljekofondaaW.PrintWords Go.Proofs.YtmkjljekofondaaW.PrintLast Go.Proofs.YtmkjljekofondaaW.PrintMore Go.Proofs.Ytmkjljekofondaa.Medl

open Go.Proofs.Ytmkjljekofondaa.Osc Go.Proofs.Ytmkjljekofondaa.Div64
theorem last {p d r t : Int} {k : Nat} (hk : 80 ≤ k) (hd : -9223372036854775808 ≤ d ∧ d ≤ 9223372036854775807) : palletlaw06_OscBack.j1 k t true p d r = some true := by
  obtain ⟨k, rfl⟩ : ∃ j, k = j + 1 := ⟨k - 1, by omega⟩
  simp only [palletlaw06_OscBack.j1]
  rw [run_eq (by omega) hd, Option.bind_some]
  by_cases c : Oc p d r ∧ 0 ≤ t ∧ t ≤ 1099511627776
  case neg =>
    have e : run p d r t = (0, 0, 0, 0, 1) := by unfold run; rw [if_neg c]
    rw [e, if_neg (show ¬ (1 : Int) = 0 by decide)]
  by_cases c2 : (rt p d * t + r) / 1000000000 > 1152921504606846976
  · have e : run p d r t = (0, 0, 0, 0, 2) := by unfold run; rw [if_pos c, if_pos c2]
    rw [e, if_neg (show ¬ (2 : Int) = 0 by decide)]
  have e : run p d r t = ((rt p d * t + r) / 1000000000, p, d, (rt p d * t + r) % 1000000000, 0) := by unfold run; rw [if_pos c, if_neg c2]
  have b := rt_bound c.1
  obtain ⟨a1, a2, a3, a4, a5, a6⟩ := id c.1
  have z : 0 ≤ rt p d * t := Int.mul_nonneg (by omega) c.2.1
  rw [e, if_pos rfl, ticks_eq (by omega) hd, Option.bind_some]
  have cx : Oc p d r ∧ 0 ≤ (rt p d * t + r) / 1000000000 ∧ (rt p d * t + r) / 1000000000 ≤ 1152921504606846976 := ⟨c.1, by omega, by omega⟩
  unfold tk
  simp only
  rw [if_pos cx, if_pos trivial, if_pos rfl]
  have h : t ≤ (((rt p d * t + r) / 1000000000 + 1) * 1000000000 - (r + 1)) / rt p d := Int.le_ediv_of_mul_le (by omega) (by rw [Int.mul_comm]; omega)
  congr 1
  rw [decide_eq_true_eq]
  unfold mn
  split <;> omega
theorem OscBack : ∀ (a0_0 : Int) (a0_1 : Int) (a0_2 : Int) (a1 : Int) (a2 : Int), (Lit.int .i64 a0_0).wf = true → (Lit.int .i64 a0_1).wf = true → (Lit.int .i64 a0_2).wf = true → (Lit.int .i64 a1).wf = true → (Lit.int .i64 a2).wf = true → ∃ k, palletlaw06_OscBack.f k a0_0 a0_1 a0_2 a1 a2 = some true := by
  intro p d r t x _ hd _ _ _
  have hd := wf64 hd
  obtain ⟨k, hk⟩ : ∃ k : Nat, k = 200 := ⟨200, rfl⟩
  refine ⟨k + 1, ?_⟩
  have fin := last (p := p) (d := d) (r := r) (t := t) (k := k) (by omega) hd
  have fin2 := last (p := p) (d := d) (r := r) (t := t) (k := k + 1) (by omega) hd
  unfold palletlaw06_OscBack.f
  rw [live6 (by omega)]
  simp only [Option.bind_some, if_true]
  rw [ticks_eq (by omega) hd, Option.bind_some]
  by_cases c : Oc p d r ∧ 0 ≤ x ∧ x ≤ 1152921504606846976
  case neg =>
    have e : tk p d r x = (0, 1) := by unfold tk; rw [if_neg c]
    rw [e, if_neg (show ¬ (1 : Int) = 0 by decide)]
    exact fin2
  have b := rt_bound c.1
  obtain ⟨a1, a2, a3, a4, a5, a6⟩ := id c.1
  obtain ⟨N, eN⟩ : ∃ N, (x + 1) * 1000000000 - (r + 1) = N := ⟨_, rfl⟩
  obtain ⟨n, en⟩ : ∃ n, mn (N / rt p d) 1099511627776 = n := ⟨_, rfl⟩
  have e : tk p d r x = (n, 0) := by unfold tk; rw [if_pos c, eN, en]
  have q0 : 0 ≤ N / rt p d := Int.ediv_nonneg (by omega) (by omega)
  have hn : 0 ≤ n ∧ n ≤ 1099511627776 ∧ n ≤ N / rt p d ∧ (n < 1099511627776 → n = N / rt p d) := by
    unfold mn at en
    split at en <;> omega
  have m1 : rt p d * n ≤ N := by
    have h1 := Int.mul_le_mul_of_nonneg_left hn.2.2.1 (show 0 ≤ rt p d by omega)
    have h2 := Int.mul_ediv_self_le (x := N) (k := rt p d) (by omega)
    omega
  have m0 : 0 ≤ rt p d * n := Int.mul_nonneg (by omega) hn.1
  have cr : Oc p d r ∧ 0 ≤ n ∧ n ≤ 1099511627776 := ⟨c.1, hn.1, hn.2.1⟩
  have er : run p d r n = ((rt p d * n + r) / 1000000000, p, d, (rt p d * n + r) % 1000000000, 0) := by unfold run; rw [if_pos cr, if_neg (by omega)]
  rw [e, if_pos rfl, run_eq (by omega) hd, er, Option.bind_some, if_pos rfl]
  simp only
  rw [if_neg (by omega), if_neg (by omega), decide_eq_false (by omega)]
  simp only [palletlaw06_OscBack.j0]
  rw [if_neg (by decide)]
  by_cases h : n < 1099511627776
  case neg =>
    rw [if_neg h]
    exact fin
  have hq := hn.2.2.2 h
  have m2 : N < rt p d * (n + 1) := by
    rw [hq, Int.mul_comm]
    exact Int.lt_ediv_add_one_mul_self _ (by omega)
  have cr2 : Oc p d r ∧ 0 ≤ n + 1 ∧ n + 1 ≤ 1099511627776 := ⟨c.1, by omega, by omega⟩
  rw [if_pos h, w64 (by omega) (by omega), run_eq (by omega) hd, Option.bind_some]
  by_cases c2 : (rt p d * (n + 1) + r) / 1000000000 > 1152921504606846976
  · have er2 : run p d r (n + 1) = (0, 0, 0, 0, 2) := by unfold run; rw [if_pos cr2, if_pos c2]
    rw [er2, if_neg (show ¬ (2 : Int) = 0 by decide), if_pos rfl]
    exact fin
  · have er2 : run p d r (n + 1) = ((rt p d * (n + 1) + r) / 1000000000, p, d, (rt p d * (n + 1) + r) % 1000000000, 0) := by unfold run; rw [if_pos cr2, if_neg c2]
    rw [er2, if_pos rfl]
    simp only
    rw [if_neg (by omega)]
    exact fin
end Go.Proofs.Ytmkjljekofondaa.Pure
