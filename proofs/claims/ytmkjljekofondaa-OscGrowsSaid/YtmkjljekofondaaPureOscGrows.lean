/- More ticks take no less time; of a longer time there are no fewer ticks; no tick takes longer than its period, a thousandth more, and one. Conditions: none but that each number is of its kind. -/
import Derived.Test.YtmkjljekofondaaOscTicks
import Derived.Test.YtmkjljekofondaaPrint0
import Derived.Test.YtmkjljekofondaaPrint13
set_option linter.unusedVariables false
set_option linter.unusedSimpArgs false
namespace Go.Proofs.Ytmkjljekofondaa.Pure
open Go.RowKit Go.Proofs.Ytmkjljekofondaa.Print Go.Proofs.YtmkjljekofondaaW.PrintWords Go.Proofs.YtmkjljekofondaaW.PrintLast Go.Proofs.YtmkjljekofondaaW.PrintMore Go.Proofs.Ytmkjljekofondaa.Medl

open Go.Proofs.Ytmkjljekofondaa.Osc Go.Proofs.Ytmkjljekofondaa.Div64
theorem run_ok {p d r t : Int} (h : Oc p d r) (t0 : 0 ≤ t) (t1 : t ≤ 1048576) : run p d r t = ((rt p d * t + r) / 1000000000, p, d, (rt p d * t + r) % 1000000000, 0) ∧ 0 ≤ rt p d * t ∧ rt p d * t ≤ 1001000000000000000 * 1048576 := by
  have b := rt_bound h
  obtain ⟨a1, a2, a3, a4, a5, a6⟩ := id h
  have z0 : 0 ≤ rt p d * t := Int.mul_nonneg (by omega) (by omega)
  have z1 : rt p d * t ≤ 1001000000000000000 * 1048576 := Int.mul_le_mul (by omega) (by omega) (by omega) (by omega)
  have hr : Oc p d r ∧ 0 ≤ t ∧ t ≤ 1099511627776 := ⟨h, t0, by omega⟩
  unfold run
  rw [if_pos hr, if_neg (by omega)]
  exact ⟨rfl, z0, z1⟩
theorem OscGrows : ∀ (a0_0 : Int) (a0_1 : Int) (a0_2 : Int) (a1 : Int) (a2 : Int), (Lit.int .i64 a0_0).wf = true → (Lit.int .i64 a0_1).wf = true → (Lit.int .i64 a0_2).wf = true → (Lit.int .i64 a1).wf = true → (Lit.int .i64 a2).wf = true → ∃ k, palletlaw06_OscGrows.f k a0_0 a0_1 a0_2 a1 a2 = some true := by
  intro p d r a b _ hd _ ha hb
  have hd := wf64 hd
  have ha := wf64 ha
  have hb := wf64 hb
  obtain ⟨k, hk⟩ : ∃ k : Nat, k = 200 := ⟨200, rfl⟩
  refine ⟨k + 1, ?_⟩
  unfold palletlaw06_OscGrows.f
  rw [live6 (by omega)]
  simp only [Option.bind_some, if_true]
  rw [ocheck hd, and20 a ha, and20 b hb]
  by_cases h : Oc p d r
  case neg =>
    rw [if_neg h, Option.bind_some, if_neg (by decide)]
  rw [if_pos h, Option.bind_some, if_pos rfl]
  obtain ⟨u, eu⟩ : ∃ u, mn (a % 1048576) (b % 1048576) = u := ⟨_, rfl⟩
  obtain ⟨v, ev⟩ : ∃ v, mx (a % 1048576) (b % 1048576) = v := ⟨_, rfl⟩
  have huv : 0 ≤ u ∧ u ≤ v ∧ v ≤ 1048576 := by
    unfold mn at eu
    unfold mx at ev
    split at eu <;> split at ev <;> omega
  rw [eu, ev]
  have bd := rt_bound h
  obtain ⟨a1, a2, a3, a4, a5, a6⟩ := id h
  obtain ⟨e1, e2, e3⟩ := run_ok h huv.1 (by omega)
  obtain ⟨f1, f2, f3⟩ := run_ok (t := v) h (by omega) huv.2.2
  obtain ⟨g1, g2, g3⟩ := run_ok (t := 1) h (by decide) (by decide)
  have cu : Oc p d r ∧ 0 ≤ u ∧ u ≤ 1152921504606846976 := ⟨h, by omega, by omega⟩
  have cv : Oc p d r ∧ 0 ≤ v ∧ v ≤ 1152921504606846976 := ⟨h, by omega, by omega⟩
  have tu : tk p d r u = (mn (((u + 1) * 1000000000 - (r + 1)) / rt p d) 1099511627776, 0) := by unfold tk; rw [if_pos cu]
  have tv : tk p d r v = (mn (((v + 1) * 1000000000 - (r + 1)) / rt p d) 1099511627776, 0) := by unfold tk; rw [if_pos cv]
  have m1 : rt p d * u ≤ rt p d * v := Int.mul_le_mul_of_nonneg_left huv.2.1 (by omega)
  have m2 : ((u + 1) * 1000000000 - (r + 1)) / rt p d ≤ ((v + 1) * 1000000000 - (r + 1)) / rt p d := Int.ediv_le_ediv (by omega) (by omega)
  rw [run_eq (by omega) hd, run_eq (by omega) hd, run_eq (by omega) hd, ticks_eq (by omega) hd, ticks_eq (by omega) hd, e1, f1, g1, tu, tv]
  simp only [Option.bind_some, if_true]
  rw [Int.mul_one]
  rw [Int.mul_one] at g2 g3
  rw [if_pos (Int.ediv_le_ediv (by decide) (by omega)), if_pos (by unfold mn; split <;> split <;> omega), Int.tdiv_eq_ediv_of_nonneg (by omega), w64 (x := p / 1000) (by omega) (by omega), w64 (x := p + p / 1000) (by omega) (by omega), w64 (x := p + p / 1000 + 1) (by omega) (by omega), w64 (x := p - p / 1000) (by omega) (by omega), w64 (x := p - p / 1000 - 1) (by omega) (by omega), if_pos (by omega), decide_eq_true (by omega)]
end Go.Proofs.Ytmkjljekofondaa.Pure
