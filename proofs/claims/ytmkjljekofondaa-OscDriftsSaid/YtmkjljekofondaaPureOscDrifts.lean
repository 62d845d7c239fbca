/- A clock that is slower never takes less; so many ticks of one that does not drift take just so many times its period; two are apart by no more than their drifts make, and one. Conditions: none but that each number is of its kind. -/
import Derived.Test.YtmkjljekofondaaOsc
import Derived.Test.YtmkjljekofondaaPrint0
import Derived.Test.YtmkjljekofondaaPrint6
import Derived.Test.YtmkjljekofondaaPrint7
set_option linter.unusedVariables false
set_option linter.unusedSimpArgs false
namespace Go.Proofs.Ytmkjljekofondaa.Pure
open Go.RowKit Go.Proofs.Ytmkjljekofondaa.Print Go.Proofs.YtmkjljekofondaaW.PrintWords Go.Proofs.YtmkjljekofondaaW.PrintLast Go.Proofs.YtmkjljekofondaaW.PrintMore Go.Proofs.Ytmkjljekofondaa.Medl

open Go.Proofs.Ytmkjljekofondaa.Osc Go.Proofs.Ytmkjljekofondaa.Div64
theorem run_ok {p d r t : Int} (h : Oc p d r) (t0 : 0 ≤ t) (t1 : t ≤ 1048576) : run p d r t = ((rt p d * t + r) / 1000000000, p, d, (rt p d * t + r) % 1000000000, 0) ∧ 0 ≤ rt p d * t ∧ rt p d * t ≤ 1001000000000000000 * 1048576 := by
  have b := rt_bound h
  obtain ⟨a1, a2, a3, a4, a5, a6⟩ := id h
  have z0 : 0 ≤ rt p d * t := Int.mul_nonneg (by omega) (by omega)
  have z1 : rt p d * t ≤ 1001000000000000000 * 1048576 := Int.mul_le_mul (by omega) (by omega) (by omega) (by omega)
  have hr : Oc p d r ∧ 0 ≤ t ∧ t ≤ 1099511627776 := ⟨h, t0, by omega⟩
  unfold run
  rw [if_pos hr, if_neg (by omega)]
  exact ⟨rfl, z0, z1⟩
theorem OscDrifts : ∀ (a0_0 : Int) (a0_1 : Int) (a0_2 : Int) (a1 : Int) (a2 : Int), (Lit.int .i64 a0_0).wf = true → (Lit.int .i64 a0_1).wf = true → (Lit.int .i64 a0_2).wf = true → (Lit.int .i64 a1).wf = true → (Lit.int .i64 a2).wf = true → ∃ k, palletlaw06_OscDrifts.f k a0_0 a0_1 a0_2 a1 a2 = some true := by
  intro p d r sl a _ hd _ hs ha
  have hd := wf64 hd
  have hs := wf64 hs
  have ha := wf64 ha
  obtain ⟨k, hk⟩ : ∃ k : Nat, k = 100 := ⟨100, rfl⟩
  refine ⟨k + 2, ?_⟩
  unfold palletlaw06_OscDrifts.f
  rw [live6 (by omega)]
  simp only [Option.bind_some, if_true]
  rw [ocheck hd, and20 a ha]
  have t0 : 0 ≤ a % 1048576 ∧ a % 1048576 ≤ 1048576 := by omega
  generalize a % 1048576 = t at *
  obtain ⟨s, es, s0, s1⟩ : ∃ s, Int.tmod (wrap64 ((Int.tmod sl 1000) + 1000)) 1000 = s ∧ 0 ≤ s ∧ s < 1000 := by
    have m1 := Int.lt_tmod_of_pos sl (show (0 : Int) < 1000 by decide)
    have m2 := Int.tmod_lt_of_pos sl (show (0 : Int) < 1000 by decide)
    rw [w64 (by omega) (by omega), Int.tmod_eq_emod_of_nonneg (by omega)]
    exact ⟨_, rfl, by omega, by omega⟩
  rw [es]
  have no : ∀ q, palletlaw06_OscDrifts.j0 (k + 2) s t true true p d r p q r = some true := fun q => by simp [palletlaw06_OscDrifts.j0]
  by_cases h : Oc p d r
  case neg =>
    rw [if_neg h, Option.bind_some, if_neg (by decide), no]
  obtain ⟨a1, a2, a3, a4, a5, a6⟩ := id h
  rw [if_pos h, Option.bind_some, if_pos rfl, w64 (x := d + s) (by omega) (by omega), ocheck (by omega), Option.bind_some]
  by_cases h2 : Oc p (d + s) r
  case neg =>
    rw [if_neg h2, show ((1 : Int) != 0) = true by decide, no]
  rw [if_pos h2, show ((0 : Int) != 0) = false by decide]
  have hp : Oc p 0 0 := ⟨a1, a2, by decide, by decide, by decide, by decide⟩
  obtain ⟨e1, e2, e3⟩ := run_ok h t0.1 t0.2
  obtain ⟨f1, f2, f3⟩ := run_ok h2 t0.1 t0.2
  obtain ⟨g1, g2, g3⟩ := run_ok hp t0.1 t0.2
  have r1 : rt p 0 * t = t * p * 1000000000 := by
    unfold rt
    rw [show (1000000000 : Int) + 0 = 1000000000 by decide, Int.mul_right_comm, Int.mul_comm p t]
  have r2 : rt p (d + s) * t = rt p d * t + t * p * s := by
    unfold rt
    rw [show 1000000000 + (d + s) = (1000000000 + d) + s by omega, Int.mul_add p, Int.add_mul, Int.mul_right_comm p s, Int.mul_comm p t]
  have x0 : 0 ≤ t * p := Int.mul_nonneg t0.1 (by omega)
  have x1 : t * p ≤ 1048576 * 1000000000 := Int.mul_le_mul t0.2 a2 (by omega) (by omega)
  have y0 : 0 ≤ t * p * s := Int.mul_nonneg x0 s0
  have y1 : t * p * s ≤ (t * p / 1000000 * 1000000 + 999999) * s := Int.mul_le_mul_of_nonneg_right (by omega) s0
  rw [Int.add_mul, Int.mul_right_comm (t * p / 1000000)] at y1
  have y2 : 0 ≤ t * p / 1000000 * s := Int.mul_nonneg (by omega) s0
  have y3 : t * p / 1000000 * s ≤ 1048576000 * 999 := Int.mul_le_mul (by omega) (by omega) s0 (by omega)
  simp only [palletlaw06_OscDrifts.j0]
  unfold osc_Apart.f
  rw [if_neg (by decide), run_eq (by omega) hd, run_eq (by omega) (by omega), run_eq (by omega) (by decide), e1, f1, g1]
  rw [r1] at g2 g3 ⊢
  rw [r2] at f2 f3 ⊢
  simp only [Option.bind_some, if_true]
  have d1 : (t * p * 1000000000 + 0) / 1000000000 = t * p := by omega
  have d2 : (t * p * 1000000000 + 0) % 1000000000 = 0 := by omega
  rw [d1, d2, show ((0 : Int) != 0) = false by decide]
  generalize rt p d * t = N at *
  simp only [palletlaw06_OscDrifts.j1]
  rw [if_neg (by decide), if_neg (by omega), w64 (x := t * p) (by omega) (by omega), if_pos trivial, if_pos trivial, if_pos trivial, if_pos rfl]
  have m : 0 ≤ t * p / 1000000 := by omega
  rw [Int.tdiv_eq_ediv_of_nonneg x0, w64 (x := t * p / 1000000) (by omega) (by omega), w64 (x := t * p / 1000000 * s) (by omega) (by omega), Int.tdiv_eq_ediv_of_nonneg y2, w64 (x := t * p / 1000000 * s / 1000) (by omega) (by omega), w64 (x := t * p / 1000000 * s / 1000 + s) (by omega) (by omega), w64 (x := t * p / 1000000 * s / 1000 + s + 1) (by omega) (by omega)]
  rw [w64 (by omega) (by omega), decide_eq_true (by omega)]
end Go.Proofs.Ytmkjljekofondaa.Pure
