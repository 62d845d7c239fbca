/- A clock of so many times the period, without drift, takes so many times as long; what is left is never as much as a billion; ticks without a drift leave what was left. Conditions: none but that each number is of its kind. -/
import Derived.Test.YtmkjljekofondaaOsc
import Derived.Test.YtmkjljekofondaaPrint0
import Derived.Test.YtmkjljekofondaaPrint5
set_option linter.unusedVariables false
set_option linter.unusedSimpArgs false
namespace Go.Proofs.Ytmkjljekofondaa.Pure
open Go.RowKit Go.Proofs.Ytmkjljekofondaa.Print Go.Proofs.YtmkjljekofondaaW.PrintWords Go.Proofs.YtmkjljekofondaaW.PrintLast Go.Proofs.YtmkjljekofondaaW.PrintMore Go.Proofs.Ytmkjljekofondaa.Medl

open Go.Proofs.Ytmkjljekofondaa.Osc Go.Proofs.Ytmkjljekofondaa.Div64
theorem wfu8 {x : Int} (h : (Lit.int .u8 x).wf = true) : 0 ≤ x ∧ x ≤ 255 := by
  simpa [Lit.wf, IntKind.min, IntKind.max, IntKind.signed, IntKind.bits] using h
theorem run_ok {p d r t : Int} (h : Oc p d r) (t0 : 0 ≤ t) (t1 : t ≤ 1048576) : run p d r t = ((rt p d * t + r) / 1000000000, p, d, (rt p d * t + r) % 1000000000, 0) ∧ 0 ≤ rt p d * t ∧ rt p d * t ≤ 1001000000000000000 * 1048576 := by
  have b := rt_bound h
  obtain ⟨a1, a2, a3, a4, a5, a6⟩ := id h
  have z0 : 0 ≤ rt p d * t := Int.mul_nonneg (by omega) (by omega)
  have z1 : rt p d * t ≤ 1001000000000000000 * 1048576 := Int.mul_le_mul (by omega) (by omega) (by omega) (by omega)
  have hr : Oc p d r ∧ 0 ≤ t ∧ t ≤ 1099511627776 := ⟨h, t0, by omega⟩
  unfold run
  rw [if_pos hr, if_neg (by omega)]
  exact ⟨rfl, z0, z1⟩
theorem OscScales : ∀ (a0_0 : Int) (a0_1 : Int) (a0_2 : Int) (a1 : Int) (a2 : Int), (Lit.int .i64 a0_0).wf = true → (Lit.int .i64 a0_1).wf = true → (Lit.int .i64 a0_2).wf = true → (Lit.int .i64 a1).wf = true → (Lit.int .u8 a2).wf = true → ∃ k, palletlaw06_OscScales.f k a0_0 a0_1 a0_2 a1 a2 = some true := by
  intro p d r a by_ _ hd _ ha hb
  have hd := wf64 hd
  have ha := wf64 ha
  have hb := wfu8 hb
  obtain ⟨k, hk⟩ : ∃ k : Nat, k = 100 := ⟨100, rfl⟩
  refine ⟨k + 1, ?_⟩
  unfold palletlaw06_OscScales.f
  rw [live6 (by omega)]
  simp only [Option.bind_some, if_true]
  rw [ocheck hd, and20 a ha]
  have t0 : 0 ≤ a % 1048576 ∧ a % 1048576 ≤ 1048576 := by omega
  generalize a % 1048576 = t at *
  have no : palletlaw06_OscScales.j0 (k + 1) t by_ true true p d r = some true := by simp [palletlaw06_OscScales.j0]
  by_cases h : Oc p d r
  case neg =>
    rw [if_neg h, Option.bind_some, if_neg (by decide), no]
  rw [if_pos h, Option.bind_some, if_pos rfl]
  by_cases h1 : p > 1000000
  · rw [decide_eq_true h1, no]
  rw [decide_eq_false h1]
  obtain ⟨a1, a2, a3, a4, a5, a6⟩ := id h
  have hp : Oc p 0 r := ⟨a1, a2, by decide, by decide, a5, a6⟩
  have c0 : 0 ≤ p * (by_ + 1) := Int.mul_nonneg (by omega) (by omega)
  have c1 : p * (by_ + 1) ≤ 1000000 * 256 := Int.mul_le_mul (by omega) (by omega) (by omega) (by omega)
  have c2 : p * 1 ≤ p * (by_ + 1) := Int.mul_le_mul_of_nonneg_left (by omega) (by omega)
  have hm : Oc (p * (by_ + 1)) 0 r := ⟨by omega, by omega, by decide, by decide, a5, a6⟩
  obtain ⟨e1, e2, e3⟩ := run_ok h t0.1 t0.2
  obtain ⟨f1, f2, f3⟩ := run_ok hp t0.1 t0.2
  obtain ⟨g1, g2, g3⟩ := run_ok hm t0.1 t0.2
  have r1 : rt p 0 * t = p * t * 1000000000 := by
    unfold rt
    rw [show (1000000000 : Int) + 0 = 1000000000 by decide, Int.mul_right_comm]
  have r2 : rt (p * (by_ + 1)) 0 * t = p * t * (by_ + 1) * 1000000000 := by
    unfold rt
    rw [show (1000000000 : Int) + 0 = 1000000000 by decide, Int.mul_right_comm, Int.mul_right_comm p]
  simp only [palletlaw06_OscScales.j0]
  rw [if_neg (by decide), w64 (x := by_) (by omega) (by omega), w64 (x := by_ + 1) (by omega) (by omega), w64 (x := p * (by_ + 1)) (by omega) (by omega), run_eq (by omega) hd, run_eq (by omega) (by decide), run_eq (by omega) (by decide), e1, f1, g1]
  rw [r1] at f2 f3 ⊢
  rw [r2] at g2 g3 ⊢
  simp only [Option.bind_some, if_true]
  have d1 : (p * t * 1000000000 + r) / 1000000000 = p * t := by omega
  have d2 : (p * t * 1000000000 + r) % 1000000000 = r := by omega
  have d3 : (p * t * (by_ + 1) * 1000000000 + r) / 1000000000 = p * t * (by_ + 1) := by omega
  have d4 : (p * t * (by_ + 1) * 1000000000 + r) % 1000000000 = r := by omega
  rw [d1, d2, d3, d4, if_pos (by omega), if_pos (by omega), if_pos (by omega), if_pos rfl, if_pos rfl, w64 (by omega) (by omega)]
  simp
end Go.Proofs.Ytmkjljekofondaa.Pure
