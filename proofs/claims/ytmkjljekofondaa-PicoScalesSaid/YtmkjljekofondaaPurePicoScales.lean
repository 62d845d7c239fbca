/- So many parts of a time, and what is left, are all of it. Conditions: none but that each number is of its kind. -/
import Derived.Test.YtmkjljekofondaaScale01
import Derived.Test.YtmkjljekofondaaLive01
import Derived.Test.YtmkjljekofondaaPrint0
import Derived.Test.YtmkjljekofondaaPrint8
set_option linter.unusedVariables false
set_option linter.unusedSimpArgs false
namespace Go.Proofs.Ytmkjljekofondaa.Pure
open Go.RowKit Go.Proofs.Ytmkjljekofondaa.Print Go.Proofs.YtmkjljekofondaaW.PrintWords Go.Proofs.YtmkjljekofondaaW.PrintLast Go.Proofs.YtmkjljekofondaaW.PrintMore
open Go Go.Proofs.Ytmkjljekofondaa.Medl Go.Proofs.Ytmkjljekofondaa.Scale01
theorem PicoScales : ∀ (a0 : Int) (a1 : Int) (a2 : Int), (Lit.int .i64 a0).wf = true → (Lit.int .i64 a1).wf = true → (Lit.int .i64 a2).wf = true → ∃ k, palletlaw01_PicoScales.f k a0 a1 a2 = some true := by
  intro a n d _ _ _
  refine ⟨100, ?_⟩
  unfold palletlaw01_PicoScales.f
  rw [live1 (by omega), Option.bind_some, if_pos rfl, scale_eq (by omega), scale_eq (by omega), Option.bind_some]
  by_cases h : (Tm a ∧ Tm n ∧ Tm d ∧ 1 ≤ d) ∧ Tm (a * n / d)
  · obtain ⟨⟨ha, hn, hd, d1⟩, hq⟩ := h
    have e : sc a n d = (a * n / d, a * n % d, 0) := by unfold sc; rw [if_pos ⟨ha, hn, hd, d1⟩, if_pos hq]
    have e2 : sc n a d = (a * n / d, a * n % d, 0) := by unfold sc; rw [if_pos ⟨hn, ha, hd, d1⟩, Int.mul_comm n a, if_pos hq]
    have r0 := Int.emod_nonneg (a * n) (show d ≠ 0 by omega)
    have r1 := Int.emod_lt_of_pos (a * n) (show 0 < d by omega)
    have eD := Int.mul_ediv_add_emod (a * n) d
    rw [e, e2, Option.bind_some]
    simp only [if_true]
    rw [if_neg (by omega), if_neg (by omega)]
    have ew : wrap64 (wrap64 (a * n / d * d) + a * n % d) = wrap64 (a * n) := by
      rw [Int.mul_comm] at eD
      generalize a * n / d * d = X at *
      generalize a * n % d = R at *
      generalize a * n = P at *
      unfold wrap64
      omega
    rw [if_pos ew]
    rfl
  · have e : ∃ x, sc a n d = (0, 0, x) ∧ x ≠ 0 := by
      unfold sc
      by_cases h1 : Tm a ∧ Tm n ∧ Tm d ∧ 1 ≤ d
      · rw [if_pos h1, if_neg (fun q => h ⟨h1, q⟩)]
        exact ⟨2, rfl, by decide⟩
      · rw [if_neg h1]
        exact ⟨1, rfl, by decide⟩
    obtain ⟨x, e, hx⟩ := e
    rw [e]
    simp only
    rw [if_neg hx]
    simp
end Go.Proofs.Ytmkjljekofondaa.Pure
