/- What any two times come to, added, taken away, and multiplied, and any one's parts, or why not, is as the document says. Conditions: none but that each number is of its kind. -/
import Derived.Test.YtmkjljekofondaaScale01
import Derived.Test.YtmkjljekofondaaLive01
import Derived.Test.YtmkjljekofondaaRef01
import Derived.Test.YtmkjljekofondaaPrint0
import Derived.Test.YtmkjljekofondaaPrint11
import Derived.Test.YtmkjljekofondaaPrint12
import Derived.Test.YtmkjljekofondaaPrint14
import Derived.Test.YtmkjljekofondaaPrint15
set_option linter.unusedVariables false
set_option linter.unusedSimpArgs false
namespace Go.Proofs.Ytmkjljekofondaa.Pure
open Go.RowKit Go.Proofs.Ytmkjljekofondaa.Print Go.Proofs.YtmkjljekofondaaW.PrintWords Go.Proofs.YtmkjljekofondaaW.PrintLast Go.Proofs.YtmkjljekofondaaW.PrintMore
open Go Go.Proofs.Ytmkjljekofondaa.Medl Go.Proofs.Ytmkjljekofondaa.Scale01
open Go.Proofs.Ytmkjljekofondaa.Ref01
theorem radd_eq {k : Nat} (hk : 3 ≤ k) (x y : Int) : palletref01_Add.f k x y = some (if Tm x ∧ Tm y then (if Tm (x + y) then (x + y, 0) else (0, 2)) else (0, 1)) := by
  unfold palletref01_Add.f
  rw [refmay2 (by omega)]
  by_cases h : Tm x ∧ Tm y
  · rw [decide_eq_true h, if_pos h]
    have h1 := h.1
    have h2 := h.2
    unfold Tm at h1 h2
    simp only [Option.bind_some, if_true]
    rw [w64 (by omega) (by omega), refmay01_one (by omega)]
    by_cases c : Tm (x + y) <;> simp [c]
  · rw [decide_eq_false h, if_neg h]
    simp
theorem rsub_eq {k : Nat} (hk : 3 ≤ k) (x y : Int) : palletref01_Sub.f k x y = some (if Tm x ∧ Tm y then (if Tm (x - y) then (x - y, 0) else (0, 2)) else (0, 1)) := by
  unfold palletref01_Sub.f
  rw [refmay2 (by omega)]
  by_cases h : Tm x ∧ Tm y
  · rw [decide_eq_true h, if_pos h]
    have h1 := h.1
    have h2 := h.2
    unfold Tm at h1 h2
    simp only [Option.bind_some, if_true]
    rw [w64 (by omega) (by omega), radd_eq hk, if_pos ⟨h.1, by unfold Tm; omega⟩, show x + -y = x - y by omega]
    simp
  · rw [decide_eq_false h, if_neg h]
    simp
theorem PicoReckons : ∀ (a0 : Int) (a1 : Int) (a2 : Int), (Lit.int .i64 a0).wf = true → (Lit.int .i64 a1).wf = true → (Lit.int .i64 a2).wf = true → ∃ k, palletlaw01_PicoReckons.f k a0 a1 a2 = some true := by
  intro a b c _ _ _
  obtain ⟨k, hk⟩ : ∃ k : Nat, k = 500 := ⟨_, rfl⟩
  refine ⟨k, ?_⟩
  unfold palletlaw01_PicoReckons.f pico_Mul.f palletref01_Mul.f
  rw [live1 (by omega), Option.bind_some, if_pos rfl, add_eq (by omega), radd_eq (by omega), sub_eq (by omega), rsub_eq (by omega), scale_eq (by omega), rscale_eq (by omega), scale_eq (by omega), rscale_eq (by omega), may_three (by omega), refmay3 (by omega)]
  simp
end Go.Proofs.Ytmkjljekofondaa.Pure
