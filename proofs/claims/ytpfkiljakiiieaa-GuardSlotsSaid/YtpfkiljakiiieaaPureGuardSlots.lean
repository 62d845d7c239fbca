/- So many slots' lengths, and what is more, are all of a time; what is more, or less, is half a length at the most; a length more is a slot more. Conditions: none but that each number is of its kind. -/
import Derived.Test.YtpfkiljakiiieaaGuard
import Derived.Test.YtpfkiljakiiieaaGuardNear
import Derived.Test.YtpfkiljakiiieaaPrint0
import Derived.Test.YtpfkiljakiiieaaPrint12
set_option linter.unusedVariables false
set_option linter.unusedSimpArgs false
namespace Go.Proofs.Ytpfkiljakiiieaa.Pure
open Go.RowKit Go.Proofs.Ytpfkiljakiiieaa.Print Go.Proofs.YtpfkiljakiiieaaW.PrintWords Go.Proofs.YtpfkiljakiiieaaW.PrintLast Go.Proofs.YtpfkiljakiiieaaW.PrintMore Go.Proofs.Ytpfkiljakiiieaa.Medl

theorem GuardSlots : ∀ (a0_0 : Int) (a0_1 : Int) (a0_2 : Int) (a0_3 : Int) (a0_4 : Int) (a1 : Int) (a2 : Int), (Lit.int .i64 a0_0).wf = true → (Lit.int .i64 a0_1).wf = true → (Lit.int .i64 a0_2).wf = true → (Lit.int .i64 a0_3).wf = true → (Lit.int .i64 a0_4).wf = true → (Lit.int .i64 a1).wf = true → (Lit.int .i64 a2).wf = true → ∃ k, palletlaw12_GuardSlots.f k a0_0 a0_1 a0_2 a0_3 a0_4 a1 a2 = some true := by
  intro n s l f w p far hn hs hl hf hw hp hfar
  obtain ⟨k, hk⟩ : ∃ k : Nat, k = 10 := ⟨10, rfl⟩
  refine ⟨k, ?_⟩
  unfold palletlaw12_GuardSlots.f
  rw [live12 (by omega)]
  simp only [Option.bind_some, if_true]
  by_cases h : Sc n s l f w p ∧ Tm far
  · obtain ⟨h, ht⟩ := h
    have r := sp_range h
    have ha := near_all (S := s * p) (far := far) (by omega)
    have hb := near_half (S := s * p) (far := far) (by omega)
    have ht2 := ht
    unfold Tm at ht2
    rw [gslots_ok h ht (by omega)]
    simp only [Option.bind_some, if_true]
    have hq : -4611686018427387904 ≤ (near (s * p) far).1 ∧ (near (s * p) far).1 ≤ 4611686018427387904 := by
      constructor
      · by_cases hc : 0 ≤ (near (s * p) far).1
        · omega
        · have := Int.mul_le_mul_of_nonpos_left (show (near (s * p) far).1 ≤ 0 by omega) (show 1 ≤ s * p by omega)
          omega
      · by_cases hc : (near (s * p) far).1 ≤ 0
        · omega
        · have := Int.mul_le_mul_of_nonneg_left (show 1 ≤ s * p by omega) (show 0 ≤ (near (s * p) far).1 by omega)
          omega
    rw [w64 (x := s * p) (by omega) (by omega), w64 (x := (near (s * p) far).1 * (s * p)) (by omega) (by omega), ha, w64 (x := far) (by omega) (by omega), if_pos rfl, w64 (x := 2 * (near (s * p) far).2) (by omega) (by omega), if_neg (by omega), w64 (x := -(s * p)) (by omega) (by omega), if_neg (by omega), w64 (x := far + s * p) (by omega) (by omega), w64 (x := (near (s * p) far).1 + 1) (by omega) (by omega)]
    by_cases ht3 : Tm (far + s * p)
    · rw [gslots_ok h ht3 (by omega), near_next (by omega)]
      simp
    · rw [gslots_no (fun q => ht3 q.2) (by omega)]
      simp
  · rw [gslots_no h (by omega)]
    simp
end Go.Proofs.Ytpfkiljakiiieaa.Pure
