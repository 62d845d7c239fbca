/- Who is there, and how frames were, behind any slots of any verdicts, or why not: the program and the document say the same. Conditions: none but that each number is of its kind, and the list's length a slice's. -/
import Derived.Test.YtcanccdhedmdmaaLive10
import Derived.Test.YtcanccdhedmdmaaMemRound
import Derived.Test.YtcanccdhedmdmaaPrint0
import Derived.Test.YtcanccdhedmdmaaPrint22
set_option linter.unusedVariables false
set_option linter.unusedSimpArgs false
namespace Go.Proofs.Ytcanccdhedmdmaa.Pure
open Go.RowKit Go.Proofs.Ytcanccdhedmdmaa.Print Go.Proofs.YtcanccdhedmdmaaW.PrintWords Go.Proofs.YtcanccdhedmdmaaW.PrintLast Go.Proofs.YtcanccdhedmdmaaW.PrintMore Go.Proofs.Ytcanccdhedmdmaa.Medl

open Go.Proofs.Ytcanccdhedmdmaa.Mem Go.Proofs.Ytcanccdhedmdmaa.Bits16
theorem wfu16 {x : Int} (h : (Lit.int .u16 x).wf = true) : ∃ m : Nat, x = m ∧ m < 65536 := by
  have h : 0 ≤ x ∧ x ≤ 65535 := by simpa [Lit.wf, IntKind.min, IntKind.max, IntKind.signed, IntKind.bits] using h
  exact ⟨x.toNat, by omega, by omega⟩
theorem MemberRounds : ∀ (a0_0 : Int) (a0_1 : Int) (a0_2 : Int) (a0_3 : Int) (a0_4 : Int) (a1 : Int) (a2 : Int) (a3 : Int) (l4 : List Int), (Lit.int .i64 a0_0).wf = true → (Lit.int .i64 a0_1).wf = true → (Lit.int .i64 a0_2).wf = true → (Lit.int .i64 a0_3).wf = true → (Lit.int .i64 a0_4).wf = true → (Lit.int .i64 a1).wf = true → (Lit.int .u16 a2).wf = true → (Lit.int .u64 a3).wf = true → l4.length ≤ maxLen → l4.length * 8 ≤ 140737488351232 → (∀ y ∈ l4, (Lit.int .i64 y).wf = true) → ∃ k, palletlaw10_MemberRounds.f k a0_0 a0_1 a0_2 a0_3 a0_4 a1 a2 a3 l4 = some true := by
  intro n s l f w me own x xs _ _ _ _ _ _ hown hx _ _ _
  obtain ⟨m, rfl, hm⟩ := wfu16 hown
  have h0 := (wfu64 hx).1
  obtain ⟨k, hk⟩ : ∃ k : Nat, k = 200 := ⟨200, rfl⟩
  refine ⟨k, ?_⟩
  unfold palletlaw10_MemberRounds.f
  rw [live10 (by omega)]
  simp only [Option.bind_some, if_true]
  by_cases c : (xs.length : Int) > 100
  · rw [if_pos c]
  rw [if_neg c, round_eq (by omega) hm h0 xs (by omega), rround_eq (by omega) hm h0 xs (by omega)]
  simp only [Option.bind_some, if_true, beq_self_eq_true, Bool.and_self]
end Go.Proofs.Ytcanccdhedmdmaa.Pure
