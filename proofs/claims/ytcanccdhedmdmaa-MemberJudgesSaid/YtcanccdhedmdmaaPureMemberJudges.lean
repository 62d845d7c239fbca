/- What any frame in any slot is for any node, who is there then, by any verdict, and any tally: the program and the document say the same. Conditions: none but that each number is of its kind. -/
import Derived.Test.YtcanccdhedmdmaaLive10
import Derived.Test.YtcanccdhedmdmaaMemRef
import Derived.Test.YtcanccdhedmdmaaPrint0
import Derived.Test.YtcanccdhedmdmaaPrint7
import Derived.Test.YtcanccdhedmdmaaPrint18
import Derived.Test.YtcanccdhedmdmaaPrint19
set_option linter.unusedVariables false
set_option linter.unusedSimpArgs false
namespace Go.Proofs.Ytcanccdhedmdmaa.Pure
open Go.RowKit Go.Proofs.Ytcanccdhedmdmaa.Print Go.Proofs.YtcanccdhedmdmaaW.PrintWords Go.Proofs.YtcanccdhedmdmaaW.PrintLast Go.Proofs.YtcanccdhedmdmaaW.PrintMore Go.Proofs.Ytcanccdhedmdmaa.Medl

open Go.Proofs.Ytcanccdhedmdmaa.Mem Go.Proofs.Ytcanccdhedmdmaa.Bits16
theorem wfu16 {x : Int} (h : (Lit.int .u16 x).wf = true) : ∃ m : Nat, x = m ∧ m < 65536 := by
  have h : 0 ≤ x ∧ x ≤ 65535 := by simpa [Lit.wf, IntKind.min, IntKind.max, IntKind.signed, IntKind.bits] using h
  exact ⟨x.toNat, by omega, by omega⟩
theorem MemberJudges : ∀ (a0_0 : Int) (a0_1 : Int) (a0_2 : Int) (a0_3 : Int) (a0_4 : Int) (a1 : Int) (a2 : Int) (a3 : Int) (a4_0 : Int) (a4_1 : Int) (a4_2 : Int) (a4_3 : Int) (a5 : Int) (a6_0 : Int) (a6_1 : Int), (Lit.int .i64 a0_0).wf = true → (Lit.int .i64 a0_1).wf = true → (Lit.int .i64 a0_2).wf = true → (Lit.int .i64 a0_3).wf = true → (Lit.int .i64 a0_4).wf = true → (Lit.int .i64 a1).wf = true → (Lit.int .u16 a2).wf = true → (Lit.int .u64 a3).wf = true → (Lit.int .i64 a4_0).wf = true → (Lit.int .i64 a4_1).wf = true → (Lit.int .u64 a4_2).wf = true → (Lit.int .u16 a4_3).wf = true → (Lit.int .i64 a5).wf = true → (Lit.int .i64 a6_0).wf = true → (Lit.int .i64 a6_1).wf = true → ∃ k, palletlaw10_MemberJudges.f k a0_0 a0_1 a0_2 a0_3 a0_4 a1 a2 a3 a4_0 a4_1 a4_2 a4_3 a5 a6_0 a6_1 = some true := by
  intro n s l f w me own x kd fr sl g v tg tb _ _ _ _ _ _ hown hx _ _ _ _ _ _ _
  obtain ⟨m, rfl, hm⟩ := wfu16 hown
  have h0 := (wfu64 hx).1
  obtain ⟨k, hk⟩ : ∃ k : Nat, k = 40 := ⟨40, rfl⟩
  refine ⟨k, ?_⟩
  unfold palletlaw10_MemberJudges.f
  rw [live10 (by omega)]
  simp only [Option.bind_some, if_true]
  rw [judge_eq (by omega) hm h0, rjudge_eq (by omega) hm h0, after_eq hm h0, rafter_eq (by omega) hm h0, cnt_eq (by omega), rcnt_eq (by omega)]
  simp only [Option.bind_some, if_true, beq_self_eq_true, Bool.and_self]
  have e : palletref10_Clique.f tg tb = member_Clique.f tg tb := by
    unfold palletref10_Clique.f member_Clique.f
    rfl
  rw [e]
  unfold member_Clique.f
  split <;> simp
end Go.Proofs.Ytcanccdhedmdmaa.Pure
