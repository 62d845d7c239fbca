/- A node that sends what the others think is there, and itself, is a member of all behind its slot; one that does not send is of none. Conditions: none but that each number is of its kind. -/
import Derived.Test.YtcanccdhedmdmaaLive10
import Derived.Test.YtcanccdhedmdmaaMem
import Derived.Test.YtcanccdhedmdmaaPrint0
import Derived.Test.YtcanccdhedmdmaaPrint11
set_option linter.unusedVariables false
set_option linter.unusedSimpArgs false
namespace Go.Proofs.Ytcanccdhedmdmaa.Pure
open Go.RowKit Go.Proofs.Ytcanccdhedmdmaa.Print Go.Proofs.YtcanccdhedmdmaaW.PrintWords Go.Proofs.YtcanccdhedmdmaaW.PrintLast Go.Proofs.YtcanccdhedmdmaaW.PrintMore Go.Proofs.Ytcanccdhedmdmaa.Medl

open Go.Proofs.Ytcanccdhedmdmaa.Mem Go.Proofs.Ytcanccdhedmdmaa.Bits16
theorem wfu16 {x : Int} (h : (Lit.int .u16 x).wf = true) : ∃ m : Nat, x = m ∧ m < 65536 := by
  have h : 0 ≤ x ∧ x ≤ 65535 := by simpa [Lit.wf, IntKind.min, IntKind.max, IntKind.signed, IntKind.bits] using h
  exact ⟨x.toNat, by omega, by omega⟩
theorem MemberComes : ∀ (a0_0 : Int) (a0_1 : Int) (a0_2 : Int) (a0_3 : Int) (a0_4 : Int) (a1 : Int) (a2 : Int) (a3 : Int) (a4 : Bool), (Lit.int .i64 a0_0).wf = true → (Lit.int .i64 a0_1).wf = true → (Lit.int .i64 a0_2).wf = true → (Lit.int .i64 a0_3).wf = true → (Lit.int .i64 a0_4).wf = true → (Lit.int .i64 a1).wf = true → (Lit.int .u16 a2).wf = true → (Lit.int .u64 a3).wf = true → ∃ k, palletlaw10_MemberComes.f k a0_0 a0_1 a0_2 a0_3 a0_4 a1 a2 a3 a4 = some true := by
  intro n s l f w me own x kind _ _ _ _ _ _ hown hx
  obtain ⟨m, rfl, hm⟩ := wfu16 hown
  have h0 := (wfu64 hx).1
  obtain ⟨k, hk⟩ : ∃ k : Nat, k = 40 := ⟨40, rfl⟩
  refine ⟨k + 2, ?_⟩
  unfold palletlaw10_MemberComes.f
  rw [live10 (by omega)]
  simp only [Option.bind_some, if_true]
  have no : ∀ o : Int, palletlaw10_MemberComes.j0 (k + 2) me m x kind true o true n s l f w = some true := fun o => by simp [palletlaw10_MemberComes.j0]
  by_cases ho : Ok n s l f w ∧ x ≤ 4294967296
  case neg =>
    rw [owner_no ho]
    simp only [Option.bind_some]
    rw [if_neg (by decide), no]
  rw [owner_ok ho.1 h0 ho.2]
  simp only [Option.bind_some, if_true]
  by_cases h1 : me < 0
  · rw [if_pos h1, no]
  rw [if_neg h1]
  by_cases h2 : me ≥ n
  · rw [if_pos h2, no]
  rw [if_neg h2]
  have hn := ho.1.2.1
  obtain ⟨o, eo, ho2⟩ := owner_nat ho.1 h0
  obtain ⟨me, rfl⟩ : ∃ j : Nat, me = j := ⟨me.toNat, by omega⟩
  have hme : me < 16 := by omega
  rw [eo]
  by_cases h3 : (me : Int) = o
  · have e : ((me : Int) == o) = true := by simp [h3]
    rw [e, no]
  have e : ((me : Int) == (o : Int)) = false := beq_eq_false_iff_ne.2 h3
  rw [e]
  have hG : MGood n s l f w x me := ⟨ho.1, ho.2, by omega, by omega⟩
  have fin : ∀ kd, kd = 1 ∨ kd = 2 → palletlaw10_MemberComes.j1 (k + 1) me m x true o n s l f w kd o x (wi m o : Nat) = some true := by
    intro kd hkd
    have hF : Fok kd o x := ⟨hkd, by omega, by omega, ho.2⟩
    have hr : MGood n s l f w x me ∧ Fok kd o x := ⟨hG, hF⟩
    simp only [palletlaw10_MemberComes.j1]
    rw [judge_eq (by omega) hm h0, if_pos hr, eo, if_pos ⟨rfl, rfl⟩, Int.toNat_natCast, Int.toNat_natCast]
    have hv : vd m me o (wi m o : Nat) = 1 := by unfold vd; rw [if_pos rfl]
    rw [hv]
    simp only [Option.bind_some]
    have r1 : MGood n s l f w x me ∧ (0 : Int) ≤ 1 ∧ (1 : Int) ≤ 3 := ⟨hG, by decide, by decide⟩
    have r2 : MGood n s l f w x me ∧ (0 : Int) ≤ 0 ∧ (0 : Int) ≤ 3 := ⟨hG, by decide, by decide⟩
    rw [after_eq hm h0, after_eq hm h0, if_pos r1, if_pos r2, eo]
    simp only [Option.bind_some, Int.toNat_natCast, if_true]
    have a1 : aft m me o 1 = wi m o := by unfold aft; rw [if_neg (by omega), if_pos rfl]
    have a2 : aft m me o 0 = wo m o := by unfold aft; rw [if_neg (by omega), if_neg (by decide), if_neg (by decide)]
    have b1 : (wi m o).testBit o = true := by rw [wi_bit _ _ _ ho2]; simp
    have b2 : (wo m o).testBit o = false := by rw [wo_bit _ _ _ hm ho2]; simp
    have c : wo (wi m o) o = wo m o := by
      apply Nat.eq_of_testBit_eq
      intro i
      rw [wo_bit _ _ _ (wi_lt hm) ho2, wo_bit _ _ _ hm ho2, wi_bit _ _ _ ho2]
      by_cases e : o = i
      · subst e; simp
      · simp [e]
    rw [a1, a2, has_eq (wi_lt hm) ho2, Option.bind_some, b1, if_pos rfl, has_eq (wo_lt hm) ho2, Option.bind_some, b2, if_neg (by decide), without_eq (wi_lt hm) ho2, Option.bind_some, c]
    simp
  simp only [palletlaw10_MemberComes.j0]
  rw [if_neg (by decide), with_eq hm ho2, Option.bind_some]
  cases kind
  · rw [if_neg (by decide)]
    exact fin 1 (Or.inl rfl)
  · rw [if_pos rfl]
    exact fin 2 (Or.inr rfl)
end Go.Proofs.Ytcanccdhedmdmaa.Pure
