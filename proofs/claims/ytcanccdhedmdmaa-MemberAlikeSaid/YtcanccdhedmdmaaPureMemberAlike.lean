/- Two nodes that have the same members, and neither of which the frame does not hear, judge it alike, and have the same members behind it. Conditions: none but that each number is of its kind. -/
import Derived.Test.YtcanccdhedmdmaaLive10
import Derived.Test.YtcanccdhedmdmaaMem
import Derived.Test.YtcanccdhedmdmaaPrint0
import Derived.Test.YtcanccdhedmdmaaPrint10
set_option linter.unusedVariables false
set_option linter.unusedSimpArgs false
namespace Go.Proofs.Ytcanccdhedmdmaa.Pure
open Go.RowKit Go.Proofs.Ytcanccdhedmdmaa.Print Go.Proofs.YtcanccdhedmdmaaW.PrintWords Go.Proofs.YtcanccdhedmdmaaW.PrintLast Go.Proofs.YtcanccdhedmdmaaW.PrintMore Go.Proofs.Ytcanccdhedmdmaa.Medl

open Go.Proofs.Ytcanccdhedmdmaa.Mem Go.Proofs.Ytcanccdhedmdmaa.Bits16
theorem wfu16 {x : Int} (h : (Lit.int .u16 x).wf = true) : ∃ m : Nat, x = m ∧ m < 65536 := by
  have h : 0 ≤ x ∧ x ≤ 65535 := by simpa [Lit.wf, IntKind.min, IntKind.max, IntKind.signed, IntKind.bits] using h
  exact ⟨x.toNat, by omega, by omega⟩
theorem MemberAlike : ∀ (a0_0 : Int) (a0_1 : Int) (a0_2 : Int) (a0_3 : Int) (a0_4 : Int) (a1 : Int) (a2 : Int) (a3 : Int) (a4 : Int) (a5_0 : Int) (a5_1 : Int) (a5_2 : Int) (a5_3 : Int), (Lit.int .i64 a0_0).wf = true → (Lit.int .i64 a0_1).wf = true → (Lit.int .i64 a0_2).wf = true → (Lit.int .i64 a0_3).wf = true → (Lit.int .i64 a0_4).wf = true → (Lit.int .i64 a1).wf = true → (Lit.int .i64 a2).wf = true → (Lit.int .u16 a3).wf = true → (Lit.int .u64 a4).wf = true → (Lit.int .i64 a5_0).wf = true → (Lit.int .i64 a5_1).wf = true → (Lit.int .u64 a5_2).wf = true → (Lit.int .u16 a5_3).wf = true → ∃ k, palletlaw10_MemberAlike.f k a0_0 a0_1 a0_2 a0_3 a0_4 a1 a2 a3 a4 a5_0 a5_1 a5_2 a5_3 = some true := by
  intro n s l f w a b own x kd fr sl g _ _ _ _ _ _ _ hown hx _ _ _ hg
  obtain ⟨m, rfl, hm⟩ := wfu16 hown
  obtain ⟨g, rfl, hgl⟩ := wfu16 hg
  have h0 := (wfu64 hx).1
  obtain ⟨k, hk⟩ : ∃ k : Nat, k = 40 := ⟨40, rfl⟩
  refine ⟨k + 2, ?_⟩
  unfold palletlaw10_MemberAlike.f
  rw [live10 (by omega)]
  simp only [Option.bind_some, if_true]
  by_cases ho : Ok n s l f w ∧ x ≤ 4294967296
  case neg =>
    rw [owner_no ho]
    simp
  rw [owner_ok ho.1 h0 ho.2]
  simp only [Option.bind_some, if_true]
  rw [judge_eq (by omega) hm h0, judge_eq (by omega) hm h0]
  simp only [Option.bind_some]
  by_cases ha : MGood n s l f w x a ∧ Fok kd fr sl
  case neg =>
    rw [if_neg ha, if_neg (show ¬ (0, 1).2 = (0 : Int) by decide)]
    simp [palletlaw10_MemberAlike.j0]
  rw [if_pos ha, if_pos (show (_, 0).2 = (0 : Int) from rfl)]
  by_cases hb : MGood n s l f w x b ∧ Fok kd fr sl
  case neg =>
    rw [if_neg hb]
    simp [palletlaw10_MemberAlike.j0]
  rw [if_pos hb]
  have hn := ho.1.2.1
  obtain ⟨o, eo, ho2⟩ := owner_nat ho.1 h0
  obtain ⟨a, rfl⟩ : ∃ j : Nat, a = j := ⟨a.toNat, by have := ha.1.2.2.1; omega⟩
  obtain ⟨b, rfl⟩ : ∃ j : Nat, b = j := ⟨b.toNat, by have := hb.1.2.2.1; omega⟩
  have ha2 : a < 16 := by have := ha.1.2.2.2; omega
  have hb2 : b < 16 := by have := hb.1.2.2.2; omega
  rw [eo]
  simp only [Int.toNat_natCast, palletlaw10_MemberAlike.j0]
  rw [if_neg (by decide)]
  obtain ⟨p, hp⟩ : ∃ p, (if fr = (o : Int) ∧ sl = x then vd m a o g else 3) = p := ⟨_, rfl⟩
  obtain ⟨q, hq⟩ : ∃ q, (if fr = (o : Int) ∧ sl = x then vd m b o g else 3) = q := ⟨_, rfl⟩
  rw [hp, hq]
  have two : ∀ c : Nat, c < 16 → (if fr = (o : Int) ∧ sl = x then vd m c o g else 3) = 2 → m.testBit c = true ∧ g.testBit c = false := by
    intro c hc h
    by_cases h1 : fr = (o : Int) ∧ sl = x
    · rw [if_pos h1] at h
      unfold vd at h
      by_cases h2 : (g : Int) = (wi m o : Nat)
      · rw [if_pos h2] at h; omega
      rw [if_neg h2] at h
      by_cases h3 : c ≠ o ∧ m.testBit c = true ∧ (g : Int) = (wo (wi m o) c : Nat)
      · refine ⟨h3.2.1, ?_⟩
        have e : g = wo (wi m o) c := by have := h3.2.2; omega
        rw [e, wo_bit _ _ _ (wi_lt hm) hc]
        simp
      · rw [if_neg h3] at h; omega
    · rw [if_neg h1] at h; omega
  have no : palletlaw10_MemberAlike.j1 (k + 1) a b m x true o p q true n s l f w kd fr sl g = some true ∨ p ≠ 2 := by
    by_cases h : p = 2
    · left
      simp only [palletlaw10_MemberAlike.j1]
      have := two a ha2 (hp.trans h)
      rw [if_pos trivial, if_pos trivial, if_pos h, has_eq hm ha2, Option.bind_some, this.1, if_pos rfl, has_eq hgl ha2, Option.bind_some, this.2]
      rfl
    · exact Or.inr h
  by_cases hp2 : p = 2
  · rw [if_pos hp2]
    exact no.resolve_right (fun h => h hp2)
  rw [if_neg hp2]
  by_cases hq2 : q = 2
  · have e : (q == 2) = true := by simp [hq2]
    rw [e]
    simp only [palletlaw10_MemberAlike.j1]
    rw [if_pos trivial, if_pos trivial, if_neg hp2]
  have e : (q == 2) = false := by simp [hq2]
  rw [e]
  have pq : p = q ∧ 0 ≤ p ∧ p ≤ 3 := by
    by_cases h1 : fr = (o : Int) ∧ sl = x
    · rw [if_pos h1] at hp hq
      unfold vd at hp hq
      by_cases h2 : (g : Int) = (wi m o : Nat)
      · rw [if_pos h2] at hp hq; omega
      · rw [if_neg h2] at hp hq
        split at hp
        · omega
        · split at hq <;> omega
    · rw [if_neg h1] at hp hq; omega
  obtain ⟨rfl, p0, p3⟩ := pq
  simp only [palletlaw10_MemberAlike.j1]
  have ra : MGood n s l f w x a ∧ 0 ≤ p ∧ p ≤ 3 := ⟨ha.1, p0, p3⟩
  have rb : MGood n s l f w x b ∧ 0 ≤ p ∧ p ≤ 3 := ⟨hb.1, p0, p3⟩
  rw [if_neg (by decide), after_eq hm h0, after_eq hm h0, if_pos ra, if_pos rb, eo]
  simp only [Option.bind_some, Int.toNat_natCast, if_true, beq_self_eq_true]
  by_cases h1 : (a : Int) = o
  · rw [if_pos h1]
  rw [if_neg h1]
  by_cases h2 : (b : Int) = o
  · rw [if_pos h2]
  rw [if_neg h2]
  have e2 : aft m a o p = aft m b o p := by
    have n1 : ¬ a = o := by omega
    have n2 : ¬ b = o := by omega
    unfold aft
    rw [if_neg n1, if_neg n2, if_neg hp2, if_neg hp2]
  rw [e2]
  simp
end Go.Proofs.Ytcanccdhedmdmaa.Pure
