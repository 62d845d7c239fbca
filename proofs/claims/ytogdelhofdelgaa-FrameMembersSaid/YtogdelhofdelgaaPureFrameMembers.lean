/- A set of members has, gains, loses and counts as the document says, at any number. Conditions: none but the kinds of the values. -/
import Derived.Test.YtogdelhofdelgaaFrame08
import Derived.Test.YtogdelhofdelgaaPrint0
import Derived.Test.YtogdelhofdelgaaPrint11
import Derived.Test.YtogdelhofdelgaaPrint12
set_option linter.unusedVariables false
set_option linter.unusedSimpArgs false
namespace Go.Proofs.Ytogdelhofdelgaa.Pure
open Go Go.RowKit Go.Proofs.Ytogdelhofdelgaa.Print Go.Proofs.YtogdelhofdelgaaW.PrintWords Go.Proofs.YtogdelhofdelgaaW.PrintLast Go.Proofs.YtogdelhofdelgaaW.PrintMore Go.Proofs.Ytogdelhofdelgaa.Bits16 Go.Proofs.Ytogdelhofdelgaa.Set08 Go.Proofs.Ytogdelhofdelgaa.Frame08
theorem rcount_l0 (m : Nat) (hm : m < 65536) (d : Nat) : ∀ (k j c : Nat), j ≤ 16 → 16 - j = d → c ≤ j → d < k → pc m j = c → palletref08_Count.l0 k (m : Int) (c : Int) (j : Int) = some ((pc m 16 : Nat) : Int) := by
  induction d with
  | zero =>
    intro k j c hj hd hc hk e
    obtain ⟨k, rfl⟩ : ∃ i, k = i + 1 := ⟨k - 1, by omega⟩
    obtain rfl : j = 16 := by omega
    rw [palletref08_Count.l0, if_neg (by omega), e]
  | succ d ih =>
    intro k j c hj hd hc hk e
    obtain ⟨k, rfl⟩ : ∃ i, k = i + 1 := ⟨k - 1, by omega⟩
    rw [palletref08_Count.l0, if_pos (by omega), rhas_eq hm (by omega), Option.bind_some, w64 (by omega) (by omega), w64 (by omega) (by omega), show (j : Int) + 1 = ((j + 1 : Nat) : Int) by omega, show (c : Int) + 1 = ((c + 1 : Nat) : Int) by omega]
    cases hb : m.testBit j with
    | true =>
      rw [if_pos rfl]
      exact ih k (j + 1) (c + 1) (by omega) (by omega) (by omega) (by omega) (by rw [pc, hb, e]; rfl)
    | false =>
      rw [if_neg (by decide)]
      exact ih k (j + 1) c (by omega) (by omega) (by omega) (by omega) (by rw [pc, hb, e]; rfl)
theorem FrameMembers : ∀ (a0 : Int) (a1 : Int), (Lit.int .u16 a0).wf = true → (Lit.int .i64 a1).wf = true → ∃ k, palletlaw08_FrameMembers.f k a0 a1 = some true := by
  intro a0 a1 h0 h1
  obtain ⟨m, rfl, hm⟩ := u16_of h0
  refine ⟨100, ?_⟩
  unfold palletlaw08_FrameMembers.f
  have c : palletref08_Count.f 100 (m : Int) = some ((pc m 16 : Nat) : Int) := by
    unfold palletref08_Count.f
    exact rcount_l0 m hm 16 100 0 0 (by omega) (by omega) (by omega) (by omega) rfl
  rw [live8, Option.bind_some, if_pos rfl]
  by_cases h : 0 ≤ a1 ∧ a1 < 16
  · obtain ⟨n, rfl⟩ : ∃ n : Nat, a1 = n := ⟨a1.toNat, by omega⟩
    have hn : n < 16 := by omega
    rw [has_eq hm hn, rhas_eq hm hn, with_eq hm hn, rwith_eq hm hn, without_eq hm hn, rwithout_eq hm hn, count_eq hm, c]
    simp only [Option.bind_some, beq_self_eq_true, if_true]
  · rw [has_out hm h, rhas_out h, with_out hm h, rwith_out h, without_out hm h, rwithout_out h, count_eq hm, c]
    simp only [Option.bind_some, beq_self_eq_true, if_true]
end Go.Proofs.Ytogdelhofdelgaa.Pure
