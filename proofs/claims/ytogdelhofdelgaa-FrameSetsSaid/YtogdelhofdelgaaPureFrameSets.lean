/- To take a member into a set, or out of it, changes that member alone, and the count by one; two such are alike in either order. Conditions: none but the kinds of the values. -/
import Derived.Test.YtogdelhofdelgaaFrame08
import Derived.Test.YtogdelhofdelgaaPrint0
import Derived.Test.YtogdelhofdelgaaPrint13
set_option linter.unusedVariables false
set_option linter.unusedSimpArgs false
namespace Go.Proofs.Ytogdelhofdelgaa.Pure
open Go Go.RowKit Go.Proofs.Ytogdelhofdelgaa.Print Go.Proofs.YtogdelhofdelgaaW.PrintWords Go.Proofs.YtogdelhofdelgaaW.PrintLast Go.Proofs.YtogdelhofdelgaaW.PrintMore Go.Proofs.Ytogdelhofdelgaa.Bits16 Go.Proofs.Ytogdelhofdelgaa.Set08 Go.Proofs.Ytogdelhofdelgaa.Frame08
theorem wi_comm (m i j : Nat) : wi (wi m i) j = wi (wi m j) i := by
  unfold wi
  split <;> split <;> try rfl
  rw [Nat.or_assoc, Nat.or_comm (2 ^ i), ← Nat.or_assoc]
theorem wo_comm (m i j : Nat) : wo (wo m i) j = wo (wo m j) i := by
  unfold wo
  split <;> split <;> try rfl
  rw [Nat.and_assoc, Nat.and_comm (65535 - 2 ^ i), ← Nat.and_assoc]
theorem sets_l0 (m i o : Nat) (hm : m < 65536) (hi : i < 16) (ho : o < 16) (d : Nat) : ∀ (k j : Nat), j ≤ 16 → 16 - j = d → d < k → palletlaw08_FrameSets.l0 k (m : Int) (i : Int) (o : Int) true ((wi m i : Nat) : Int) ((wo m i : Nat) : Int) (j : Int) = some true := by
  induction d with
  | zero =>
    intro k j hj hd hk
    obtain ⟨k, rfl⟩ : ∃ i, k = i + 1 := ⟨k - 1, by omega⟩
    rw [palletlaw08_FrameSets.l0, if_neg (by omega), if_pos rfl, with_eq hm hi, Option.bind_some, with_eq (wi_lt hm) ho, Option.bind_some, with_eq hm ho, Option.bind_some, with_eq (wi_lt hm) hi, Option.bind_some, wi_comm, if_pos rfl, without_eq hm hi, Option.bind_some, without_eq (wo_lt hm) ho, Option.bind_some, without_eq hm ho, Option.bind_some, without_eq (wo_lt hm) hi, Option.bind_some, wo_comm, beq_self_eq_true]
  | succ d ih =>
    intro k j hj hd hk
    obtain ⟨k, rfl⟩ : ∃ i, k = i + 1 := ⟨k - 1, by omega⟩
    have go := ih k (j + 1) (by omega) (by omega) (by omega)
    rw [palletlaw08_FrameSets.l0, if_pos (by omega), w64 (by omega) (by omega), show (j : Int) + 1 = ((j + 1 : Nat) : Int) by omega]
    by_cases e : j = i
    · rw [if_pos (by omega)]
      exact go
    · have b1 : (wi m i).testBit j = m.testBit j := by rw [wi_bit m i j hi, decide_eq_false (fun c => e c.symm), Bool.or_false]
      have b2 : (wo m i).testBit j = m.testBit j := by rw [wo_bit m i j hm hi, decide_eq_false (fun c => e c.symm), Bool.not_false, Bool.and_true]
      rw [if_neg (by omega), has_eq (wi_lt hm) (by omega), has_eq hm (by omega), has_eq (wo_lt hm) (by omega), b1, b2]
      simp only [Option.bind_some, bne_self_eq_false]
      rw [if_neg (by decide), if_neg (by decide)]
      exact go
theorem FrameSets : ∀ (a0 : Int) (a1 : Int) (a2 : Int), (Lit.int .u16 a0).wf = true → (Lit.int .i64 a1).wf = true → (Lit.int .i64 a2).wf = true → ∃ k, palletlaw08_FrameSets.f k a0 a1 a2 = some true := by
  intro a0 a1 a2 h0 h1 h2
  obtain ⟨m, rfl, hm⟩ := u16_of h0
  refine ⟨100, ?_⟩
  unfold palletlaw08_FrameSets.f
  have md : ∀ a : Int, ∃ i : Nat, Int.tmod (wrap64 (Int.tmod a 16 + 16)) 16 = (i : Int) ∧ i < 16 := by
    intro a
    have q1 := Int.tmod_lt_of_pos a (show (0 : Int) < 16 by decide)
    have q2 := Int.lt_tmod_of_pos a (show (0 : Int) < 16 by decide)
    rw [w64 (by omega) (by omega), Int.tmod_eq_emod_of_nonneg (by omega)]
    exact ⟨((Int.tmod a 16 + 16) % 16).toNat, by omega, by omega⟩
  obtain ⟨i, ei, hi⟩ := md a1
  obtain ⟨o, eo, ho⟩ := md a2
  rw [live8, Option.bind_some, if_pos rfl, ei, eo, with_eq hm hi, Option.bind_some, without_eq hm hi, Option.bind_some, has_eq (wi_lt hm) hi, has_eq (wo_lt hm) hi, Option.bind_some, Option.bind_some, count_eq (wi_lt hm), count_eq (wo_lt hm), Option.bind_some, Option.bind_some]
  have b1 : (wi m i).testBit i = true := by rw [wi_bit m i i hi, decide_eq_true rfl, Bool.or_true]
  have b2 : (wo m i).testBit i = false := by rw [wo_bit m i i hm hi, decide_eq_true rfl, Bool.not_true, Bool.and_false]
  have c := pc_diff (wi m i) (wo m i) i b1 b2 (fun j e => by rw [wi_bit m i j hi, wo_bit m i j hm hi, decide_eq_false e, Bool.or_false, Bool.not_false, Bool.and_true]) 16
  rw [if_pos hi] at c
  have l2 := pc_le (wo m i) 16
  rw [b1, b2, if_pos rfl, if_neg (by decide), w64 (by omega) (by omega), show ((pc (wi m i) 16 : Nat) : Int) = ((pc (wo m i) 16 : Nat) : Int) + 1 by omega, bne_self_eq_false, show (100 : Nat) = 99 + 1 from rfl, palletlaw08_FrameSets.j0, if_neg (by decide)]
  exact sets_l0 m i o hm hi ho 16 99 0 (by omega) (by omega) (by omega)
end Go.Proofs.Ytogdelhofdelgaa.Pure
