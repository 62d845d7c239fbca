/- Any text sealed or opened, with 24 bits or with 32, answers as the document says, value and error; the text stays as it was, though the opened text be written over. Conditions: none but the kinds of the values. -/
import Derived.Test.YtjohinenaamdcaaCrcRef
import Derived.Test.YtjohinenaamdcaaPrint0
import Derived.Test.YtjohinenaamdcaaPrint2
import Derived.Test.YtjohinenaamdcaaPrint14
set_option linter.unusedVariables false
set_option linter.unusedSimpArgs false
namespace Go.Proofs.Ytjohinenaamdcaa.Pure
open Go Go.RowKit Go.Proofs.Ytjohinenaamdcaa.Print Go.Proofs.YtjohinenaamdcaaW.PrintWords Go.Proofs.YtjohinenaamdcaaW.PrintLast Go.Proofs.YtjohinenaamdcaaW.PrintMore Go.Proofs.Ytjohinenaamdcaa.Crc Go.Proofs.Ytjohinenaamdcaa.CrcFn
theorem live3 : palletlaw03_live.f = some true := by decide +kernel
theorem seals_l0 (x0 : List Int) (m d : Nat) : ∀ (k i : Nat) (x : List Int), x.length = m → m ≤ 1000000000000 → m - i = d → i ≤ m → d < k → palletlaw03_CrcSeals.l0 k x0 true x0 x true (m : Int) (i : Int) = some true := by
  induction d with
  | zero =>
    intro k i x hx hm hd hi hk
    obtain ⟨k, rfl⟩ : ∃ j, k = j + 1 := ⟨k - 1, by omega⟩
    rw [palletlaw03_CrcSeals.l0]
    rw [if_neg (by omega), if_pos rfl, if_pos rfl, Same_self]
    rfl
  | succ d ih =>
    intro k i x hx hm hd hi hk
    obtain ⟨k, rfl⟩ : ∃ j, k = j + 1 := ⟨k - 1, by omega⟩
    rw [palletlaw03_CrcSeals.l0]
    rw [if_pos (by omega), if_pos (by omega), if_pos (by omega), w64 (by omega) (by omega), show (i : Int) + 1 = ((i + 1 : Nat) : Int) by omega]
    exact ih k (i + 1) _ (by rw [List.length_set]; exact hx) hm (by omega) (by omega) (by omega)
theorem op32_len (l : List Nat) : (op32 l).1.length ≤ l.length := by
  unfold op32
  split
  · exact Nat.zero_le _
  split
  · exact Nat.zero_le _
  split
  · show (cs _).length ≤ _
    rw [cs_len, List.length_take]
    omega
  · exact Nat.zero_le _
theorem CrcSeals : ∀ (l0 : List Int), l0.length ≤ maxLen → l0.length * 1 ≤ 140737488351232 → (∀ y ∈ l0, (Lit.int .u8 y).wf = true) → ∃ k, palletlaw03_CrcSeals.f k l0 = some true := by
  intro l0 hm h1 hy
  obtain ⟨l, rfl, hl⟩ := bytes_of hy
  refine ⟨100000000, ?_⟩
  unfold palletlaw03_CrcSeals.f
  rw [live3, Option.bind_some, if_pos rfl, cs_len]
  by_cases h : (l.length : Int) > 1048586
  · rw [if_pos h]
  have hn : l.length ≤ 10000000000 := by omega
  rw [if_neg h, if_pos (show ([] : List Int).length + l.length < 140737488355328 by rw [List.length_nil]; omega), Option.bind_some, List.nil_append, Seal24_sl l hl hn, Option.bind_some, RSeal24_eq l hl hn (by omega), Option.bind_some, Same_self, Option.bind_some, if_pos rfl, bne_self_eq_false]
  rw [show (100000000 : Nat) = 99999999 + 1 from rfl, palletlaw03_CrcSeals.j0, if_neg (by decide), Seal32_sl l hl hn, Option.bind_some, RSeal32_eq l hl hn (by omega), Option.bind_some, Same_self, Option.bind_some, if_pos rfl, bne_self_eq_false]
  rw [show (99999999 : Nat) = 99999998 + 1 from rfl, palletlaw03_CrcSeals.j1, if_neg (by decide), Open24_eq l hl hn, Option.bind_some, ROpen24_eq l hl hn (by omega), Option.bind_some, Same_self, Option.bind_some, if_pos rfl, bne_self_eq_false]
  rw [show (99999998 : Nat) = 99999997 + 1 from rfl, palletlaw03_CrcSeals.j2, if_neg (by decide), Open32_eq l hl hn, Option.bind_some, ROpen32_eq l hl hn (by omega), Option.bind_some, Same_self, Option.bind_some, if_pos rfl, beq_self_eq_true]
  rw [show (99999997 : Nat) = 99999996 + 1 from rfl, palletlaw03_CrcSeals.j3]
  have := op32_len l
  exact seals_l0 (cs l) (op32 l).1.length (op32 l).1.length 99999996 0 (op32 l).1 rfl (by omega) (by omega) (by omega) (by omega)
end Go.Proofs.Ytjohinenaamdcaa.Pure
