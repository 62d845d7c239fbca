/- Any text's sums, of 24 and of 32 bits, and a text with any bit turned, are as the document says, and the text stays as it was. Conditions: none but the kinds of the values. -/
import Derived.Test.YtjohinenaamdcaaCrcRef
import Derived.Test.YtjohinenaamdcaaPrint0
import Derived.Test.YtjohinenaamdcaaPrint2
import Derived.Test.YtjohinenaamdcaaPrint6
import Derived.Test.YtjohinenaamdcaaPrint7
set_option linter.unusedVariables false
set_option linter.unusedSimpArgs false
namespace Go.Proofs.Ytjohinenaamdcaa.Pure
open Go Go.RowKit Go.Proofs.Ytjohinenaamdcaa.Print Go.Proofs.YtjohinenaamdcaaW.PrintWords Go.Proofs.YtjohinenaamdcaaW.PrintLast Go.Proofs.YtjohinenaamdcaaW.PrintMore Go.Proofs.Ytjohinenaamdcaa.Crc Go.Proofs.Ytjohinenaamdcaa.CrcFn
theorem live3 : palletlaw03_live.f = some true := by decide +kernel
theorem CrcSums : ∀ (l0 : List Int) (a1 : Int), l0.length ≤ maxLen → l0.length * 1 ≤ 140737488351232 → (∀ y ∈ l0, (Lit.int .u8 y).wf = true) → (Lit.int .i64 a1).wf = true → ∃ k, palletlaw03_CrcSums.f k l0 a1 = some true := by
  intro l0 a1 hm h1 hy ha
  obtain ⟨l, rfl, hl⟩ := bytes_of hy
  refine ⟨60000, ?_⟩
  unfold palletlaw03_CrcSums.f
  rw [live3, Option.bind_some, if_pos rfl, cs_len]
  by_cases h : (l.length : Int) > 5000
  · rw [if_pos h]
  have hn : l.length ≤ 10000000000 := by omega
  rw [if_neg h, if_pos (show ([] : List Int).length + l.length < 140737488355328 by rw [List.length_nil]; omega), Turn_eq l hl hn a1 (i64_le ha).2, Option.bind_some, RTurn_eq l hl hn a1 (i64_le ha).2, Option.bind_some, Sum24_eq l hl (by omega), Option.bind_some, RSum24_eq l hl hn (by omega), Option.bind_some, if_pos rfl, Sum32_eq l hl (by omega), Option.bind_some, show palletref03_Sum32.f 60000 (cs l) = some ((t32 l : Nat) : Int) from RSum32_eq l hl hn (by omega), Option.bind_some, if_pos rfl, Same_self, Option.bind_some, if_pos rfl, if_pos rfl, List.nil_append, Same_self]
  rfl
end Go.Proofs.Ytjohinenaamdcaa.Pure
