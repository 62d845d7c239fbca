/- Plain facts on the schedule's functions (layer 7): what each printed function comes to. -/
import Derived.IntWalk
import Derived.Test.YtmkjljekofondaaPrint0
set_option linter.unusedVariables false
set_option linter.unusedSimpArgs false
namespace Go.Proofs.Ytmkjljekofondaa.Medl
open Go.RowKit Go.Proofs.Ytmkjljekofondaa.Print Go.Proofs.YtmkjljekofondaaW.PrintWords Go.Proofs.YtmkjljekofondaaW.PrintLast Go.Proofs.YtmkjljekofondaaW.PrintMore
theorem w64 {x : Int} (h : -9223372036854775808 ≤ x) (h2 : x ≤ 9223372036854775807) : wrap64 x = x := by unfold wrap64; omega
theorem u64 {x : Int} (h : 0 ≤ x) (h2 : x ≤ 18446744073709551615) : IntKind.u64.wrap x = x := IntWalk.u64_in x ⟨h, h2⟩
theorem wf64 {x : Int} (h : (Lit.int .i64 x).wf = true) : -9223372036854775808 ≤ x ∧ x ≤ 9223372036854775807 := by
  simpa [Lit.wf, IntKind.min, IntKind.max, IntKind.signed, IntKind.bits] using h
theorem wfu64 {x : Int} (h : (Lit.int .u64 x).wf = true) : 0 ≤ x ∧ x ≤ 18446744073709551615 := by
  simpa [Lit.wf, IntKind.min, IntKind.max, IntKind.signed, IntKind.bits] using h
/-- A schedule that may be. -/
def Ok (n s l f w : Int) : Prop := 2 ≤ n ∧ n ≤ 16 ∧ 16 ≤ s ∧ s ≤ 1048576 ∧ 1 ≤ l ∧ l ≤ s ∧ 1 ≤ f ∧ f ≤ s ∧ 1 ≤ w ∧ w ≤ s ∧ w ≤ l ∧ l + f + w < s
instance (n s l f w : Int) : Decidable (Ok n s l f w) := by unfold Ok; infer_instance
section
variable {n s l f w : Int}
theorem mod_lt {x : Int} (h : Ok n s l f w) (h0 : 0 ≤ x) : 0 ≤ x % n ∧ x % n < n := by
  have := h.1
  exact ⟨Int.emod_nonneg _ (by omega), Int.emod_lt_of_pos _ (by omega)⟩
end
end Go.Proofs.Ytmkjljekofondaa.Medl
