/- Plain facts on the schedule's functions (layer 7): what each printed function comes to. -/
import Derived.IntWalk
import Derived.Test.YtcanccdhedmdmaaPrint0
import Derived.Test.YtcanccdhedmdmaaPrint3
import Derived.Test.YtcanccdhedmdmaaPrint4
set_option linter.unusedVariables false
set_option linter.unusedSimpArgs false
namespace Go.Proofs.Ytcanccdhedmdmaa.Medl
open Go.RowKit Go.Proofs.Ytcanccdhedmdmaa.Print Go.Proofs.YtcanccdhedmdmaaW.PrintWords Go.Proofs.YtcanccdhedmdmaaW.PrintLast Go.Proofs.YtcanccdhedmdmaaW.PrintMore
theorem w64 {x : Int} (h : -9223372036854775808 ≤ x) (h2 : x ≤ 9223372036854775807) : wrap64 x = x := by unfold wrap64; omega
theorem u64 {x : Int} (h : 0 ≤ x) (h2 : x ≤ 18446744073709551615) : IntKind.u64.wrap x = x := IntWalk.u64_in x ⟨h, h2⟩
theorem wf64 {x : Int} (h : (Lit.int .i64 x).wf = true) : -9223372036854775808 ≤ x ∧ x ≤ 9223372036854775807 := by
  simpa [Lit.wf, IntKind.min, IntKind.max, IntKind.signed, IntKind.bits] using h
theorem wfu64 {x : Int} (h : (Lit.int .u64 x).wf = true) : 0 ≤ x ∧ x ≤ 18446744073709551615 := by
  simpa [Lit.wf, IntKind.min, IntKind.max, IntKind.signed, IntKind.bits] using h
/-- A schedule that may be. -/
def Ok (n s l f w : Int) : Prop := 2 ≤ n ∧ n ≤ 16 ∧ 16 ≤ s ∧ s ≤ 1048576 ∧ 1 ≤ l ∧ l ≤ s ∧ 1 ≤ f ∧ f ≤ s ∧ 1 ≤ w ∧ w ≤ s ∧ w ≤ l ∧ l + f + w < s
instance (n s l f w : Int) : Decidable (Ok n s l f w) := by unfold Ok; infer_instance
section
variable {n s l f w : Int}
theorem check (n s l f w : Int) : medl_Check.f n s l f w = some (if Ok n s l f w then 0 else 1) := rfl
theorem check_ok (h : Ok n s l f w) : medl_Check.f n s l f w = some 0 := by rw [check, if_pos h]
theorem check_no (h : ¬ Ok n s l f w) : medl_Check.f n s l f w = some 1 := by rw [check, if_neg h]
theorem may_ok (h : Ok n s l f w) {x : Int} (hx : x ≤ 4294967296) : medl_may.f n s l f w x = some 0 := by
  unfold medl_may.f
  rw [if_neg (by omega), check_ok h]
  first | rfl | simp
theorem may_no {x : Int} (h : ¬ (Ok n s l f w ∧ x ≤ 4294967296)) : medl_may.f n s l f w x = some 1 := by
  unfold medl_may.f
  by_cases hx : x ≤ 4294967296
  · rw [if_neg (by omega), check_no (fun ho => h ⟨ho, hx⟩)]
    first | rfl | simp
  · rw [if_pos (by omega)]
theorem mod_lt {x : Int} (h : Ok n s l f w) (h0 : 0 ≤ x) : 0 ≤ x % n ∧ x % n < n := by
  have := h.1
  exact ⟨Int.emod_nonneg _ (by omega), Int.emod_lt_of_pos _ (by omega)⟩
theorem owner_ok (h : Ok n s l f w) {x : Int} (h0 : 0 ≤ x) (hx : x ≤ 4294967296) : medl_Owner.f n s l f w x = some (x % n, 0) := by
  have hn := h.1
  have hn2 := h.2.1
  have hm := mod_lt h h0
  unfold medl_Owner.f
  rw [may_ok h hx]
  simp only [Option.bind_some, if_true]
  rw [u64 (by omega) (by omega), if_neg (by omega), Int.tmod_eq_emod_of_nonneg h0, w64 (by omega) (by omega)]
theorem owner_no {x : Int} (h : ¬ (Ok n s l f w ∧ x ≤ 4294967296)) : medl_Owner.f n s l f w x = some (0, 1) := by
  unfold medl_Owner.f
  rw [may_no h]
  simp
end
end Go.Proofs.Ytcanccdhedmdmaa.Medl
