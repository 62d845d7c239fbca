/- Plain facts on the schedule's functions (layer 7): what each printed function comes to. -/
import Derived.IntWalk
import Derived.Test.YtpfkiljakiiieaaPrint0
import Derived.Test.YtpfkiljakiiieaaPrint2
import Derived.Test.YtpfkiljakiiieaaPrint3
import Derived.Test.YtpfkiljakiiieaaPrint5
import Derived.Test.YtpfkiljakiiieaaPrint7
import Derived.Test.YtpfkiljakiiieaaPrint8
set_option linter.unusedVariables false
set_option linter.unusedSimpArgs false
namespace Go.Proofs.Ytpfkiljakiiieaa.Medl
open Go.RowKit Go.Proofs.Ytpfkiljakiiieaa.Print Go.Proofs.YtpfkiljakiiieaaW.PrintWords Go.Proofs.YtpfkiljakiiieaaW.PrintLast Go.Proofs.YtpfkiljakiiieaaW.PrintMore
theorem w64 {x : Int} (h : -9223372036854775808 ≤ x) (h2 : x ≤ 9223372036854775807) : wrap64 x = x := by unfold wrap64; omega
theorem u64 {x : Int} (h : 0 ≤ x) (h2 : x ≤ 18446744073709551615) : IntKind.u64.wrap x = x := IntWalk.u64_in x ⟨h, h2⟩
theorem wf64 {x : Int} (h : (Lit.int .i64 x).wf = true) : -9223372036854775808 ≤ x ∧ x ≤ 9223372036854775807 := by
  simpa [Lit.wf, IntKind.min, IntKind.max, IntKind.signed, IntKind.bits] using h
theorem wfu64 {x : Int} (h : (Lit.int .u64 x).wf = true) : 0 ≤ x ∧ x ≤ 18446744073709551615 := by
  simpa [Lit.wf, IntKind.min, IntKind.max, IntKind.signed, IntKind.bits] using h
/-- A schedule that may be. -/
def Ok (n s l f w : Int) : Prop := 2 ≤ n ∧ n ≤ 16 ∧ 16 ≤ s ∧ s ≤ 1048576 ∧ 1 ≤ l ∧ l ≤ s ∧ 1 ≤ f ∧ f ≤ s ∧ 1 ≤ w ∧ w ≤ s ∧ w ≤ l ∧ l + f + w < s
instance (n s l f w : Int) : Decidable (Ok n s l f w) := by unfold Ok; infer_instance
section
variable {n s l f w : Int}
theorem check (n s l f w : Int) : medl_Check.f n s l f w = some (if Ok n s l f w then 0 else 1) := rfl
theorem check_ok (h : Ok n s l f w) : medl_Check.f n s l f w = some 0 := by rw [check, if_pos h]
theorem check_no (h : ¬ Ok n s l f w) : medl_Check.f n s l f w = some 1 := by rw [check, if_neg h]
theorem may_ok (h : Ok n s l f w) {x : Int} (hx : x ≤ 4294967296) : medl_may.f n s l f w x = some 0 := by
  unfold medl_may.f
  rw [if_neg (by omega), check_ok h]
  first | rfl | simp
theorem may_no {x : Int} (h : ¬ (Ok n s l f w ∧ x ≤ 4294967296)) : medl_may.f n s l f w x = some 1 := by
  unfold medl_may.f
  by_cases hx : x ≤ 4294967296
  · rw [if_neg (by omega), check_no (fun ho => h ⟨ho, hx⟩)]
    first | rfl | simp
  · rw [if_pos (by omega)]
theorem mod_lt {x : Int} (h : Ok n s l f w) (h0 : 0 ≤ x) : 0 ≤ x % n ∧ x % n < n := by
  have := h.1
  exact ⟨Int.emod_nonneg _ (by omega), Int.emod_lt_of_pos _ (by omega)⟩
theorem owner_ok (h : Ok n s l f w) {x : Int} (h0 : 0 ≤ x) (hx : x ≤ 4294967296) : medl_Owner.f n s l f w x = some (x % n, 0) := by
  have hn := h.1
  have hn2 := h.2.1
  have hm := mod_lt h h0
  unfold medl_Owner.f
  rw [may_ok h hx]
  simp only [Option.bind_some, if_true]
  rw [u64 (by omega) (by omega), if_neg (by omega), Int.tmod_eq_emod_of_nonneg h0, w64 (by omega) (by omega)]
theorem owner_no {x : Int} (h : ¬ (Ok n s l f w ∧ x ≤ 4294967296)) : medl_Owner.f n s l f w x = some (0, 1) := by
  unfold medl_Owner.f
  rw [may_no h]
  simp
theorem begin_ok (h : Ok n s l f w) {x : Int} (h0 : 0 ≤ x) (hx : x ≤ 4294967296) : medl_Begin.f n s l f w x = some (s * x, 0) := by
  obtain ⟨_, _, h1, h2, _⟩ := id h
  have hb : 0 ≤ s * x := Int.mul_nonneg (by omega) h0
  have hb2 : s * x ≤ 1048576 * 4294967296 := Int.mul_le_mul h2 hx h0 (by omega)
  unfold medl_Begin.f
  rw [may_ok h hx]
  simp only [Option.bind_some, if_true]
  rw [w64 (x := x) (by omega) (by omega), w64 (by omega) (by omega)]
theorem begin_no {x : Int} (h : ¬ (Ok n s l f w ∧ x ≤ 4294967296)) : medl_Begin.f n s l f w x = some (0, 1) := by
  unfold medl_Begin.f
  rw [may_no h]
  simp
theorem round_ok (h : Ok n s l f w) : medl_Round.f n s l f w = some (s * n, 0) := by
  obtain ⟨h3, h4, h1, h2, _⟩ := id h
  have hb : 0 ≤ s * n := Int.mul_nonneg (by omega) (by omega)
  have hb2 : s * n ≤ 1048576 * 16 := Int.mul_le_mul h2 h4 (by omega) (by omega)
  unfold medl_Round.f
  rw [check_ok h]
  simp only [Option.bind_some, if_true]
  rw [w64 (by omega) (by omega)]
theorem round_no (h : ¬ Ok n s l f w) : medl_Round.f n s l f w = some (0, 1) := by
  unfold medl_Round.f
  rw [check_no h]
  simp
theorem last_ok (h : Ok n s l f w) {x : Int} (h0 : 0 ≤ x) (hx : x ≤ 4294967296) : medl_Last.f n s l f w x = some (decide (x % n + 1 = n), 0) := by
  have hn := h.1
  have hn2 := h.2.1
  have hm := mod_lt h h0
  unfold medl_Last.f
  rw [owner_ok h h0 hx]
  simp only [Option.bind_some, if_true]
  rw [w64 (by omega) (by omega)]
  rfl
theorem last_no {x : Int} (h : ¬ (Ok n s l f w ∧ x ≤ 4294967296)) : medl_Last.f n s l f w x = some (false, 1) := by
  unfold medl_Last.f
  rw [owner_no h]
  simp
/-- The next slot of a node that owns 'node'. -/
def nx (n x node : Int) : Int := x + (if node - x % n ≤ 0 then node - x % n + n else node - x % n)
theorem nx_range (h : Ok n s l f w) {x node : Int} (h0 : 0 ≤ x) (ha : 0 ≤ node) (hb : node < n) : x < nx n x node ∧ nx n x node ≤ x + n := by
  have hm := mod_lt h h0
  unfold nx
  split <;> omega
theorem nx_mod (h : Ok n s l f w) {x node : Int} (h0 : 0 ≤ x) (ha : 0 ≤ node) (hb : node < n) : nx n x node % n = node := by
  have hm := mod_lt h h0
  have e := Int.mul_ediv_add_emod x n
  have hnode : node % n = node := Int.emod_eq_of_lt ha hb
  unfold nx
  split
  · have : x + (node - x % n + n) = node + n * (x / n + 1) := by rw [Int.mul_add]; omega
    rw [this, Int.add_mul_emod_self_left, hnode]
  · have : x + (node - x % n) = node + n * (x / n) := by omega
    rw [this, Int.add_mul_emod_self_left, hnode]
theorem nx_again {z node : Int} (m : z % n = node) : nx n z node = z + n := by
  unfold nx
  rw [m, if_pos (by omega)]
  omega
theorem next_ok (h : Ok n s l f w) (k : Nat) {x node : Int} (h0 : 0 ≤ x) (hx : x ≤ 4294967296) (ha : 0 ≤ node) (hb : node < n) :
    medl_Next.f (k + 1) n s l f w x node = some (if nx n x node > 4294967296 then (0, 2) else (nx n x node, 0)) := by
  have hn := h.1
  have hn2 := h.2.1
  have hm := mod_lt h h0
  unfold medl_Next.f
  rw [owner_ok h h0 hx]
  simp only [Option.bind_some, if_true]
  rw [if_neg (by omega), decide_eq_false (by omega)]
  simp only [medl_Next.j0]
  rw [if_neg (by decide), w64 (x := node - x % n) (by omega) (by omega)]
  by_cases hc : node - x % n ≤ 0
  · rw [if_pos hc, w64 (by omega) (by omega), u64 (x := node - x % n + n) (by omega) (by omega), u64 (by omega) (by omega)]
    unfold nx
    rw [if_pos hc]
    split <;> rfl
  · rw [if_neg hc, u64 (x := node - x % n) (by omega) (by omega), u64 (by omega) (by omega)]
    unfold nx
    rw [if_neg hc]
    split <;> rfl
theorem next_no (k : Nat) {x node : Int} (h : ¬ (Ok n s l f w ∧ x ≤ 4294967296 ∧ 0 ≤ node ∧ node < n)) (h0 : 0 ≤ x) : medl_Next.f (k + 1) n s l f w x node = some (0, 1) := by
  unfold medl_Next.f
  by_cases h1 : Ok n s l f w ∧ x ≤ 4294967296
  · rw [owner_ok h1.1 h0 h1.2]
    simp only [Option.bind_some, if_true]
    by_cases hneg : node < 0
    · rw [if_pos hneg]
      simp [medl_Next.j0]
    · rw [if_neg hneg, decide_eq_true (by have := h1.1; by_cases hh : node < n; exact absurd ⟨h1.1, h1.2, by omega, hh⟩ h; omega)]
      simp [medl_Next.j0]
  · rw [owner_no h1]
    simp [medl_Next.j0]
theorem at_ok (h : Ok n s l f w) (k : Nat) {x : Int} (h0 : 0 ≤ x) (hx : x ≤ 9223372036854775807) :
    medl_At.f (k + 1) n s l f w x = some (if x / s > 4294967296 then (0, 0, 2) else (x / s, x % s, 0)) := by
  obtain ⟨_, _, h1, h2, _⟩ := id h
  have hs : 0 < s := by omega
  have hd : 0 ≤ x / s := Int.ediv_nonneg h0 (by omega)
  have hd2 : x / s ≤ x := Int.ediv_le_self _ h0
  have e := Int.mul_ediv_add_emod x s
  have hm : 0 ≤ x % s := Int.emod_nonneg _ (by omega)
  have hp : 0 ≤ s * (x / s) := Int.mul_nonneg (by omega) hd
  unfold medl_At.f
  rw [check_ok h]
  simp only [Option.bind_some, if_true]
  rw [decide_eq_false (by omega)]
  simp only [medl_At.j0]
  rw [if_neg (by decide), if_neg (by omega), Int.tdiv_eq_ediv_of_nonneg h0, w64 (x := x / s) (by omega) (by omega)]
  split
  · rfl
  · rw [u64 (by omega) (by omega), Int.mul_comm (x / s) s, w64 (x := s * (x / s)) (by omega) (by omega), w64 (by omega) (by omega)]
    rw [show x - s * (x / s) = x % s by omega]
theorem at_no (k : Nat) {x : Int} (h : ¬ (Ok n s l f w ∧ 0 ≤ x)) : medl_At.f (k + 1) n s l f w x = some (0, 0, 1) := by
  unfold medl_At.f
  by_cases h1 : Ok n s l f w
  · rw [check_ok h1]
    simp only [Option.bind_some, if_true]
    rw [decide_eq_true (by by_cases hh : 0 ≤ x; exact absurd ⟨h1, hh⟩ h; omega)]
    simp [medl_At.j0]
  · rw [check_no h1]
    simp [medl_At.j0]
theorem within_eq (a b c : Int) : medl_within.f a b c = some (decide (b ≤ a ∧ a ≤ c)) := by
  unfold medl_within.f
  by_cases h : a ≥ b
  · rw [if_pos h]
    congr 1
    by_cases h2 : a ≤ c
    · rw [decide_eq_true h2, decide_eq_true ⟨h, h2⟩]
    · rw [decide_eq_false h2, decide_eq_false (fun q => h2 q.2)]
  · rw [if_neg h, decide_eq_false (fun q => h q.1)]
theorem off_ok (h : Ok n s l f w) {x : Int} (h0 : -9223372036854775808 ≤ x) (hx : x ≤ 9223372036854775807) :
    medl_Off.f n s l f w x = some (if x - l < -9223372036854775808 then (0, false, 2) else (x - l, decide (-w ≤ x - l ∧ x - l ≤ w), 0)) := by
  obtain ⟨_, _, h1, h2, _⟩ := id h
  have h3 := h.2.2.2.2.2
  obtain ⟨h3, h4, h5, h6, h7, h8, h9⟩ := h.2.2.2.2.2
  have h10 := h.2.2.2.2.1
  unfold medl_Off.f
  rw [check_ok h]
  simp only [Option.bind_some, if_true]
  rw [w64 (x := -w) (by omega) (by omega)]
  by_cases hc : x - l < -9223372036854775808
  · rw [if_pos (by unfold wrap64; omega), if_pos hc]
  · rw [w64 (x := x - l) (by omega) (by omega), if_neg (by omega), within_eq, if_neg hc]
    rfl
theorem off_no {x : Int} (h : ¬ Ok n s l f w) : medl_Off.f n s l f w x = some (0, false, 1) := by
  unfold medl_Off.f
  rw [check_no h]
  simp
end
end Go.Proofs.Ytpfkiljakiiieaa.Medl
