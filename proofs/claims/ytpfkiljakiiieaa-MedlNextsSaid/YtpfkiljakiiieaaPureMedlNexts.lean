/- A node's next slot is its own, behind, and within a round; of its own slot it is a round behind. Conditions: none but that each number is of its kind. -/
import Derived.Test.YtpfkiljakiiieaaMedl
import Derived.Test.YtpfkiljakiiieaaLive07
import Derived.Test.YtpfkiljakiiieaaPrint0
import Derived.Test.YtpfkiljakiiieaaPrint6
set_option linter.unusedVariables false
set_option linter.unusedSimpArgs false
namespace Go.Proofs.Ytpfkiljakiiieaa.Pure
open Go.RowKit Go.Proofs.Ytpfkiljakiiieaa.Print Go.Proofs.YtpfkiljakiiieaaW.PrintWords Go.Proofs.YtpfkiljakiiieaaW.PrintLast Go.Proofs.YtpfkiljakiiieaaW.PrintMore Go.Proofs.Ytpfkiljakiiieaa.Medl

theorem MedlNexts : ∀ (a0_0 : Int) (a0_1 : Int) (a0_2 : Int) (a0_3 : Int) (a0_4 : Int) (a1 : Int) (a2 : Int), (Lit.int .i64 a0_0).wf = true → (Lit.int .i64 a0_1).wf = true → (Lit.int .i64 a0_2).wf = true → (Lit.int .i64 a0_3).wf = true → (Lit.int .i64 a0_4).wf = true → (Lit.int .u64 a1).wf = true → (Lit.int .i64 a2).wf = true → ∃ k, palletlaw07_MedlNexts.f k a0_0 a0_1 a0_2 a0_3 a0_4 a1 a2 = some true := by
  intro n s l f w x node hn hs hl hf hw hx hnode
  refine ⟨1, ?_⟩
  have hx := wfu64 hx
  unfold palletlaw07_MedlNexts.f
  rw [live7]
  simp only [Option.bind_some, if_true]
  rw [Int.tmod_eq_emod_of_nonneg hx.1]
  have hy : 0 ≤ x % 2147483648 ∧ x % 2147483648 < 2147483648 := by omega
  generalize x % 2147483648 = y at *
  by_cases h : Ok n s l f w ∧ 0 ≤ node ∧ node < n
  · obtain ⟨h, ha, hb⟩ := h
    have hn1 := h.1
    have hn2 := h.2.1
    have r := nx_range h hy.1 ha hb
    have m := nx_mod h hy.1 ha hb
    have hm := mod_lt h hy.1
    have e2 : nx n (nx n y node) node = nx n y node + n := nx_again m
    rw [next_ok h 0 hy.1 (by omega) ha hb, if_neg (by omega)]
    simp only [Option.bind_some, if_true]
    rw [owner_ok h (x := nx n y node) (by omega) (by omega), owner_ok h hy.1 (by omega), next_ok h 0 (x := nx n y node) (by omega) (by omega) ha hb, e2, if_neg (by omega), m, u64 (x := n) (by omega) (by omega), u64 (x := y + n) (by omega) (by omega), u64 (x := nx n y node + n) (by omega) (by omega)]
    simp only [Option.bind_some, if_true]
    rw [if_pos (by omega), if_pos (by omega)]
    have e3 : (nx n y node == y + n) = (y % n == node) := by
      rw [Bool.eq_iff_iff]
      simp only [beq_iff_eq]
      unfold nx
      split <;> omega
    rw [e3]
    simp
  · rw [next_no 0 (fun q => h ⟨q.1, q.2.2⟩) hy.1]
    simp
end Go.Proofs.Ytpfkiljakiiieaa.Pure
