/- In which slot any tick is, how late any frame is, and any node's next slot: the program and the document say the same. Conditions: none but that each number is of its kind. -/
import Derived.Test.YtpfkiljakiiieaaRef07
import Derived.Test.YtpfkiljakiiieaaLive07
import Derived.Test.YtpfkiljakiiieaaPrint0
import Derived.Test.YtpfkiljakiiieaaPrint5
import Derived.Test.YtpfkiljakiiieaaPrint7
import Derived.Test.YtpfkiljakiiieaaPrint13
import Derived.Test.YtpfkiljakiiieaaPrint14
import Derived.Test.YtpfkiljakiiieaaPrint15
set_option linter.unusedVariables false
set_option linter.unusedSimpArgs false
namespace Go.Proofs.Ytpfkiljakiiieaa.Pure
open Go.RowKit Go.Proofs.Ytpfkiljakiiieaa.Print Go.Proofs.YtpfkiljakiiieaaW.PrintWords Go.Proofs.YtpfkiljakiiieaaW.PrintLast Go.Proofs.YtpfkiljakiiieaaW.PrintMore Go.Proofs.Ytpfkiljakiiieaa.Medl

theorem MedlFinds : ∀ (a0_0 : Int) (a0_1 : Int) (a0_2 : Int) (a0_3 : Int) (a0_4 : Int) (a1 : Int) (a2 : Int) (a3 : Int), (Lit.int .i64 a0_0).wf = true → (Lit.int .i64 a0_1).wf = true → (Lit.int .i64 a0_2).wf = true → (Lit.int .i64 a0_3).wf = true → (Lit.int .i64 a0_4).wf = true → (Lit.int .u64 a1).wf = true → (Lit.int .i64 a2).wf = true → (Lit.int .i64 a3).wf = true → ∃ k, palletlaw07_MedlFinds.f k a0_0 a0_1 a0_2 a0_3 a0_4 a1 a2 a3 = some true := by
  intro n s l f w x t node hn hs hl hf hw hx ht hnode
  refine ⟨30, ?_⟩
  have hx := wfu64 hx
  have ht := wf64 ht
  unfold palletlaw07_MedlFinds.f
  rw [live7]
  simp only [Option.bind_some, if_true]
  obtain ⟨va, ea, fa⟩ : ∃ v, medl_At.f 30 n s l f w t = some v ∧ palletref07_At.f 30 n s l f w t = some v := by
    by_cases h : Ok n s l f w ∧ 0 ≤ t
    · exact ⟨_, at_ok h.1 29 h.2 ht.2, refat_ok h.1 (by omega) h.2 ht.2⟩
    · exact ⟨_, at_no 29 h, refat_no (by omega) h⟩
  obtain ⟨vb, eb, fb⟩ : ∃ v, medl_Off.f n s l f w t = some v ∧ palletref07_Off.f 30 n s l f w t = some v := by
    by_cases h : Ok n s l f w
    · exact ⟨_, off_ok h ht.1 ht.2, refoff_ok h (by omega) ht.1 ht.2⟩
    · exact ⟨_, off_no h, refoff_no h (by omega)⟩
  obtain ⟨vc, ec, fc⟩ : ∃ v, medl_Next.f 30 n s l f w x node = some v ∧ palletref07_Next.f 30 n s l f w x node = some v := by
    by_cases h : Ok n s l f w ∧ x ≤ 4294967296 ∧ 0 ≤ node ∧ node < n
    · exact ⟨_, next_ok h.1 29 hx.1 h.2.1 h.2.2.1 h.2.2.2, refnext_ok h.1 (by omega) hx.1 h.2.1 h.2.2.1 h.2.2.2⟩
    · exact ⟨_, next_no 29 h hx.1, refnext_no (by omega) h⟩
  rw [ea, fa, eb, fb, ec, fc]
  simp
end Go.Proofs.Ytpfkiljakiiieaa.Pure
