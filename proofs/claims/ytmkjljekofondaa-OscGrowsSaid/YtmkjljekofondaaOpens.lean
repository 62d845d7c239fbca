/- What the arguments of this seat's laws tell: printed by a program of this session (row2.py). -/
import Derived.Test.YtmkjljekofondaaGen
import Derived.Test.YtmkjljekofondaaPrint0
set_option linter.unusedVariables false
namespace Go.Proofs.Ytmkjljekofondaa.Opens
open Go.RowKit Go.Proofs.YtmkjljekofondaaX Go.Proofs.YtmkjljekofondaaW.PrintWords Go.Proofs.Ytmkjljekofondaa.Print
theorem rd23 : Rd Try.prog 23 k23 (fun x => ((Lit.int .i64 x.f0).wf = true) ∧ (((Lit.int .i64 x.f1).wf = true) ∧ (((Lit.int .i64 x.f2).wf = true)))) :=
  Rd.struct Try.underlying23 (RdS.cons (i := 0) rfl rfl (by kernel_rfl) (Rd.int Try.underlying2) (RdS.cons (i := 1) rfl rfl (by kernel_rfl) (Rd.int Try.underlying2) (RdS.last (i := 2) rfl rfl (by kernel_rfl) (Rd.int Try.underlying2)))) (by kernel_rfl) (fun p => ⟨p.1, p.2.1, p.2.2⟩) (fun _ => rfl)
end Go.Proofs.Ytmkjljekofondaa.Opens
