/- What the arguments of this seat's laws tell: printed by a program of this session (row2.py). -/
import Derived.Test.YtpjfdnifliekiaaGen
import Derived.Test.YtpjfdnifliekiaaPrint0
set_option linter.unusedVariables false
namespace Go.Proofs.Ytpjfdnifliekiaa.Opens
open Go.RowKit Go.Proofs.YtpjfdnifliekiaaX Go.Proofs.YtpjfdnifliekiaaW.PrintWords Go.Proofs.Ytpjfdnifliekiaa.Print
theorem rd25 : Rd Try.prog 25 k25 (fun x => ((Lit.int .i64 x.f0).wf = true) ∧ (((Lit.int .i64 x.f1).wf = true) ∧ (((Lit.int .i64 x.f2).wf = true) ∧ (((Lit.int .i64 x.f3).wf = true) ∧ (((Lit.int .i64 x.f4).wf = true)))))) :=
  Rd.struct Try.underlying25 (RdS.cons (i := 0) rfl rfl (by kernel_rfl) (Rd.int Try.underlying2) (RdS.cons (i := 1) rfl rfl (by kernel_rfl) (Rd.int Try.underlying3) (RdS.cons (i := 2) rfl rfl (by kernel_rfl) (Rd.int Try.underlying3) (RdS.cons (i := 3) rfl rfl (by kernel_rfl) (Rd.int Try.underlying2) (RdS.last (i := 4) rfl rfl (by kernel_rfl) (Rd.int Try.underlying2)))))) (by kernel_rfl) (fun p => ⟨p.1, p.2.1, p.2.2.1, p.2.2.2.1, p.2.2.2.2⟩) (fun _ => rfl)
theorem rd27 : Rd Try.prog 27 k27 (fun x => ((Lit.int .i64 x.f0).wf = true) ∧ (((Lit.int .i64 x.f1).wf = true) ∧ ((((Lit.int .i64 x.f2.f0).wf = true) ∧ (((Lit.int .i64 x.f2.f1).wf = true) ∧ (((Lit.int .i64 x.f2.f2).wf = true) ∧ (((Lit.int .i64 x.f2.f3).wf = true) ∧ (((Lit.int .i64 x.f2.f4).wf = true)))))) ∧ ((((Lit.int .i64 x.f3.f0).wf = true) ∧ (((Lit.int .i64 x.f3.f1).wf = true) ∧ (((Lit.int .i64 x.f3.f2).wf = true) ∧ (((Lit.int .i64 x.f3.f3).wf = true) ∧ (((Lit.int .i64 x.f3.f4).wf = true)))))))))) :=
  Rd.struct Try.underlying27 (RdS.cons (i := 0) rfl rfl (by kernel_rfl) (Rd.int Try.underlying3) (RdS.cons (i := 1) rfl rfl (by kernel_rfl) (Rd.int Try.underlying3) (RdS.cons (i := 2) rfl rfl (by kernel_rfl) rd25 (RdS.last (i := 3) rfl rfl (by kernel_rfl) rd25)))) (by kernel_rfl) (fun p => ⟨p.1, p.2.1, p.2.2.1, p.2.2.2⟩) (fun _ => rfl)
end Go.Proofs.Ytpjfdnifliekiaa.Opens
