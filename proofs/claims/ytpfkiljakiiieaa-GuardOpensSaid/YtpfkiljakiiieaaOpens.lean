/- What the arguments of this seat's laws tell: printed by a program of this session (row2.py). -/
import Derived.Test.YtpfkiljakiiieaaGen
import Derived.Test.YtpfkiljakiiieaaPrint0
set_option linter.unusedVariables false
namespace Go.Proofs.Ytpfkiljakiiieaa.Opens
open Go.RowKit Go.Proofs.YtpfkiljakiiieaaX Go.Proofs.YtpfkiljakiiieaaW.PrintWords Go.Proofs.Ytpfkiljakiiieaa.Print
theorem rd23 : Rd Try.prog 23 k23 (fun x => ((Lit.int .i64 x.f0).wf = true) ∧ (((Lit.int .i64 x.f1).wf = true) ∧ (((Lit.int .i64 x.f2).wf = true) ∧ (((Lit.int .i64 x.f3).wf = true) ∧ (((Lit.int .i64 x.f4).wf = true)))))) :=
  Rd.struct Try.underlying23 (RdS.cons (i := 0) rfl rfl (by kernel_rfl) (Rd.int Try.underlying3) (RdS.cons (i := 1) rfl rfl (by kernel_rfl) (Rd.int Try.underlying2) (RdS.cons (i := 2) rfl rfl (by kernel_rfl) (Rd.int Try.underlying2) (RdS.cons (i := 3) rfl rfl (by kernel_rfl) (Rd.int Try.underlying2) (RdS.last (i := 4) rfl rfl (by kernel_rfl) (Rd.int Try.underlying2)))))) (by kernel_rfl) (fun p => ⟨p.1, p.2.1, p.2.2.1, p.2.2.2.1, p.2.2.2.2⟩) (fun _ => rfl)
theorem rd52 : Rd Try.prog 52 k52 (fun x => ((Lit.int .i64 x.f0).wf = true) ∧ (((Lit.int .i64 x.f1).wf = true) ∧ (((Lit.int .u64 x.f2).wf = true) ∧ (((Lit.int .u16 x.f3).wf = true))))) :=
  Rd.struct Try.underlying52 (RdS.cons (i := 0) rfl rfl (by kernel_rfl) (Rd.int Try.underlying3) (RdS.cons (i := 1) rfl rfl (by kernel_rfl) (Rd.int Try.underlying3) (RdS.cons (i := 2) rfl rfl (by kernel_rfl) (Rd.int Try.underlying24) (RdS.last (i := 3) rfl rfl (by kernel_rfl) (Rd.int Try.underlying50))))) (by kernel_rfl) (fun p => ⟨p.1, p.2.1, p.2.2.1, p.2.2.2⟩) (fun _ => rfl)
theorem rd55 : Rd Try.prog 55 k55 (fun x => (True) ∧ ((True) ∧ (((Lit.int .u64 x.f2).wf = true) ∧ (((Lit.int .i64 x.f3).wf = true))))) :=
  Rd.struct Try.underlying55 (RdS.cons (i := 0) rfl rfl (by kernel_rfl) (Rd.bool Try.underlying4) (RdS.cons (i := 1) rfl rfl (by kernel_rfl) (Rd.bool Try.underlying4) (RdS.cons (i := 2) rfl rfl (by kernel_rfl) (Rd.int Try.underlying24) (RdS.last (i := 3) rfl rfl (by kernel_rfl) (Rd.int Try.underlying2))))) (by kernel_rfl) (fun p => ⟨p.1, p.2.1, p.2.2.1, p.2.2.2⟩) (fun _ => rfl)
end Go.Proofs.Ytpfkiljakiiieaa.Opens
