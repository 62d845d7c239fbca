/- What the arguments of this seat's laws tell: printed by a program of this session (row2.py). -/
import Derived.Test.YtcbjbgleflbpmaaDoorGen
import Derived.Test.YtcbjbgleflbpmaaDoorPrint0
set_option linter.unusedVariables false
namespace Go.Proofs.YtcbjbgleflbpmaaDoor.Opens
open Go.RowKit Go.Proofs.YtcbjbgleflbpmaaDoorX Go.Proofs.YtcbjbgleflbpmaaDoorW.PrintWords Go.Proofs.YtcbjbgleflbpmaaDoor.Print
theorem rd30 : Rd Tryd.prog 30 k30 (fun x => ((Lit.int .i64 x.f0).wf = true) ∧ (((Lit.int .i64 x.f1).wf = true) ∧ (((Lit.int .i64 x.f2).wf = true) ∧ (((Lit.int .i64 x.f3).wf = true) ∧ (((Lit.int .i64 x.f4).wf = true)))))) :=
  Rd.struct Tryd.underlying30 (RdS.cons (i := 0) rfl rfl (by kernel_rfl) (Rd.int Tryd.underlying2) (RdS.cons (i := 1) rfl rfl (by kernel_rfl) (Rd.int Tryd.underlying3) (RdS.cons (i := 2) rfl rfl (by kernel_rfl) (Rd.int Tryd.underlying3) (RdS.cons (i := 3) rfl rfl (by kernel_rfl) (Rd.int Tryd.underlying2) (RdS.last (i := 4) rfl rfl (by kernel_rfl) (Rd.int Tryd.underlying2)))))) (by kernel_rfl) (fun p => ⟨p.1, p.2.1, p.2.2.1, p.2.2.2.1, p.2.2.2.2⟩) (fun _ => rfl)
end Go.Proofs.YtcbjbgleflbpmaaDoor.Opens
