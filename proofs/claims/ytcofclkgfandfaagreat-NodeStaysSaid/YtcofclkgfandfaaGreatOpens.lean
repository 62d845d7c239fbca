/- What the arguments of this seat's laws tell: printed by a program of this session (row2.py). -/
import Derived.Test.YtcofclkgfandfaaGreatGen
import Derived.Test.YtcofclkgfandfaaGreatPrint0
set_option linter.unusedVariables false
namespace Go.Proofs.YtcofclkgfandfaaGreat.Opens
open Go.RowKit Go.Proofs.YtcofclkgfandfaaGreatX Go.Proofs.YtcofclkgfandfaaGreatW.PrintWords Go.Proofs.YtcofclkgfandfaaGreat.Print
theorem rd23 : Rd Tryz.prog 23 k23 (fun x => ((Lit.int .i64 x.f0).wf = true) ∧ (((Lit.int .i64 x.f1).wf = true) ∧ (((Lit.int .i64 x.f2).wf = true) ∧ (((Lit.int .i64 x.f3).wf = true) ∧ (((Lit.int .i64 x.f4).wf = true)))))) :=
  Rd.struct Tryz.underlying23 (RdS.cons (i := 0) rfl rfl (by kernel_rfl) (Rd.int Tryz.underlying3) (RdS.cons (i := 1) rfl rfl (by kernel_rfl) (Rd.int Tryz.underlying2) (RdS.cons (i := 2) rfl rfl (by kernel_rfl) (Rd.int Tryz.underlying2) (RdS.cons (i := 3) rfl rfl (by kernel_rfl) (Rd.int Tryz.underlying2) (RdS.last (i := 4) rfl rfl (by kernel_rfl) (Rd.int Tryz.underlying2)))))) (by kernel_rfl) (fun p => ⟨p.1, p.2.1, p.2.2.1, p.2.2.2.1, p.2.2.2.2⟩) (fun _ => rfl)
theorem rd26 : Rd Tryz.prog 26 k26 (fun x => ((Lit.int .i64 x.f0).wf = true) ∧ (((Lit.int .i64 x.f1).wf = true) ∧ (((Lit.int .i64 x.f2).wf = true)))) :=
  Rd.struct Tryz.underlying26 (RdS.cons (i := 0) rfl rfl (by kernel_rfl) (Rd.int Tryz.underlying2) (RdS.cons (i := 1) rfl rfl (by kernel_rfl) (Rd.int Tryz.underlying2) (RdS.last (i := 2) rfl rfl (by kernel_rfl) (Rd.int Tryz.underlying2)))) (by kernel_rfl) (fun p => ⟨p.1, p.2.1, p.2.2⟩) (fun _ => rfl)
theorem rd62 : Rd Tryz.prog 62 k62 (fun x => (x.f0.length ≤ maxLen ∧ ∀ y1_ ∈ x.f0, (Lit.int .u8 y1_).wf = true) ∧ (((Lit.int .i64 x.f1).wf = true) ∧ ((True)))) :=
  Rd.struct Tryz.underlying62 (RdS.cons (i := 0) rfl rfl (by kernel_rfl) (Rd.slice Tryz.underlying33 (by kernel_rfl) (Rd.int Tryz.underlying5)) (RdS.cons (i := 1) rfl rfl (by kernel_rfl) (Rd.int Tryz.underlying2) (RdS.last (i := 2) rfl rfl (by kernel_rfl) (Rd.bool Tryz.underlying4)))) (by kernel_rfl) (fun p => ⟨p.1, p.2.1, p.2.2⟩) (fun _ => rfl)
end Go.Proofs.YtcofclkgfandfaaGreat.Opens
