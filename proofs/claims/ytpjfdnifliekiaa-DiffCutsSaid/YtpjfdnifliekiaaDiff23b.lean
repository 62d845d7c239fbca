/- The chapter's example of layer 23 holds. -/
import Derived.Test.YtpjfdnifliekiaaDiff
import Derived.Test.YtpjfdnifliekiaaPrint0
import Derived.Test.YtpjfdnifliekiaaPrint6
namespace Go.Proofs.Ytpjfdnifliekiaa.Diff
open Go.Proofs.Ytpjfdnifliekiaa.Print Go.Proofs.YtpjfdnifliekiaaW.PrintWords
theorem live23_30 : palletlaw23_live.f 30 = some true := by decide +kernel
theorem live23 {k : Nat} (hk : 30 ≤ k) : palletlaw23_live.f k = some true := at_rounds (fun k => palletlaw23_live.mono k) hk live23_30
end Go.Proofs.Ytpjfdnifliekiaa.Diff
