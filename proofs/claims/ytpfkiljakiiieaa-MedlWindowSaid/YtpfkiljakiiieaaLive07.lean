/- The chapter's example of layer 7 holds. -/
import Derived.Test.YtpfkiljakiiieaaPrint0
import Derived.Test.YtpfkiljakiiieaaPrint3
namespace Go.Proofs.Ytpfkiljakiiieaa.Medl
open Go.Proofs.Ytpfkiljakiiieaa.Print
theorem live7 : palletlaw07_live.f = some true := by decide +kernel
end Go.Proofs.Ytpfkiljakiiieaa.Medl
