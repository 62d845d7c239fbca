/- The chapter's examples of layer 2 hold. -/
import Derived.Test.YtnmepjpjpillcaaPrint0
import Derived.Test.YtnmepjpjpillcaaPrint5
namespace Go.Proofs.Ytnmepjpjpillcaa.Wire
open Go.Proofs.Ytnmepjpjpillcaa.Print Go.Proofs.YtnmepjpjpillcaaW.PrintWords
theorem live2_100 : palletlaw02_live.f 100 = some true := by decide +kernel
theorem live2 {k : Nat} (hk : 100 ≤ k) : palletlaw02_live.f k = some true := at_rounds (fun k => palletlaw02_live.mono k) hk live2_100
end Go.Proofs.Ytnmepjpjpillcaa.Wire
