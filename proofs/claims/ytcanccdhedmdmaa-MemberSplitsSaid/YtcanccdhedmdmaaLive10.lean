/- The chapter's example of layer 10 holds. -/
import Derived.Test.YtcanccdhedmdmaaPrint0
import Derived.Test.YtcanccdhedmdmaaPrint6
namespace Go.Proofs.Ytcanccdhedmdmaa.Mem
open Go.Proofs.Ytcanccdhedmdmaa.Print Go.Proofs.YtcanccdhedmdmaaW.PrintWords
theorem live10_30 : palletlaw10_live.f 30 = some true := by decide +kernel
theorem live10 {k : Nat} (hk : 30 ≤ k) : palletlaw10_live.f k = some true := at_rounds (fun k => palletlaw10_live.mono k) hk live10_30
end Go.Proofs.Ytcanccdhedmdmaa.Mem
