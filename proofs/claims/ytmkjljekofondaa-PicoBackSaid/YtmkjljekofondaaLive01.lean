/- The chapter's examples of layer 1 hold. -/
import Derived.Test.YtmkjljekofondaaPrint0
import Derived.Test.YtmkjljekofondaaPrint7
namespace Go.Proofs.Ytmkjljekofondaa.Scale01
open Go Go.Proofs.Ytmkjljekofondaa.Print Go.Proofs.YtmkjljekofondaaW.PrintWords
theorem live1_100 : palletlaw01_live.f 100 = some true := by decide +kernel
theorem live1 {k : Nat} (hk : 100 ≤ k) : palletlaw01_live.f k = some true := at_rounds (fun k => palletlaw01_live.mono k) hk live1_100
theorem wf64 {x : Int} (h : (Lit.int .i64 x).wf = true) : -9223372036854775808 ≤ x ∧ x ≤ 9223372036854775807 := by simpa [Lit.wf, IntKind.min, IntKind.max, IntKind.signed, IntKind.bits] using h
theorem wf32 {x : Int} (h : (Lit.int .i32 x).wf = true) : -2147483648 ≤ x ∧ x ≤ 2147483647 := by simpa [Lit.wf, IntKind.min, IntKind.max, IntKind.signed, IntKind.bits] using h
theorem wfu16 {x : Int} (h : (Lit.int .u16 x).wf = true) : 0 ≤ x ∧ x ≤ 65535 := by simpa [Lit.wf, IntKind.min, IntKind.max, IntKind.signed, IntKind.bits] using h
theorem wfu8 {x : Int} (h : (Lit.int .u8 x).wf = true) : 0 ≤ x ∧ x ≤ 255 := by simpa [Lit.wf, IntKind.min, IntKind.max, IntKind.signed, IntKind.bits] using h
end Go.Proofs.Ytmkjljekofondaa.Scale01
