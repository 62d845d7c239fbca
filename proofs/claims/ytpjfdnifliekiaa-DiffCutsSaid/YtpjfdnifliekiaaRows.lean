/-
  No cell of these rows narrows 'for every input' (looked for: loops, veiled, ifaces, maps, wideKeys, modest, calm, conditions, laid).
  DERIVED. THE GIVEN ROWS OF THIS SEAT. 4 by the template 'for every input the law returns true; each argument reads behind the call as it read before'; 0 by the template 'total and deterministic' (their statements: YtpjfdnifliekiaaTotals.lean).
  GIVEN WITH THE SEED: the statements are not yours to turn. If you find one false, say at which input.
  Laid BY PROGRAM, IN A SANDBOX (cutbox-rows.mjs): the forced cells as the released guide's own fill.sh prints them over the translation 06ecd6a76f740c21… (all of the seat's roots in one cut). By AI agents, Wed Nov 11 2026. No macro, syntax, notation, axiom, sorry.
-/
import Derived.Test.YtpjfdnifliekiaaChecked
import GoSem.Claim
import GoSem.ClaimJoined
import GoSem.ClaimMapViews
import Derived.JoinedTies
import Derived.KernelRfl
namespace Go.Proofs.Ytpjfdnifliekiaa
/- THE CELL 'sum', in the pinned program and in every row, IS THE sha256 OF THE DUMP (.gsa) THAT YtpjfdnifliekiaaProg.lean LOADS. Nothing in Lean hashes anything: it is a label: what it is worth is what the hold of that sum in a sandbox is worth. -/
noncomputable def Try.pinned : Pinned := { name := "ytpjfdnifliekiaa", sum := "06ecd6a76f740c21056fb3acc5ec414f0cbc74e05ced2db25bc0b3da1154599f", checked := Try.checked }
namespace Rows
def none {H : Type} : Left H := { results := [], args := [] }

/-- 'palletlaw23.DiffParts': WHATEVER THE INPUT: true; the input reads as it did. -/
def diffPartsSpec : ChangeSpec := { name := "diffParts", fn := fun _ => fun
  | [d1, d2, d3] => { results := [.lit (.bool true)], args := [d1, d2, d3] }
  | _ => none }
def diffPartsRow : OpenClaim := { program := "ytpjfdnifliekiaa", sum := "06ecd6a76f740c21056fb3acc5ec414f0cbc74e05ced2db25bc0b3da1154599f", func := "pallet/palletlaw23.DiffParts", spec := "diffParts", apart := false }
def DiffPartsSaid : Prop := diffPartsRow.holds Try.pinned (OpenSpec.ofChange diffPartsSpec)

/-- ITS FALSE NEIGHBOUR: 'it returns false'. Refute it at one input. -/
def diffPartsWrong : ChangeSpec := { name := "diffParts", fn := fun _ => fun
  | [d1, d2, d3] => { results := [.lit (.bool false)], args := [d1, d2, d3] }
  | _ => none }
def DiffPartsWrongFalsely : Prop := diffPartsRow.holds Try.pinned (OpenSpec.ofChange diffPartsWrong)

/-- 'palletlaw23.DiffCuts': WHATEVER THE INPUT: true; the input reads as it did. -/
def diffCutsSpec : ChangeSpec := { name := "diffCuts", fn := fun _ => fun
  | [d1, d2, d3] => { results := [.lit (.bool true)], args := [d1, d2, d3] }
  | _ => none }
def diffCutsRow : OpenClaim := { program := "ytpjfdnifliekiaa", sum := "06ecd6a76f740c21056fb3acc5ec414f0cbc74e05ced2db25bc0b3da1154599f", func := "pallet/palletlaw23.DiffCuts", spec := "diffCuts", apart := false }
def DiffCutsSaid : Prop := diffCutsRow.holds Try.pinned (OpenSpec.ofChange diffCutsSpec)

/-- ITS FALSE NEIGHBOUR: 'it returns false'. Refute it at one input. -/
def diffCutsWrong : ChangeSpec := { name := "diffCuts", fn := fun _ => fun
  | [d1, d2, d3] => { results := [.lit (.bool false)], args := [d1, d2, d3] }
  | _ => none }
def DiffCutsWrongFalsely : Prop := diffCutsRow.holds Try.pinned (OpenSpec.ofChange diffCutsWrong)

/-- 'palletlaw23.DiffTells': WHATEVER THE INPUT: true; the input reads as it did. -/
def diffTellsSpec : ChangeSpec := { name := "diffTells", fn := fun _ => fun
  | [d1, d2, d3] => { results := [.lit (.bool true)], args := [d1, d2, d3] }
  | _ => none }
def diffTellsRow : OpenClaim := { program := "ytpjfdnifliekiaa", sum := "06ecd6a76f740c21056fb3acc5ec414f0cbc74e05ced2db25bc0b3da1154599f", func := "pallet/palletlaw23.DiffTells", spec := "diffTells", apart := false }
def DiffTellsSaid : Prop := diffTellsRow.holds Try.pinned (OpenSpec.ofChange diffTellsSpec)

/-- ITS FALSE NEIGHBOUR: 'it returns false'. Refute it at one input. -/
def diffTellsWrong : ChangeSpec := { name := "diffTells", fn := fun _ => fun
  | [d1, d2, d3] => { results := [.lit (.bool false)], args := [d1, d2, d3] }
  | _ => none }
def DiffTellsWrongFalsely : Prop := diffTellsRow.holds Try.pinned (OpenSpec.ofChange diffTellsWrong)

/-- 'palletlaw23.DiffBack': WHATEVER THE INPUT: true; the input reads as it did. -/
def diffBackSpec : ChangeSpec := { name := "diffBack", fn := fun _ => fun
  | [d1, d2, d3] => { results := [.lit (.bool true)], args := [d1, d2, d3] }
  | _ => none }
def diffBackRow : OpenClaim := { program := "ytpjfdnifliekiaa", sum := "06ecd6a76f740c21056fb3acc5ec414f0cbc74e05ced2db25bc0b3da1154599f", func := "pallet/palletlaw23.DiffBack", spec := "diffBack", apart := false }
def DiffBackSaid : Prop := diffBackRow.holds Try.pinned (OpenSpec.ofChange diffBackSpec)

/-- ITS FALSE NEIGHBOUR: 'it returns false'. Refute it at one input. -/
def diffBackWrong : ChangeSpec := { name := "diffBack", fn := fun _ => fun
  | [d1, d2, d3] => { results := [.lit (.bool false)], args := [d1, d2, d3] }
  | _ => none }
def DiffBackWrongFalsely : Prop := diffBackRow.holds Try.pinned (OpenSpec.ofChange diffBackWrong)

/- THE SECOND FORM. 'bulk': how many values and letters a reading holds, each counted each time it is reached (what is shared counts as often as it is met; a slice's spare places count too). A statement '..UptoSaid' is the law's where the arguments, and the package variables that the reading takes, are together of bulk at most 1048576: NARROWER than '..Said'. Prove '..Said' where nothing that the law and all that it calls make is longer than what came in: it says more and counts as full. Else prove '..UptoSaid'. A law counts once. -/
mutual
def uptoBulk {H : Type} : DataW H → Nat
  | .lit (.string bytes) => bytes.length + 1
  | .lit _ => 1
  | .nil => 1
  | .ptr d => uptoBulk d + 1
  | .slice elems spare => uptoBulkAll elems + uptoBulkAll spare + 1
  | .agg parts => uptoBulkAll parts + 1
  | .iface _ d => uptoBulk d + 1
  | .map entries => uptoBulkEntries entries + 1
  | .held _ => 1
def uptoBulkAll {H : Type} : List (DataW H) → Nat
  | [] => 0
  | d :: r => uptoBulk d + uptoBulkAll r
def uptoBulkEntries {H : Type} : List (Lit × DataW H) → Nat
  | [] => 0
  | x :: r => uptoBulkEntry x + uptoBulkEntries r
def uptoBulkEntry {H : Type} : Lit × DataW H → Nat
  | (.string bytes, d) => bytes.length + uptoBulk d + 1
  | (_, d) => uptoBulk d + 1
 end
def uptoSmall : (H : Type) → List (DataW H) → Bool := fun _ ds => decide (uptoBulkAll ds ≤ 1048576)
def OpenSpec.upto (s : _root_.Go.ChangeSpec) : _root_.Go.OpenSpec := { _root_.Go.OpenSpec.ofChange s with cond := some uptoSmall }

/-- 'palletlaw23.DiffParts', WHERE WHAT IT READS IS OF BULK AT MOST 1048576: true; the input reads as it did. -/
def diffPartsUptoRow : OpenClaim := { program := "ytpjfdnifliekiaa", sum := "06ecd6a76f740c21056fb3acc5ec414f0cbc74e05ced2db25bc0b3da1154599f", func := "pallet/palletlaw23.DiffParts", spec := "diffParts", apart := false, narrowed := true }
def DiffPartsUptoSaid : Prop := diffPartsUptoRow.holds Try.pinned (OpenSpec.upto diffPartsSpec)

/-- 'palletlaw23.DiffCuts', WHERE WHAT IT READS IS OF BULK AT MOST 1048576: true; the input reads as it did. -/
def diffCutsUptoRow : OpenClaim := { program := "ytpjfdnifliekiaa", sum := "06ecd6a76f740c21056fb3acc5ec414f0cbc74e05ced2db25bc0b3da1154599f", func := "pallet/palletlaw23.DiffCuts", spec := "diffCuts", apart := false, narrowed := true }
def DiffCutsUptoSaid : Prop := diffCutsUptoRow.holds Try.pinned (OpenSpec.upto diffCutsSpec)

/-- 'palletlaw23.DiffTells', WHERE WHAT IT READS IS OF BULK AT MOST 1048576: true; the input reads as it did. -/
def diffTellsUptoRow : OpenClaim := { program := "ytpjfdnifliekiaa", sum := "06ecd6a76f740c21056fb3acc5ec414f0cbc74e05ced2db25bc0b3da1154599f", func := "pallet/palletlaw23.DiffTells", spec := "diffTells", apart := false, narrowed := true }
def DiffTellsUptoSaid : Prop := diffTellsUptoRow.holds Try.pinned (OpenSpec.upto diffTellsSpec)

/-- 'palletlaw23.DiffBack', WHERE WHAT IT READS IS OF BULK AT MOST 1048576: true; the input reads as it did. -/
def diffBackUptoRow : OpenClaim := { program := "ytpjfdnifliekiaa", sum := "06ecd6a76f740c21056fb3acc5ec414f0cbc74e05ced2db25bc0b3da1154599f", func := "pallet/palletlaw23.DiffBack", spec := "diffBack", apart := false, narrowed := true }
def DiffBackUptoSaid : Prop := diffBackUptoRow.holds Try.pinned (OpenSpec.upto diffBackSpec)

end Rows
end Go.Proofs.Ytpjfdnifliekiaa
