/-
  No cell of these rows narrows 'for every input' (looked for: loops, veiled, ifaces, maps, wideKeys, modest, calm, conditions, laid).
  DERIVED. THE GIVEN ROWS OF THIS SEAT. 11 by the template 'for every input the law returns true; each argument reads behind the call as it read before'; 0 by the template 'total and deterministic' (their statements: YtmkjljekofondaaTotals.lean).
  GIVEN WITH THE SEED: the statements are not yours to turn. If you find one false, say at which input.
  Laid BY PROGRAM, IN A SANDBOX (cutbox-rows.mjs): the forced cells as the released guide's own fill.sh prints them over the translation 8bd1fe3562c79d0d… (all of the seat's roots in one cut). By AI agents, Wed Nov 11 2026. No macro, syntax, notation, axiom, sorry.
-/
import Derived.Test.YtmkjljekofondaaChecked
import GoSem.Claim
import GoSem.ClaimJoined
import GoSem.ClaimMapViews
import Derived.JoinedTies
import Derived.KernelRfl
namespace Go.Proofs.Ytmkjljekofondaa
/- THE CELL 'sum', in the pinned program and in every row, IS THE sha256 OF THE DUMP (.gsa) THAT YtmkjljekofondaaProg.lean LOADS. Nothing in Lean hashes anything: it is a label: what it is worth is what the hold of that sum in a sandbox is worth. -/
noncomputable def Try.pinned : Pinned := { name := "ytmkjljekofondaa", sum := "8bd1fe3562c79d0d04983c0de2412aa19aebf240e1d62813e04bd8ea569b27f0", checked := Try.checked }
namespace Rows
def none {H : Type} : Left H := { results := [], args := [] }

/-- 'palletlaw06.OscScales': WHATEVER THE INPUT: true; the input reads as it did. -/
def oscScalesSpec : ChangeSpec := { name := "oscScales", fn := fun _ => fun
  | [d1, d2, d3] => { results := [.lit (.bool true)], args := [d1, d2, d3] }
  | _ => none }
def oscScalesRow : OpenClaim := { program := "ytmkjljekofondaa", sum := "8bd1fe3562c79d0d04983c0de2412aa19aebf240e1d62813e04bd8ea569b27f0", func := "pallet/palletlaw06.OscScales", spec := "oscScales", inPlace := ["math/bits.Add64"], named := ["math/bits.divideError", "math/bits.overflowError"], apart := false }
def OscScalesSaid : Prop := oscScalesRow.holds Try.pinned (OpenSpec.ofChange oscScalesSpec)

/-- ITS FALSE NEIGHBOUR: 'it returns false'. Refute it at one input. -/
def oscScalesWrong : ChangeSpec := { name := "oscScales", fn := fun _ => fun
  | [d1, d2, d3] => { results := [.lit (.bool false)], args := [d1, d2, d3] }
  | _ => none }
def OscScalesWrongFalsely : Prop := oscScalesRow.holds Try.pinned (OpenSpec.ofChange oscScalesWrong)

/-- 'palletlaw06.OscDrifts': WHATEVER THE INPUT: true; the input reads as it did. -/
def oscDriftsSpec : ChangeSpec := { name := "oscDrifts", fn := fun _ => fun
  | [d1, d2, d3] => { results := [.lit (.bool true)], args := [d1, d2, d3] }
  | _ => none }
def oscDriftsRow : OpenClaim := { program := "ytmkjljekofondaa", sum := "8bd1fe3562c79d0d04983c0de2412aa19aebf240e1d62813e04bd8ea569b27f0", func := "pallet/palletlaw06.OscDrifts", spec := "oscDrifts", inPlace := ["math/bits.Add64"], named := ["math/bits.divideError", "math/bits.overflowError"], apart := false }
def OscDriftsSaid : Prop := oscDriftsRow.holds Try.pinned (OpenSpec.ofChange oscDriftsSpec)

/-- ITS FALSE NEIGHBOUR: 'it returns false'. Refute it at one input. -/
def oscDriftsWrong : ChangeSpec := { name := "oscDrifts", fn := fun _ => fun
  | [d1, d2, d3] => { results := [.lit (.bool false)], args := [d1, d2, d3] }
  | _ => none }
def OscDriftsWrongFalsely : Prop := oscDriftsRow.holds Try.pinned (OpenSpec.ofChange oscDriftsWrong)

/-- 'palletlaw06.OscParts': WHATEVER THE INPUT: true; the input reads as it did. -/
def oscPartsSpec : ChangeSpec := { name := "oscParts", fn := fun _ => fun
  | [d1, d2] => { results := [.lit (.bool true)], args := [d1, d2] }
  | _ => none }
def oscPartsRow : OpenClaim := { program := "ytmkjljekofondaa", sum := "8bd1fe3562c79d0d04983c0de2412aa19aebf240e1d62813e04bd8ea569b27f0", func := "pallet/palletlaw06.OscParts", spec := "oscParts", inPlace := ["math/bits.Add64"], named := ["math/bits.divideError", "math/bits.overflowError"], apart := false }
def OscPartsSaid : Prop := oscPartsRow.holds Try.pinned (OpenSpec.ofChange oscPartsSpec)

/-- ITS FALSE NEIGHBOUR: 'it returns false'. Refute it at one input. -/
def oscPartsWrong : ChangeSpec := { name := "oscParts", fn := fun _ => fun
  | [d1, d2] => { results := [.lit (.bool false)], args := [d1, d2] }
  | _ => none }
def OscPartsWrongFalsely : Prop := oscPartsRow.holds Try.pinned (OpenSpec.ofChange oscPartsWrong)

/-- 'palletlaw06.OscBack': WHATEVER THE INPUT: true; the input reads as it did. -/
def oscBackSpec : ChangeSpec := { name := "oscBack", fn := fun _ => fun
  | [d1, d2, d3] => { results := [.lit (.bool true)], args := [d1, d2, d3] }
  | _ => none }
def oscBackRow : OpenClaim := { program := "ytmkjljekofondaa", sum := "8bd1fe3562c79d0d04983c0de2412aa19aebf240e1d62813e04bd8ea569b27f0", func := "pallet/palletlaw06.OscBack", spec := "oscBack", inPlace := ["math/bits.Add64", "math/bits.Sub64"], unfollowed := true, recurses := true, named := ["math/bits.divideError", "math/bits.overflowError"], apart := false }
def OscBackSaid : Prop := oscBackRow.holds Try.pinned (OpenSpec.ofChange oscBackSpec)

/-- ITS FALSE NEIGHBOUR: 'it returns false'. Refute it at one input. -/
def oscBackWrong : ChangeSpec := { name := "oscBack", fn := fun _ => fun
  | [d1, d2, d3] => { results := [.lit (.bool false)], args := [d1, d2, d3] }
  | _ => none }
def OscBackWrongFalsely : Prop := oscBackRow.holds Try.pinned (OpenSpec.ofChange oscBackWrong)

/-- 'palletlaw06.OscGrows': WHATEVER THE INPUT: true; the input reads as it did. -/
def oscGrowsSpec : ChangeSpec := { name := "oscGrows", fn := fun _ => fun
  | [d1, d2, d3] => { results := [.lit (.bool true)], args := [d1, d2, d3] }
  | _ => none }
def oscGrowsRow : OpenClaim := { program := "ytmkjljekofondaa", sum := "8bd1fe3562c79d0d04983c0de2412aa19aebf240e1d62813e04bd8ea569b27f0", func := "pallet/palletlaw06.OscGrows", spec := "oscGrows", inPlace := ["math/bits.Add64", "math/bits.Sub64"], unfollowed := true, recurses := true, named := ["math/bits.divideError", "math/bits.overflowError"], apart := false }
def OscGrowsSaid : Prop := oscGrowsRow.holds Try.pinned (OpenSpec.ofChange oscGrowsSpec)

/-- ITS FALSE NEIGHBOUR: 'it returns false'. Refute it at one input. -/
def oscGrowsWrong : ChangeSpec := { name := "oscGrows", fn := fun _ => fun
  | [d1, d2, d3] => { results := [.lit (.bool false)], args := [d1, d2, d3] }
  | _ => none }
def OscGrowsWrongFalsely : Prop := oscGrowsRow.holds Try.pinned (OpenSpec.ofChange oscGrowsWrong)

/-- 'palletlaw01.PicoScales': WHATEVER THE INPUT: true; the input reads as it did. -/
def picoScalesSpec : ChangeSpec := { name := "picoScales", fn := fun _ => fun
  | [d1, d2, d3] => { results := [.lit (.bool true)], args := [d1, d2, d3] }
  | _ => none }
def picoScalesRow : OpenClaim := { program := "ytmkjljekofondaa", sum := "8bd1fe3562c79d0d04983c0de2412aa19aebf240e1d62813e04bd8ea569b27f0", func := "pallet/palletlaw01.PicoScales", spec := "picoScales", unfollowed := true, recurses := true, named := ["math/bits.divideError", "math/bits.overflowError"], apart := false }
def PicoScalesSaid : Prop := picoScalesRow.holds Try.pinned (OpenSpec.ofChange picoScalesSpec)

/-- ITS FALSE NEIGHBOUR: 'it returns false'. Refute it at one input. -/
def picoScalesWrong : ChangeSpec := { name := "picoScales", fn := fun _ => fun
  | [d1, d2, d3] => { results := [.lit (.bool false)], args := [d1, d2, d3] }
  | _ => none }
def PicoScalesWrongFalsely : Prop := picoScalesRow.holds Try.pinned (OpenSpec.ofChange picoScalesWrong)

/-- 'palletlaw01.PicoGrows': WHATEVER THE INPUT: true; the input reads as it did. -/
def picoGrowsSpec : ChangeSpec := { name := "picoGrows", fn := fun _ => fun
  | [d1, d2, d3, d4] => { results := [.lit (.bool true)], args := [d1, d2, d3, d4] }
  | _ => none }
def picoGrowsRow : OpenClaim := { program := "ytmkjljekofondaa", sum := "8bd1fe3562c79d0d04983c0de2412aa19aebf240e1d62813e04bd8ea569b27f0", func := "pallet/palletlaw01.PicoGrows", spec := "picoGrows", unfollowed := true, recurses := true, named := ["math/bits.divideError", "math/bits.overflowError"], apart := false }
def PicoGrowsSaid : Prop := picoGrowsRow.holds Try.pinned (OpenSpec.ofChange picoGrowsSpec)

/-- ITS FALSE NEIGHBOUR: 'it returns false'. Refute it at one input. -/
def picoGrowsWrong : ChangeSpec := { name := "picoGrows", fn := fun _ => fun
  | [d1, d2, d3, d4] => { results := [.lit (.bool false)], args := [d1, d2, d3, d4] }
  | _ => none }
def PicoGrowsWrongFalsely : Prop := picoGrowsRow.holds Try.pinned (OpenSpec.ofChange picoGrowsWrong)

/-- 'palletlaw01.PicoSigns': WHATEVER THE INPUT: true; the input reads as it did. -/
def picoSignsSpec : ChangeSpec := { name := "picoSigns", fn := fun _ => fun
  | [d1, d2, d3, d4] => { results := [.lit (.bool true)], args := [d1, d2, d3, d4] }
  | _ => none }
def picoSignsRow : OpenClaim := { program := "ytmkjljekofondaa", sum := "8bd1fe3562c79d0d04983c0de2412aa19aebf240e1d62813e04bd8ea569b27f0", func := "pallet/palletlaw01.PicoSigns", spec := "picoSigns", unfollowed := true, recurses := true, named := ["math/bits.divideError", "math/bits.overflowError"], apart := false }
def PicoSignsSaid : Prop := picoSignsRow.holds Try.pinned (OpenSpec.ofChange picoSignsSpec)

/-- ITS FALSE NEIGHBOUR: 'it returns false'. Refute it at one input. -/
def picoSignsWrong : ChangeSpec := { name := "picoSigns", fn := fun _ => fun
  | [d1, d2, d3, d4] => { results := [.lit (.bool false)], args := [d1, d2, d3, d4] }
  | _ => none }
def PicoSignsWrongFalsely : Prop := picoSignsRow.holds Try.pinned (OpenSpec.ofChange picoSignsWrong)

/-- 'palletlaw01.PicoReckons': WHATEVER THE INPUT: true; the input reads as it did. -/
def picoReckonsSpec : ChangeSpec := { name := "picoReckons", fn := fun _ => fun
  | [d1, d2, d3] => { results := [.lit (.bool true)], args := [d1, d2, d3] }
  | _ => none }
def picoReckonsRow : OpenClaim := { program := "ytmkjljekofondaa", sum := "8bd1fe3562c79d0d04983c0de2412aa19aebf240e1d62813e04bd8ea569b27f0", func := "pallet/palletlaw01.PicoReckons", spec := "picoReckons", unfollowed := true, recurses := true, named := ["math/bits.divideError", "math/bits.overflowError"], apart := false }
def PicoReckonsSaid : Prop := picoReckonsRow.holds Try.pinned (OpenSpec.ofChange picoReckonsSpec)

/-- ITS FALSE NEIGHBOUR: 'it returns false'. Refute it at one input. -/
def picoReckonsWrong : ChangeSpec := { name := "picoReckons", fn := fun _ => fun
  | [d1, d2, d3] => { results := [.lit (.bool false)], args := [d1, d2, d3] }
  | _ => none }
def PicoReckonsWrongFalsely : Prop := picoReckonsRow.holds Try.pinned (OpenSpec.ofChange picoReckonsWrong)

/-- 'palletlaw01.PicoUnits': WHATEVER THE INPUT: true; the input reads as it did. -/
def picoUnitsSpec : ChangeSpec := { name := "picoUnits", fn := fun _ => fun
  | [d1, d2] => { results := [.lit (.bool true)], args := [d1, d2] }
  | _ => none }
def picoUnitsRow : OpenClaim := { program := "ytmkjljekofondaa", sum := "8bd1fe3562c79d0d04983c0de2412aa19aebf240e1d62813e04bd8ea569b27f0", func := "pallet/palletlaw01.PicoUnits", spec := "picoUnits", unfollowed := true, recurses := true, named := ["math/bits.divideError", "math/bits.overflowError"], apart := false }
def PicoUnitsSaid : Prop := picoUnitsRow.holds Try.pinned (OpenSpec.ofChange picoUnitsSpec)

/-- ITS FALSE NEIGHBOUR: 'it returns false'. Refute it at one input. -/
def picoUnitsWrong : ChangeSpec := { name := "picoUnits", fn := fun _ => fun
  | [d1, d2] => { results := [.lit (.bool false)], args := [d1, d2] }
  | _ => none }
def PicoUnitsWrongFalsely : Prop := picoUnitsRow.holds Try.pinned (OpenSpec.ofChange picoUnitsWrong)

/-- 'palletlaw01.PicoBack': WHATEVER THE INPUT: true; the input reads as it did. -/
def picoBackSpec : ChangeSpec := { name := "picoBack", fn := fun _ => fun
  | [d1, d2] => { results := [.lit (.bool true)], args := [d1, d2] }
  | _ => none }
def picoBackRow : OpenClaim := { program := "ytmkjljekofondaa", sum := "8bd1fe3562c79d0d04983c0de2412aa19aebf240e1d62813e04bd8ea569b27f0", func := "pallet/palletlaw01.PicoBack", spec := "picoBack", unfollowed := true, recurses := true, named := ["math/bits.divideError", "math/bits.overflowError"], apart := false }
def PicoBackSaid : Prop := picoBackRow.holds Try.pinned (OpenSpec.ofChange picoBackSpec)

/-- ITS FALSE NEIGHBOUR: 'it returns false'. Refute it at one input. -/
def picoBackWrong : ChangeSpec := { name := "picoBack", fn := fun _ => fun
  | [d1, d2] => { results := [.lit (.bool false)], args := [d1, d2] }
  | _ => none }
def PicoBackWrongFalsely : Prop := picoBackRow.holds Try.pinned (OpenSpec.ofChange picoBackWrong)

/- THE SECOND FORM. 'bulk': how many values and letters a reading holds, each counted each time it is reached (what is shared counts as often as it is met; a slice's spare places count too). A statement '..UptoSaid' is the law's where the arguments, and the package variables that the reading takes, are together of bulk at most 1048576: NARROWER than '..Said'. Prove '..Said' where nothing that the law and all that it calls make is longer than what came in: it says more and counts as full. Else prove '..UptoSaid'. A law counts once. -/
mutual
def uptoBulk {H : Type} : DataW H → Nat
  | .lit (.string bytes) => bytes.length + 1
  | .lit _ => 1
  | .nil => 1
  | .ptr d => uptoBulk d + 1
  | .slice elems spare => uptoBulkAll elems + uptoBulkAll spare + 1
  | .agg parts => uptoBulkAll parts + 1
  | .iface _ d => uptoBulk d + 1
  | .map entries => uptoBulkEntries entries + 1
  | .held _ => 1
def uptoBulkAll {H : Type} : List (DataW H) → Nat
  | [] => 0
  | d :: r => uptoBulk d + uptoBulkAll r
def uptoBulkEntries {H : Type} : List (Lit × DataW H) → Nat
  | [] => 0
  | x :: r => uptoBulkEntry x + uptoBulkEntries r
def uptoBulkEntry {H : Type} : Lit × DataW H → Nat
  | (.string bytes, d) => bytes.length + uptoBulk d + 1
  | (_, d) => uptoBulk d + 1
 end
def uptoSmall : (H : Type) → List (DataW H) → Bool := fun _ ds => decide (uptoBulkAll ds ≤ 1048576)
def OpenSpec.upto (s : _root_.Go.ChangeSpec) : _root_.Go.OpenSpec := { _root_.Go.OpenSpec.ofChange s with cond := some uptoSmall }

/-- 'palletlaw06.OscScales', WHERE WHAT IT READS IS OF BULK AT MOST 1048576: true; the input reads as it did. -/
def oscScalesUptoRow : OpenClaim := { program := "ytmkjljekofondaa", sum := "8bd1fe3562c79d0d04983c0de2412aa19aebf240e1d62813e04bd8ea569b27f0", func := "pallet/palletlaw06.OscScales", spec := "oscScales", inPlace := ["math/bits.Add64"], named := ["math/bits.divideError", "math/bits.overflowError"], apart := false, narrowed := true }
def OscScalesUptoSaid : Prop := oscScalesUptoRow.holds Try.pinned (OpenSpec.upto oscScalesSpec)

/-- 'palletlaw06.OscDrifts', WHERE WHAT IT READS IS OF BULK AT MOST 1048576: true; the input reads as it did. -/
def oscDriftsUptoRow : OpenClaim := { program := "ytmkjljekofondaa", sum := "8bd1fe3562c79d0d04983c0de2412aa19aebf240e1d62813e04bd8ea569b27f0", func := "pallet/palletlaw06.OscDrifts", spec := "oscDrifts", inPlace := ["math/bits.Add64"], named := ["math/bits.divideError", "math/bits.overflowError"], apart := false, narrowed := true }
def OscDriftsUptoSaid : Prop := oscDriftsUptoRow.holds Try.pinned (OpenSpec.upto oscDriftsSpec)

/-- 'palletlaw06.OscParts', WHERE WHAT IT READS IS OF BULK AT MOST 1048576: true; the input reads as it did. -/
def oscPartsUptoRow : OpenClaim := { program := "ytmkjljekofondaa", sum := "8bd1fe3562c79d0d04983c0de2412aa19aebf240e1d62813e04bd8ea569b27f0", func := "pallet/palletlaw06.OscParts", spec := "oscParts", inPlace := ["math/bits.Add64"], named := ["math/bits.divideError", "math/bits.overflowError"], apart := false, narrowed := true }
def OscPartsUptoSaid : Prop := oscPartsUptoRow.holds Try.pinned (OpenSpec.upto oscPartsSpec)

/-- 'palletlaw06.OscBack', WHERE WHAT IT READS IS OF BULK AT MOST 1048576: true; the input reads as it did. -/
def oscBackUptoRow : OpenClaim := { program := "ytmkjljekofondaa", sum := "8bd1fe3562c79d0d04983c0de2412aa19aebf240e1d62813e04bd8ea569b27f0", func := "pallet/palletlaw06.OscBack", spec := "oscBack", inPlace := ["math/bits.Add64", "math/bits.Sub64"], unfollowed := true, recurses := true, named := ["math/bits.divideError", "math/bits.overflowError"], apart := false, narrowed := true }
def OscBackUptoSaid : Prop := oscBackUptoRow.holds Try.pinned (OpenSpec.upto oscBackSpec)

/-- 'palletlaw06.OscGrows', WHERE WHAT IT READS IS OF BULK AT MOST 1048576: true; the input reads as it did. -/
def oscGrowsUptoRow : OpenClaim := { program := "ytmkjljekofondaa", sum := "8bd1fe3562c79d0d04983c0de2412aa19aebf240e1d62813e04bd8ea569b27f0", func := "pallet/palletlaw06.OscGrows", spec := "oscGrows", inPlace := ["math/bits.Add64", "math/bits.Sub64"], unfollowed := true, recurses := true, named := ["math/bits.divideError", "math/bits.overflowError"], apart := false, narrowed := true }
def OscGrowsUptoSaid : Prop := oscGrowsUptoRow.holds Try.pinned (OpenSpec.upto oscGrowsSpec)

/-- 'palletlaw01.PicoScales', WHERE WHAT IT READS IS OF BULK AT MOST 1048576: true; the input reads as it did. -/
def picoScalesUptoRow : OpenClaim := { program := "ytmkjljekofondaa", sum := "8bd1fe3562c79d0d04983c0de2412aa19aebf240e1d62813e04bd8ea569b27f0", func := "pallet/palletlaw01.PicoScales", spec := "picoScales", unfollowed := true, recurses := true, named := ["math/bits.divideError", "math/bits.overflowError"], apart := false, narrowed := true }
def PicoScalesUptoSaid : Prop := picoScalesUptoRow.holds Try.pinned (OpenSpec.upto picoScalesSpec)

/-- 'palletlaw01.PicoGrows', WHERE WHAT IT READS IS OF BULK AT MOST 1048576: true; the input reads as it did. -/
def picoGrowsUptoRow : OpenClaim := { program := "ytmkjljekofondaa", sum := "8bd1fe3562c79d0d04983c0de2412aa19aebf240e1d62813e04bd8ea569b27f0", func := "pallet/palletlaw01.PicoGrows", spec := "picoGrows", unfollowed := true, recurses := true, named := ["math/bits.divideError", "math/bits.overflowError"], apart := false, narrowed := true }
def PicoGrowsUptoSaid : Prop := picoGrowsUptoRow.holds Try.pinned (OpenSpec.upto picoGrowsSpec)

/-- 'palletlaw01.PicoSigns', WHERE WHAT IT READS IS OF BULK AT MOST 1048576: true; the input reads as it did. -/
def picoSignsUptoRow : OpenClaim := { program := "ytmkjljekofondaa", sum := "8bd1fe3562c79d0d04983c0de2412aa19aebf240e1d62813e04bd8ea569b27f0", func := "pallet/palletlaw01.PicoSigns", spec := "picoSigns", unfollowed := true, recurses := true, named := ["math/bits.divideError", "math/bits.overflowError"], apart := false, narrowed := true }
def PicoSignsUptoSaid : Prop := picoSignsUptoRow.holds Try.pinned (OpenSpec.upto picoSignsSpec)

/-- 'palletlaw01.PicoReckons', WHERE WHAT IT READS IS OF BULK AT MOST 1048576: true; the input reads as it did. -/
def picoReckonsUptoRow : OpenClaim := { program := "ytmkjljekofondaa", sum := "8bd1fe3562c79d0d04983c0de2412aa19aebf240e1d62813e04bd8ea569b27f0", func := "pallet/palletlaw01.PicoReckons", spec := "picoReckons", unfollowed := true, recurses := true, named := ["math/bits.divideError", "math/bits.overflowError"], apart := false, narrowed := true }
def PicoReckonsUptoSaid : Prop := picoReckonsUptoRow.holds Try.pinned (OpenSpec.upto picoReckonsSpec)

/-- 'palletlaw01.PicoUnits', WHERE WHAT IT READS IS OF BULK AT MOST 1048576: true; the input reads as it did. -/
def picoUnitsUptoRow : OpenClaim := { program := "ytmkjljekofondaa", sum := "8bd1fe3562c79d0d04983c0de2412aa19aebf240e1d62813e04bd8ea569b27f0", func := "pallet/palletlaw01.PicoUnits", spec := "picoUnits", unfollowed := true, recurses := true, named := ["math/bits.divideError", "math/bits.overflowError"], apart := false, narrowed := true }
def PicoUnitsUptoSaid : Prop := picoUnitsUptoRow.holds Try.pinned (OpenSpec.upto picoUnitsSpec)

/-- 'palletlaw01.PicoBack', WHERE WHAT IT READS IS OF BULK AT MOST 1048576: true; the input reads as it did. -/
def picoBackUptoRow : OpenClaim := { program := "ytmkjljekofondaa", sum := "8bd1fe3562c79d0d04983c0de2412aa19aebf240e1d62813e04bd8ea569b27f0", func := "pallet/palletlaw01.PicoBack", spec := "picoBack", unfollowed := true, recurses := true, named := ["math/bits.divideError", "math/bits.overflowError"], apart := false, narrowed := true }
def PicoBackUptoSaid : Prop := picoBackUptoRow.holds Try.pinned (OpenSpec.upto picoBackSpec)

end Rows
end Go.Proofs.Ytmkjljekofondaa
