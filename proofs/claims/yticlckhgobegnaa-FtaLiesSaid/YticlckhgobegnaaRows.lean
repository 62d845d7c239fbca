/-
  No cell of these rows narrows 'for every input' (looked for: loops, veiled, ifaces, maps, wideKeys, modest, calm, conditions, laid).
  DERIVED. THE GIVEN ROWS OF THIS SEAT. 3 by the template 'for every input the law returns true; each argument reads behind the call as it read before'; 0 by the template 'total and deterministic' (their statements: YticlckhgobegnaaTotals.lean).
  GIVEN WITH THE SEED: the statements are not yours to turn. If you find one false, say at which input.
  Laid BY PROGRAM, IN A SANDBOX (cutbox-rows.mjs): the forced cells as the released guide's own fill.sh prints them over the translation a5abf0242478b479… (all of the seat's roots in one cut). By AI agents, Wed Nov 11 2026. No macro, syntax, notation, axiom, sorry.
-/
import Derived.Test.YticlckhgobegnaaChecked
import GoSem.Claim
import GoSem.ClaimJoined
import GoSem.ClaimMapViews
import Derived.JoinedTies
import Derived.KernelRfl
namespace Go.Proofs.Yticlckhgobegnaa
/- THE CELL 'sum', in the pinned program and in every row, IS THE sha256 OF THE DUMP (.gsa) THAT YticlckhgobegnaaProg.lean LOADS. Nothing in Lean hashes anything: it is a label: what it is worth is what the hold of that sum in a sandbox is worth. -/
noncomputable def Try.pinned : Pinned := { name := "yticlckhgobegnaa", sum := "a5abf0242478b479aae0b5235346b6b495af4f38e06a6b26b2759aed9dcca775", checked := Try.checked }
namespace Rows
def none {H : Type} : Left H := { results := [], args := [] }

/-- 'palletlaw09.FtaClips': WHATEVER THE INPUT: true; the input reads as it did. -/
def ftaClipsSpec : ChangeSpec := { name := "ftaClips", fn := fun _ => fun
  | [d1, d2] => { results := [.lit (.bool true)], args := [d1, d2] }
  | _ => none }
def ftaClipsRow : OpenClaim := { program := "yticlckhgobegnaa", sum := "a5abf0242478b479aae0b5235346b6b495af4f38e06a6b26b2759aed9dcca775", func := "pallet/palletlaw09.FtaClips", spec := "ftaClips", unfollowed := true, recurses := true, apart := false }
def FtaClipsSaid : Prop := ftaClipsRow.holds Try.pinned (OpenSpec.ofChange ftaClipsSpec)

/-- ITS FALSE NEIGHBOUR: 'it returns false'. Refute it at one input. -/
def ftaClipsWrong : ChangeSpec := { name := "ftaClips", fn := fun _ => fun
  | [d1, d2] => { results := [.lit (.bool false)], args := [d1, d2] }
  | _ => none }
def FtaClipsWrongFalsely : Prop := ftaClipsRow.holds Try.pinned (OpenSpec.ofChange ftaClipsWrong)

/-- 'palletlaw09.FtaLies': WHATEVER THE INPUT: true; the input reads as it did. -/
def ftaLiesSpec : ChangeSpec := { name := "ftaLies", fn := fun _ => fun
  | [d1, d2, d3, d4, d5] => { results := [.lit (.bool true)], args := [d1, d2, d3, d4, d5] }
  | _ => none }
def ftaLiesRow : OpenClaim := { program := "yticlckhgobegnaa", sum := "a5abf0242478b479aae0b5235346b6b495af4f38e06a6b26b2759aed9dcca775", func := "pallet/palletlaw09.FtaLies", spec := "ftaLies", unfollowed := true, recurses := true, apart := false }
def FtaLiesSaid : Prop := ftaLiesRow.holds Try.pinned (OpenSpec.ofChange ftaLiesSpec)

/-- ITS FALSE NEIGHBOUR: 'it returns false'. Refute it at one input. -/
def ftaLiesWrong : ChangeSpec := { name := "ftaLies", fn := fun _ => fun
  | [d1, d2, d3, d4, d5] => { results := [.lit (.bool false)], args := [d1, d2, d3, d4, d5] }
  | _ => none }
def FtaLiesWrongFalsely : Prop := ftaLiesRow.holds Try.pinned (OpenSpec.ofChange ftaLiesWrong)

/-- 'palletlaw09.FtaShifts': WHATEVER THE INPUT: true; the input reads as it did. -/
def ftaShiftsSpec : ChangeSpec := { name := "ftaShifts", fn := fun _ => fun
  | [d1, d2] => { results := [.lit (.bool true)], args := [d1, d2] }
  | _ => none }
def ftaShiftsRow : OpenClaim := { program := "yticlckhgobegnaa", sum := "a5abf0242478b479aae0b5235346b6b495af4f38e06a6b26b2759aed9dcca775", func := "pallet/palletlaw09.FtaShifts", spec := "ftaShifts", unfollowed := true, recurses := true, apart := false }
def FtaShiftsSaid : Prop := ftaShiftsRow.holds Try.pinned (OpenSpec.ofChange ftaShiftsSpec)

/-- ITS FALSE NEIGHBOUR: 'it returns false'. Refute it at one input. -/
def ftaShiftsWrong : ChangeSpec := { name := "ftaShifts", fn := fun _ => fun
  | [d1, d2] => { results := [.lit (.bool false)], args := [d1, d2] }
  | _ => none }
def FtaShiftsWrongFalsely : Prop := ftaShiftsRow.holds Try.pinned (OpenSpec.ofChange ftaShiftsWrong)

/- THE SECOND FORM. 'bulk': how many values and letters a reading holds, each counted each time it is reached (what is shared counts as often as it is met; a slice's spare places count too). A statement '..UptoSaid' is the law's where the arguments, and the package variables that the reading takes, are together of bulk at most 1048576: NARROWER than '..Said'. Prove '..Said' where nothing that the law and all that it calls make is longer than what came in: it says more and counts as full. Else prove '..UptoSaid'. A law counts once. -/
mutual
def uptoBulk {H : Type} : DataW H → Nat
  | .lit (.string bytes) => bytes.length + 1
  | .lit _ => 1
  | .nil => 1
  | .ptr d => uptoBulk d + 1
  | .slice elems spare => uptoBulkAll elems + uptoBulkAll spare + 1
  | .agg parts => uptoBulkAll parts + 1
  | .iface _ d => uptoBulk d + 1
  | .map entries => uptoBulkEntries entries + 1
  | .held _ => 1
def uptoBulkAll {H : Type} : List (DataW H) → Nat
  | [] => 0
  | d :: r => uptoBulk d + uptoBulkAll r
def uptoBulkEntries {H : Type} : List (Lit × DataW H) → Nat
  | [] => 0
  | x :: r => uptoBulkEntry x + uptoBulkEntries r
def uptoBulkEntry {H : Type} : Lit × DataW H → Nat
  | (.string bytes, d) => bytes.length + uptoBulk d + 1
  | (_, d) => uptoBulk d + 1
 end
def uptoSmall : (H : Type) → List (DataW H) → Bool := fun _ ds => decide (uptoBulkAll ds ≤ 1048576)
def OpenSpec.upto (s : _root_.Go.ChangeSpec) : _root_.Go.OpenSpec := { _root_.Go.OpenSpec.ofChange s with cond := some uptoSmall }

/-- 'palletlaw09.FtaClips', WHERE WHAT IT READS IS OF BULK AT MOST 1048576: true; the input reads as it did. -/
def ftaClipsUptoRow : OpenClaim := { program := "yticlckhgobegnaa", sum := "a5abf0242478b479aae0b5235346b6b495af4f38e06a6b26b2759aed9dcca775", func := "pallet/palletlaw09.FtaClips", spec := "ftaClips", unfollowed := true, recurses := true, apart := false, narrowed := true }
def FtaClipsUptoSaid : Prop := ftaClipsUptoRow.holds Try.pinned (OpenSpec.upto ftaClipsSpec)

/-- 'palletlaw09.FtaLies', WHERE WHAT IT READS IS OF BULK AT MOST 1048576: true; the input reads as it did. -/
def ftaLiesUptoRow : OpenClaim := { program := "yticlckhgobegnaa", sum := "a5abf0242478b479aae0b5235346b6b495af4f38e06a6b26b2759aed9dcca775", func := "pallet/palletlaw09.FtaLies", spec := "ftaLies", unfollowed := true, recurses := true, apart := false, narrowed := true }
def FtaLiesUptoSaid : Prop := ftaLiesUptoRow.holds Try.pinned (OpenSpec.upto ftaLiesSpec)

/-- 'palletlaw09.FtaShifts', WHERE WHAT IT READS IS OF BULK AT MOST 1048576: true; the input reads as it did. -/
def ftaShiftsUptoRow : OpenClaim := { program := "yticlckhgobegnaa", sum := "a5abf0242478b479aae0b5235346b6b495af4f38e06a6b26b2759aed9dcca775", func := "pallet/palletlaw09.FtaShifts", spec := "ftaShifts", unfollowed := true, recurses := true, apart := false, narrowed := true }
def FtaShiftsUptoSaid : Prop := ftaShiftsUptoRow.holds Try.pinned (OpenSpec.upto ftaShiftsSpec)

end Rows
end Go.Proofs.Yticlckhgobegnaa
