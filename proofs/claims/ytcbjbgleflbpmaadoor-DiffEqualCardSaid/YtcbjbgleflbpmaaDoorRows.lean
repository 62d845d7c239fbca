/-
  NARROWER THAN 'FOR EVERY INPUT', by the rows' own cells (each row's printed sentence says how): EventParts: laid · EventOrders: laid · EventWrites: laid · EventReads: laid · EventSpoilt: laid · EventBack: laid · DiffEqual: laid.
  DERIVED. THE GIVEN ROWS OF THIS SEAT. 7 by the template 'for every input the law returns true; each argument reads behind the call as it read before'; 0 by the template 'total and deterministic' (their statements: YtcbjbgleflbpmaaDoorTotals.lean).
  GIVEN WITH THE SEED: the statements are not yours to turn. If you find one false, say at which input.
  Laid BY PROGRAM, IN A SANDBOX (cutbox-rows.mjs): the forced cells as the released guide's own fill.sh prints them over the translation 4d4bfc7df81c032b… (all of the seat's roots in one cut). By AI agents, Wed Nov 11 2026. No macro, syntax, notation, axiom, sorry.
-/
import Derived.Test.YtcbjbgleflbpmaaDoorChecked
import GoSem.Claim
import GoSem.ClaimJoined
import GoSem.ClaimMapViews
import Derived.JoinedTies
import Derived.KernelRfl
namespace Go.Proofs.YtcbjbgleflbpmaaDoor
/- THE CELL 'sum', in the pinned program and in every row, IS THE sha256 OF THE DUMP (.gsa) THAT YtcbjbgleflbpmaaDoorProg.lean LOADS. Nothing in Lean hashes anything: it is a label: what it is worth is what the hold of that sum in a sandbox is worth. -/
noncomputable def Tryd.pinned : Pinned := { name := "ytcbjbgleflbpmaadoor", sum := "4d4bfc7df81c032b73b14f8dfd2140d32472d227121c3a13091dcbe324ef0a9c", checked := Tryd.checked }
namespace Rows
def none {H : Type} : Left H := { results := [], args := [] }

/- WHAT THE LISTED PACKAGE-LEVEL VARIABLES READ AS WHEN THE CALL BEGINS. Each datum BY PROGRAM (the guide's laid-datum.mjs) off the statement by which the dump's own 'gosem.cut.vars' lays the variable. In a bare row this is a premise. The card (YtcbjbgleflbpmaaDoorCards.lean) ties it to the program's text. -/
def laid_bytes_ErrTooLarge {H : Type} : DataW H := .iface "*errors.errorString" (.ptr (.agg [.lit (.string [98, 121, 116, 101, 115, 46, 66, 117, 102, 102, 101, 114, 58, 32, 116, 111, 111, 32, 108, 97, 114, 103, 101])]))

/-- 'palletlaw19.EventParts': WHATEVER THE INPUT: true; the input reads as it did. -/
def eventPartsSpec : ChangeSpec := { name := "eventParts", fn := fun _ => fun
  | [d1, d2] => { results := [.lit (.bool true)], args := [d1, d2] }
  | _ => none }
def eventPartsRow : OpenClaim := { program := "ytcbjbgleflbpmaadoor", sum := "4d4bfc7df81c032b73b14f8dfd2140d32472d227121c3a13091dcbe324ef0a9c", func := "pallet/palletlaw19.EventParts", spec := "eventParts", unfollowed := true, recurses := true, named := ["bytes.ErrTooLarge"], apart := false, laid := [("bytes.ErrTooLarge", laid_bytes_ErrTooLarge)] }
def EventPartsSaid : Prop := eventPartsRow.holds Tryd.pinned (OpenSpec.ofChange eventPartsSpec)

/-- ITS FALSE NEIGHBOUR: 'it returns false'. Refute it at one input. -/
def eventPartsWrong : ChangeSpec := { name := "eventParts", fn := fun _ => fun
  | [d1, d2] => { results := [.lit (.bool false)], args := [d1, d2] }
  | _ => none }
def EventPartsWrongFalsely : Prop := eventPartsRow.holds Tryd.pinned (OpenSpec.ofChange eventPartsWrong)

/-- 'palletlaw19.EventOrders': WHATEVER THE INPUT: true; the input reads as it did. -/
def eventOrdersSpec : ChangeSpec := { name := "eventOrders", fn := fun _ => fun
  | [d1, d2, d3] => { results := [.lit (.bool true)], args := [d1, d2, d3] }
  | _ => none }
def eventOrdersRow : OpenClaim := { program := "ytcbjbgleflbpmaadoor", sum := "4d4bfc7df81c032b73b14f8dfd2140d32472d227121c3a13091dcbe324ef0a9c", func := "pallet/palletlaw19.EventOrders", spec := "eventOrders", unfollowed := true, recurses := true, named := ["bytes.ErrTooLarge"], apart := false, laid := [("bytes.ErrTooLarge", laid_bytes_ErrTooLarge)] }
def EventOrdersSaid : Prop := eventOrdersRow.holds Tryd.pinned (OpenSpec.ofChange eventOrdersSpec)

/-- ITS FALSE NEIGHBOUR: 'it returns false'. Refute it at one input. -/
def eventOrdersWrong : ChangeSpec := { name := "eventOrders", fn := fun _ => fun
  | [d1, d2, d3] => { results := [.lit (.bool false)], args := [d1, d2, d3] }
  | _ => none }
def EventOrdersWrongFalsely : Prop := eventOrdersRow.holds Tryd.pinned (OpenSpec.ofChange eventOrdersWrong)

/-- 'palletlaw19.EventWrites': WHATEVER THE INPUT: true; the input reads as it did. -/
def eventWritesSpec : ChangeSpec := { name := "eventWrites", fn := fun _ => fun
  | [d1, d2] => { results := [.lit (.bool true)], args := [d1, d2] }
  | _ => none }
def eventWritesRow : OpenClaim := { program := "ytcbjbgleflbpmaadoor", sum := "4d4bfc7df81c032b73b14f8dfd2140d32472d227121c3a13091dcbe324ef0a9c", func := "pallet/palletlaw19.EventWrites", spec := "eventWrites", unfollowed := true, recurses := true, named := ["bytes.ErrTooLarge"], apart := false, laid := [("bytes.ErrTooLarge", laid_bytes_ErrTooLarge)] }
def EventWritesSaid : Prop := eventWritesRow.holds Tryd.pinned (OpenSpec.ofChange eventWritesSpec)

/-- ITS FALSE NEIGHBOUR: 'it returns false'. Refute it at one input. -/
def eventWritesWrong : ChangeSpec := { name := "eventWrites", fn := fun _ => fun
  | [d1, d2] => { results := [.lit (.bool false)], args := [d1, d2] }
  | _ => none }
def EventWritesWrongFalsely : Prop := eventWritesRow.holds Tryd.pinned (OpenSpec.ofChange eventWritesWrong)

/-- 'palletlaw19.EventReads': WHATEVER THE INPUT: true; the input reads as it did. -/
def eventReadsSpec : ChangeSpec := { name := "eventReads", fn := fun _ => fun
  | [d1, d2] => { results := [.lit (.bool true)], args := [d1, d2] }
  | _ => none }
def eventReadsRow : OpenClaim := { program := "ytcbjbgleflbpmaadoor", sum := "4d4bfc7df81c032b73b14f8dfd2140d32472d227121c3a13091dcbe324ef0a9c", func := "pallet/palletlaw19.EventReads", spec := "eventReads", unfollowed := true, recurses := true, named := ["bytes.ErrTooLarge"], apart := false, laid := [("bytes.ErrTooLarge", laid_bytes_ErrTooLarge)] }
def EventReadsSaid : Prop := eventReadsRow.holds Tryd.pinned (OpenSpec.ofChange eventReadsSpec)

/-- ITS FALSE NEIGHBOUR: 'it returns false'. Refute it at one input. -/
def eventReadsWrong : ChangeSpec := { name := "eventReads", fn := fun _ => fun
  | [d1, d2] => { results := [.lit (.bool false)], args := [d1, d2] }
  | _ => none }
def EventReadsWrongFalsely : Prop := eventReadsRow.holds Tryd.pinned (OpenSpec.ofChange eventReadsWrong)

/-- 'palletlaw19.EventSpoilt': WHATEVER THE INPUT: true; the input reads as it did. -/
def eventSpoiltSpec : ChangeSpec := { name := "eventSpoilt", fn := fun _ => fun
  | [d1, d2, d3, d4, d5] => { results := [.lit (.bool true)], args := [d1, d2, d3, d4, d5] }
  | _ => none }
def eventSpoiltRow : OpenClaim := { program := "ytcbjbgleflbpmaadoor", sum := "4d4bfc7df81c032b73b14f8dfd2140d32472d227121c3a13091dcbe324ef0a9c", func := "pallet/palletlaw19.EventSpoilt", spec := "eventSpoilt", unfollowed := true, recurses := true, named := ["bytes.ErrTooLarge"], apart := false, laid := [("bytes.ErrTooLarge", laid_bytes_ErrTooLarge)] }
def EventSpoiltSaid : Prop := eventSpoiltRow.holds Tryd.pinned (OpenSpec.ofChange eventSpoiltSpec)

/-- ITS FALSE NEIGHBOUR: 'it returns false'. Refute it at one input. -/
def eventSpoiltWrong : ChangeSpec := { name := "eventSpoilt", fn := fun _ => fun
  | [d1, d2, d3, d4, d5] => { results := [.lit (.bool false)], args := [d1, d2, d3, d4, d5] }
  | _ => none }
def EventSpoiltWrongFalsely : Prop := eventSpoiltRow.holds Tryd.pinned (OpenSpec.ofChange eventSpoiltWrong)

/-- 'palletlaw19.EventBack': WHATEVER THE INPUT: true; the input reads as it did. -/
def eventBackSpec : ChangeSpec := { name := "eventBack", fn := fun _ => fun
  | [d1, d2] => { results := [.lit (.bool true)], args := [d1, d2] }
  | _ => none }
def eventBackRow : OpenClaim := { program := "ytcbjbgleflbpmaadoor", sum := "4d4bfc7df81c032b73b14f8dfd2140d32472d227121c3a13091dcbe324ef0a9c", func := "pallet/palletlaw19.EventBack", spec := "eventBack", unfollowed := true, recurses := true, named := ["bytes.ErrTooLarge"], apart := false, laid := [("bytes.ErrTooLarge", laid_bytes_ErrTooLarge)] }
def EventBackSaid : Prop := eventBackRow.holds Tryd.pinned (OpenSpec.ofChange eventBackSpec)

/-- ITS FALSE NEIGHBOUR: 'it returns false'. Refute it at one input. -/
def eventBackWrong : ChangeSpec := { name := "eventBack", fn := fun _ => fun
  | [d1, d2] => { results := [.lit (.bool false)], args := [d1, d2] }
  | _ => none }
def EventBackWrongFalsely : Prop := eventBackRow.holds Tryd.pinned (OpenSpec.ofChange eventBackWrong)

/-- 'palletlaw23.DiffEqual': WHATEVER THE INPUT: true; the input reads as it did. -/
def diffEqualSpec : ChangeSpec := { name := "diffEqual", fn := fun _ => fun
  | [d1, d2] => { results := [.lit (.bool true)], args := [d1, d2] }
  | _ => none }
def diffEqualRow : OpenClaim := { program := "ytcbjbgleflbpmaadoor", sum := "4d4bfc7df81c032b73b14f8dfd2140d32472d227121c3a13091dcbe324ef0a9c", func := "pallet/palletlaw23.DiffEqual", spec := "diffEqual", unfollowed := true, recurses := true, named := ["bytes.ErrTooLarge"], apart := false, laid := [("bytes.ErrTooLarge", laid_bytes_ErrTooLarge)] }
def DiffEqualSaid : Prop := diffEqualRow.holds Tryd.pinned (OpenSpec.ofChange diffEqualSpec)

/-- ITS FALSE NEIGHBOUR: 'it returns false'. Refute it at one input. -/
def diffEqualWrong : ChangeSpec := { name := "diffEqual", fn := fun _ => fun
  | [d1, d2] => { results := [.lit (.bool false)], args := [d1, d2] }
  | _ => none }
def DiffEqualWrongFalsely : Prop := diffEqualRow.holds Tryd.pinned (OpenSpec.ofChange diffEqualWrong)

/- THE SECOND FORM. 'bulk': how many values and letters a reading holds, each counted each time it is reached (what is shared counts as often as it is met; a slice's spare places count too). A statement '..UptoSaid' is the law's where the arguments, and the package variables that the reading takes, are together of bulk at most 1048576: NARROWER than '..Said'. Prove '..Said' where nothing that the law and all that it calls make is longer than what came in: it says more and counts as full. Else prove '..UptoSaid'. A law counts once. -/
mutual
def uptoBulk {H : Type} : DataW H → Nat
  | .lit (.string bytes) => bytes.length + 1
  | .lit _ => 1
  | .nil => 1
  | .ptr d => uptoBulk d + 1
  | .slice elems spare => uptoBulkAll elems + uptoBulkAll spare + 1
  | .agg parts => uptoBulkAll parts + 1
  | .iface _ d => uptoBulk d + 1
  | .map entries => uptoBulkEntries entries + 1
  | .held _ => 1
def uptoBulkAll {H : Type} : List (DataW H) → Nat
  | [] => 0
  | d :: r => uptoBulk d + uptoBulkAll r
def uptoBulkEntries {H : Type} : List (Lit × DataW H) → Nat
  | [] => 0
  | x :: r => uptoBulkEntry x + uptoBulkEntries r
def uptoBulkEntry {H : Type} : Lit × DataW H → Nat
  | (.string bytes, d) => bytes.length + uptoBulk d + 1
  | (_, d) => uptoBulk d + 1
 end
def uptoSmall : (H : Type) → List (DataW H) → Bool := fun _ ds => decide (uptoBulkAll ds ≤ 1048576)
def OpenSpec.upto (s : _root_.Go.ChangeSpec) : _root_.Go.OpenSpec := { _root_.Go.OpenSpec.ofChange s with cond := some uptoSmall }

/-- 'palletlaw19.EventParts', WHERE WHAT IT READS IS OF BULK AT MOST 1048576: true; the input reads as it did. -/
def eventPartsUptoRow : OpenClaim := { program := "ytcbjbgleflbpmaadoor", sum := "4d4bfc7df81c032b73b14f8dfd2140d32472d227121c3a13091dcbe324ef0a9c", func := "pallet/palletlaw19.EventParts", spec := "eventParts", unfollowed := true, recurses := true, named := ["bytes.ErrTooLarge"], apart := false, laid := [("bytes.ErrTooLarge", laid_bytes_ErrTooLarge)], narrowed := true }
def EventPartsUptoSaid : Prop := eventPartsUptoRow.holds Tryd.pinned (OpenSpec.upto eventPartsSpec)

/-- 'palletlaw19.EventOrders', WHERE WHAT IT READS IS OF BULK AT MOST 1048576: true; the input reads as it did. -/
def eventOrdersUptoRow : OpenClaim := { program := "ytcbjbgleflbpmaadoor", sum := "4d4bfc7df81c032b73b14f8dfd2140d32472d227121c3a13091dcbe324ef0a9c", func := "pallet/palletlaw19.EventOrders", spec := "eventOrders", unfollowed := true, recurses := true, named := ["bytes.ErrTooLarge"], apart := false, laid := [("bytes.ErrTooLarge", laid_bytes_ErrTooLarge)], narrowed := true }
def EventOrdersUptoSaid : Prop := eventOrdersUptoRow.holds Tryd.pinned (OpenSpec.upto eventOrdersSpec)

/-- 'palletlaw19.EventWrites', WHERE WHAT IT READS IS OF BULK AT MOST 1048576: true; the input reads as it did. -/
def eventWritesUptoRow : OpenClaim := { program := "ytcbjbgleflbpmaadoor", sum := "4d4bfc7df81c032b73b14f8dfd2140d32472d227121c3a13091dcbe324ef0a9c", func := "pallet/palletlaw19.EventWrites", spec := "eventWrites", unfollowed := true, recurses := true, named := ["bytes.ErrTooLarge"], apart := false, laid := [("bytes.ErrTooLarge", laid_bytes_ErrTooLarge)], narrowed := true }
def EventWritesUptoSaid : Prop := eventWritesUptoRow.holds Tryd.pinned (OpenSpec.upto eventWritesSpec)

/-- 'palletlaw19.EventReads', WHERE WHAT IT READS IS OF BULK AT MOST 1048576: true; the input reads as it did. -/
def eventReadsUptoRow : OpenClaim := { program := "ytcbjbgleflbpmaadoor", sum := "4d4bfc7df81c032b73b14f8dfd2140d32472d227121c3a13091dcbe324ef0a9c", func := "pallet/palletlaw19.EventReads", spec := "eventReads", unfollowed := true, recurses := true, named := ["bytes.ErrTooLarge"], apart := false, laid := [("bytes.ErrTooLarge", laid_bytes_ErrTooLarge)], narrowed := true }
def EventReadsUptoSaid : Prop := eventReadsUptoRow.holds Tryd.pinned (OpenSpec.upto eventReadsSpec)

/-- 'palletlaw19.EventSpoilt', WHERE WHAT IT READS IS OF BULK AT MOST 1048576: true; the input reads as it did. -/
def eventSpoiltUptoRow : OpenClaim := { program := "ytcbjbgleflbpmaadoor", sum := "4d4bfc7df81c032b73b14f8dfd2140d32472d227121c3a13091dcbe324ef0a9c", func := "pallet/palletlaw19.EventSpoilt", spec := "eventSpoilt", unfollowed := true, recurses := true, named := ["bytes.ErrTooLarge"], apart := false, laid := [("bytes.ErrTooLarge", laid_bytes_ErrTooLarge)], narrowed := true }
def EventSpoiltUptoSaid : Prop := eventSpoiltUptoRow.holds Tryd.pinned (OpenSpec.upto eventSpoiltSpec)

/-- 'palletlaw19.EventBack', WHERE WHAT IT READS IS OF BULK AT MOST 1048576: true; the input reads as it did. -/
def eventBackUptoRow : OpenClaim := { program := "ytcbjbgleflbpmaadoor", sum := "4d4bfc7df81c032b73b14f8dfd2140d32472d227121c3a13091dcbe324ef0a9c", func := "pallet/palletlaw19.EventBack", spec := "eventBack", unfollowed := true, recurses := true, named := ["bytes.ErrTooLarge"], apart := false, laid := [("bytes.ErrTooLarge", laid_bytes_ErrTooLarge)], narrowed := true }
def EventBackUptoSaid : Prop := eventBackUptoRow.holds Tryd.pinned (OpenSpec.upto eventBackSpec)

/-- 'palletlaw23.DiffEqual', WHERE WHAT IT READS IS OF BULK AT MOST 1048576: true; the input reads as it did. -/
def diffEqualUptoRow : OpenClaim := { program := "ytcbjbgleflbpmaadoor", sum := "4d4bfc7df81c032b73b14f8dfd2140d32472d227121c3a13091dcbe324ef0a9c", func := "pallet/palletlaw23.DiffEqual", spec := "diffEqual", unfollowed := true, recurses := true, named := ["bytes.ErrTooLarge"], apart := false, laid := [("bytes.ErrTooLarge", laid_bytes_ErrTooLarge)], narrowed := true }
def DiffEqualUptoSaid : Prop := diffEqualUptoRow.holds Tryd.pinned (OpenSpec.upto diffEqualSpec)

end Rows
end Go.Proofs.YtcbjbgleflbpmaaDoor
