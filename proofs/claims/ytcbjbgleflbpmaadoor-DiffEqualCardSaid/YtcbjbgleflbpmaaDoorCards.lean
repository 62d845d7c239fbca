/-
  DERIVED. GIVEN WITH THE SEED: THE CARDS: each row of YtcbjbgleflbpmaaDoorRows.lean that lists a variable, with what it lists TIED to the program's text (the seventh form; the later family's looks); each row that meets fmt, with fmt's text TOLD by the authors' own Lean function (tested against real Go, not proved from fmt's source: count such statements apart). THE CARD IS WHAT COUNTS. Prove the row's statement (the work); the ties are given (YtcbjbgleflbpmaaDoorTie.lean); close each card by the builder's one call (the guide's Derived/Test/ToyasCard.lean, 'card_holds'). Laid BY PROGRAM, IN A SANDBOX (cutbox-door.mjs). By AI agents, Wed Nov 11 2026. No macro, syntax, notation, axiom, sorry.
-/
import Derived.Test.YtcbjbgleflbpmaaDoorRows
import GoSem.ClaimSeven
namespace Go.Proofs.YtcbjbgleflbpmaaDoor
namespace Rows

/-- THE TIED CARD OF 'palletlaw19.EventParts'. -/
def eventPartsCard : Claim7 := { stood := { row := eventPartsRow, standIns := [], harness := (true, "b4886805f2849d125dcb281d73eff66bb5bb43ce625bc835bed442e40e7c7e5b"), looks := false }, kinds := [], alts := [], laidByText := true, laidKinds := [.sentinel], laidTests := true, laidLooks := .later }
def EventPartsCardSaid : Prop := Claim7.holds Tryd.pinned (.plain (OpenSpec.ofChange eventPartsSpec)) eventPartsCard

/-- THE TIED CARD OF 'palletlaw19.EventOrders'. -/
def eventOrdersCard : Claim7 := { stood := { row := eventOrdersRow, standIns := [], harness := (true, "b4886805f2849d125dcb281d73eff66bb5bb43ce625bc835bed442e40e7c7e5b"), looks := false }, kinds := [], alts := [], laidByText := true, laidKinds := [.sentinel], laidTests := true, laidLooks := .later }
def EventOrdersCardSaid : Prop := Claim7.holds Tryd.pinned (.plain (OpenSpec.ofChange eventOrdersSpec)) eventOrdersCard

/-- THE TIED CARD OF 'palletlaw19.EventWrites'. -/
def eventWritesCard : Claim7 := { stood := { row := eventWritesRow, standIns := [], harness := (true, "b4886805f2849d125dcb281d73eff66bb5bb43ce625bc835bed442e40e7c7e5b"), looks := false }, kinds := [], alts := [], laidByText := true, laidKinds := [.sentinel], laidTests := true, laidLooks := .later }
def EventWritesCardSaid : Prop := Claim7.holds Tryd.pinned (.plain (OpenSpec.ofChange eventWritesSpec)) eventWritesCard

/-- THE TIED CARD OF 'palletlaw19.EventReads'. -/
def eventReadsCard : Claim7 := { stood := { row := eventReadsRow, standIns := [], harness := (true, "b4886805f2849d125dcb281d73eff66bb5bb43ce625bc835bed442e40e7c7e5b"), looks := false }, kinds := [], alts := [], laidByText := true, laidKinds := [.sentinel], laidTests := true, laidLooks := .later }
def EventReadsCardSaid : Prop := Claim7.holds Tryd.pinned (.plain (OpenSpec.ofChange eventReadsSpec)) eventReadsCard

/-- THE TIED CARD OF 'palletlaw19.EventSpoilt'. -/
def eventSpoiltCard : Claim7 := { stood := { row := eventSpoiltRow, standIns := [], harness := (true, "b4886805f2849d125dcb281d73eff66bb5bb43ce625bc835bed442e40e7c7e5b"), looks := false }, kinds := [], alts := [], laidByText := true, laidKinds := [.sentinel], laidTests := true, laidLooks := .later }
def EventSpoiltCardSaid : Prop := Claim7.holds Tryd.pinned (.plain (OpenSpec.ofChange eventSpoiltSpec)) eventSpoiltCard

/-- THE TIED CARD OF 'palletlaw19.EventBack'. -/
def eventBackCard : Claim7 := { stood := { row := eventBackRow, standIns := [], harness := (true, "b4886805f2849d125dcb281d73eff66bb5bb43ce625bc835bed442e40e7c7e5b"), looks := false }, kinds := [], alts := [], laidByText := true, laidKinds := [.sentinel], laidTests := true, laidLooks := .later }
def EventBackCardSaid : Prop := Claim7.holds Tryd.pinned (.plain (OpenSpec.ofChange eventBackSpec)) eventBackCard

/-- THE TIED CARD OF 'palletlaw23.DiffEqual'. -/
def diffEqualCard : Claim7 := { stood := { row := diffEqualRow, standIns := [], harness := (true, "b4886805f2849d125dcb281d73eff66bb5bb43ce625bc835bed442e40e7c7e5b"), looks := false }, kinds := [], alts := [], laidByText := true, laidKinds := [.sentinel], laidTests := true, laidLooks := .later }
def DiffEqualCardSaid : Prop := Claim7.holds Tryd.pinned (.plain (OpenSpec.ofChange diffEqualSpec)) diffEqualCard

/-- THE SECOND FORM's CARD OF 'palletlaw19.EventParts'. -/
def eventPartsUptoCard : Claim7 := { stood := { row := eventPartsUptoRow, standIns := [], harness := (true, "b4886805f2849d125dcb281d73eff66bb5bb43ce625bc835bed442e40e7c7e5b"), looks := false }, kinds := [], alts := [], laidByText := true, laidKinds := [.sentinel], laidTests := true, laidLooks := .later }
def EventPartsUptoCardSaid : Prop := Claim7.holds Tryd.pinned (.plain (OpenSpec.upto eventPartsSpec)) eventPartsUptoCard

/-- THE SECOND FORM's CARD OF 'palletlaw19.EventOrders'. -/
def eventOrdersUptoCard : Claim7 := { stood := { row := eventOrdersUptoRow, standIns := [], harness := (true, "b4886805f2849d125dcb281d73eff66bb5bb43ce625bc835bed442e40e7c7e5b"), looks := false }, kinds := [], alts := [], laidByText := true, laidKinds := [.sentinel], laidTests := true, laidLooks := .later }
def EventOrdersUptoCardSaid : Prop := Claim7.holds Tryd.pinned (.plain (OpenSpec.upto eventOrdersSpec)) eventOrdersUptoCard

/-- THE SECOND FORM's CARD OF 'palletlaw19.EventWrites'. -/
def eventWritesUptoCard : Claim7 := { stood := { row := eventWritesUptoRow, standIns := [], harness := (true, "b4886805f2849d125dcb281d73eff66bb5bb43ce625bc835bed442e40e7c7e5b"), looks := false }, kinds := [], alts := [], laidByText := true, laidKinds := [.sentinel], laidTests := true, laidLooks := .later }
def EventWritesUptoCardSaid : Prop := Claim7.holds Tryd.pinned (.plain (OpenSpec.upto eventWritesSpec)) eventWritesUptoCard

/-- THE SECOND FORM's CARD OF 'palletlaw19.EventReads'. -/
def eventReadsUptoCard : Claim7 := { stood := { row := eventReadsUptoRow, standIns := [], harness := (true, "b4886805f2849d125dcb281d73eff66bb5bb43ce625bc835bed442e40e7c7e5b"), looks := false }, kinds := [], alts := [], laidByText := true, laidKinds := [.sentinel], laidTests := true, laidLooks := .later }
def EventReadsUptoCardSaid : Prop := Claim7.holds Tryd.pinned (.plain (OpenSpec.upto eventReadsSpec)) eventReadsUptoCard

/-- THE SECOND FORM's CARD OF 'palletlaw19.EventSpoilt'. -/
def eventSpoiltUptoCard : Claim7 := { stood := { row := eventSpoiltUptoRow, standIns := [], harness := (true, "b4886805f2849d125dcb281d73eff66bb5bb43ce625bc835bed442e40e7c7e5b"), looks := false }, kinds := [], alts := [], laidByText := true, laidKinds := [.sentinel], laidTests := true, laidLooks := .later }
def EventSpoiltUptoCardSaid : Prop := Claim7.holds Tryd.pinned (.plain (OpenSpec.upto eventSpoiltSpec)) eventSpoiltUptoCard

/-- THE SECOND FORM's CARD OF 'palletlaw19.EventBack'. -/
def eventBackUptoCard : Claim7 := { stood := { row := eventBackUptoRow, standIns := [], harness := (true, "b4886805f2849d125dcb281d73eff66bb5bb43ce625bc835bed442e40e7c7e5b"), looks := false }, kinds := [], alts := [], laidByText := true, laidKinds := [.sentinel], laidTests := true, laidLooks := .later }
def EventBackUptoCardSaid : Prop := Claim7.holds Tryd.pinned (.plain (OpenSpec.upto eventBackSpec)) eventBackUptoCard

/-- THE SECOND FORM's CARD OF 'palletlaw23.DiffEqual'. -/
def diffEqualUptoCard : Claim7 := { stood := { row := diffEqualUptoRow, standIns := [], harness := (true, "b4886805f2849d125dcb281d73eff66bb5bb43ce625bc835bed442e40e7c7e5b"), looks := false }, kinds := [], alts := [], laidByText := true, laidKinds := [.sentinel], laidTests := true, laidLooks := .later }
def DiffEqualUptoCardSaid : Prop := Claim7.holds Tryd.pinned (.plain (OpenSpec.upto diffEqualSpec)) diffEqualUptoCard
end Rows
end Go.Proofs.YtcbjbgleflbpmaaDoor
