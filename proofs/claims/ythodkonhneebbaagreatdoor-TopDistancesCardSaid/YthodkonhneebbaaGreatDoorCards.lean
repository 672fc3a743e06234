/-
  DERIVED. GIVEN WITH THE SEED: THE CARDS: each row of YthodkonhneebbaaGreatDoorRows.lean that lists a variable, with what it lists TIED to the program's text (the seventh form; the later family's looks); each row that meets fmt, with fmt's text TOLD by the authors' own Lean function (tested against real Go, not proved from fmt's source: count such statements apart). THE CARD IS WHAT COUNTS. Prove the row's statement (the work); the ties are given (YthodkonhneebbaaGreatDoorTie.lean); close each card by the builder's one call (the guide's Derived/Test/ToyasCard.lean, 'card_holds'). Laid BY PROGRAM, IN A SANDBOX (cutbox-door.mjs). By AI agents, Wed Nov 11 2026. No macro, syntax, notation, axiom, sorry.
-/
import Derived.Test.YthodkonhneebbaaGreatDoorRows
import GoSem.ClaimSeven
namespace Go.Proofs.YthodkonhneebbaaGreatDoor
namespace Rows

/-- THE TIED CARD OF 'herdsmantop.TopDistances'. -/
def topDistancesCard : Claim7 := { stood := { row := topDistancesRow, standIns := [], harness := (true, "da8cad8b8c14ce14b521535589a95d9f7a8b8134b671f9781e1fbf64c3478581"), looks := true }, kinds := [], alts := [], laidByText := true, laidKinds := [.handle, .sentinel, .sentinel, .sentinel, .sentinel, .sentinel, .sentinel], laidTests := true, laidLooks := .later }
def TopDistancesCardSaid : Prop := Claim7.holds Tryz.pinned (.plain (OpenSpec.ofChange topDistancesSpec)) topDistancesCard

/-- THE TIED CARD OF 'herdsmantop.TopWays'. -/
def topWaysCard : Claim7 := { stood := { row := topWaysRow, standIns := [], harness := (true, "da8cad8b8c14ce14b521535589a95d9f7a8b8134b671f9781e1fbf64c3478581"), looks := true }, kinds := [], alts := [], laidByText := true, laidKinds := [.handle, .sentinel, .sentinel, .sentinel, .sentinel, .sentinel, .sentinel], laidTests := true, laidLooks := .later }
def TopWaysCardSaid : Prop := Claim7.holds Tryz.pinned (.plain (OpenSpec.ofChange topWaysSpec)) topWaysCard

/-- THE TIED CARD OF 'herdsmantop.TopDirty'. -/
def topDirtyCard : Claim7 := { stood := { row := topDirtyRow, standIns := [], harness := (true, "da8cad8b8c14ce14b521535589a95d9f7a8b8134b671f9781e1fbf64c3478581"), looks := true }, kinds := [], alts := [], laidByText := true, laidKinds := [.handle, .sentinel, .sentinel, .sentinel, .sentinel, .sentinel, .sentinel], laidTests := true, laidLooks := .later }
def TopDirtyCardSaid : Prop := Claim7.holds Tryz.pinned (.plain (OpenSpec.ofChange topDirtySpec)) topDirtyCard

/-- THE TIED CARD OF 'herdsmantop.TopFewest'. -/
def topFewestCard : Claim7 := { stood := { row := topFewestRow, standIns := [], harness := (true, "da8cad8b8c14ce14b521535589a95d9f7a8b8134b671f9781e1fbf64c3478581"), looks := true }, kinds := [], alts := [], laidByText := true, laidKinds := [.handle, .sentinel, .sentinel, .sentinel, .sentinel, .sentinel, .sentinel], laidTests := true, laidLooks := .later }
def TopFewestCardSaid : Prop := Claim7.holds Tryz.pinned (.plain (OpenSpec.ofChange topFewestSpec)) topFewestCard

/-- THE TIED CARD OF 'herdsmantop.TopFloor'. -/
def topFloorCard : Claim7 := { stood := { row := topFloorRow, standIns := [], harness := (true, "da8cad8b8c14ce14b521535589a95d9f7a8b8134b671f9781e1fbf64c3478581"), looks := true }, kinds := [], alts := [], laidByText := true, laidKinds := [.handle, .sentinel, .sentinel, .sentinel, .sentinel, .sentinel, .sentinel], laidTests := true, laidLooks := .later }
def TopFloorCardSaid : Prop := Claim7.holds Tryz.pinned (.plain (OpenSpec.ofChange topFloorSpec)) topFloorCard

/-- THE TIED CARD OF 'herdsmantop.TopSeen'. -/
def topSeenCard : Claim7 := { stood := { row := topSeenRow, standIns := [], harness := (true, "da8cad8b8c14ce14b521535589a95d9f7a8b8134b671f9781e1fbf64c3478581"), looks := true }, kinds := [], alts := [], laidByText := true, laidKinds := [.handle, .sentinel, .sentinel, .sentinel, .sentinel, .sentinel, .sentinel], laidTests := true, laidLooks := .later }
def TopSeenCardSaid : Prop := Claim7.holds Tryz.pinned (.plain (OpenSpec.ofChange topSeenSpec)) topSeenCard

/-- THE TIED CARD OF 'herdsmantop.TopServed'. -/
def topServedCard : Claim7 := { stood := { row := topServedRow, standIns := [], harness := (true, "da8cad8b8c14ce14b521535589a95d9f7a8b8134b671f9781e1fbf64c3478581"), looks := true }, kinds := [], alts := [], laidByText := true, laidKinds := [.handle, .sentinel, .sentinel, .sentinel, .sentinel, .sentinel, .sentinel], laidTests := true, laidLooks := .later }
def TopServedCardSaid : Prop := Claim7.holds Tryz.pinned (.plain (OpenSpec.ofChange topServedSpec)) topServedCard

/-- THE TIED CARD OF 'herdsmantop.TopKept'. -/
def topKeptCard : Claim7 := { stood := { row := topKeptRow, standIns := [], harness := (true, "da8cad8b8c14ce14b521535589a95d9f7a8b8134b671f9781e1fbf64c3478581"), looks := true }, kinds := [], alts := [], laidByText := true, laidKinds := [.handle, .sentinel, .sentinel, .sentinel, .sentinel, .sentinel, .sentinel], laidTests := true, laidLooks := .later }
def TopKeptCardSaid : Prop := Claim7.holds Tryz.pinned (.plain (OpenSpec.ofChange topKeptSpec)) topKeptCard

/-- THE SECOND FORM's CARD OF 'herdsmantop.TopDistances'. -/
def topDistancesUptoCard : Claim7 := { stood := { row := topDistancesUptoRow, standIns := [], harness := (true, "da8cad8b8c14ce14b521535589a95d9f7a8b8134b671f9781e1fbf64c3478581"), looks := true }, kinds := [], alts := [], laidByText := true, laidKinds := [.handle, .sentinel, .sentinel, .sentinel, .sentinel, .sentinel, .sentinel], laidTests := true, laidLooks := .later }
def TopDistancesUptoCardSaid : Prop := Claim7.holds Tryz.pinned (.plain (OpenSpec.upto topDistancesSpec)) topDistancesUptoCard

/-- THE SECOND FORM's CARD OF 'herdsmantop.TopWays'. -/
def topWaysUptoCard : Claim7 := { stood := { row := topWaysUptoRow, standIns := [], harness := (true, "da8cad8b8c14ce14b521535589a95d9f7a8b8134b671f9781e1fbf64c3478581"), looks := true }, kinds := [], alts := [], laidByText := true, laidKinds := [.handle, .sentinel, .sentinel, .sentinel, .sentinel, .sentinel, .sentinel], laidTests := true, laidLooks := .later }
def TopWaysUptoCardSaid : Prop := Claim7.holds Tryz.pinned (.plain (OpenSpec.upto topWaysSpec)) topWaysUptoCard

/-- THE SECOND FORM's CARD OF 'herdsmantop.TopDirty'. -/
def topDirtyUptoCard : Claim7 := { stood := { row := topDirtyUptoRow, standIns := [], harness := (true, "da8cad8b8c14ce14b521535589a95d9f7a8b8134b671f9781e1fbf64c3478581"), looks := true }, kinds := [], alts := [], laidByText := true, laidKinds := [.handle, .sentinel, .sentinel, .sentinel, .sentinel, .sentinel, .sentinel], laidTests := true, laidLooks := .later }
def TopDirtyUptoCardSaid : Prop := Claim7.holds Tryz.pinned (.plain (OpenSpec.upto topDirtySpec)) topDirtyUptoCard

/-- THE SECOND FORM's CARD OF 'herdsmantop.TopFewest'. -/
def topFewestUptoCard : Claim7 := { stood := { row := topFewestUptoRow, standIns := [], harness := (true, "da8cad8b8c14ce14b521535589a95d9f7a8b8134b671f9781e1fbf64c3478581"), looks := true }, kinds := [], alts := [], laidByText := true, laidKinds := [.handle, .sentinel, .sentinel, .sentinel, .sentinel, .sentinel, .sentinel], laidTests := true, laidLooks := .later }
def TopFewestUptoCardSaid : Prop := Claim7.holds Tryz.pinned (.plain (OpenSpec.upto topFewestSpec)) topFewestUptoCard

/-- THE SECOND FORM's CARD OF 'herdsmantop.TopFloor'. -/
def topFloorUptoCard : Claim7 := { stood := { row := topFloorUptoRow, standIns := [], harness := (true, "da8cad8b8c14ce14b521535589a95d9f7a8b8134b671f9781e1fbf64c3478581"), looks := true }, kinds := [], alts := [], laidByText := true, laidKinds := [.handle, .sentinel, .sentinel, .sentinel, .sentinel, .sentinel, .sentinel], laidTests := true, laidLooks := .later }
def TopFloorUptoCardSaid : Prop := Claim7.holds Tryz.pinned (.plain (OpenSpec.upto topFloorSpec)) topFloorUptoCard

/-- THE SECOND FORM's CARD OF 'herdsmantop.TopSeen'. -/
def topSeenUptoCard : Claim7 := { stood := { row := topSeenUptoRow, standIns := [], harness := (true, "da8cad8b8c14ce14b521535589a95d9f7a8b8134b671f9781e1fbf64c3478581"), looks := true }, kinds := [], alts := [], laidByText := true, laidKinds := [.handle, .sentinel, .sentinel, .sentinel, .sentinel, .sentinel, .sentinel], laidTests := true, laidLooks := .later }
def TopSeenUptoCardSaid : Prop := Claim7.holds Tryz.pinned (.plain (OpenSpec.upto topSeenSpec)) topSeenUptoCard

/-- THE SECOND FORM's CARD OF 'herdsmantop.TopServed'. -/
def topServedUptoCard : Claim7 := { stood := { row := topServedUptoRow, standIns := [], harness := (true, "da8cad8b8c14ce14b521535589a95d9f7a8b8134b671f9781e1fbf64c3478581"), looks := true }, kinds := [], alts := [], laidByText := true, laidKinds := [.handle, .sentinel, .sentinel, .sentinel, .sentinel, .sentinel, .sentinel], laidTests := true, laidLooks := .later }
def TopServedUptoCardSaid : Prop := Claim7.holds Tryz.pinned (.plain (OpenSpec.upto topServedSpec)) topServedUptoCard

/-- THE SECOND FORM's CARD OF 'herdsmantop.TopKept'. -/
def topKeptUptoCard : Claim7 := { stood := { row := topKeptUptoRow, standIns := [], harness := (true, "da8cad8b8c14ce14b521535589a95d9f7a8b8134b671f9781e1fbf64c3478581"), looks := true }, kinds := [], alts := [], laidByText := true, laidKinds := [.handle, .sentinel, .sentinel, .sentinel, .sentinel, .sentinel, .sentinel], laidTests := true, laidLooks := .later }
def TopKeptUptoCardSaid : Prop := Claim7.holds Tryz.pinned (.plain (OpenSpec.upto topKeptSpec)) topKeptUptoCard
end Rows
end Go.Proofs.YthodkonhneebbaaGreatDoor
