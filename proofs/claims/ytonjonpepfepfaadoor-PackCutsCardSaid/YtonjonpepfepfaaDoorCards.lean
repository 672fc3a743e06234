/-
  DERIVED. GIVEN WITH THE SEED: THE CARDS: each row of YtonjonpepfepfaaDoorRows.lean that lists a variable, with what it lists TIED to the program's text (the seventh form; the later family's looks); each row that meets fmt, with fmt's text TOLD by the authors' own Lean function (tested against real Go, not proved from fmt's source: count such statements apart). THE CARD IS WHAT COUNTS. Prove the row's statement (the work); the ties are given (YtonjonpepfepfaaDoorTie.lean); close each card by the builder's one call (the guide's Derived/Test/ToyasCard.lean, 'card_holds'). Laid BY PROGRAM, IN A SANDBOX (cutbox-door.mjs). By AI agents, Wed Nov 11 2026. No macro, syntax, notation, axiom, sorry.
-/
import Derived.Test.YtonjonpepfepfaaDoorRows
import GoSem.ClaimSeven
namespace Go.Proofs.YtonjonpepfepfaaDoor
namespace Rows

/-- THE TIED CARD OF 'herdsmanlaw3.PackReads'. -/
def packReadsCard : Claim7 := { stood := { row := packReadsRow, standIns := [], harness := (true, "920757f3cfde30774325e1f9e5c3a10edca8854df2e481e3ebea47518970c2c5"), looks := true }, kinds := [], alts := [], laidByText := true, laidKinds := [.handle, .sentinel, .sentinel], laidTests := true, laidLooks := .later }
def PackReadsCardSaid : Prop := Claim7.holds Tryd.pinned (.plain (OpenSpec.ofChange packReadsSpec)) packReadsCard

/-- THE TIED CARD OF 'herdsmanlaw3.PackBack'. -/
def packBackCard : Claim7 := { stood := { row := packBackRow, standIns := [], harness := (true, "920757f3cfde30774325e1f9e5c3a10edca8854df2e481e3ebea47518970c2c5"), looks := true }, kinds := [], alts := [], laidByText := true, laidKinds := [.handle, .sentinel, .sentinel], laidTests := true, laidLooks := .later }
def PackBackCardSaid : Prop := Claim7.holds Tryd.pinned (.plain (OpenSpec.ofChange packBackSpec)) packBackCard

/-- THE TIED CARD OF 'herdsmanlaw3.PackTurned'. -/
def packTurnedCard : Claim7 := { stood := { row := packTurnedRow, standIns := [], harness := (true, "920757f3cfde30774325e1f9e5c3a10edca8854df2e481e3ebea47518970c2c5"), looks := true }, kinds := [], alts := [], laidByText := true, laidKinds := [.handle, .sentinel, .sentinel], laidTests := true, laidLooks := .later }
def PackTurnedCardSaid : Prop := Claim7.holds Tryd.pinned (.plain (OpenSpec.ofChange packTurnedSpec)) packTurnedCard

/-- THE TIED CARD OF 'herdsmanlaw3.PackCuts'. -/
def packCutsCard : Claim7 := { stood := { row := packCutsRow, standIns := [], harness := (true, "920757f3cfde30774325e1f9e5c3a10edca8854df2e481e3ebea47518970c2c5"), looks := true }, kinds := [], alts := [], laidByText := true, laidKinds := [.handle, .sentinel, .sentinel], laidTests := true, laidLooks := .later }
def PackCutsCardSaid : Prop := Claim7.holds Tryd.pinned (.plain (OpenSpec.ofChange packCutsSpec)) packCutsCard

/-- THE SECOND FORM's CARD OF 'herdsmanlaw3.PackReads'. -/
def packReadsUptoCard : Claim7 := { stood := { row := packReadsUptoRow, standIns := [], harness := (true, "920757f3cfde30774325e1f9e5c3a10edca8854df2e481e3ebea47518970c2c5"), looks := true }, kinds := [], alts := [], laidByText := true, laidKinds := [.handle, .sentinel, .sentinel], laidTests := true, laidLooks := .later }
def PackReadsUptoCardSaid : Prop := Claim7.holds Tryd.pinned (.plain (OpenSpec.upto packReadsSpec)) packReadsUptoCard

/-- THE SECOND FORM's CARD OF 'herdsmanlaw3.PackBack'. -/
def packBackUptoCard : Claim7 := { stood := { row := packBackUptoRow, standIns := [], harness := (true, "920757f3cfde30774325e1f9e5c3a10edca8854df2e481e3ebea47518970c2c5"), looks := true }, kinds := [], alts := [], laidByText := true, laidKinds := [.handle, .sentinel, .sentinel], laidTests := true, laidLooks := .later }
def PackBackUptoCardSaid : Prop := Claim7.holds Tryd.pinned (.plain (OpenSpec.upto packBackSpec)) packBackUptoCard

/-- THE SECOND FORM's CARD OF 'herdsmanlaw3.PackTurned'. -/
def packTurnedUptoCard : Claim7 := { stood := { row := packTurnedUptoRow, standIns := [], harness := (true, "920757f3cfde30774325e1f9e5c3a10edca8854df2e481e3ebea47518970c2c5"), looks := true }, kinds := [], alts := [], laidByText := true, laidKinds := [.handle, .sentinel, .sentinel], laidTests := true, laidLooks := .later }
def PackTurnedUptoCardSaid : Prop := Claim7.holds Tryd.pinned (.plain (OpenSpec.upto packTurnedSpec)) packTurnedUptoCard

/-- THE SECOND FORM's CARD OF 'herdsmanlaw3.PackCuts'. -/
def packCutsUptoCard : Claim7 := { stood := { row := packCutsUptoRow, standIns := [], harness := (true, "920757f3cfde30774325e1f9e5c3a10edca8854df2e481e3ebea47518970c2c5"), looks := true }, kinds := [], alts := [], laidByText := true, laidKinds := [.handle, .sentinel, .sentinel], laidTests := true, laidLooks := .later }
def PackCutsUptoCardSaid : Prop := Claim7.holds Tryd.pinned (.plain (OpenSpec.upto packCutsSpec)) packCutsUptoCard
end Rows
end Go.Proofs.YtonjonpepfepfaaDoor
