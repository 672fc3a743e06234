/-
  DERIVED. GIVEN WITH THE SEED: THE CARDS: each row of YtnkdnecilkafhaaDoorRows.lean that lists a variable, with what it lists TIED to the program's text (the seventh form; the later family's looks); each row that meets fmt, with fmt's text TOLD by the authors' own Lean function (tested against real Go, not proved from fmt's source: count such statements apart). THE CARD IS WHAT COUNTS. Prove the row's statement (the work); the ties are given (YtnkdnecilkafhaaDoorTie.lean); close each card by the builder's one call (the guide's Derived/Test/ToyasCard.lean, 'card_holds'). Laid BY PROGRAM, IN A SANDBOX (cutbox-door.mjs). By AI agents, Wed Nov 11 2026. No macro, syntax, notation, axiom, sorry.
-/
import Derived.Test.YtnkdnecilkafhaaDoorRows
import GoSem.ClaimSeven
namespace Go.Proofs.YtnkdnecilkafhaaDoor
namespace Rows

/-- THE TIED CARD OF 'herdsmanlaw4.AtlasReads'. -/
def atlasReadsCard : Claim7 := { stood := { row := atlasReadsRow, standIns := [], harness := (true, "70828caca83314c99d08c79441d19926d7f904e8ffa495d48eee308665aabcc9"), looks := true }, kinds := [], alts := [], laidByText := true, laidKinds := [.handle, .sentinel, .sentinel], laidTests := true, laidLooks := .later }
def AtlasReadsCardSaid : Prop := Claim7.holds Tryd.pinned (.plain (OpenSpec.ofChange atlasReadsSpec)) atlasReadsCard

/-- THE TIED CARD OF 'herdsmanlaw4.AtlasEnds'. -/
def atlasEndsCard : Claim7 := { stood := { row := atlasEndsRow, standIns := [], harness := (true, "70828caca83314c99d08c79441d19926d7f904e8ffa495d48eee308665aabcc9"), looks := true }, kinds := [], alts := [], laidByText := true, laidKinds := [.handle, .sentinel, .sentinel], laidTests := true, laidLooks := .later }
def AtlasEndsCardSaid : Prop := Claim7.holds Tryd.pinned (.plain (OpenSpec.ofChange atlasEndsSpec)) atlasEndsCard

/-- THE TIED CARD OF 'herdsmanlaw4.AtlasBack'. -/
def atlasBackCard : Claim7 := { stood := { row := atlasBackRow, standIns := [], harness := (true, "70828caca83314c99d08c79441d19926d7f904e8ffa495d48eee308665aabcc9"), looks := true }, kinds := [], alts := [], laidByText := true, laidKinds := [.handle, .sentinel, .sentinel], laidTests := true, laidLooks := .later }
def AtlasBackCardSaid : Prop := Claim7.holds Tryd.pinned (.plain (OpenSpec.ofChange atlasBackSpec)) atlasBackCard

/-- THE TIED CARD OF 'herdsmanlaw4.AtlasTurned'. -/
def atlasTurnedCard : Claim7 := { stood := { row := atlasTurnedRow, standIns := [], harness := (true, "70828caca83314c99d08c79441d19926d7f904e8ffa495d48eee308665aabcc9"), looks := true }, kinds := [], alts := [], laidByText := true, laidKinds := [.handle, .sentinel, .sentinel], laidTests := true, laidLooks := .later }
def AtlasTurnedCardSaid : Prop := Claim7.holds Tryd.pinned (.plain (OpenSpec.ofChange atlasTurnedSpec)) atlasTurnedCard

/-- THE TIED CARD OF 'herdsmanlaw4.AtlasAsks'. -/
def atlasAsksCard : Claim7 := { stood := { row := atlasAsksRow, standIns := [], harness := (true, "70828caca83314c99d08c79441d19926d7f904e8ffa495d48eee308665aabcc9"), looks := true }, kinds := [], alts := [], laidByText := true, laidKinds := [.handle, .sentinel, .sentinel], laidTests := true, laidLooks := .later }
def AtlasAsksCardSaid : Prop := Claim7.holds Tryd.pinned (.plain (OpenSpec.ofChange atlasAsksSpec)) atlasAsksCard

/-- THE TIED CARD OF 'herdsmanlaw4.AtlasTiles'. -/
def atlasTilesCard : Claim7 := { stood := { row := atlasTilesRow, standIns := [], harness := (true, "70828caca83314c99d08c79441d19926d7f904e8ffa495d48eee308665aabcc9"), looks := true }, kinds := [], alts := [], laidByText := true, laidKinds := [.handle, .sentinel, .sentinel], laidTests := true, laidLooks := .later }
def AtlasTilesCardSaid : Prop := Claim7.holds Tryd.pinned (.plain (OpenSpec.ofChange atlasTilesSpec)) atlasTilesCard

/-- THE SECOND FORM's CARD OF 'herdsmanlaw4.AtlasReads'. -/
def atlasReadsUptoCard : Claim7 := { stood := { row := atlasReadsUptoRow, standIns := [], harness := (true, "70828caca83314c99d08c79441d19926d7f904e8ffa495d48eee308665aabcc9"), looks := true }, kinds := [], alts := [], laidByText := true, laidKinds := [.handle, .sentinel, .sentinel], laidTests := true, laidLooks := .later }
def AtlasReadsUptoCardSaid : Prop := Claim7.holds Tryd.pinned (.plain (OpenSpec.upto atlasReadsSpec)) atlasReadsUptoCard

/-- THE SECOND FORM's CARD OF 'herdsmanlaw4.AtlasEnds'. -/
def atlasEndsUptoCard : Claim7 := { stood := { row := atlasEndsUptoRow, standIns := [], harness := (true, "70828caca83314c99d08c79441d19926d7f904e8ffa495d48eee308665aabcc9"), looks := true }, kinds := [], alts := [], laidByText := true, laidKinds := [.handle, .sentinel, .sentinel], laidTests := true, laidLooks := .later }
def AtlasEndsUptoCardSaid : Prop := Claim7.holds Tryd.pinned (.plain (OpenSpec.upto atlasEndsSpec)) atlasEndsUptoCard

/-- THE SECOND FORM's CARD OF 'herdsmanlaw4.AtlasBack'. -/
def atlasBackUptoCard : Claim7 := { stood := { row := atlasBackUptoRow, standIns := [], harness := (true, "70828caca83314c99d08c79441d19926d7f904e8ffa495d48eee308665aabcc9"), looks := true }, kinds := [], alts := [], laidByText := true, laidKinds := [.handle, .sentinel, .sentinel], laidTests := true, laidLooks := .later }
def AtlasBackUptoCardSaid : Prop := Claim7.holds Tryd.pinned (.plain (OpenSpec.upto atlasBackSpec)) atlasBackUptoCard

/-- THE SECOND FORM's CARD OF 'herdsmanlaw4.AtlasTurned'. -/
def atlasTurnedUptoCard : Claim7 := { stood := { row := atlasTurnedUptoRow, standIns := [], harness := (true, "70828caca83314c99d08c79441d19926d7f904e8ffa495d48eee308665aabcc9"), looks := true }, kinds := [], alts := [], laidByText := true, laidKinds := [.handle, .sentinel, .sentinel], laidTests := true, laidLooks := .later }
def AtlasTurnedUptoCardSaid : Prop := Claim7.holds Tryd.pinned (.plain (OpenSpec.upto atlasTurnedSpec)) atlasTurnedUptoCard

/-- THE SECOND FORM's CARD OF 'herdsmanlaw4.AtlasAsks'. -/
def atlasAsksUptoCard : Claim7 := { stood := { row := atlasAsksUptoRow, standIns := [], harness := (true, "70828caca83314c99d08c79441d19926d7f904e8ffa495d48eee308665aabcc9"), looks := true }, kinds := [], alts := [], laidByText := true, laidKinds := [.handle, .sentinel, .sentinel], laidTests := true, laidLooks := .later }
def AtlasAsksUptoCardSaid : Prop := Claim7.holds Tryd.pinned (.plain (OpenSpec.upto atlasAsksSpec)) atlasAsksUptoCard

/-- THE SECOND FORM's CARD OF 'herdsmanlaw4.AtlasTiles'. -/
def atlasTilesUptoCard : Claim7 := { stood := { row := atlasTilesUptoRow, standIns := [], harness := (true, "70828caca83314c99d08c79441d19926d7f904e8ffa495d48eee308665aabcc9"), looks := true }, kinds := [], alts := [], laidByText := true, laidKinds := [.handle, .sentinel, .sentinel], laidTests := true, laidLooks := .later }
def AtlasTilesUptoCardSaid : Prop := Claim7.holds Tryd.pinned (.plain (OpenSpec.upto atlasTilesSpec)) atlasTilesUptoCard
end Rows
end Go.Proofs.YtnkdnecilkafhaaDoor
