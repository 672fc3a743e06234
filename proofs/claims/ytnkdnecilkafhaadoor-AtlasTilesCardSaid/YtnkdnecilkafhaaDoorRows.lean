/-
  NARROWER THAN 'FOR EVERY INPUT', by the rows' own cells (each row's printed sentence says how): AtlasReads: laid · AtlasEnds: laid · AtlasBack: laid · AtlasTurned: laid · AtlasAsks: laid · AtlasTiles: laid.
  DERIVED. THE GIVEN ROWS OF THIS SEAT. 6 by the template 'for every input the law returns true; each argument reads behind the call as it read before'; 0 by the template 'total and deterministic' (their statements: YtnkdnecilkafhaaDoorTotals.lean).
  GIVEN WITH THE SEED: the statements are not yours to turn. If you find one false, say at which input.
  Laid BY PROGRAM, IN A SANDBOX (cutbox-rows.mjs): the forced cells as the released guide's own fill.sh prints them over the translation 0a71d1b29bcf69c3… (all of the seat's roots in one cut). By AI agents, Wed Nov 11 2026. No macro, syntax, notation, axiom, sorry.
-/
import Derived.Test.YtnkdnecilkafhaaDoorChecked
import GoSem.Claim
import GoSem.ClaimJoined
import GoSem.ClaimMapViews
import Derived.JoinedTies
import Derived.KernelRfl
namespace Go.Proofs.YtnkdnecilkafhaaDoor
/- THE CELL 'sum', in the pinned program and in every row, IS THE sha256 OF THE DUMP (.gsa) THAT YtnkdnecilkafhaaDoorProg.lean LOADS. Nothing in Lean hashes anything: it is a label: what it is worth is what the hold of that sum in a sandbox is worth. -/
noncomputable def Tryd.pinned : Pinned := { name := "ytnkdnecilkafhaadoor", sum := "0a71d1b29bcf69c35e541997357a9905c15061cc3c7f9256d720a9c9c87fedfb", checked := Tryd.checked }
namespace Rows
def none {H : Type} : Left H := { results := [], args := [] }

/- WHAT THE LISTED PACKAGE-LEVEL VARIABLES READ AS WHEN THE CALL BEGINS. Each datum BY PROGRAM (the guide's laid-datum.mjs) off the statement by which the dump's own 'gosem.cut.vars' lays the variable. In a bare row this is a premise. The card (YtnkdnecilkafhaaDoorCards.lean) ties it to the program's text. -/
def laid_errors_errorType {H : Type} : DataW H := .iface "internal/reflectlite.rtype" (.agg [.ptr (.lit (.string [101, 114, 114, 111, 114]))])
def laid_herdsman_pack_errEnd {H : Type} : DataW H := .iface "*errors.errorString" (.ptr (.agg [.lit (.string [116, 104, 101, 32, 98, 121, 116, 101, 115, 32, 101, 110, 100])]))
def laid_herdsman_pack_errForm {H : Type} : DataW H := .iface "*errors.errorString" (.ptr (.agg [.lit (.string [110, 111, 98, 111, 100, 121, 32, 119, 114, 105, 116, 101, 115, 32, 115, 111])]))

/-- 'herdsmanlaw4.AtlasReads': WHATEVER THE INPUT: true; the input reads as it did. -/
def atlasReadsSpec : ChangeSpec := { name := "atlasReads", fn := fun _ => fun
  | [d1, d2, d3, d4, d5, d6] => { results := [.lit (.bool true)], args := [d1, d2, d3, d4, d5, d6] }
  | _ => none }
def atlasReadsRow : OpenClaim := { program := "ytnkdnecilkafhaadoor", sum := "0a71d1b29bcf69c35e541997357a9905c15061cc3c7f9256d720a9c9c87fedfb", func := "herdsman/herdsmanlaw4.AtlasReads", spec := "atlasReads", inPlace := ["internal/bytealg.MakeNoZero", "internal/reflectlite.TypeOf", "internal/reflectlite.ValueOf", "(internal/reflectlite.Value).Type", "(internal/reflectlite.Value).IsNil", "(internal/reflectlite.Value).Elem", "(internal/reflectlite.Value).Set"], unfollowed := true, recurses := true, named := ["herdsman/pack.errForm", "herdsman/pack.errEnd", "errors.errorType"], apart := false, laid := [("errors.errorType", laid_errors_errorType), ("herdsman/pack.errEnd", laid_herdsman_pack_errEnd), ("herdsman/pack.errForm", laid_herdsman_pack_errForm)] }
def AtlasReadsSaid : Prop := atlasReadsRow.holds Tryd.pinned (OpenSpec.ofChange atlasReadsSpec)

/-- ITS FALSE NEIGHBOUR: 'it returns false'. Refute it at one input. -/
def atlasReadsWrong : ChangeSpec := { name := "atlasReads", fn := fun _ => fun
  | [d1, d2, d3, d4, d5, d6] => { results := [.lit (.bool false)], args := [d1, d2, d3, d4, d5, d6] }
  | _ => none }
def AtlasReadsWrongFalsely : Prop := atlasReadsRow.holds Tryd.pinned (OpenSpec.ofChange atlasReadsWrong)

/-- 'herdsmanlaw4.AtlasEnds': WHATEVER THE INPUT: true; the input reads as it did. -/
def atlasEndsSpec : ChangeSpec := { name := "atlasEnds", fn := fun _ => fun
  | [d1, d2, d3, d4, d5] => { results := [.lit (.bool true)], args := [d1, d2, d3, d4, d5] }
  | _ => none }
def atlasEndsRow : OpenClaim := { program := "ytnkdnecilkafhaadoor", sum := "0a71d1b29bcf69c35e541997357a9905c15061cc3c7f9256d720a9c9c87fedfb", func := "herdsman/herdsmanlaw4.AtlasEnds", spec := "atlasEnds", inPlace := ["internal/bytealg.MakeNoZero", "internal/reflectlite.TypeOf", "internal/reflectlite.ValueOf", "(internal/reflectlite.Value).Type", "(internal/reflectlite.Value).IsNil", "(internal/reflectlite.Value).Elem", "(internal/reflectlite.Value).Set"], unfollowed := true, recurses := true, named := ["herdsman/pack.errForm", "herdsman/pack.errEnd", "errors.errorType"], apart := false, laid := [("errors.errorType", laid_errors_errorType), ("herdsman/pack.errEnd", laid_herdsman_pack_errEnd), ("herdsman/pack.errForm", laid_herdsman_pack_errForm)] }
def AtlasEndsSaid : Prop := atlasEndsRow.holds Tryd.pinned (OpenSpec.ofChange atlasEndsSpec)

/-- ITS FALSE NEIGHBOUR: 'it returns false'. Refute it at one input. -/
def atlasEndsWrong : ChangeSpec := { name := "atlasEnds", fn := fun _ => fun
  | [d1, d2, d3, d4, d5] => { results := [.lit (.bool false)], args := [d1, d2, d3, d4, d5] }
  | _ => none }
def AtlasEndsWrongFalsely : Prop := atlasEndsRow.holds Tryd.pinned (OpenSpec.ofChange atlasEndsWrong)

/-- 'herdsmanlaw4.AtlasBack': WHATEVER THE INPUT: true; the input reads as it did. -/
def atlasBackSpec : ChangeSpec := { name := "atlasBack", fn := fun _ => fun
  | [d1, d2, d3] => { results := [.lit (.bool true)], args := [d1, d2, d3] }
  | _ => none }
def atlasBackRow : OpenClaim := { program := "ytnkdnecilkafhaadoor", sum := "0a71d1b29bcf69c35e541997357a9905c15061cc3c7f9256d720a9c9c87fedfb", func := "herdsman/herdsmanlaw4.AtlasBack", spec := "atlasBack", inPlace := ["internal/bytealg.MakeNoZero", "internal/reflectlite.TypeOf", "internal/reflectlite.ValueOf", "(internal/reflectlite.Value).Type", "(internal/reflectlite.Value).IsNil", "(internal/reflectlite.Value).Elem", "(internal/reflectlite.Value).Set"], unfollowed := true, recurses := true, named := ["herdsman/pack.errForm", "herdsman/pack.errEnd", "errors.errorType"], apart := false, laid := [("errors.errorType", laid_errors_errorType), ("herdsman/pack.errEnd", laid_herdsman_pack_errEnd), ("herdsman/pack.errForm", laid_herdsman_pack_errForm)] }
def AtlasBackSaid : Prop := atlasBackRow.holds Tryd.pinned (OpenSpec.ofChange atlasBackSpec)

/-- ITS FALSE NEIGHBOUR: 'it returns false'. Refute it at one input. -/
def atlasBackWrong : ChangeSpec := { name := "atlasBack", fn := fun _ => fun
  | [d1, d2, d3] => { results := [.lit (.bool false)], args := [d1, d2, d3] }
  | _ => none }
def AtlasBackWrongFalsely : Prop := atlasBackRow.holds Tryd.pinned (OpenSpec.ofChange atlasBackWrong)

/-- 'herdsmanlaw4.AtlasTurned': WHATEVER THE INPUT: true; the input reads as it did. -/
def atlasTurnedSpec : ChangeSpec := { name := "atlasTurned", fn := fun _ => fun
  | [d1, d2, d3, d4, d5] => { results := [.lit (.bool true)], args := [d1, d2, d3, d4, d5] }
  | _ => none }
def atlasTurnedRow : OpenClaim := { program := "ytnkdnecilkafhaadoor", sum := "0a71d1b29bcf69c35e541997357a9905c15061cc3c7f9256d720a9c9c87fedfb", func := "herdsman/herdsmanlaw4.AtlasTurned", spec := "atlasTurned", inPlace := ["internal/bytealg.MakeNoZero", "internal/reflectlite.TypeOf", "internal/reflectlite.ValueOf", "(internal/reflectlite.Value).Type", "(internal/reflectlite.Value).IsNil", "(internal/reflectlite.Value).Elem", "(internal/reflectlite.Value).Set"], unfollowed := true, recurses := true, named := ["herdsman/pack.errForm", "herdsman/pack.errEnd", "errors.errorType"], apart := false, laid := [("errors.errorType", laid_errors_errorType), ("herdsman/pack.errEnd", laid_herdsman_pack_errEnd), ("herdsman/pack.errForm", laid_herdsman_pack_errForm)] }
def AtlasTurnedSaid : Prop := atlasTurnedRow.holds Tryd.pinned (OpenSpec.ofChange atlasTurnedSpec)

/-- ITS FALSE NEIGHBOUR: 'it returns false'. Refute it at one input. -/
def atlasTurnedWrong : ChangeSpec := { name := "atlasTurned", fn := fun _ => fun
  | [d1, d2, d3, d4, d5] => { results := [.lit (.bool false)], args := [d1, d2, d3, d4, d5] }
  | _ => none }
def AtlasTurnedWrongFalsely : Prop := atlasTurnedRow.holds Tryd.pinned (OpenSpec.ofChange atlasTurnedWrong)

/-- 'herdsmanlaw4.AtlasAsks': WHATEVER THE INPUT: true; the input reads as it did. -/
def atlasAsksSpec : ChangeSpec := { name := "atlasAsks", fn := fun _ => fun
  | [d1, d2, d3] => { results := [.lit (.bool true)], args := [d1, d2, d3] }
  | _ => none }
def atlasAsksRow : OpenClaim := { program := "ytnkdnecilkafhaadoor", sum := "0a71d1b29bcf69c35e541997357a9905c15061cc3c7f9256d720a9c9c87fedfb", func := "herdsman/herdsmanlaw4.AtlasAsks", spec := "atlasAsks", inPlace := ["internal/bytealg.MakeNoZero", "internal/reflectlite.TypeOf", "internal/reflectlite.ValueOf", "(internal/reflectlite.Value).Type", "(internal/reflectlite.Value).IsNil", "(internal/reflectlite.Value).Elem", "(internal/reflectlite.Value).Set"], unfollowed := true, recurses := true, named := ["herdsman/pack.errForm", "herdsman/pack.errEnd", "errors.errorType"], apart := false, laid := [("errors.errorType", laid_errors_errorType), ("herdsman/pack.errEnd", laid_herdsman_pack_errEnd), ("herdsman/pack.errForm", laid_herdsman_pack_errForm)] }
def AtlasAsksSaid : Prop := atlasAsksRow.holds Tryd.pinned (OpenSpec.ofChange atlasAsksSpec)

/-- ITS FALSE NEIGHBOUR: 'it returns false'. Refute it at one input. -/
def atlasAsksWrong : ChangeSpec := { name := "atlasAsks", fn := fun _ => fun
  | [d1, d2, d3] => { results := [.lit (.bool false)], args := [d1, d2, d3] }
  | _ => none }
def AtlasAsksWrongFalsely : Prop := atlasAsksRow.holds Tryd.pinned (OpenSpec.ofChange atlasAsksWrong)

/-- 'herdsmanlaw4.AtlasTiles': WHATEVER THE INPUT: true; the input reads as it did. -/
def atlasTilesSpec : ChangeSpec := { name := "atlasTiles", fn := fun _ => fun
  | [d1, d2, d3, d4, d5] => { results := [.lit (.bool true)], args := [d1, d2, d3, d4, d5] }
  | _ => none }
def atlasTilesRow : OpenClaim := { program := "ytnkdnecilkafhaadoor", sum := "0a71d1b29bcf69c35e541997357a9905c15061cc3c7f9256d720a9c9c87fedfb", func := "herdsman/herdsmanlaw4.AtlasTiles", spec := "atlasTiles", inPlace := ["internal/bytealg.MakeNoZero", "internal/reflectlite.TypeOf", "internal/reflectlite.ValueOf", "(internal/reflectlite.Value).Type", "(internal/reflectlite.Value).IsNil", "(internal/reflectlite.Value).Elem", "(internal/reflectlite.Value).Set"], unfollowed := true, recurses := true, named := ["herdsman/pack.errForm", "herdsman/pack.errEnd", "errors.errorType"], apart := false, laid := [("errors.errorType", laid_errors_errorType), ("herdsman/pack.errEnd", laid_herdsman_pack_errEnd), ("herdsman/pack.errForm", laid_herdsman_pack_errForm)] }
def AtlasTilesSaid : Prop := atlasTilesRow.holds Tryd.pinned (OpenSpec.ofChange atlasTilesSpec)

/-- ITS FALSE NEIGHBOUR: 'it returns false'. Refute it at one input. -/
def atlasTilesWrong : ChangeSpec := { name := "atlasTiles", fn := fun _ => fun
  | [d1, d2, d3, d4, d5] => { results := [.lit (.bool false)], args := [d1, d2, d3, d4, d5] }
  | _ => none }
def AtlasTilesWrongFalsely : Prop := atlasTilesRow.holds Tryd.pinned (OpenSpec.ofChange atlasTilesWrong)

/- THE SECOND FORM. 'bulk': how many values and letters a reading holds, each counted each time it is reached (what is shared counts as often as it is met; a slice's spare places count too). A statement '..UptoSaid' is the law's where the arguments, and the package variables that the reading takes, are together of bulk at most 1048576: NARROWER than '..Said'. Prove '..Said' where nothing that the law and all that it calls make is longer than what came in: it says more and counts as full. Else prove '..UptoSaid'. A law counts once. -/
mutual
def uptoBulk {H : Type} : DataW H → Nat
  | .lit (.string bytes) => bytes.length + 1
  | .lit _ => 1
  | .nil => 1
  | .ptr d => uptoBulk d + 1
  | .slice elems spare => uptoBulkAll elems + uptoBulkAll spare + 1
  | .agg parts => uptoBulkAll parts + 1
  | .iface _ d => uptoBulk d + 1
  | .map entries => uptoBulkEntries entries + 1
  | .held _ => 1
def uptoBulkAll {H : Type} : List (DataW H) → Nat
  | [] => 0
  | d :: r => uptoBulk d + uptoBulkAll r
def uptoBulkEntries {H : Type} : List (Lit × DataW H) → Nat
  | [] => 0
  | x :: r => uptoBulkEntry x + uptoBulkEntries r
def uptoBulkEntry {H : Type} : Lit × DataW H → Nat
  | (.string bytes, d) => bytes.length + uptoBulk d + 1
  | (_, d) => uptoBulk d + 1
 end
def uptoSmall : (H : Type) → List (DataW H) → Bool := fun _ ds => decide (uptoBulkAll ds ≤ 1048576)
def OpenSpec.upto (s : _root_.Go.ChangeSpec) : _root_.Go.OpenSpec := { _root_.Go.OpenSpec.ofChange s with cond := some uptoSmall }

/-- 'herdsmanlaw4.AtlasReads', WHERE WHAT IT READS IS OF BULK AT MOST 1048576: true; the input reads as it did. -/
def atlasReadsUptoRow : OpenClaim := { program := "ytnkdnecilkafhaadoor", sum := "0a71d1b29bcf69c35e541997357a9905c15061cc3c7f9256d720a9c9c87fedfb", func := "herdsman/herdsmanlaw4.AtlasReads", spec := "atlasReads", inPlace := ["internal/bytealg.MakeNoZero", "internal/reflectlite.TypeOf", "internal/reflectlite.ValueOf", "(internal/reflectlite.Value).Type", "(internal/reflectlite.Value).IsNil", "(internal/reflectlite.Value).Elem", "(internal/reflectlite.Value).Set"], unfollowed := true, recurses := true, named := ["herdsman/pack.errForm", "herdsman/pack.errEnd", "errors.errorType"], apart := false, laid := [("errors.errorType", laid_errors_errorType), ("herdsman/pack.errEnd", laid_herdsman_pack_errEnd), ("herdsman/pack.errForm", laid_herdsman_pack_errForm)], narrowed := true }
def AtlasReadsUptoSaid : Prop := atlasReadsUptoRow.holds Tryd.pinned (OpenSpec.upto atlasReadsSpec)

/-- 'herdsmanlaw4.AtlasEnds', WHERE WHAT IT READS IS OF BULK AT MOST 1048576: true; the input reads as it did. -/
def atlasEndsUptoRow : OpenClaim := { program := "ytnkdnecilkafhaadoor", sum := "0a71d1b29bcf69c35e541997357a9905c15061cc3c7f9256d720a9c9c87fedfb", func := "herdsman/herdsmanlaw4.AtlasEnds", spec := "atlasEnds", inPlace := ["internal/bytealg.MakeNoZero", "internal/reflectlite.TypeOf", "internal/reflectlite.ValueOf", "(internal/reflectlite.Value).Type", "(internal/reflectlite.Value).IsNil", "(internal/reflectlite.Value).Elem", "(internal/reflectlite.Value).Set"], unfollowed := true, recurses := true, named := ["herdsman/pack.errForm", "herdsman/pack.errEnd", "errors.errorType"], apart := false, laid := [("errors.errorType", laid_errors_errorType), ("herdsman/pack.errEnd", laid_herdsman_pack_errEnd), ("herdsman/pack.errForm", laid_herdsman_pack_errForm)], narrowed := true }
def AtlasEndsUptoSaid : Prop := atlasEndsUptoRow.holds Tryd.pinned (OpenSpec.upto atlasEndsSpec)

/-- 'herdsmanlaw4.AtlasBack', WHERE WHAT IT READS IS OF BULK AT MOST 1048576: true; the input reads as it did. -/
def atlasBackUptoRow : OpenClaim := { program := "ytnkdnecilkafhaadoor", sum := "0a71d1b29bcf69c35e541997357a9905c15061cc3c7f9256d720a9c9c87fedfb", func := "herdsman/herdsmanlaw4.AtlasBack", spec := "atlasBack", inPlace := ["internal/bytealg.MakeNoZero", "internal/reflectlite.TypeOf", "internal/reflectlite.ValueOf", "(internal/reflectlite.Value).Type", "(internal/reflectlite.Value).IsNil", "(internal/reflectlite.Value).Elem", "(internal/reflectlite.Value).Set"], unfollowed := true, recurses := true, named := ["herdsman/pack.errForm", "herdsman/pack.errEnd", "errors.errorType"], apart := false, laid := [("errors.errorType", laid_errors_errorType), ("herdsman/pack.errEnd", laid_herdsman_pack_errEnd), ("herdsman/pack.errForm", laid_herdsman_pack_errForm)], narrowed := true }
def AtlasBackUptoSaid : Prop := atlasBackUptoRow.holds Tryd.pinned (OpenSpec.upto atlasBackSpec)

/-- 'herdsmanlaw4.AtlasTurned', WHERE WHAT IT READS IS OF BULK AT MOST 1048576: true; the input reads as it did. -/
def atlasTurnedUptoRow : OpenClaim := { program := "ytnkdnecilkafhaadoor", sum := "0a71d1b29bcf69c35e541997357a9905c15061cc3c7f9256d720a9c9c87fedfb", func := "herdsman/herdsmanlaw4.AtlasTurned", spec := "atlasTurned", inPlace := ["internal/bytealg.MakeNoZero", "internal/reflectlite.TypeOf", "internal/reflectlite.ValueOf", "(internal/reflectlite.Value).Type", "(internal/reflectlite.Value).IsNil", "(internal/reflectlite.Value).Elem", "(internal/reflectlite.Value).Set"], unfollowed := true, recurses := true, named := ["herdsman/pack.errForm", "herdsman/pack.errEnd", "errors.errorType"], apart := false, laid := [("errors.errorType", laid_errors_errorType), ("herdsman/pack.errEnd", laid_herdsman_pack_errEnd), ("herdsman/pack.errForm", laid_herdsman_pack_errForm)], narrowed := true }
def AtlasTurnedUptoSaid : Prop := atlasTurnedUptoRow.holds Tryd.pinned (OpenSpec.upto atlasTurnedSpec)

/-- 'herdsmanlaw4.AtlasAsks', WHERE WHAT IT READS IS OF BULK AT MOST 1048576: true; the input reads as it did. -/
def atlasAsksUptoRow : OpenClaim := { program := "ytnkdnecilkafhaadoor", sum := "0a71d1b29bcf69c35e541997357a9905c15061cc3c7f9256d720a9c9c87fedfb", func := "herdsman/herdsmanlaw4.AtlasAsks", spec := "atlasAsks", inPlace := ["internal/bytealg.MakeNoZero", "internal/reflectlite.TypeOf", "internal/reflectlite.ValueOf", "(internal/reflectlite.Value).Type", "(internal/reflectlite.Value).IsNil", "(internal/reflectlite.Value).Elem", "(internal/reflectlite.Value).Set"], unfollowed := true, recurses := true, named := ["herdsman/pack.errForm", "herdsman/pack.errEnd", "errors.errorType"], apart := false, laid := [("errors.errorType", laid_errors_errorType), ("herdsman/pack.errEnd", laid_herdsman_pack_errEnd), ("herdsman/pack.errForm", laid_herdsman_pack_errForm)], narrowed := true }
def AtlasAsksUptoSaid : Prop := atlasAsksUptoRow.holds Tryd.pinned (OpenSpec.upto atlasAsksSpec)

/-- 'herdsmanlaw4.AtlasTiles', WHERE WHAT IT READS IS OF BULK AT MOST 1048576: true; the input reads as it did. -/
def atlasTilesUptoRow : OpenClaim := { program := "ytnkdnecilkafhaadoor", sum := "0a71d1b29bcf69c35e541997357a9905c15061cc3c7f9256d720a9c9c87fedfb", func := "herdsman/herdsmanlaw4.AtlasTiles", spec := "atlasTiles", inPlace := ["internal/bytealg.MakeNoZero", "internal/reflectlite.TypeOf", "internal/reflectlite.ValueOf", "(internal/reflectlite.Value).Type", "(internal/reflectlite.Value).IsNil", "(internal/reflectlite.Value).Elem", "(internal/reflectlite.Value).Set"], unfollowed := true, recurses := true, named := ["herdsman/pack.errForm", "herdsman/pack.errEnd", "errors.errorType"], apart := false, laid := [("errors.errorType", laid_errors_errorType), ("herdsman/pack.errEnd", laid_herdsman_pack_errEnd), ("herdsman/pack.errForm", laid_herdsman_pack_errForm)], narrowed := true }
def AtlasTilesUptoSaid : Prop := atlasTilesUptoRow.holds Tryd.pinned (OpenSpec.upto atlasTilesSpec)

end Rows
end Go.Proofs.YtnkdnecilkafhaaDoor
