/-
  No cell of these rows narrows 'for every input' (looked for: loops, veiled, ifaces, maps, wideKeys, modest, calm, conditions, laid).
  DERIVED. THE GIVEN ROWS OF THIS SEAT. 12 by the template 'for every input the law returns true; each argument reads behind the call as it read before'; 0 by the template 'total and deterministic' (their statements: YtmddmofncblfpaaTotals.lean).
  GIVEN WITH THE SEED: the statements are not yours to turn. If you find one false, say at which input.
  Laid BY PROGRAM, IN A SANDBOX (cutbox-rows.mjs): the forced cells as the released guide's own fill.sh prints them over the translation 68f01354dca79c54… (all of the seat's roots in one cut). By AI agents, Wed Nov 11 2026. No macro, syntax, notation, axiom, sorry.
-/
import Derived.Test.YtmddmofncblfpaaChecked
import GoSem.Claim
import GoSem.ClaimJoined
import GoSem.ClaimMapViews
import Derived.JoinedTies
import Derived.KernelRfl
namespace Go.Proofs.Ytmddmofncblfpaa
/- THE CELL 'sum', in the pinned program and in every row, IS THE sha256 OF THE DUMP (.gsa) THAT YtmddmofncblfpaaProg.lean LOADS. Nothing in Lean hashes anything: it is a label: what it is worth is what the hold of that sum in a sandbox is worth. -/
noncomputable def Try.pinned : Pinned := { name := "ytmddmofncblfpaa", sum := "68f01354dca79c54c9d8683c4f32fcdfe314bb22224bd6673c6f6d1fd690eb3e", checked := Try.checked }
namespace Rows
def none {H : Type} : Left H := { results := [], args := [] }

/-- 'herdsmanlaw22.FloorPlays': WHATEVER THE INPUT: true; the input reads as it did. -/
def floorPlaysSpec : ChangeSpec := { name := "floorPlays", fn := fun _ => fun
  | [d1, d2, d3] => { results := [.lit (.bool true)], args := [d1, d2, d3] }
  | _ => none }
def floorPlaysRow : OpenClaim := { program := "ytmddmofncblfpaa", sum := "68f01354dca79c54c9d8683c4f32fcdfe314bb22224bd6673c6f6d1fd690eb3e", func := "herdsman/herdsmanlaw22.FloorPlays", spec := "floorPlays", plainKeys := false, apart := false }
def FloorPlaysSaid : Prop := floorPlaysRow.holds Try.pinned (OpenSpec.ofChange floorPlaysSpec)

/-- ITS FALSE NEIGHBOUR: 'it returns false'. Refute it at one input. -/
def floorPlaysWrong : ChangeSpec := { name := "floorPlays", fn := fun _ => fun
  | [d1, d2, d3] => { results := [.lit (.bool false)], args := [d1, d2, d3] }
  | _ => none }
def FloorPlaysWrongFalsely : Prop := floorPlaysRow.holds Try.pinned (OpenSpec.ofChange floorPlaysWrong)

/-- 'herdsmanlaw22.FloorMoves': WHATEVER THE INPUT: true; the input reads as it did. -/
def floorMovesSpec : ChangeSpec := { name := "floorMoves", fn := fun _ => fun
  | [d1, d2] => { results := [.lit (.bool true)], args := [d1, d2] }
  | _ => none }
def floorMovesRow : OpenClaim := { program := "ytmddmofncblfpaa", sum := "68f01354dca79c54c9d8683c4f32fcdfe314bb22224bd6673c6f6d1fd690eb3e", func := "herdsman/herdsmanlaw22.FloorMoves", spec := "floorMoves", plainKeys := false, apart := false }
def FloorMovesSaid : Prop := floorMovesRow.holds Try.pinned (OpenSpec.ofChange floorMovesSpec)

/-- ITS FALSE NEIGHBOUR: 'it returns false'. Refute it at one input. -/
def floorMovesWrong : ChangeSpec := { name := "floorMoves", fn := fun _ => fun
  | [d1, d2] => { results := [.lit (.bool false)], args := [d1, d2] }
  | _ => none }
def FloorMovesWrongFalsely : Prop := floorMovesRow.holds Try.pinned (OpenSpec.ofChange floorMovesWrong)

/-- 'herdsmanlaw22.FloorOwn': WHATEVER THE INPUT: true; the input reads as it did. -/
def floorOwnSpec : ChangeSpec := { name := "floorOwn", fn := fun _ => fun
  | [d1, d2, d3] => { results := [.lit (.bool true)], args := [d1, d2, d3] }
  | _ => none }
def floorOwnRow : OpenClaim := { program := "ytmddmofncblfpaa", sum := "68f01354dca79c54c9d8683c4f32fcdfe314bb22224bd6673c6f6d1fd690eb3e", func := "herdsman/herdsmanlaw22.FloorOwn", spec := "floorOwn", plainKeys := false, apart := false }
def FloorOwnSaid : Prop := floorOwnRow.holds Try.pinned (OpenSpec.ofChange floorOwnSpec)

/-- ITS FALSE NEIGHBOUR: 'it returns false'. Refute it at one input. -/
def floorOwnWrong : ChangeSpec := { name := "floorOwn", fn := fun _ => fun
  | [d1, d2, d3] => { results := [.lit (.bool false)], args := [d1, d2, d3] }
  | _ => none }
def FloorOwnWrongFalsely : Prop := floorOwnRow.holds Try.pinned (OpenSpec.ofChange floorOwnWrong)

/-- 'herdsmanlaw22.FloorNone': WHATEVER THE INPUT: true; the input reads as it did. -/
def floorNoneSpec : ChangeSpec := { name := "floorNone", fn := fun _ => fun
  | [d1, d2, d3] => { results := [.lit (.bool true)], args := [d1, d2, d3] }
  | _ => none }
def floorNoneRow : OpenClaim := { program := "ytmddmofncblfpaa", sum := "68f01354dca79c54c9d8683c4f32fcdfe314bb22224bd6673c6f6d1fd690eb3e", func := "herdsman/herdsmanlaw22.FloorNone", spec := "floorNone", plainKeys := false, apart := false }
def FloorNoneSaid : Prop := floorNoneRow.holds Try.pinned (OpenSpec.ofChange floorNoneSpec)

/-- ITS FALSE NEIGHBOUR: 'it returns false'. Refute it at one input. -/
def floorNoneWrong : ChangeSpec := { name := "floorNone", fn := fun _ => fun
  | [d1, d2, d3] => { results := [.lit (.bool false)], args := [d1, d2, d3] }
  | _ => none }
def FloorNoneWrongFalsely : Prop := floorNoneRow.holds Try.pinned (OpenSpec.ofChange floorNoneWrong)

/-- 'herdsmanlaw21.UnitsOwn': WHATEVER THE INPUT: true; the input reads as it did. -/
def unitsOwnSpec : ChangeSpec := { name := "unitsOwn", fn := fun _ => fun
  | [d1, d2] => { results := [.lit (.bool true)], args := [d1, d2] }
  | _ => none }
def unitsOwnRow : OpenClaim := { program := "ytmddmofncblfpaa", sum := "68f01354dca79c54c9d8683c4f32fcdfe314bb22224bd6673c6f6d1fd690eb3e", func := "herdsman/herdsmanlaw21.UnitsOwn", spec := "unitsOwn", plainKeys := false, apart := false }
def UnitsOwnSaid : Prop := unitsOwnRow.holds Try.pinned (OpenSpec.ofChange unitsOwnSpec)

/-- ITS FALSE NEIGHBOUR: 'it returns false'. Refute it at one input. -/
def unitsOwnWrong : ChangeSpec := { name := "unitsOwn", fn := fun _ => fun
  | [d1, d2] => { results := [.lit (.bool false)], args := [d1, d2] }
  | _ => none }
def UnitsOwnWrongFalsely : Prop := unitsOwnRow.holds Try.pinned (OpenSpec.ofChange unitsOwnWrong)

/-- 'herdsmanlaw21.UnitsPlays': WHATEVER THE INPUT: true; the input reads as it did. -/
def unitsPlaysSpec : ChangeSpec := { name := "unitsPlays", fn := fun _ => fun
  | [d1, d2] => { results := [.lit (.bool true)], args := [d1, d2] }
  | _ => none }
def unitsPlaysRow : OpenClaim := { program := "ytmddmofncblfpaa", sum := "68f01354dca79c54c9d8683c4f32fcdfe314bb22224bd6673c6f6d1fd690eb3e", func := "herdsman/herdsmanlaw21.UnitsPlays", spec := "unitsPlays", unfollowed := true, recurses := true, plainKeys := false, apart := false }
def UnitsPlaysSaid : Prop := unitsPlaysRow.holds Try.pinned (OpenSpec.ofChange unitsPlaysSpec)

/-- ITS FALSE NEIGHBOUR: 'it returns false'. Refute it at one input. -/
def unitsPlaysWrong : ChangeSpec := { name := "unitsPlays", fn := fun _ => fun
  | [d1, d2] => { results := [.lit (.bool false)], args := [d1, d2] }
  | _ => none }
def UnitsPlaysWrongFalsely : Prop := unitsPlaysRow.holds Try.pinned (OpenSpec.ofChange unitsPlaysWrong)

/-- 'herdsmanlaw21.UnitsNever': WHATEVER THE INPUT: true; the input reads as it did. -/
def unitsNeverSpec : ChangeSpec := { name := "unitsNever", fn := fun _ => fun
  | [d1, d2] => { results := [.lit (.bool true)], args := [d1, d2] }
  | _ => none }
def unitsNeverRow : OpenClaim := { program := "ytmddmofncblfpaa", sum := "68f01354dca79c54c9d8683c4f32fcdfe314bb22224bd6673c6f6d1fd690eb3e", func := "herdsman/herdsmanlaw21.UnitsNever", spec := "unitsNever", unfollowed := true, recurses := true, plainKeys := false, apart := false }
def UnitsNeverSaid : Prop := unitsNeverRow.holds Try.pinned (OpenSpec.ofChange unitsNeverSpec)

/-- ITS FALSE NEIGHBOUR: 'it returns false'. Refute it at one input. -/
def unitsNeverWrong : ChangeSpec := { name := "unitsNever", fn := fun _ => fun
  | [d1, d2] => { results := [.lit (.bool false)], args := [d1, d2] }
  | _ => none }
def UnitsNeverWrongFalsely : Prop := unitsNeverRow.holds Try.pinned (OpenSpec.ofChange unitsNeverWrong)

/-- 'herdsmanlaw21.UnitsNone': WHATEVER THE INPUT: true; the input reads as it did. -/
def unitsNoneSpec : ChangeSpec := { name := "unitsNone", fn := fun _ => fun
  | [d1, d2, d3] => { results := [.lit (.bool true)], args := [d1, d2, d3] }
  | _ => none }
def unitsNoneRow : OpenClaim := { program := "ytmddmofncblfpaa", sum := "68f01354dca79c54c9d8683c4f32fcdfe314bb22224bd6673c6f6d1fd690eb3e", func := "herdsman/herdsmanlaw21.UnitsNone", spec := "unitsNone", unfollowed := true, recurses := true, plainKeys := false, apart := false }
def UnitsNoneSaid : Prop := unitsNoneRow.holds Try.pinned (OpenSpec.ofChange unitsNoneSpec)

/-- ITS FALSE NEIGHBOUR: 'it returns false'. Refute it at one input. -/
def unitsNoneWrong : ChangeSpec := { name := "unitsNone", fn := fun _ => fun
  | [d1, d2, d3] => { results := [.lit (.bool false)], args := [d1, d2, d3] }
  | _ => none }
def UnitsNoneWrongFalsely : Prop := unitsNoneRow.holds Try.pinned (OpenSpec.ofChange unitsNoneWrong)

/-- 'herdsmanlaw23.PlanAsks': WHATEVER THE INPUT: true; the input reads as it did. -/
def planAsksSpec : ChangeSpec := { name := "planAsks", fn := fun _ => fun
  | [d1, d2, d3, d4, d5] => { results := [.lit (.bool true)], args := [d1, d2, d3, d4, d5] }
  | _ => none }
def planAsksRow : OpenClaim := { program := "ytmddmofncblfpaa", sum := "68f01354dca79c54c9d8683c4f32fcdfe314bb22224bd6673c6f6d1fd690eb3e", func := "herdsman/herdsmanlaw23.PlanAsks", spec := "planAsks", plainKeys := false, apart := false }
def PlanAsksSaid : Prop := planAsksRow.holds Try.pinned (OpenSpec.ofChange planAsksSpec)

/-- ITS FALSE NEIGHBOUR: 'it returns false'. Refute it at one input. -/
def planAsksWrong : ChangeSpec := { name := "planAsks", fn := fun _ => fun
  | [d1, d2, d3, d4, d5] => { results := [.lit (.bool false)], args := [d1, d2, d3, d4, d5] }
  | _ => none }
def PlanAsksWrongFalsely : Prop := planAsksRow.holds Try.pinned (OpenSpec.ofChange planAsksWrong)

/-- 'herdsmanlaw23.PlanTurned': WHATEVER THE INPUT: true; the input reads as it did. -/
def planTurnedSpec : ChangeSpec := { name := "planTurned", fn := fun _ => fun
  | [d1, d2, d3, d4, d5, d6] => { results := [.lit (.bool true)], args := [d1, d2, d3, d4, d5, d6] }
  | _ => none }
def planTurnedRow : OpenClaim := { program := "ytmddmofncblfpaa", sum := "68f01354dca79c54c9d8683c4f32fcdfe314bb22224bd6673c6f6d1fd690eb3e", func := "herdsman/herdsmanlaw23.PlanTurned", spec := "planTurned", plainKeys := false, apart := false }
def PlanTurnedSaid : Prop := planTurnedRow.holds Try.pinned (OpenSpec.ofChange planTurnedSpec)

/-- ITS FALSE NEIGHBOUR: 'it returns false'. Refute it at one input. -/
def planTurnedWrong : ChangeSpec := { name := "planTurned", fn := fun _ => fun
  | [d1, d2, d3, d4, d5, d6] => { results := [.lit (.bool false)], args := [d1, d2, d3, d4, d5, d6] }
  | _ => none }
def PlanTurnedWrongFalsely : Prop := planTurnedRow.holds Try.pinned (OpenSpec.ofChange planTurnedWrong)

/-- 'herdsmanlaw23.PlanCovers': WHATEVER THE INPUT: true; the input reads as it did. -/
def planCoversSpec : ChangeSpec := { name := "planCovers", fn := fun _ => fun
  | [d1, d2, d3, d4] => { results := [.lit (.bool true)], args := [d1, d2, d3, d4] }
  | _ => none }
def planCoversRow : OpenClaim := { program := "ytmddmofncblfpaa", sum := "68f01354dca79c54c9d8683c4f32fcdfe314bb22224bd6673c6f6d1fd690eb3e", func := "herdsman/herdsmanlaw23.PlanCovers", spec := "planCovers", plainKeys := false, apart := false }
def PlanCoversSaid : Prop := planCoversRow.holds Try.pinned (OpenSpec.ofChange planCoversSpec)

/-- ITS FALSE NEIGHBOUR: 'it returns false'. Refute it at one input. -/
def planCoversWrong : ChangeSpec := { name := "planCovers", fn := fun _ => fun
  | [d1, d2, d3, d4] => { results := [.lit (.bool false)], args := [d1, d2, d3, d4] }
  | _ => none }
def PlanCoversWrongFalsely : Prop := planCoversRow.holds Try.pinned (OpenSpec.ofChange planCoversWrong)

/-- 'herdsmanlaw23.PlanGoals': WHATEVER THE INPUT: true; the input reads as it did. -/
def planGoalsSpec : ChangeSpec := { name := "planGoals", fn := fun _ => fun
  | [d1, d2] => { results := [.lit (.bool true)], args := [d1, d2] }
  | _ => none }
def planGoalsRow : OpenClaim := { program := "ytmddmofncblfpaa", sum := "68f01354dca79c54c9d8683c4f32fcdfe314bb22224bd6673c6f6d1fd690eb3e", func := "herdsman/herdsmanlaw23.PlanGoals", spec := "planGoals", plainKeys := false, apart := false }
def PlanGoalsSaid : Prop := planGoalsRow.holds Try.pinned (OpenSpec.ofChange planGoalsSpec)

/-- ITS FALSE NEIGHBOUR: 'it returns false'. Refute it at one input. -/
def planGoalsWrong : ChangeSpec := { name := "planGoals", fn := fun _ => fun
  | [d1, d2] => { results := [.lit (.bool false)], args := [d1, d2] }
  | _ => none }
def PlanGoalsWrongFalsely : Prop := planGoalsRow.holds Try.pinned (OpenSpec.ofChange planGoalsWrong)

/- THE SECOND FORM. 'bulk': how many values and letters a reading holds, each counted each time it is reached (what is shared counts as often as it is met; a slice's spare places count too). A statement '..UptoSaid' is the law's where the arguments, and the package variables that the reading takes, are together of bulk at most 1048576: NARROWER than '..Said'. Prove '..Said' where nothing that the law and all that it calls make is longer than what came in: it says more and counts as full. Else prove '..UptoSaid'. A law counts once. -/
mutual
def uptoBulk {H : Type} : DataW H → Nat
  | .lit (.string bytes) => bytes.length + 1
  | .lit _ => 1
  | .nil => 1
  | .ptr d => uptoBulk d + 1
  | .slice elems spare => uptoBulkAll elems + uptoBulkAll spare + 1
  | .agg parts => uptoBulkAll parts + 1
  | .iface _ d => uptoBulk d + 1
  | .map entries => uptoBulkEntries entries + 1
  | .held _ => 1
def uptoBulkAll {H : Type} : List (DataW H) → Nat
  | [] => 0
  | d :: r => uptoBulk d + uptoBulkAll r
def uptoBulkEntries {H : Type} : List (Lit × DataW H) → Nat
  | [] => 0
  | x :: r => uptoBulkEntry x + uptoBulkEntries r
def uptoBulkEntry {H : Type} : Lit × DataW H → Nat
  | (.string bytes, d) => bytes.length + uptoBulk d + 1
  | (_, d) => uptoBulk d + 1
 end
def uptoSmall : (H : Type) → List (DataW H) → Bool := fun _ ds => decide (uptoBulkAll ds ≤ 1048576)
def OpenSpec.upto (s : _root_.Go.ChangeSpec) : _root_.Go.OpenSpec := { _root_.Go.OpenSpec.ofChange s with cond := some uptoSmall }

/-- 'herdsmanlaw22.FloorPlays', WHERE WHAT IT READS IS OF BULK AT MOST 1048576: true; the input reads as it did. -/
def floorPlaysUptoRow : OpenClaim := { program := "ytmddmofncblfpaa", sum := "68f01354dca79c54c9d8683c4f32fcdfe314bb22224bd6673c6f6d1fd690eb3e", func := "herdsman/herdsmanlaw22.FloorPlays", spec := "floorPlays", plainKeys := false, apart := false, narrowed := true }
def FloorPlaysUptoSaid : Prop := floorPlaysUptoRow.holds Try.pinned (OpenSpec.upto floorPlaysSpec)

/-- 'herdsmanlaw22.FloorMoves', WHERE WHAT IT READS IS OF BULK AT MOST 1048576: true; the input reads as it did. -/
def floorMovesUptoRow : OpenClaim := { program := "ytmddmofncblfpaa", sum := "68f01354dca79c54c9d8683c4f32fcdfe314bb22224bd6673c6f6d1fd690eb3e", func := "herdsman/herdsmanlaw22.FloorMoves", spec := "floorMoves", plainKeys := false, apart := false, narrowed := true }
def FloorMovesUptoSaid : Prop := floorMovesUptoRow.holds Try.pinned (OpenSpec.upto floorMovesSpec)

/-- 'herdsmanlaw22.FloorOwn', WHERE WHAT IT READS IS OF BULK AT MOST 1048576: true; the input reads as it did. -/
def floorOwnUptoRow : OpenClaim := { program := "ytmddmofncblfpaa", sum := "68f01354dca79c54c9d8683c4f32fcdfe314bb22224bd6673c6f6d1fd690eb3e", func := "herdsman/herdsmanlaw22.FloorOwn", spec := "floorOwn", plainKeys := false, apart := false, narrowed := true }
def FloorOwnUptoSaid : Prop := floorOwnUptoRow.holds Try.pinned (OpenSpec.upto floorOwnSpec)

/-- 'herdsmanlaw22.FloorNone', WHERE WHAT IT READS IS OF BULK AT MOST 1048576: true; the input reads as it did. -/
def floorNoneUptoRow : OpenClaim := { program := "ytmddmofncblfpaa", sum := "68f01354dca79c54c9d8683c4f32fcdfe314bb22224bd6673c6f6d1fd690eb3e", func := "herdsman/herdsmanlaw22.FloorNone", spec := "floorNone", plainKeys := false, apart := false, narrowed := true }
def FloorNoneUptoSaid : Prop := floorNoneUptoRow.holds Try.pinned (OpenSpec.upto floorNoneSpec)

/-- 'herdsmanlaw21.UnitsOwn', WHERE WHAT IT READS IS OF BULK AT MOST 1048576: true; the input reads as it did. -/
def unitsOwnUptoRow : OpenClaim := { program := "ytmddmofncblfpaa", sum := "68f01354dca79c54c9d8683c4f32fcdfe314bb22224bd6673c6f6d1fd690eb3e", func := "herdsman/herdsmanlaw21.UnitsOwn", spec := "unitsOwn", plainKeys := false, apart := false, narrowed := true }
def UnitsOwnUptoSaid : Prop := unitsOwnUptoRow.holds Try.pinned (OpenSpec.upto unitsOwnSpec)

/-- 'herdsmanlaw21.UnitsPlays', WHERE WHAT IT READS IS OF BULK AT MOST 1048576: true; the input reads as it did. -/
def unitsPlaysUptoRow : OpenClaim := { program := "ytmddmofncblfpaa", sum := "68f01354dca79c54c9d8683c4f32fcdfe314bb22224bd6673c6f6d1fd690eb3e", func := "herdsman/herdsmanlaw21.UnitsPlays", spec := "unitsPlays", unfollowed := true, recurses := true, plainKeys := false, apart := false, narrowed := true }
def UnitsPlaysUptoSaid : Prop := unitsPlaysUptoRow.holds Try.pinned (OpenSpec.upto unitsPlaysSpec)

/-- 'herdsmanlaw21.UnitsNever', WHERE WHAT IT READS IS OF BULK AT MOST 1048576: true; the input reads as it did. -/
def unitsNeverUptoRow : OpenClaim := { program := "ytmddmofncblfpaa", sum := "68f01354dca79c54c9d8683c4f32fcdfe314bb22224bd6673c6f6d1fd690eb3e", func := "herdsman/herdsmanlaw21.UnitsNever", spec := "unitsNever", unfollowed := true, recurses := true, plainKeys := false, apart := false, narrowed := true }
def UnitsNeverUptoSaid : Prop := unitsNeverUptoRow.holds Try.pinned (OpenSpec.upto unitsNeverSpec)

/-- 'herdsmanlaw21.UnitsNone', WHERE WHAT IT READS IS OF BULK AT MOST 1048576: true; the input reads as it did. -/
def unitsNoneUptoRow : OpenClaim := { program := "ytmddmofncblfpaa", sum := "68f01354dca79c54c9d8683c4f32fcdfe314bb22224bd6673c6f6d1fd690eb3e", func := "herdsman/herdsmanlaw21.UnitsNone", spec := "unitsNone", unfollowed := true, recurses := true, plainKeys := false, apart := false, narrowed := true }
def UnitsNoneUptoSaid : Prop := unitsNoneUptoRow.holds Try.pinned (OpenSpec.upto unitsNoneSpec)

/-- 'herdsmanlaw23.PlanAsks', WHERE WHAT IT READS IS OF BULK AT MOST 1048576: true; the input reads as it did. -/
def planAsksUptoRow : OpenClaim := { program := "ytmddmofncblfpaa", sum := "68f01354dca79c54c9d8683c4f32fcdfe314bb22224bd6673c6f6d1fd690eb3e", func := "herdsman/herdsmanlaw23.PlanAsks", spec := "planAsks", plainKeys := false, apart := false, narrowed := true }
def PlanAsksUptoSaid : Prop := planAsksUptoRow.holds Try.pinned (OpenSpec.upto planAsksSpec)

/-- 'herdsmanlaw23.PlanTurned', WHERE WHAT IT READS IS OF BULK AT MOST 1048576: true; the input reads as it did. -/
def planTurnedUptoRow : OpenClaim := { program := "ytmddmofncblfpaa", sum := "68f01354dca79c54c9d8683c4f32fcdfe314bb22224bd6673c6f6d1fd690eb3e", func := "herdsman/herdsmanlaw23.PlanTurned", spec := "planTurned", plainKeys := false, apart := false, narrowed := true }
def PlanTurnedUptoSaid : Prop := planTurnedUptoRow.holds Try.pinned (OpenSpec.upto planTurnedSpec)

/-- 'herdsmanlaw23.PlanCovers', WHERE WHAT IT READS IS OF BULK AT MOST 1048576: true; the input reads as it did. -/
def planCoversUptoRow : OpenClaim := { program := "ytmddmofncblfpaa", sum := "68f01354dca79c54c9d8683c4f32fcdfe314bb22224bd6673c6f6d1fd690eb3e", func := "herdsman/herdsmanlaw23.PlanCovers", spec := "planCovers", plainKeys := false, apart := false, narrowed := true }
def PlanCoversUptoSaid : Prop := planCoversUptoRow.holds Try.pinned (OpenSpec.upto planCoversSpec)

/-- 'herdsmanlaw23.PlanGoals', WHERE WHAT IT READS IS OF BULK AT MOST 1048576: true; the input reads as it did. -/
def planGoalsUptoRow : OpenClaim := { program := "ytmddmofncblfpaa", sum := "68f01354dca79c54c9d8683c4f32fcdfe314bb22224bd6673c6f6d1fd690eb3e", func := "herdsman/herdsmanlaw23.PlanGoals", spec := "planGoals", plainKeys := false, apart := false, narrowed := true }
def PlanGoalsUptoSaid : Prop := planGoalsUptoRow.holds Try.pinned (OpenSpec.upto planGoalsSpec)

end Rows
end Go.Proofs.Ytmddmofncblfpaa
