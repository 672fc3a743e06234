/-
  NARROWER THAN 'FOR EVERY INPUT', by the rows' own cells (each row's printed sentence says how): TopDistances: laid · TopWays: laid · TopDirty: laid · TopFewest: laid · TopFloor: laid · TopSeen: laid · TopServed: laid · TopKept: laid.
  DERIVED. THE GIVEN ROWS OF THIS SEAT. 8 by the template 'for every input the law returns true; each argument reads behind the call as it read before'; 0 by the template 'total and deterministic' (their statements: YthodkonhneebbaaGreatDoorTotals.lean).
  GIVEN WITH THE SEED: the statements are not yours to turn. If you find one false, say at which input.
  Laid BY PROGRAM, IN A SANDBOX (cutbox-rows.mjs): the forced cells as the released guide's own fill.sh prints them over the translation 3868e2c3cf8efc0a… (all of the seat's roots in one cut). By AI agents, Wed Nov 11 2026. No macro, syntax, notation, axiom, sorry.
-/
import Derived.Test.YthodkonhneebbaaGreatDoorChecked
import GoSem.Claim
import GoSem.ClaimJoined
import GoSem.ClaimMapViews
import Derived.JoinedTies
import Derived.KernelRfl
namespace Go.Proofs.YthodkonhneebbaaGreatDoor
/- THE CELL 'sum', in the pinned program and in every row, IS THE sha256 OF THE DUMP (.gsa) THAT YthodkonhneebbaaGreatDoorProg.lean LOADS. Nothing in Lean hashes anything: it is a label: what it is worth is what the hold of that sum in a sandbox is worth. -/
noncomputable def Tryz.pinned : Pinned := { name := "ythodkonhneebbaagreatdoor", sum := "3868e2c3cf8efc0aeec1a5c4d01eb6ea787904e16b21c68ff4a2930e2db3c304", checked := Tryz.checked }
namespace Rows
def none {H : Type} : Left H := { results := [], args := [] }

/- WHAT THE LISTED PACKAGE-LEVEL VARIABLES READ AS WHEN THE CALL BEGINS. Each datum BY PROGRAM (the guide's laid-datum.mjs) off the statement by which the dump's own 'gosem.cut.vars' lays the variable. In a bare row this is a premise. The card (YthodkonhneebbaaGreatDoorCards.lean) ties it to the program's text. -/
def laid_errors_errorType {H : Type} : DataW H := .iface "internal/reflectlite.rtype" (.agg [.ptr (.lit (.string [101, 114, 114, 111, 114]))])
def laid_herdsman_pack_errEnd {H : Type} : DataW H := .iface "*errors.errorString" (.ptr (.agg [.lit (.string [116, 104, 101, 32, 98, 121, 116, 101, 115, 32, 101, 110, 100])]))
def laid_herdsman_pack_errForm {H : Type} : DataW H := .iface "*errors.errorString" (.ptr (.agg [.lit (.string [110, 111, 98, 111, 100, 121, 32, 119, 114, 105, 116, 101, 115, 32, 115, 111])]))
def laid_herdsman_nav_errNoMap {H : Type} : DataW H := .iface "*errors.errorString" (.ptr (.agg [.lit (.string [116, 104, 101, 114, 101, 32, 105, 115, 32, 110, 111, 32, 109, 97, 112])]))
def laid_herdsman_nav_errBounds {H : Type} : DataW H := .iface "*errors.errorString" (.ptr (.agg [.lit (.string [116, 104, 101, 114, 101, 32, 105, 115, 32, 110, 111, 32, 115, 117, 99, 104, 32, 99, 101, 108, 108, 32, 111, 114, 32, 115, 101, 99, 116, 111, 114])]))
def laid_herdsman_nav_errField {H : Type} : DataW H := .iface "*errors.errorString" (.ptr (.agg [.lit (.string [116, 104, 101, 114, 101, 32, 105, 115, 32, 110, 111, 32, 115, 117, 99, 104, 32, 102, 105, 101, 108, 100])]))
def laid_herdsman_svc_errScript {H : Type} : DataW H := .iface "*errors.errorString" (.ptr (.agg [.lit (.string [110, 111, 98, 111, 100, 121, 32, 119, 114, 105, 116, 101, 115, 32, 115, 111])]))

/-- 'herdsmantop.TopDistances': WHATEVER THE INPUT: true; the input reads as it did. -/
def topDistancesSpec : ChangeSpec := { name := "topDistances", fn := fun _ => fun
  | [d1, d2, d3, d4, d5, d6, d7] => { results := [.lit (.bool true)], args := [d1, d2, d3, d4, d5, d6, d7] }
  | _ => none }
def topDistancesRow : OpenClaim := { program := "ythodkonhneebbaagreatdoor", sum := "3868e2c3cf8efc0aeec1a5c4d01eb6ea787904e16b21c68ff4a2930e2db3c304", func := "herdsman/herdsmantop.TopDistances", spec := "topDistances", inPlace := ["internal/bytealg.MakeNoZero", "internal/reflectlite.TypeOf", "internal/reflectlite.ValueOf", "(internal/reflectlite.Value).Type", "(internal/reflectlite.Value).IsNil", "(internal/reflectlite.Value).Elem", "(internal/reflectlite.Value).Set"], unfollowed := true, recurses := true, named := ["herdsman/svc.errScript", "herdsman/pack.errForm", "herdsman/pack.errEnd", "errors.errorType", "herdsman/nav.errNoMap", "herdsman/nav.errBounds", "herdsman/nav.errField"], plainKeys := false, apart := false, laid := [("errors.errorType", laid_errors_errorType), ("herdsman/pack.errEnd", laid_herdsman_pack_errEnd), ("herdsman/pack.errForm", laid_herdsman_pack_errForm), ("herdsman/nav.errNoMap", laid_herdsman_nav_errNoMap), ("herdsman/nav.errBounds", laid_herdsman_nav_errBounds), ("herdsman/nav.errField", laid_herdsman_nav_errField), ("herdsman/svc.errScript", laid_herdsman_svc_errScript)] }
def TopDistancesSaid : Prop := topDistancesRow.holds Tryz.pinned (OpenSpec.ofChange topDistancesSpec)

/-- ITS FALSE NEIGHBOUR: 'it returns false'. Refute it at one input. -/
def topDistancesWrong : ChangeSpec := { name := "topDistances", fn := fun _ => fun
  | [d1, d2, d3, d4, d5, d6, d7] => { results := [.lit (.bool false)], args := [d1, d2, d3, d4, d5, d6, d7] }
  | _ => none }
def TopDistancesWrongFalsely : Prop := topDistancesRow.holds Tryz.pinned (OpenSpec.ofChange topDistancesWrong)

/-- 'herdsmantop.TopWays': WHATEVER THE INPUT: true; the input reads as it did. -/
def topWaysSpec : ChangeSpec := { name := "topWays", fn := fun _ => fun
  | [d1, d2, d3, d4, d5, d6] => { results := [.lit (.bool true)], args := [d1, d2, d3, d4, d5, d6] }
  | _ => none }
def topWaysRow : OpenClaim := { program := "ythodkonhneebbaagreatdoor", sum := "3868e2c3cf8efc0aeec1a5c4d01eb6ea787904e16b21c68ff4a2930e2db3c304", func := "herdsman/herdsmantop.TopWays", spec := "topWays", inPlace := ["internal/bytealg.MakeNoZero", "internal/reflectlite.TypeOf", "internal/reflectlite.ValueOf", "(internal/reflectlite.Value).Type", "(internal/reflectlite.Value).IsNil", "(internal/reflectlite.Value).Elem", "(internal/reflectlite.Value).Set"], unfollowed := true, recurses := true, named := ["herdsman/svc.errScript", "herdsman/pack.errForm", "herdsman/pack.errEnd", "errors.errorType", "herdsman/nav.errNoMap", "herdsman/nav.errBounds", "herdsman/nav.errField"], plainKeys := false, apart := false, laid := [("errors.errorType", laid_errors_errorType), ("herdsman/pack.errEnd", laid_herdsman_pack_errEnd), ("herdsman/pack.errForm", laid_herdsman_pack_errForm), ("herdsman/nav.errNoMap", laid_herdsman_nav_errNoMap), ("herdsman/nav.errBounds", laid_herdsman_nav_errBounds), ("herdsman/nav.errField", laid_herdsman_nav_errField), ("herdsman/svc.errScript", laid_herdsman_svc_errScript)] }
def TopWaysSaid : Prop := topWaysRow.holds Tryz.pinned (OpenSpec.ofChange topWaysSpec)

/-- ITS FALSE NEIGHBOUR: 'it returns false'. Refute it at one input. -/
def topWaysWrong : ChangeSpec := { name := "topWays", fn := fun _ => fun
  | [d1, d2, d3, d4, d5, d6] => { results := [.lit (.bool false)], args := [d1, d2, d3, d4, d5, d6] }
  | _ => none }
def TopWaysWrongFalsely : Prop := topWaysRow.holds Tryz.pinned (OpenSpec.ofChange topWaysWrong)

/-- 'herdsmantop.TopDirty': WHATEVER THE INPUT: true; the input reads as it did. -/
def topDirtySpec : ChangeSpec := { name := "topDirty", fn := fun _ => fun
  | [d1, d2, d3, d4] => { results := [.lit (.bool true)], args := [d1, d2, d3, d4] }
  | _ => none }
def topDirtyRow : OpenClaim := { program := "ythodkonhneebbaagreatdoor", sum := "3868e2c3cf8efc0aeec1a5c4d01eb6ea787904e16b21c68ff4a2930e2db3c304", func := "herdsman/herdsmantop.TopDirty", spec := "topDirty", inPlace := ["internal/bytealg.MakeNoZero", "internal/reflectlite.TypeOf", "internal/reflectlite.ValueOf", "(internal/reflectlite.Value).Type", "(internal/reflectlite.Value).IsNil", "(internal/reflectlite.Value).Elem", "(internal/reflectlite.Value).Set"], unfollowed := true, recurses := true, named := ["herdsman/svc.errScript", "herdsman/pack.errForm", "herdsman/pack.errEnd", "errors.errorType", "herdsman/nav.errNoMap", "herdsman/nav.errBounds", "herdsman/nav.errField"], plainKeys := false, apart := false, laid := [("errors.errorType", laid_errors_errorType), ("herdsman/pack.errEnd", laid_herdsman_pack_errEnd), ("herdsman/pack.errForm", laid_herdsman_pack_errForm), ("herdsman/nav.errNoMap", laid_herdsman_nav_errNoMap), ("herdsman/nav.errBounds", laid_herdsman_nav_errBounds), ("herdsman/nav.errField", laid_herdsman_nav_errField), ("herdsman/svc.errScript", laid_herdsman_svc_errScript)] }
def TopDirtySaid : Prop := topDirtyRow.holds Tryz.pinned (OpenSpec.ofChange topDirtySpec)

/-- ITS FALSE NEIGHBOUR: 'it returns false'. Refute it at one input. -/
def topDirtyWrong : ChangeSpec := { name := "topDirty", fn := fun _ => fun
  | [d1, d2, d3, d4] => { results := [.lit (.bool false)], args := [d1, d2, d3, d4] }
  | _ => none }
def TopDirtyWrongFalsely : Prop := topDirtyRow.holds Tryz.pinned (OpenSpec.ofChange topDirtyWrong)

/-- 'herdsmantop.TopFewest': WHATEVER THE INPUT: true; the input reads as it did. -/
def topFewestSpec : ChangeSpec := { name := "topFewest", fn := fun _ => fun
  | [d1, d2, d3, d4] => { results := [.lit (.bool true)], args := [d1, d2, d3, d4] }
  | _ => none }
def topFewestRow : OpenClaim := { program := "ythodkonhneebbaagreatdoor", sum := "3868e2c3cf8efc0aeec1a5c4d01eb6ea787904e16b21c68ff4a2930e2db3c304", func := "herdsman/herdsmantop.TopFewest", spec := "topFewest", inPlace := ["internal/bytealg.MakeNoZero", "internal/reflectlite.TypeOf", "internal/reflectlite.ValueOf", "(internal/reflectlite.Value).Type", "(internal/reflectlite.Value).IsNil", "(internal/reflectlite.Value).Elem", "(internal/reflectlite.Value).Set"], unfollowed := true, recurses := true, named := ["herdsman/svc.errScript", "herdsman/pack.errForm", "herdsman/pack.errEnd", "errors.errorType", "herdsman/nav.errNoMap", "herdsman/nav.errBounds", "herdsman/nav.errField"], plainKeys := false, apart := false, laid := [("errors.errorType", laid_errors_errorType), ("herdsman/pack.errEnd", laid_herdsman_pack_errEnd), ("herdsman/pack.errForm", laid_herdsman_pack_errForm), ("herdsman/nav.errNoMap", laid_herdsman_nav_errNoMap), ("herdsman/nav.errBounds", laid_herdsman_nav_errBounds), ("herdsman/nav.errField", laid_herdsman_nav_errField), ("herdsman/svc.errScript", laid_herdsman_svc_errScript)] }
def TopFewestSaid : Prop := topFewestRow.holds Tryz.pinned (OpenSpec.ofChange topFewestSpec)

/-- ITS FALSE NEIGHBOUR: 'it returns false'. Refute it at one input. -/
def topFewestWrong : ChangeSpec := { name := "topFewest", fn := fun _ => fun
  | [d1, d2, d3, d4] => { results := [.lit (.bool false)], args := [d1, d2, d3, d4] }
  | _ => none }
def TopFewestWrongFalsely : Prop := topFewestRow.holds Tryz.pinned (OpenSpec.ofChange topFewestWrong)

/-- 'herdsmantop.TopFloor': WHATEVER THE INPUT: true; the input reads as it did. -/
def topFloorSpec : ChangeSpec := { name := "topFloor", fn := fun _ => fun
  | [d1, d2, d3, d4, d5] => { results := [.lit (.bool true)], args := [d1, d2, d3, d4, d5] }
  | _ => none }
def topFloorRow : OpenClaim := { program := "ythodkonhneebbaagreatdoor", sum := "3868e2c3cf8efc0aeec1a5c4d01eb6ea787904e16b21c68ff4a2930e2db3c304", func := "herdsman/herdsmantop.TopFloor", spec := "topFloor", inPlace := ["internal/bytealg.MakeNoZero", "internal/reflectlite.TypeOf", "internal/reflectlite.ValueOf", "(internal/reflectlite.Value).Type", "(internal/reflectlite.Value).IsNil", "(internal/reflectlite.Value).Elem", "(internal/reflectlite.Value).Set"], unfollowed := true, recurses := true, named := ["herdsman/svc.errScript", "herdsman/pack.errForm", "herdsman/pack.errEnd", "errors.errorType", "herdsman/nav.errNoMap", "herdsman/nav.errBounds", "herdsman/nav.errField"], plainKeys := false, apart := false, laid := [("errors.errorType", laid_errors_errorType), ("herdsman/pack.errEnd", laid_herdsman_pack_errEnd), ("herdsman/pack.errForm", laid_herdsman_pack_errForm), ("herdsman/nav.errNoMap", laid_herdsman_nav_errNoMap), ("herdsman/nav.errBounds", laid_herdsman_nav_errBounds), ("herdsman/nav.errField", laid_herdsman_nav_errField), ("herdsman/svc.errScript", laid_herdsman_svc_errScript)] }
def TopFloorSaid : Prop := topFloorRow.holds Tryz.pinned (OpenSpec.ofChange topFloorSpec)

/-- ITS FALSE NEIGHBOUR: 'it returns false'. Refute it at one input. -/
def topFloorWrong : ChangeSpec := { name := "topFloor", fn := fun _ => fun
  | [d1, d2, d3, d4, d5] => { results := [.lit (.bool false)], args := [d1, d2, d3, d4, d5] }
  | _ => none }
def TopFloorWrongFalsely : Prop := topFloorRow.holds Tryz.pinned (OpenSpec.ofChange topFloorWrong)

/-- 'herdsmantop.TopSeen': WHATEVER THE INPUT: true; the input reads as it did. -/
def topSeenSpec : ChangeSpec := { name := "topSeen", fn := fun _ => fun
  | [d1, d2, d3, d4, d5, d6, d7] => { results := [.lit (.bool true)], args := [d1, d2, d3, d4, d5, d6, d7] }
  | _ => none }
def topSeenRow : OpenClaim := { program := "ythodkonhneebbaagreatdoor", sum := "3868e2c3cf8efc0aeec1a5c4d01eb6ea787904e16b21c68ff4a2930e2db3c304", func := "herdsman/herdsmantop.TopSeen", spec := "topSeen", inPlace := ["internal/bytealg.MakeNoZero", "internal/reflectlite.TypeOf", "internal/reflectlite.ValueOf", "(internal/reflectlite.Value).Type", "(internal/reflectlite.Value).IsNil", "(internal/reflectlite.Value).Elem", "(internal/reflectlite.Value).Set"], unfollowed := true, recurses := true, named := ["herdsman/svc.errScript", "herdsman/pack.errForm", "herdsman/pack.errEnd", "errors.errorType", "herdsman/nav.errNoMap", "herdsman/nav.errBounds", "herdsman/nav.errField"], plainKeys := false, apart := false, laid := [("errors.errorType", laid_errors_errorType), ("herdsman/pack.errEnd", laid_herdsman_pack_errEnd), ("herdsman/pack.errForm", laid_herdsman_pack_errForm), ("herdsman/nav.errNoMap", laid_herdsman_nav_errNoMap), ("herdsman/nav.errBounds", laid_herdsman_nav_errBounds), ("herdsman/nav.errField", laid_herdsman_nav_errField), ("herdsman/svc.errScript", laid_herdsman_svc_errScript)] }
def TopSeenSaid : Prop := topSeenRow.holds Tryz.pinned (OpenSpec.ofChange topSeenSpec)

/-- ITS FALSE NEIGHBOUR: 'it returns false'. Refute it at one input. -/
def topSeenWrong : ChangeSpec := { name := "topSeen", fn := fun _ => fun
  | [d1, d2, d3, d4, d5, d6, d7] => { results := [.lit (.bool false)], args := [d1, d2, d3, d4, d5, d6, d7] }
  | _ => none }
def TopSeenWrongFalsely : Prop := topSeenRow.holds Tryz.pinned (OpenSpec.ofChange topSeenWrong)

/-- 'herdsmantop.TopServed': WHATEVER THE INPUT: true; the input reads as it did. -/
def topServedSpec : ChangeSpec := { name := "topServed", fn := fun _ => fun
  | [d1, d2, d3, d4, d5, d6, d7] => { results := [.lit (.bool true)], args := [d1, d2, d3, d4, d5, d6, d7] }
  | _ => none }
def topServedRow : OpenClaim := { program := "ythodkonhneebbaagreatdoor", sum := "3868e2c3cf8efc0aeec1a5c4d01eb6ea787904e16b21c68ff4a2930e2db3c304", func := "herdsman/herdsmantop.TopServed", spec := "topServed", inPlace := ["internal/bytealg.MakeNoZero", "internal/reflectlite.TypeOf", "internal/reflectlite.ValueOf", "(internal/reflectlite.Value).Type", "(internal/reflectlite.Value).IsNil", "(internal/reflectlite.Value).Elem", "(internal/reflectlite.Value).Set"], unfollowed := true, recurses := true, named := ["herdsman/svc.errScript", "herdsman/pack.errForm", "herdsman/pack.errEnd", "errors.errorType", "herdsman/nav.errNoMap", "herdsman/nav.errBounds", "herdsman/nav.errField"], plainKeys := false, apart := false, laid := [("errors.errorType", laid_errors_errorType), ("herdsman/pack.errEnd", laid_herdsman_pack_errEnd), ("herdsman/pack.errForm", laid_herdsman_pack_errForm), ("herdsman/nav.errNoMap", laid_herdsman_nav_errNoMap), ("herdsman/nav.errBounds", laid_herdsman_nav_errBounds), ("herdsman/nav.errField", laid_herdsman_nav_errField), ("herdsman/svc.errScript", laid_herdsman_svc_errScript)] }
def TopServedSaid : Prop := topServedRow.holds Tryz.pinned (OpenSpec.ofChange topServedSpec)

/-- ITS FALSE NEIGHBOUR: 'it returns false'. Refute it at one input. -/
def topServedWrong : ChangeSpec := { name := "topServed", fn := fun _ => fun
  | [d1, d2, d3, d4, d5, d6, d7] => { results := [.lit (.bool false)], args := [d1, d2, d3, d4, d5, d6, d7] }
  | _ => none }
def TopServedWrongFalsely : Prop := topServedRow.holds Tryz.pinned (OpenSpec.ofChange topServedWrong)

/-- 'herdsmantop.TopKept': WHATEVER THE INPUT: true; the input reads as it did. -/
def topKeptSpec : ChangeSpec := { name := "topKept", fn := fun _ => fun
  | [d1, d2, d3, d4, d5] => { results := [.lit (.bool true)], args := [d1, d2, d3, d4, d5] }
  | _ => none }
def topKeptRow : OpenClaim := { program := "ythodkonhneebbaagreatdoor", sum := "3868e2c3cf8efc0aeec1a5c4d01eb6ea787904e16b21c68ff4a2930e2db3c304", func := "herdsman/herdsmantop.TopKept", spec := "topKept", inPlace := ["internal/bytealg.MakeNoZero", "internal/reflectlite.TypeOf", "internal/reflectlite.ValueOf", "(internal/reflectlite.Value).Type", "(internal/reflectlite.Value).IsNil", "(internal/reflectlite.Value).Elem", "(internal/reflectlite.Value).Set"], unfollowed := true, recurses := true, named := ["herdsman/svc.errScript", "herdsman/pack.errForm", "herdsman/pack.errEnd", "errors.errorType", "herdsman/nav.errNoMap", "herdsman/nav.errBounds", "herdsman/nav.errField"], plainKeys := false, apart := false, laid := [("errors.errorType", laid_errors_errorType), ("herdsman/pack.errEnd", laid_herdsman_pack_errEnd), ("herdsman/pack.errForm", laid_herdsman_pack_errForm), ("herdsman/nav.errNoMap", laid_herdsman_nav_errNoMap), ("herdsman/nav.errBounds", laid_herdsman_nav_errBounds), ("herdsman/nav.errField", laid_herdsman_nav_errField), ("herdsman/svc.errScript", laid_herdsman_svc_errScript)] }
def TopKeptSaid : Prop := topKeptRow.holds Tryz.pinned (OpenSpec.ofChange topKeptSpec)

/-- ITS FALSE NEIGHBOUR: 'it returns false'. Refute it at one input. -/
def topKeptWrong : ChangeSpec := { name := "topKept", fn := fun _ => fun
  | [d1, d2, d3, d4, d5] => { results := [.lit (.bool false)], args := [d1, d2, d3, d4, d5] }
  | _ => none }
def TopKeptWrongFalsely : Prop := topKeptRow.holds Tryz.pinned (OpenSpec.ofChange topKeptWrong)

/- THE SECOND FORM. 'bulk': how many values and letters a reading holds, each counted each time it is reached (what is shared counts as often as it is met; a slice's spare places count too). A statement '..UptoSaid' is the law's where the arguments, and the package variables that the reading takes, are together of bulk at most 1048576: NARROWER than '..Said'. Prove '..Said' where nothing that the law and all that it calls make is longer than what came in: it says more and counts as full. Else prove '..UptoSaid'. A law counts once. -/
mutual
def uptoBulk {H : Type} : DataW H → Nat
  | .lit (.string bytes) => bytes.length + 1
  | .lit _ => 1
  | .nil => 1
  | .ptr d => uptoBulk d + 1
  | .slice elems spare => uptoBulkAll elems + uptoBulkAll spare + 1
  | .agg parts => uptoBulkAll parts + 1
  | .iface _ d => uptoBulk d + 1
  | .map entries => uptoBulkEntries entries + 1
  | .held _ => 1
def uptoBulkAll {H : Type} : List (DataW H) → Nat
  | [] => 0
  | d :: r => uptoBulk d + uptoBulkAll r
def uptoBulkEntries {H : Type} : List (Lit × DataW H) → Nat
  | [] => 0
  | x :: r => uptoBulkEntry x + uptoBulkEntries r
def uptoBulkEntry {H : Type} : Lit × DataW H → Nat
  | (.string bytes, d) => bytes.length + uptoBulk d + 1
  | (_, d) => uptoBulk d + 1
 end
def uptoSmall : (H : Type) → List (DataW H) → Bool := fun _ ds => decide (uptoBulkAll ds ≤ 1048576)
def OpenSpec.upto (s : _root_.Go.ChangeSpec) : _root_.Go.OpenSpec := { _root_.Go.OpenSpec.ofChange s with cond := some uptoSmall }

/-- 'herdsmantop.TopDistances', WHERE WHAT IT READS IS OF BULK AT MOST 1048576: true; the input reads as it did. -/
def topDistancesUptoRow : OpenClaim := { program := "ythodkonhneebbaagreatdoor", sum := "3868e2c3cf8efc0aeec1a5c4d01eb6ea787904e16b21c68ff4a2930e2db3c304", func := "herdsman/herdsmantop.TopDistances", spec := "topDistances", inPlace := ["internal/bytealg.MakeNoZero", "internal/reflectlite.TypeOf", "internal/reflectlite.ValueOf", "(internal/reflectlite.Value).Type", "(internal/reflectlite.Value).IsNil", "(internal/reflectlite.Value).Elem", "(internal/reflectlite.Value).Set"], unfollowed := true, recurses := true, named := ["herdsman/svc.errScript", "herdsman/pack.errForm", "herdsman/pack.errEnd", "errors.errorType", "herdsman/nav.errNoMap", "herdsman/nav.errBounds", "herdsman/nav.errField"], plainKeys := false, apart := false, laid := [("errors.errorType", laid_errors_errorType), ("herdsman/pack.errEnd", laid_herdsman_pack_errEnd), ("herdsman/pack.errForm", laid_herdsman_pack_errForm), ("herdsman/nav.errNoMap", laid_herdsman_nav_errNoMap), ("herdsman/nav.errBounds", laid_herdsman_nav_errBounds), ("herdsman/nav.errField", laid_herdsman_nav_errField), ("herdsman/svc.errScript", laid_herdsman_svc_errScript)], narrowed := true }
def TopDistancesUptoSaid : Prop := topDistancesUptoRow.holds Tryz.pinned (OpenSpec.upto topDistancesSpec)

/-- 'herdsmantop.TopWays', WHERE WHAT IT READS IS OF BULK AT MOST 1048576: true; the input reads as it did. -/
def topWaysUptoRow : OpenClaim := { program := "ythodkonhneebbaagreatdoor", sum := "3868e2c3cf8efc0aeec1a5c4d01eb6ea787904e16b21c68ff4a2930e2db3c304", func := "herdsman/herdsmantop.TopWays", spec := "topWays", inPlace := ["internal/bytealg.MakeNoZero", "internal/reflectlite.TypeOf", "internal/reflectlite.ValueOf", "(internal/reflectlite.Value).Type", "(internal/reflectlite.Value).IsNil", "(internal/reflectlite.Value).Elem", "(internal/reflectlite.Value).Set"], unfollowed := true, recurses := true, named := ["herdsman/svc.errScript", "herdsman/pack.errForm", "herdsman/pack.errEnd", "errors.errorType", "herdsman/nav.errNoMap", "herdsman/nav.errBounds", "herdsman/nav.errField"], plainKeys := false, apart := false, laid := [("errors.errorType", laid_errors_errorType), ("herdsman/pack.errEnd", laid_herdsman_pack_errEnd), ("herdsman/pack.errForm", laid_herdsman_pack_errForm), ("herdsman/nav.errNoMap", laid_herdsman_nav_errNoMap), ("herdsman/nav.errBounds", laid_herdsman_nav_errBounds), ("herdsman/nav.errField", laid_herdsman_nav_errField), ("herdsman/svc.errScript", laid_herdsman_svc_errScript)], narrowed := true }
def TopWaysUptoSaid : Prop := topWaysUptoRow.holds Tryz.pinned (OpenSpec.upto topWaysSpec)

/-- 'herdsmantop.TopDirty', WHERE WHAT IT READS IS OF BULK AT MOST 1048576: true; the input reads as it did. -/
def topDirtyUptoRow : OpenClaim := { program := "ythodkonhneebbaagreatdoor", sum := "3868e2c3cf8efc0aeec1a5c4d01eb6ea787904e16b21c68ff4a2930e2db3c304", func := "herdsman/herdsmantop.TopDirty", spec := "topDirty", inPlace := ["internal/bytealg.MakeNoZero", "internal/reflectlite.TypeOf", "internal/reflectlite.ValueOf", "(internal/reflectlite.Value).Type", "(internal/reflectlite.Value).IsNil", "(internal/reflectlite.Value).Elem", "(internal/reflectlite.Value).Set"], unfollowed := true, recurses := true, named := ["herdsman/svc.errScript", "herdsman/pack.errForm", "herdsman/pack.errEnd", "errors.errorType", "herdsman/nav.errNoMap", "herdsman/nav.errBounds", "herdsman/nav.errField"], plainKeys := false, apart := false, laid := [("errors.errorType", laid_errors_errorType), ("herdsman/pack.errEnd", laid_herdsman_pack_errEnd), ("herdsman/pack.errForm", laid_herdsman_pack_errForm), ("herdsman/nav.errNoMap", laid_herdsman_nav_errNoMap), ("herdsman/nav.errBounds", laid_herdsman_nav_errBounds), ("herdsman/nav.errField", laid_herdsman_nav_errField), ("herdsman/svc.errScript", laid_herdsman_svc_errScript)], narrowed := true }
def TopDirtyUptoSaid : Prop := topDirtyUptoRow.holds Tryz.pinned (OpenSpec.upto topDirtySpec)

/-- 'herdsmantop.TopFewest', WHERE WHAT IT READS IS OF BULK AT MOST 1048576: true; the input reads as it did. -/
def topFewestUptoRow : OpenClaim := { program := "ythodkonhneebbaagreatdoor", sum := "3868e2c3cf8efc0aeec1a5c4d01eb6ea787904e16b21c68ff4a2930e2db3c304", func := "herdsman/herdsmantop.TopFewest", spec := "topFewest", inPlace := ["internal/bytealg.MakeNoZero", "internal/reflectlite.TypeOf", "internal/reflectlite.ValueOf", "(internal/reflectlite.Value).Type", "(internal/reflectlite.Value).IsNil", "(internal/reflectlite.Value).Elem", "(internal/reflectlite.Value).Set"], unfollowed := true, recurses := true, named := ["herdsman/svc.errScript", "herdsman/pack.errForm", "herdsman/pack.errEnd", "errors.errorType", "herdsman/nav.errNoMap", "herdsman/nav.errBounds", "herdsman/nav.errField"], plainKeys := false, apart := false, laid := [("errors.errorType", laid_errors_errorType), ("herdsman/pack.errEnd", laid_herdsman_pack_errEnd), ("herdsman/pack.errForm", laid_herdsman_pack_errForm), ("herdsman/nav.errNoMap", laid_herdsman_nav_errNoMap), ("herdsman/nav.errBounds", laid_herdsman_nav_errBounds), ("herdsman/nav.errField", laid_herdsman_nav_errField), ("herdsman/svc.errScript", laid_herdsman_svc_errScript)], narrowed := true }
def TopFewestUptoSaid : Prop := topFewestUptoRow.holds Tryz.pinned (OpenSpec.upto topFewestSpec)

/-- 'herdsmantop.TopFloor', WHERE WHAT IT READS IS OF BULK AT MOST 1048576: true; the input reads as it did. -/
def topFloorUptoRow : OpenClaim := { program := "ythodkonhneebbaagreatdoor", sum := "3868e2c3cf8efc0aeec1a5c4d01eb6ea787904e16b21c68ff4a2930e2db3c304", func := "herdsman/herdsmantop.TopFloor", spec := "topFloor", inPlace := ["internal/bytealg.MakeNoZero", "internal/reflectlite.TypeOf", "internal/reflectlite.ValueOf", "(internal/reflectlite.Value).Type", "(internal/reflectlite.Value).IsNil", "(internal/reflectlite.Value).Elem", "(internal/reflectlite.Value).Set"], unfollowed := true, recurses := true, named := ["herdsman/svc.errScript", "herdsman/pack.errForm", "herdsman/pack.errEnd", "errors.errorType", "herdsman/nav.errNoMap", "herdsman/nav.errBounds", "herdsman/nav.errField"], plainKeys := false, apart := false, laid := [("errors.errorType", laid_errors_errorType), ("herdsman/pack.errEnd", laid_herdsman_pack_errEnd), ("herdsman/pack.errForm", laid_herdsman_pack_errForm), ("herdsman/nav.errNoMap", laid_herdsman_nav_errNoMap), ("herdsman/nav.errBounds", laid_herdsman_nav_errBounds), ("herdsman/nav.errField", laid_herdsman_nav_errField), ("herdsman/svc.errScript", laid_herdsman_svc_errScript)], narrowed := true }
def TopFloorUptoSaid : Prop := topFloorUptoRow.holds Tryz.pinned (OpenSpec.upto topFloorSpec)

/-- 'herdsmantop.TopSeen', WHERE WHAT IT READS IS OF BULK AT MOST 1048576: true; the input reads as it did. -/
def topSeenUptoRow : OpenClaim := { program := "ythodkonhneebbaagreatdoor", sum := "3868e2c3cf8efc0aeec1a5c4d01eb6ea787904e16b21c68ff4a2930e2db3c304", func := "herdsman/herdsmantop.TopSeen", spec := "topSeen", inPlace := ["internal/bytealg.MakeNoZero", "internal/reflectlite.TypeOf", "internal/reflectlite.ValueOf", "(internal/reflectlite.Value).Type", "(internal/reflectlite.Value).IsNil", "(internal/reflectlite.Value).Elem", "(internal/reflectlite.Value).Set"], unfollowed := true, recurses := true, named := ["herdsman/svc.errScript", "herdsman/pack.errForm", "herdsman/pack.errEnd", "errors.errorType", "herdsman/nav.errNoMap", "herdsman/nav.errBounds", "herdsman/nav.errField"], plainKeys := false, apart := false, laid := [("errors.errorType", laid_errors_errorType), ("herdsman/pack.errEnd", laid_herdsman_pack_errEnd), ("herdsman/pack.errForm", laid_herdsman_pack_errForm), ("herdsman/nav.errNoMap", laid_herdsman_nav_errNoMap), ("herdsman/nav.errBounds", laid_herdsman_nav_errBounds), ("herdsman/nav.errField", laid_herdsman_nav_errField), ("herdsman/svc.errScript", laid_herdsman_svc_errScript)], narrowed := true }
def TopSeenUptoSaid : Prop := topSeenUptoRow.holds Tryz.pinned (OpenSpec.upto topSeenSpec)

/-- 'herdsmantop.TopServed', WHERE WHAT IT READS IS OF BULK AT MOST 1048576: true; the input reads as it did. -/
def topServedUptoRow : OpenClaim := { program := "ythodkonhneebbaagreatdoor", sum := "3868e2c3cf8efc0aeec1a5c4d01eb6ea787904e16b21c68ff4a2930e2db3c304", func := "herdsman/herdsmantop.TopServed", spec := "topServed", inPlace := ["internal/bytealg.MakeNoZero", "internal/reflectlite.TypeOf", "internal/reflectlite.ValueOf", "(internal/reflectlite.Value).Type", "(internal/reflectlite.Value).IsNil", "(internal/reflectlite.Value).Elem", "(internal/reflectlite.Value).Set"], unfollowed := true, recurses := true, named := ["herdsman/svc.errScript", "herdsman/pack.errForm", "herdsman/pack.errEnd", "errors.errorType", "herdsman/nav.errNoMap", "herdsman/nav.errBounds", "herdsman/nav.errField"], plainKeys := false, apart := false, laid := [("errors.errorType", laid_errors_errorType), ("herdsman/pack.errEnd", laid_herdsman_pack_errEnd), ("herdsman/pack.errForm", laid_herdsman_pack_errForm), ("herdsman/nav.errNoMap", laid_herdsman_nav_errNoMap), ("herdsman/nav.errBounds", laid_herdsman_nav_errBounds), ("herdsman/nav.errField", laid_herdsman_nav_errField), ("herdsman/svc.errScript", laid_herdsman_svc_errScript)], narrowed := true }
def TopServedUptoSaid : Prop := topServedUptoRow.holds Tryz.pinned (OpenSpec.upto topServedSpec)

/-- 'herdsmantop.TopKept', WHERE WHAT IT READS IS OF BULK AT MOST 1048576: true; the input reads as it did. -/
def topKeptUptoRow : OpenClaim := { program := "ythodkonhneebbaagreatdoor", sum := "3868e2c3cf8efc0aeec1a5c4d01eb6ea787904e16b21c68ff4a2930e2db3c304", func := "herdsman/herdsmantop.TopKept", spec := "topKept", inPlace := ["internal/bytealg.MakeNoZero", "internal/reflectlite.TypeOf", "internal/reflectlite.ValueOf", "(internal/reflectlite.Value).Type", "(internal/reflectlite.Value).IsNil", "(internal/reflectlite.Value).Elem", "(internal/reflectlite.Value).Set"], unfollowed := true, recurses := true, named := ["herdsman/svc.errScript", "herdsman/pack.errForm", "herdsman/pack.errEnd", "errors.errorType", "herdsman/nav.errNoMap", "herdsman/nav.errBounds", "herdsman/nav.errField"], plainKeys := false, apart := false, laid := [("errors.errorType", laid_errors_errorType), ("herdsman/pack.errEnd", laid_herdsman_pack_errEnd), ("herdsman/pack.errForm", laid_herdsman_pack_errForm), ("herdsman/nav.errNoMap", laid_herdsman_nav_errNoMap), ("herdsman/nav.errBounds", laid_herdsman_nav_errBounds), ("herdsman/nav.errField", laid_herdsman_nav_errField), ("herdsman/svc.errScript", laid_herdsman_svc_errScript)], narrowed := true }
def TopKeptUptoSaid : Prop := topKeptUptoRow.holds Tryz.pinned (OpenSpec.upto topKeptSpec)

end Rows
end Go.Proofs.YthodkonhneebbaaGreatDoor
