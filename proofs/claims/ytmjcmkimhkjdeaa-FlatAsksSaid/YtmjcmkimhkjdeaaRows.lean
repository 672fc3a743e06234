/-
  No cell of these rows narrows 'for every input' (looked for: loops, veiled, ifaces, maps, wideKeys, modest, calm, conditions, laid).
  DERIVED. THE GIVEN ROWS OF THIS SEAT. 11 by the template 'for every input the law returns true; each argument reads behind the call as it read before'; 0 by the template 'total and deterministic' (their statements: YtmjcmkimhkjdeaaTotals.lean).
  GIVEN WITH THE SEED: the statements are not yours to turn. If you find one false, say at which input.
  Laid BY PROGRAM, IN A SANDBOX (cutbox-rows.mjs): the forced cells as the released guide's own fill.sh prints them over the translation 7f9833c9f17f3f0e… (all of the seat's roots in one cut). By AI agents, Wed Nov 11 2026. No macro, syntax, notation, axiom, sorry.
-/
import Derived.Test.YtmjcmkimhkjdeaaChecked
import GoSem.Claim
import GoSem.ClaimJoined
import GoSem.ClaimMapViews
import Derived.JoinedTies
import Derived.KernelRfl
namespace Go.Proofs.Ytmjcmkimhkjdeaa
/- THE CELL 'sum', in the pinned program and in every row, IS THE sha256 OF THE DUMP (.gsa) THAT YtmjcmkimhkjdeaaProg.lean LOADS. Nothing in Lean hashes anything: it is a label: what it is worth is what the hold of that sum in a sandbox is worth. -/
noncomputable def Try.pinned : Pinned := { name := "ytmjcmkimhkjdeaa", sum := "7f9833c9f17f3f0e1f00b074e6d2247d51cc3ee994f72dc251687e9b3068a355", checked := Try.checked }
namespace Rows
def none {H : Type} : Left H := { results := [], args := [] }

/-- 'herdsmanlaw5.GridVersions': WHATEVER THE INPUT: true; the input reads as it did. -/
def gridVersionsSpec : ChangeSpec := { name := "gridVersions", fn := fun _ => fun
  | [d1, d2, d3, d4] => { results := [.lit (.bool true)], args := [d1, d2, d3, d4] }
  | _ => none }
def gridVersionsRow : OpenClaim := { program := "ytmjcmkimhkjdeaa", sum := "7f9833c9f17f3f0e1f00b074e6d2247d51cc3ee994f72dc251687e9b3068a355", func := "herdsman/herdsmanlaw5.GridVersions", spec := "gridVersions", apart := false }
def GridVersionsSaid : Prop := gridVersionsRow.holds Try.pinned (OpenSpec.ofChange gridVersionsSpec)

/-- ITS FALSE NEIGHBOUR: 'it returns false'. Refute it at one input. -/
def gridVersionsWrong : ChangeSpec := { name := "gridVersions", fn := fun _ => fun
  | [d1, d2, d3, d4] => { results := [.lit (.bool false)], args := [d1, d2, d3, d4] }
  | _ => none }
def GridVersionsWrongFalsely : Prop := gridVersionsRow.holds Try.pinned (OpenSpec.ofChange gridVersionsWrong)

/-- 'herdsmanlaw5.GridRaw': WHATEVER THE INPUT: true; the input reads as it did. -/
def gridRawSpec : ChangeSpec := { name := "gridRaw", fn := fun _ => fun
  | [d1, d2, d3] => { results := [.lit (.bool true)], args := [d1, d2, d3] }
  | _ => none }
def gridRawRow : OpenClaim := { program := "ytmjcmkimhkjdeaa", sum := "7f9833c9f17f3f0e1f00b074e6d2247d51cc3ee994f72dc251687e9b3068a355", func := "herdsman/herdsmanlaw5.GridRaw", spec := "gridRaw", apart := false }
def GridRawSaid : Prop := gridRawRow.holds Try.pinned (OpenSpec.ofChange gridRawSpec)

/-- ITS FALSE NEIGHBOUR: 'it returns false'. Refute it at one input. -/
def gridRawWrong : ChangeSpec := { name := "gridRaw", fn := fun _ => fun
  | [d1, d2, d3] => { results := [.lit (.bool false)], args := [d1, d2, d3] }
  | _ => none }
def GridRawWrongFalsely : Prop := gridRawRow.holds Try.pinned (OpenSpec.ofChange gridRawWrong)

/-- 'herdsmanlaw5.GridPlays': WHATEVER THE INPUT: true; the input reads as it did. -/
def gridPlaysSpec : ChangeSpec := { name := "gridPlays", fn := fun _ => fun
  | [d1, d2, d3, d4, d5, d6] => { results := [.lit (.bool true)], args := [d1, d2, d3, d4, d5, d6] }
  | _ => none }
def gridPlaysRow : OpenClaim := { program := "ytmjcmkimhkjdeaa", sum := "7f9833c9f17f3f0e1f00b074e6d2247d51cc3ee994f72dc251687e9b3068a355", func := "herdsman/herdsmanlaw5.GridPlays", spec := "gridPlays", apart := false }
def GridPlaysSaid : Prop := gridPlaysRow.holds Try.pinned (OpenSpec.ofChange gridPlaysSpec)

/-- ITS FALSE NEIGHBOUR: 'it returns false'. Refute it at one input. -/
def gridPlaysWrong : ChangeSpec := { name := "gridPlays", fn := fun _ => fun
  | [d1, d2, d3, d4, d5, d6] => { results := [.lit (.bool false)], args := [d1, d2, d3, d4, d5, d6] }
  | _ => none }
def GridPlaysWrongFalsely : Prop := gridPlaysRow.holds Try.pinned (OpenSpec.ofChange gridPlaysWrong)

/-- 'herdsmanlaw5.GridKeeps': WHATEVER THE INPUT: true; the input reads as it did. -/
def gridKeepsSpec : ChangeSpec := { name := "gridKeeps", fn := fun _ => fun
  | [d1, d2, d3, d4, d5] => { results := [.lit (.bool true)], args := [d1, d2, d3, d4, d5] }
  | _ => none }
def gridKeepsRow : OpenClaim := { program := "ytmjcmkimhkjdeaa", sum := "7f9833c9f17f3f0e1f00b074e6d2247d51cc3ee994f72dc251687e9b3068a355", func := "herdsman/herdsmanlaw5.GridKeeps", spec := "gridKeeps", apart := false }
def GridKeepsSaid : Prop := gridKeepsRow.holds Try.pinned (OpenSpec.ofChange gridKeepsSpec)

/-- ITS FALSE NEIGHBOUR: 'it returns false'. Refute it at one input. -/
def gridKeepsWrong : ChangeSpec := { name := "gridKeeps", fn := fun _ => fun
  | [d1, d2, d3, d4, d5] => { results := [.lit (.bool false)], args := [d1, d2, d3, d4, d5] }
  | _ => none }
def GridKeepsWrongFalsely : Prop := gridKeepsRow.holds Try.pinned (OpenSpec.ofChange gridKeepsWrong)

/-- 'herdsmanlaw5.GridNone': WHATEVER THE INPUT: true; the input reads as it did. -/
def gridNoneSpec : ChangeSpec := { name := "gridNone", fn := fun _ => fun
  | [d1, d2, d3] => { results := [.lit (.bool true)], args := [d1, d2, d3] }
  | _ => none }
def gridNoneRow : OpenClaim := { program := "ytmjcmkimhkjdeaa", sum := "7f9833c9f17f3f0e1f00b074e6d2247d51cc3ee994f72dc251687e9b3068a355", func := "herdsman/herdsmanlaw5.GridNone", spec := "gridNone", apart := false }
def GridNoneSaid : Prop := gridNoneRow.holds Try.pinned (OpenSpec.ofChange gridNoneSpec)

/-- ITS FALSE NEIGHBOUR: 'it returns false'. Refute it at one input. -/
def gridNoneWrong : ChangeSpec := { name := "gridNone", fn := fun _ => fun
  | [d1, d2, d3] => { results := [.lit (.bool false)], args := [d1, d2, d3] }
  | _ => none }
def GridNoneWrongFalsely : Prop := gridNoneRow.holds Try.pinned (OpenSpec.ofChange gridNoneWrong)

/-- 'herdsmanlaw17.FlatFixed': WHATEVER THE INPUT: true; the input reads as it did. -/
def flatFixedSpec : ChangeSpec := { name := "flatFixed", fn := fun _ => fun
  | [d1, d2, d3, d4] => { results := [.lit (.bool true)], args := [d1, d2, d3, d4] }
  | _ => none }
def flatFixedRow : OpenClaim := { program := "ytmjcmkimhkjdeaa", sum := "7f9833c9f17f3f0e1f00b074e6d2247d51cc3ee994f72dc251687e9b3068a355", func := "herdsman/herdsmanlaw17.FlatFixed", spec := "flatFixed", apart := false }
def FlatFixedSaid : Prop := flatFixedRow.holds Try.pinned (OpenSpec.ofChange flatFixedSpec)

/-- ITS FALSE NEIGHBOUR: 'it returns false'. Refute it at one input. -/
def flatFixedWrong : ChangeSpec := { name := "flatFixed", fn := fun _ => fun
  | [d1, d2, d3, d4] => { results := [.lit (.bool false)], args := [d1, d2, d3, d4] }
  | _ => none }
def FlatFixedWrongFalsely : Prop := flatFixedRow.holds Try.pinned (OpenSpec.ofChange flatFixedWrong)

/-- 'herdsmanlaw17.FlatMore': WHATEVER THE INPUT: true; the input reads as it did. -/
def flatMoreSpec : ChangeSpec := { name := "flatMore", fn := fun _ => fun
  | [d1, d2, d3, d4, d5, d6, d7] => { results := [.lit (.bool true)], args := [d1, d2, d3, d4, d5, d6, d7] }
  | _ => none }
def flatMoreRow : OpenClaim := { program := "ytmjcmkimhkjdeaa", sum := "7f9833c9f17f3f0e1f00b074e6d2247d51cc3ee994f72dc251687e9b3068a355", func := "herdsman/herdsmanlaw17.FlatMore", spec := "flatMore", apart := false }
def FlatMoreSaid : Prop := flatMoreRow.holds Try.pinned (OpenSpec.ofChange flatMoreSpec)

/-- ITS FALSE NEIGHBOUR: 'it returns false'. Refute it at one input. -/
def flatMoreWrong : ChangeSpec := { name := "flatMore", fn := fun _ => fun
  | [d1, d2, d3, d4, d5, d6, d7] => { results := [.lit (.bool false)], args := [d1, d2, d3, d4, d5, d6, d7] }
  | _ => none }
def FlatMoreWrongFalsely : Prop := flatMoreRow.holds Try.pinned (OpenSpec.ofChange flatMoreWrong)

/-- 'herdsmanlaw17.FlatLeads': WHATEVER THE INPUT: true; the input reads as it did. -/
def flatLeadsSpec : ChangeSpec := { name := "flatLeads", fn := fun _ => fun
  | [d1, d2, d3, d4] => { results := [.lit (.bool true)], args := [d1, d2, d3, d4] }
  | _ => none }
def flatLeadsRow : OpenClaim := { program := "ytmjcmkimhkjdeaa", sum := "7f9833c9f17f3f0e1f00b074e6d2247d51cc3ee994f72dc251687e9b3068a355", func := "herdsman/herdsmanlaw17.FlatLeads", spec := "flatLeads", apart := false }
def FlatLeadsSaid : Prop := flatLeadsRow.holds Try.pinned (OpenSpec.ofChange flatLeadsSpec)

/-- ITS FALSE NEIGHBOUR: 'it returns false'. Refute it at one input. -/
def flatLeadsWrong : ChangeSpec := { name := "flatLeads", fn := fun _ => fun
  | [d1, d2, d3, d4] => { results := [.lit (.bool false)], args := [d1, d2, d3, d4] }
  | _ => none }
def FlatLeadsWrongFalsely : Prop := flatLeadsRow.holds Try.pinned (OpenSpec.ofChange flatLeadsWrong)

/-- 'herdsmanlaw17.FlatAsks': WHATEVER THE INPUT: true; the input reads as it did. -/
def flatAsksSpec : ChangeSpec := { name := "flatAsks", fn := fun _ => fun
  | [d1, d2, d3, d4] => { results := [.lit (.bool true)], args := [d1, d2, d3, d4] }
  | _ => none }
def flatAsksRow : OpenClaim := { program := "ytmjcmkimhkjdeaa", sum := "7f9833c9f17f3f0e1f00b074e6d2247d51cc3ee994f72dc251687e9b3068a355", func := "herdsman/herdsmanlaw17.FlatAsks", spec := "flatAsks", apart := false }
def FlatAsksSaid : Prop := flatAsksRow.holds Try.pinned (OpenSpec.ofChange flatAsksSpec)

/-- ITS FALSE NEIGHBOUR: 'it returns false'. Refute it at one input. -/
def flatAsksWrong : ChangeSpec := { name := "flatAsks", fn := fun _ => fun
  | [d1, d2, d3, d4] => { results := [.lit (.bool false)], args := [d1, d2, d3, d4] }
  | _ => none }
def FlatAsksWrongFalsely : Prop := flatAsksRow.holds Try.pinned (OpenSpec.ofChange flatAsksWrong)

/-- 'herdsmanlaw17.FlatTurned': WHATEVER THE INPUT: true; the input reads as it did. -/
def flatTurnedSpec : ChangeSpec := { name := "flatTurned", fn := fun _ => fun
  | [d1, d2, d3, d4, d5] => { results := [.lit (.bool true)], args := [d1, d2, d3, d4, d5] }
  | _ => none }
def flatTurnedRow : OpenClaim := { program := "ytmjcmkimhkjdeaa", sum := "7f9833c9f17f3f0e1f00b074e6d2247d51cc3ee994f72dc251687e9b3068a355", func := "herdsman/herdsmanlaw17.FlatTurned", spec := "flatTurned", apart := false }
def FlatTurnedSaid : Prop := flatTurnedRow.holds Try.pinned (OpenSpec.ofChange flatTurnedSpec)

/-- ITS FALSE NEIGHBOUR: 'it returns false'. Refute it at one input. -/
def flatTurnedWrong : ChangeSpec := { name := "flatTurned", fn := fun _ => fun
  | [d1, d2, d3, d4, d5] => { results := [.lit (.bool false)], args := [d1, d2, d3, d4, d5] }
  | _ => none }
def FlatTurnedWrongFalsely : Prop := flatTurnedRow.holds Try.pinned (OpenSpec.ofChange flatTurnedWrong)

/-- 'herdsmanlaw17.FlatBound': WHATEVER THE INPUT: true; the input reads as it did. -/
def flatBoundSpec : ChangeSpec := { name := "flatBound", fn := fun _ => fun
  | [d1, d2, d3, d4, d5] => { results := [.lit (.bool true)], args := [d1, d2, d3, d4, d5] }
  | _ => none }
def flatBoundRow : OpenClaim := { program := "ytmjcmkimhkjdeaa", sum := "7f9833c9f17f3f0e1f00b074e6d2247d51cc3ee994f72dc251687e9b3068a355", func := "herdsman/herdsmanlaw17.FlatBound", spec := "flatBound", apart := false }
def FlatBoundSaid : Prop := flatBoundRow.holds Try.pinned (OpenSpec.ofChange flatBoundSpec)

/-- ITS FALSE NEIGHBOUR: 'it returns false'. Refute it at one input. -/
def flatBoundWrong : ChangeSpec := { name := "flatBound", fn := fun _ => fun
  | [d1, d2, d3, d4, d5] => { results := [.lit (.bool false)], args := [d1, d2, d3, d4, d5] }
  | _ => none }
def FlatBoundWrongFalsely : Prop := flatBoundRow.holds Try.pinned (OpenSpec.ofChange flatBoundWrong)

/- THE SECOND FORM. 'bulk': how many values and letters a reading holds, each counted each time it is reached (what is shared counts as often as it is met; a slice's spare places count too). A statement '..UptoSaid' is the law's where the arguments, and the package variables that the reading takes, are together of bulk at most 1048576: NARROWER than '..Said'. Prove '..Said' where nothing that the law and all that it calls make is longer than what came in: it says more and counts as full. Else prove '..UptoSaid'. A law counts once. -/
mutual
def uptoBulk {H : Type} : DataW H → Nat
  | .lit (.string bytes) => bytes.length + 1
  | .lit _ => 1
  | .nil => 1
  | .ptr d => uptoBulk d + 1
  | .slice elems spare => uptoBulkAll elems + uptoBulkAll spare + 1
  | .agg parts => uptoBulkAll parts + 1
  | .iface _ d => uptoBulk d + 1
  | .map entries => uptoBulkEntries entries + 1
  | .held _ => 1
def uptoBulkAll {H : Type} : List (DataW H) → Nat
  | [] => 0
  | d :: r => uptoBulk d + uptoBulkAll r
def uptoBulkEntries {H : Type} : List (Lit × DataW H) → Nat
  | [] => 0
  | x :: r => uptoBulkEntry x + uptoBulkEntries r
def uptoBulkEntry {H : Type} : Lit × DataW H → Nat
  | (.string bytes, d) => bytes.length + uptoBulk d + 1
  | (_, d) => uptoBulk d + 1
 end
def uptoSmall : (H : Type) → List (DataW H) → Bool := fun _ ds => decide (uptoBulkAll ds ≤ 1048576)
def OpenSpec.upto (s : _root_.Go.ChangeSpec) : _root_.Go.OpenSpec := { _root_.Go.OpenSpec.ofChange s with cond := some uptoSmall }

/-- 'herdsmanlaw5.GridVersions', WHERE WHAT IT READS IS OF BULK AT MOST 1048576: true; the input reads as it did. -/
def gridVersionsUptoRow : OpenClaim := { program := "ytmjcmkimhkjdeaa", sum := "7f9833c9f17f3f0e1f00b074e6d2247d51cc3ee994f72dc251687e9b3068a355", func := "herdsman/herdsmanlaw5.GridVersions", spec := "gridVersions", apart := false, narrowed := true }
def GridVersionsUptoSaid : Prop := gridVersionsUptoRow.holds Try.pinned (OpenSpec.upto gridVersionsSpec)

/-- 'herdsmanlaw5.GridRaw', WHERE WHAT IT READS IS OF BULK AT MOST 1048576: true; the input reads as it did. -/
def gridRawUptoRow : OpenClaim := { program := "ytmjcmkimhkjdeaa", sum := "7f9833c9f17f3f0e1f00b074e6d2247d51cc3ee994f72dc251687e9b3068a355", func := "herdsman/herdsmanlaw5.GridRaw", spec := "gridRaw", apart := false, narrowed := true }
def GridRawUptoSaid : Prop := gridRawUptoRow.holds Try.pinned (OpenSpec.upto gridRawSpec)

/-- 'herdsmanlaw5.GridPlays', WHERE WHAT IT READS IS OF BULK AT MOST 1048576: true; the input reads as it did. -/
def gridPlaysUptoRow : OpenClaim := { program := "ytmjcmkimhkjdeaa", sum := "7f9833c9f17f3f0e1f00b074e6d2247d51cc3ee994f72dc251687e9b3068a355", func := "herdsman/herdsmanlaw5.GridPlays", spec := "gridPlays", apart := false, narrowed := true }
def GridPlaysUptoSaid : Prop := gridPlaysUptoRow.holds Try.pinned (OpenSpec.upto gridPlaysSpec)

/-- 'herdsmanlaw5.GridKeeps', WHERE WHAT IT READS IS OF BULK AT MOST 1048576: true; the input reads as it did. -/
def gridKeepsUptoRow : OpenClaim := { program := "ytmjcmkimhkjdeaa", sum := "7f9833c9f17f3f0e1f00b074e6d2247d51cc3ee994f72dc251687e9b3068a355", func := "herdsman/herdsmanlaw5.GridKeeps", spec := "gridKeeps", apart := false, narrowed := true }
def GridKeepsUptoSaid : Prop := gridKeepsUptoRow.holds Try.pinned (OpenSpec.upto gridKeepsSpec)

/-- 'herdsmanlaw5.GridNone', WHERE WHAT IT READS IS OF BULK AT MOST 1048576: true; the input reads as it did. -/
def gridNoneUptoRow : OpenClaim := { program := "ytmjcmkimhkjdeaa", sum := "7f9833c9f17f3f0e1f00b074e6d2247d51cc3ee994f72dc251687e9b3068a355", func := "herdsman/herdsmanlaw5.GridNone", spec := "gridNone", apart := false, narrowed := true }
def GridNoneUptoSaid : Prop := gridNoneUptoRow.holds Try.pinned (OpenSpec.upto gridNoneSpec)

/-- 'herdsmanlaw17.FlatFixed', WHERE WHAT IT READS IS OF BULK AT MOST 1048576: true; the input reads as it did. -/
def flatFixedUptoRow : OpenClaim := { program := "ytmjcmkimhkjdeaa", sum := "7f9833c9f17f3f0e1f00b074e6d2247d51cc3ee994f72dc251687e9b3068a355", func := "herdsman/herdsmanlaw17.FlatFixed", spec := "flatFixed", apart := false, narrowed := true }
def FlatFixedUptoSaid : Prop := flatFixedUptoRow.holds Try.pinned (OpenSpec.upto flatFixedSpec)

/-- 'herdsmanlaw17.FlatMore', WHERE WHAT IT READS IS OF BULK AT MOST 1048576: true; the input reads as it did. -/
def flatMoreUptoRow : OpenClaim := { program := "ytmjcmkimhkjdeaa", sum := "7f9833c9f17f3f0e1f00b074e6d2247d51cc3ee994f72dc251687e9b3068a355", func := "herdsman/herdsmanlaw17.FlatMore", spec := "flatMore", apart := false, narrowed := true }
def FlatMoreUptoSaid : Prop := flatMoreUptoRow.holds Try.pinned (OpenSpec.upto flatMoreSpec)

/-- 'herdsmanlaw17.FlatLeads', WHERE WHAT IT READS IS OF BULK AT MOST 1048576: true; the input reads as it did. -/
def flatLeadsUptoRow : OpenClaim := { program := "ytmjcmkimhkjdeaa", sum := "7f9833c9f17f3f0e1f00b074e6d2247d51cc3ee994f72dc251687e9b3068a355", func := "herdsman/herdsmanlaw17.FlatLeads", spec := "flatLeads", apart := false, narrowed := true }
def FlatLeadsUptoSaid : Prop := flatLeadsUptoRow.holds Try.pinned (OpenSpec.upto flatLeadsSpec)

/-- 'herdsmanlaw17.FlatAsks', WHERE WHAT IT READS IS OF BULK AT MOST 1048576: true; the input reads as it did. -/
def flatAsksUptoRow : OpenClaim := { program := "ytmjcmkimhkjdeaa", sum := "7f9833c9f17f3f0e1f00b074e6d2247d51cc3ee994f72dc251687e9b3068a355", func := "herdsman/herdsmanlaw17.FlatAsks", spec := "flatAsks", apart := false, narrowed := true }
def FlatAsksUptoSaid : Prop := flatAsksUptoRow.holds Try.pinned (OpenSpec.upto flatAsksSpec)

/-- 'herdsmanlaw17.FlatTurned', WHERE WHAT IT READS IS OF BULK AT MOST 1048576: true; the input reads as it did. -/
def flatTurnedUptoRow : OpenClaim := { program := "ytmjcmkimhkjdeaa", sum := "7f9833c9f17f3f0e1f00b074e6d2247d51cc3ee994f72dc251687e9b3068a355", func := "herdsman/herdsmanlaw17.FlatTurned", spec := "flatTurned", apart := false, narrowed := true }
def FlatTurnedUptoSaid : Prop := flatTurnedUptoRow.holds Try.pinned (OpenSpec.upto flatTurnedSpec)

/-- 'herdsmanlaw17.FlatBound', WHERE WHAT IT READS IS OF BULK AT MOST 1048576: true; the input reads as it did. -/
def flatBoundUptoRow : OpenClaim := { program := "ytmjcmkimhkjdeaa", sum := "7f9833c9f17f3f0e1f00b074e6d2247d51cc3ee994f72dc251687e9b3068a355", func := "herdsman/herdsmanlaw17.FlatBound", spec := "flatBound", apart := false, narrowed := true }
def FlatBoundUptoSaid : Prop := flatBoundUptoRow.holds Try.pinned (OpenSpec.upto flatBoundSpec)

end Rows
end Go.Proofs.Ytmjcmkimhkjdeaa
