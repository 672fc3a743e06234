/-
  No cell of these rows narrows 'for every input' (looked for: loops, veiled, ifaces, maps, wideKeys, modest, calm, conditions, laid).
  DERIVED. THE GIVEN ROWS OF THIS SEAT. 10 by the template 'for every input the law returns true; each argument reads behind the call as it read before'; 0 by the template 'total and deterministic' (their statements: YticdodeoljodiaaTotals.lean).
  GIVEN WITH THE SEED: the statements are not yours to turn. If you find one false, say at which input.
  Laid BY PROGRAM, IN A SANDBOX (cutbox-rows.mjs): the forced cells as the released guide's own fill.sh prints them over the translation dd67c48fba423e0d… (all of the seat's roots in one cut). By AI agents, Wed Nov 11 2026. No macro, syntax, notation, axiom, sorry.
-/
import Derived.Test.YticdodeoljodiaaChecked
import GoSem.Claim
import GoSem.ClaimJoined
import GoSem.ClaimMapViews
import Derived.JoinedTies
import Derived.KernelRfl
namespace Go.Proofs.Yticdodeoljodiaa
/- THE CELL 'sum', in the pinned program and in every row, IS THE sha256 OF THE DUMP (.gsa) THAT YticdodeoljodiaaProg.lean LOADS. Nothing in Lean hashes anything: it is a label: what it is worth is what the hold of that sum in a sandbox is worth. -/
noncomputable def Try.pinned : Pinned := { name := "yticdodeoljodiaa", sum := "dd67c48fba423e0ddfc1671cbadc2ebc4284cd7b7e07e76e78a7383a17d40b5e", checked := Try.checked }
namespace Rows
def none {H : Type} : Left H := { results := [], args := [] }

/-- 'herdsmanlaw11.BorderAsks': WHATEVER THE INPUT: true; the input reads as it did. -/
def borderAsksSpec : ChangeSpec := { name := "borderAsks", fn := fun _ => fun
  | [d1, d2, d3, d4, d5, d6, d7] => { results := [.lit (.bool true)], args := [d1, d2, d3, d4, d5, d6, d7] }
  | _ => none }
def borderAsksRow : OpenClaim := { program := "yticdodeoljodiaa", sum := "dd67c48fba423e0ddfc1671cbadc2ebc4284cd7b7e07e76e78a7383a17d40b5e", func := "herdsman/herdsmanlaw11.BorderAsks", spec := "borderAsks", apart := false }
def BorderAsksSaid : Prop := borderAsksRow.holds Try.pinned (OpenSpec.ofChange borderAsksSpec)

/-- ITS FALSE NEIGHBOUR: 'it returns false'. Refute it at one input. -/
def borderAsksWrong : ChangeSpec := { name := "borderAsks", fn := fun _ => fun
  | [d1, d2, d3, d4, d5, d6, d7] => { results := [.lit (.bool false)], args := [d1, d2, d3, d4, d5, d6, d7] }
  | _ => none }
def BorderAsksWrongFalsely : Prop := borderAsksRow.holds Try.pinned (OpenSpec.ofChange borderAsksWrong)

/-- 'herdsmanlaw11.BorderSizes': WHATEVER THE INPUT: true; the input reads as it did. -/
def borderSizesSpec : ChangeSpec := { name := "borderSizes", fn := fun _ => fun
  | [d1, d2, d3, d4] => { results := [.lit (.bool true)], args := [d1, d2, d3, d4] }
  | _ => none }
def borderSizesRow : OpenClaim := { program := "yticdodeoljodiaa", sum := "dd67c48fba423e0ddfc1671cbadc2ebc4284cd7b7e07e76e78a7383a17d40b5e", func := "herdsman/herdsmanlaw11.BorderSizes", spec := "borderSizes", apart := false }
def BorderSizesSaid : Prop := borderSizesRow.holds Try.pinned (OpenSpec.ofChange borderSizesSpec)

/-- ITS FALSE NEIGHBOUR: 'it returns false'. Refute it at one input. -/
def borderSizesWrong : ChangeSpec := { name := "borderSizes", fn := fun _ => fun
  | [d1, d2, d3, d4] => { results := [.lit (.bool false)], args := [d1, d2, d3, d4] }
  | _ => none }
def BorderSizesWrongFalsely : Prop := borderSizesRow.holds Try.pinned (OpenSpec.ofChange borderSizesWrong)

/-- 'herdsmanlaw11.BorderRuns': WHATEVER THE INPUT: true; the input reads as it did. -/
def borderRunsSpec : ChangeSpec := { name := "borderRuns", fn := fun _ => fun
  | [d1, d2, d3, d4] => { results := [.lit (.bool true)], args := [d1, d2, d3, d4] }
  | _ => none }
def borderRunsRow : OpenClaim := { program := "yticdodeoljodiaa", sum := "dd67c48fba423e0ddfc1671cbadc2ebc4284cd7b7e07e76e78a7383a17d40b5e", func := "herdsman/herdsmanlaw11.BorderRuns", spec := "borderRuns", apart := false }
def BorderRunsSaid : Prop := borderRunsRow.holds Try.pinned (OpenSpec.ofChange borderRunsSpec)

/-- ITS FALSE NEIGHBOUR: 'it returns false'. Refute it at one input. -/
def borderRunsWrong : ChangeSpec := { name := "borderRuns", fn := fun _ => fun
  | [d1, d2, d3, d4] => { results := [.lit (.bool false)], args := [d1, d2, d3, d4] }
  | _ => none }
def BorderRunsWrongFalsely : Prop := borderRunsRow.holds Try.pinned (OpenSpec.ofChange borderRunsWrong)

/-- 'herdsmanlaw11.BorderMates': WHATEVER THE INPUT: true; the input reads as it did. -/
def borderMatesSpec : ChangeSpec := { name := "borderMates", fn := fun _ => fun
  | [d1, d2, d3, d4] => { results := [.lit (.bool true)], args := [d1, d2, d3, d4] }
  | _ => none }
def borderMatesRow : OpenClaim := { program := "yticdodeoljodiaa", sum := "dd67c48fba423e0ddfc1671cbadc2ebc4284cd7b7e07e76e78a7383a17d40b5e", func := "herdsman/herdsmanlaw11.BorderMates", spec := "borderMates", apart := false }
def BorderMatesSaid : Prop := borderMatesRow.holds Try.pinned (OpenSpec.ofChange borderMatesSpec)

/-- ITS FALSE NEIGHBOUR: 'it returns false'. Refute it at one input. -/
def borderMatesWrong : ChangeSpec := { name := "borderMates", fn := fun _ => fun
  | [d1, d2, d3, d4] => { results := [.lit (.bool false)], args := [d1, d2, d3, d4] }
  | _ => none }
def BorderMatesWrongFalsely : Prop := borderMatesRow.holds Try.pinned (OpenSpec.ofChange borderMatesWrong)

/-- 'herdsmanlaw11.BorderEdits': WHATEVER THE INPUT: true; the input reads as it did. -/
def borderEditsSpec : ChangeSpec := { name := "borderEdits", fn := fun _ => fun
  | [d1, d2, d3, d4, d5] => { results := [.lit (.bool true)], args := [d1, d2, d3, d4, d5] }
  | _ => none }
def borderEditsRow : OpenClaim := { program := "yticdodeoljodiaa", sum := "dd67c48fba423e0ddfc1671cbadc2ebc4284cd7b7e07e76e78a7383a17d40b5e", func := "herdsman/herdsmanlaw11.BorderEdits", spec := "borderEdits", apart := false }
def BorderEditsSaid : Prop := borderEditsRow.holds Try.pinned (OpenSpec.ofChange borderEditsSpec)

/-- ITS FALSE NEIGHBOUR: 'it returns false'. Refute it at one input. -/
def borderEditsWrong : ChangeSpec := { name := "borderEdits", fn := fun _ => fun
  | [d1, d2, d3, d4, d5] => { results := [.lit (.bool false)], args := [d1, d2, d3, d4, d5] }
  | _ => none }
def BorderEditsWrongFalsely : Prop := borderEditsRow.holds Try.pinned (OpenSpec.ofChange borderEditsWrong)

/-- 'herdsmanlaw30.TrailAsks': WHATEVER THE INPUT: true; the input reads as it did. -/
def trailAsksSpec : ChangeSpec := { name := "trailAsks", fn := fun _ => fun
  | [d1, d2, d3, d4, d5] => { results := [.lit (.bool true)], args := [d1, d2, d3, d4, d5] }
  | _ => none }
def trailAsksRow : OpenClaim := { program := "yticdodeoljodiaa", sum := "dd67c48fba423e0ddfc1671cbadc2ebc4284cd7b7e07e76e78a7383a17d40b5e", func := "herdsman/herdsmanlaw30.TrailAsks", spec := "trailAsks", apart := false }
def TrailAsksSaid : Prop := trailAsksRow.holds Try.pinned (OpenSpec.ofChange trailAsksSpec)

/-- ITS FALSE NEIGHBOUR: 'it returns false'. Refute it at one input. -/
def trailAsksWrong : ChangeSpec := { name := "trailAsks", fn := fun _ => fun
  | [d1, d2, d3, d4, d5] => { results := [.lit (.bool false)], args := [d1, d2, d3, d4, d5] }
  | _ => none }
def TrailAsksWrongFalsely : Prop := trailAsksRow.holds Try.pinned (OpenSpec.ofChange trailAsksWrong)

/-- 'herdsmanlaw30.TrailLeast': WHATEVER THE INPUT: true; the input reads as it did. -/
def trailLeastSpec : ChangeSpec := { name := "trailLeast", fn := fun _ => fun
  | [d1, d2, d3, d4, d5, d6] => { results := [.lit (.bool true)], args := [d1, d2, d3, d4, d5, d6] }
  | _ => none }
def trailLeastRow : OpenClaim := { program := "yticdodeoljodiaa", sum := "dd67c48fba423e0ddfc1671cbadc2ebc4284cd7b7e07e76e78a7383a17d40b5e", func := "herdsman/herdsmanlaw30.TrailLeast", spec := "trailLeast", apart := false }
def TrailLeastSaid : Prop := trailLeastRow.holds Try.pinned (OpenSpec.ofChange trailLeastSpec)

/-- ITS FALSE NEIGHBOUR: 'it returns false'. Refute it at one input. -/
def trailLeastWrong : ChangeSpec := { name := "trailLeast", fn := fun _ => fun
  | [d1, d2, d3, d4, d5, d6] => { results := [.lit (.bool false)], args := [d1, d2, d3, d4, d5, d6] }
  | _ => none }
def TrailLeastWrongFalsely : Prop := trailLeastRow.holds Try.pinned (OpenSpec.ofChange trailLeastWrong)

/-- 'herdsmanlaw30.TrailSteps': WHATEVER THE INPUT: true; the input reads as it did. -/
def trailStepsSpec : ChangeSpec := { name := "trailSteps", fn := fun _ => fun
  | [d1, d2, d3, d4, d5, d6] => { results := [.lit (.bool true)], args := [d1, d2, d3, d4, d5, d6] }
  | _ => none }
def trailStepsRow : OpenClaim := { program := "yticdodeoljodiaa", sum := "dd67c48fba423e0ddfc1671cbadc2ebc4284cd7b7e07e76e78a7383a17d40b5e", func := "herdsman/herdsmanlaw30.TrailSteps", spec := "trailSteps", apart := false }
def TrailStepsSaid : Prop := trailStepsRow.holds Try.pinned (OpenSpec.ofChange trailStepsSpec)

/-- ITS FALSE NEIGHBOUR: 'it returns false'. Refute it at one input. -/
def trailStepsWrong : ChangeSpec := { name := "trailSteps", fn := fun _ => fun
  | [d1, d2, d3, d4, d5, d6] => { results := [.lit (.bool false)], args := [d1, d2, d3, d4, d5, d6] }
  | _ => none }
def TrailStepsWrongFalsely : Prop := trailStepsRow.holds Try.pinned (OpenSpec.ofChange trailStepsWrong)

/-- 'herdsmanlaw30.TrailRest': WHATEVER THE INPUT: true; the input reads as it did. -/
def trailRestSpec : ChangeSpec := { name := "trailRest", fn := fun _ => fun
  | [d1, d2, d3, d4] => { results := [.lit (.bool true)], args := [d1, d2, d3, d4] }
  | _ => none }
def trailRestRow : OpenClaim := { program := "yticdodeoljodiaa", sum := "dd67c48fba423e0ddfc1671cbadc2ebc4284cd7b7e07e76e78a7383a17d40b5e", func := "herdsman/herdsmanlaw30.TrailRest", spec := "trailRest", apart := false }
def TrailRestSaid : Prop := trailRestRow.holds Try.pinned (OpenSpec.ofChange trailRestSpec)

/-- ITS FALSE NEIGHBOUR: 'it returns false'. Refute it at one input. -/
def trailRestWrong : ChangeSpec := { name := "trailRest", fn := fun _ => fun
  | [d1, d2, d3, d4] => { results := [.lit (.bool false)], args := [d1, d2, d3, d4] }
  | _ => none }
def TrailRestWrongFalsely : Prop := trailRestRow.holds Try.pinned (OpenSpec.ofChange trailRestWrong)

/-- 'herdsmanlaw30.TrailMoves': WHATEVER THE INPUT: true; the input reads as it did. -/
def trailMovesSpec : ChangeSpec := { name := "trailMoves", fn := fun _ => fun
  | [d1, d2, d3, d4, d5] => { results := [.lit (.bool true)], args := [d1, d2, d3, d4, d5] }
  | _ => none }
def trailMovesRow : OpenClaim := { program := "yticdodeoljodiaa", sum := "dd67c48fba423e0ddfc1671cbadc2ebc4284cd7b7e07e76e78a7383a17d40b5e", func := "herdsman/herdsmanlaw30.TrailMoves", spec := "trailMoves", apart := false }
def TrailMovesSaid : Prop := trailMovesRow.holds Try.pinned (OpenSpec.ofChange trailMovesSpec)

/-- ITS FALSE NEIGHBOUR: 'it returns false'. Refute it at one input. -/
def trailMovesWrong : ChangeSpec := { name := "trailMoves", fn := fun _ => fun
  | [d1, d2, d3, d4, d5] => { results := [.lit (.bool false)], args := [d1, d2, d3, d4, d5] }
  | _ => none }
def TrailMovesWrongFalsely : Prop := trailMovesRow.holds Try.pinned (OpenSpec.ofChange trailMovesWrong)

/- THE SECOND FORM. 'bulk': how many values and letters a reading holds, each counted each time it is reached (what is shared counts as often as it is met; a slice's spare places count too). A statement '..UptoSaid' is the law's where the arguments, and the package variables that the reading takes, are together of bulk at most 1048576: NARROWER than '..Said'. Prove '..Said' where nothing that the law and all that it calls make is longer than what came in: it says more and counts as full. Else prove '..UptoSaid'. A law counts once. -/
mutual
def uptoBulk {H : Type} : DataW H → Nat
  | .lit (.string bytes) => bytes.length + 1
  | .lit _ => 1
  | .nil => 1
  | .ptr d => uptoBulk d + 1
  | .slice elems spare => uptoBulkAll elems + uptoBulkAll spare + 1
  | .agg parts => uptoBulkAll parts + 1
  | .iface _ d => uptoBulk d + 1
  | .map entries => uptoBulkEntries entries + 1
  | .held _ => 1
def uptoBulkAll {H : Type} : List (DataW H) → Nat
  | [] => 0
  | d :: r => uptoBulk d + uptoBulkAll r
def uptoBulkEntries {H : Type} : List (Lit × DataW H) → Nat
  | [] => 0
  | x :: r => uptoBulkEntry x + uptoBulkEntries r
def uptoBulkEntry {H : Type} : Lit × DataW H → Nat
  | (.string bytes, d) => bytes.length + uptoBulk d + 1
  | (_, d) => uptoBulk d + 1
 end
def uptoSmall : (H : Type) → List (DataW H) → Bool := fun _ ds => decide (uptoBulkAll ds ≤ 1048576)
def OpenSpec.upto (s : _root_.Go.ChangeSpec) : _root_.Go.OpenSpec := { _root_.Go.OpenSpec.ofChange s with cond := some uptoSmall }

/-- 'herdsmanlaw11.BorderAsks', WHERE WHAT IT READS IS OF BULK AT MOST 1048576: true; the input reads as it did. -/
def borderAsksUptoRow : OpenClaim := { program := "yticdodeoljodiaa", sum := "dd67c48fba423e0ddfc1671cbadc2ebc4284cd7b7e07e76e78a7383a17d40b5e", func := "herdsman/herdsmanlaw11.BorderAsks", spec := "borderAsks", apart := false, narrowed := true }
def BorderAsksUptoSaid : Prop := borderAsksUptoRow.holds Try.pinned (OpenSpec.upto borderAsksSpec)

/-- 'herdsmanlaw11.BorderSizes', WHERE WHAT IT READS IS OF BULK AT MOST 1048576: true; the input reads as it did. -/
def borderSizesUptoRow : OpenClaim := { program := "yticdodeoljodiaa", sum := "dd67c48fba423e0ddfc1671cbadc2ebc4284cd7b7e07e76e78a7383a17d40b5e", func := "herdsman/herdsmanlaw11.BorderSizes", spec := "borderSizes", apart := false, narrowed := true }
def BorderSizesUptoSaid : Prop := borderSizesUptoRow.holds Try.pinned (OpenSpec.upto borderSizesSpec)

/-- 'herdsmanlaw11.BorderRuns', WHERE WHAT IT READS IS OF BULK AT MOST 1048576: true; the input reads as it did. -/
def borderRunsUptoRow : OpenClaim := { program := "yticdodeoljodiaa", sum := "dd67c48fba423e0ddfc1671cbadc2ebc4284cd7b7e07e76e78a7383a17d40b5e", func := "herdsman/herdsmanlaw11.BorderRuns", spec := "borderRuns", apart := false, narrowed := true }
def BorderRunsUptoSaid : Prop := borderRunsUptoRow.holds Try.pinned (OpenSpec.upto borderRunsSpec)

/-- 'herdsmanlaw11.BorderMates', WHERE WHAT IT READS IS OF BULK AT MOST 1048576: true; the input reads as it did. -/
def borderMatesUptoRow : OpenClaim := { program := "yticdodeoljodiaa", sum := "dd67c48fba423e0ddfc1671cbadc2ebc4284cd7b7e07e76e78a7383a17d40b5e", func := "herdsman/herdsmanlaw11.BorderMates", spec := "borderMates", apart := false, narrowed := true }
def BorderMatesUptoSaid : Prop := borderMatesUptoRow.holds Try.pinned (OpenSpec.upto borderMatesSpec)

/-- 'herdsmanlaw11.BorderEdits', WHERE WHAT IT READS IS OF BULK AT MOST 1048576: true; the input reads as it did. -/
def borderEditsUptoRow : OpenClaim := { program := "yticdodeoljodiaa", sum := "dd67c48fba423e0ddfc1671cbadc2ebc4284cd7b7e07e76e78a7383a17d40b5e", func := "herdsman/herdsmanlaw11.BorderEdits", spec := "borderEdits", apart := false, narrowed := true }
def BorderEditsUptoSaid : Prop := borderEditsUptoRow.holds Try.pinned (OpenSpec.upto borderEditsSpec)

/-- 'herdsmanlaw30.TrailAsks', WHERE WHAT IT READS IS OF BULK AT MOST 1048576: true; the input reads as it did. -/
def trailAsksUptoRow : OpenClaim := { program := "yticdodeoljodiaa", sum := "dd67c48fba423e0ddfc1671cbadc2ebc4284cd7b7e07e76e78a7383a17d40b5e", func := "herdsman/herdsmanlaw30.TrailAsks", spec := "trailAsks", apart := false, narrowed := true }
def TrailAsksUptoSaid : Prop := trailAsksUptoRow.holds Try.pinned (OpenSpec.upto trailAsksSpec)

/-- 'herdsmanlaw30.TrailLeast', WHERE WHAT IT READS IS OF BULK AT MOST 1048576: true; the input reads as it did. -/
def trailLeastUptoRow : OpenClaim := { program := "yticdodeoljodiaa", sum := "dd67c48fba423e0ddfc1671cbadc2ebc4284cd7b7e07e76e78a7383a17d40b5e", func := "herdsman/herdsmanlaw30.TrailLeast", spec := "trailLeast", apart := false, narrowed := true }
def TrailLeastUptoSaid : Prop := trailLeastUptoRow.holds Try.pinned (OpenSpec.upto trailLeastSpec)

/-- 'herdsmanlaw30.TrailSteps', WHERE WHAT IT READS IS OF BULK AT MOST 1048576: true; the input reads as it did. -/
def trailStepsUptoRow : OpenClaim := { program := "yticdodeoljodiaa", sum := "dd67c48fba423e0ddfc1671cbadc2ebc4284cd7b7e07e76e78a7383a17d40b5e", func := "herdsman/herdsmanlaw30.TrailSteps", spec := "trailSteps", apart := false, narrowed := true }
def TrailStepsUptoSaid : Prop := trailStepsUptoRow.holds Try.pinned (OpenSpec.upto trailStepsSpec)

/-- 'herdsmanlaw30.TrailRest', WHERE WHAT IT READS IS OF BULK AT MOST 1048576: true; the input reads as it did. -/
def trailRestUptoRow : OpenClaim := { program := "yticdodeoljodiaa", sum := "dd67c48fba423e0ddfc1671cbadc2ebc4284cd7b7e07e76e78a7383a17d40b5e", func := "herdsman/herdsmanlaw30.TrailRest", spec := "trailRest", apart := false, narrowed := true }
def TrailRestUptoSaid : Prop := trailRestUptoRow.holds Try.pinned (OpenSpec.upto trailRestSpec)

/-- 'herdsmanlaw30.TrailMoves', WHERE WHAT IT READS IS OF BULK AT MOST 1048576: true; the input reads as it did. -/
def trailMovesUptoRow : OpenClaim := { program := "yticdodeoljodiaa", sum := "dd67c48fba423e0ddfc1671cbadc2ebc4284cd7b7e07e76e78a7383a17d40b5e", func := "herdsman/herdsmanlaw30.TrailMoves", spec := "trailMoves", apart := false, narrowed := true }
def TrailMovesUptoSaid : Prop := trailMovesUptoRow.holds Try.pinned (OpenSpec.upto trailMovesSpec)

end Rows
end Go.Proofs.Yticdodeoljodiaa
