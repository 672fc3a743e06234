/-
  No cell of these rows narrows 'for every input' (looked for: loops, veiled, ifaces, maps, wideKeys, modest, calm, conditions, laid).
  DERIVED. THE GIVEN ROWS OF THIS SEAT. 7 by the template 'for every input the law returns true; each argument reads behind the call as it read before'; 0 by the template 'total and deterministic' (their statements: YtfgenmohgfifaaaTotals.lean).
  GIVEN WITH THE SEED: the statements are not yours to turn. If you find one false, say at which input.
  Laid BY PROGRAM, IN A SANDBOX (cutbox-rows.mjs): the forced cells as the released guide's own fill.sh prints them over the translation ef7f1097759780b0… (all of the seat's roots in one cut). By AI agents, Wed Nov 11 2026. No macro, syntax, notation, axiom, sorry.
-/
import Derived.Test.YtfgenmohgfifaaaChecked
import GoSem.Claim
import GoSem.ClaimJoined
import GoSem.ClaimMapViews
import Derived.JoinedTies
import Derived.KernelRfl
namespace Go.Proofs.Ytfgenmohgfifaaa
/- THE CELL 'sum', in the pinned program and in every row, IS THE sha256 OF THE DUMP (.gsa) THAT YtfgenmohgfifaaaProg.lean LOADS. Nothing in Lean hashes anything: it is a label: what it is worth is what the hold of that sum in a sandbox is worth. -/
noncomputable def Try.pinned : Pinned := { name := "ytfgenmohgfifaaa", sum := "ef7f1097759780b0d0358753f3ad0871c6a3a3c263089bed66fb257e548fc018", checked := Try.checked }
namespace Rows
def none {H : Type} : Left H := { results := [], args := [] }

/-- 'herdsmanlaw3.PackAsks': WHATEVER THE INPUT: true; the input reads as it did. -/
def packAsksSpec : ChangeSpec := { name := "packAsks", fn := fun _ => fun
  | [d1, d2, d3, d4, d5] => { results := [.lit (.bool true)], args := [d1, d2, d3, d4, d5] }
  | _ => none }
def packAsksRow : OpenClaim := { program := "ytfgenmohgfifaaa", sum := "ef7f1097759780b0d0358753f3ad0871c6a3a3c263089bed66fb257e548fc018", func := "herdsman/herdsmanlaw3.PackAsks", spec := "packAsks", unfollowed := true, recurses := true, apart := false }
def PackAsksSaid : Prop := packAsksRow.holds Try.pinned (OpenSpec.ofChange packAsksSpec)

/-- ITS FALSE NEIGHBOUR: 'it returns false'. Refute it at one input. -/
def packAsksWrong : ChangeSpec := { name := "packAsks", fn := fun _ => fun
  | [d1, d2, d3, d4, d5] => { results := [.lit (.bool false)], args := [d1, d2, d3, d4, d5] }
  | _ => none }
def PackAsksWrongFalsely : Prop := packAsksRow.holds Try.pinned (OpenSpec.ofChange packAsksWrong)

/-- 'herdsmanlaw3.PackLeast': WHATEVER THE INPUT: true; the input reads as it did. -/
def packLeastSpec : ChangeSpec := { name := "packLeast", fn := fun _ => fun
  | [d1, d2, d3, d4, d5] => { results := [.lit (.bool true)], args := [d1, d2, d3, d4, d5] }
  | _ => none }
def packLeastRow : OpenClaim := { program := "ytfgenmohgfifaaa", sum := "ef7f1097759780b0d0358753f3ad0871c6a3a3c263089bed66fb257e548fc018", func := "herdsman/herdsmanlaw3.PackLeast", spec := "packLeast", unfollowed := true, recurses := true, apart := false }
def PackLeastSaid : Prop := packLeastRow.holds Try.pinned (OpenSpec.ofChange packLeastSpec)

/-- ITS FALSE NEIGHBOUR: 'it returns false'. Refute it at one input. -/
def packLeastWrong : ChangeSpec := { name := "packLeast", fn := fun _ => fun
  | [d1, d2, d3, d4, d5] => { results := [.lit (.bool false)], args := [d1, d2, d3, d4, d5] }
  | _ => none }
def PackLeastWrongFalsely : Prop := packLeastRow.holds Try.pinned (OpenSpec.ofChange packLeastWrong)

/-- 'herdsmanlaw1.WhereParts': WHATEVER THE INPUT: true; the input reads as it did. -/
def wherePartsSpec : ChangeSpec := { name := "whereParts", fn := fun _ => fun
  | [d1, d2, d3, d4, d5] => { results := [.lit (.bool true)], args := [d1, d2, d3, d4, d5] }
  | _ => none }
def wherePartsRow : OpenClaim := { program := "ytfgenmohgfifaaa", sum := "ef7f1097759780b0d0358753f3ad0871c6a3a3c263089bed66fb257e548fc018", func := "herdsman/herdsmanlaw1.WhereParts", spec := "whereParts", apart := false }
def WherePartsSaid : Prop := wherePartsRow.holds Try.pinned (OpenSpec.ofChange wherePartsSpec)

/-- ITS FALSE NEIGHBOUR: 'it returns false'. Refute it at one input. -/
def wherePartsWrong : ChangeSpec := { name := "whereParts", fn := fun _ => fun
  | [d1, d2, d3, d4, d5] => { results := [.lit (.bool false)], args := [d1, d2, d3, d4, d5] }
  | _ => none }
def WherePartsWrongFalsely : Prop := wherePartsRow.holds Try.pinned (OpenSpec.ofChange wherePartsWrong)

/-- 'herdsmanlaw1.WhereBack': WHATEVER THE INPUT: true; the input reads as it did. -/
def whereBackSpec : ChangeSpec := { name := "whereBack", fn := fun _ => fun
  | [d1, d2, d3] => { results := [.lit (.bool true)], args := [d1, d2, d3] }
  | _ => none }
def whereBackRow : OpenClaim := { program := "ytfgenmohgfifaaa", sum := "ef7f1097759780b0d0358753f3ad0871c6a3a3c263089bed66fb257e548fc018", func := "herdsman/herdsmanlaw1.WhereBack", spec := "whereBack", apart := false }
def WhereBackSaid : Prop := whereBackRow.holds Try.pinned (OpenSpec.ofChange whereBackSpec)

/-- ITS FALSE NEIGHBOUR: 'it returns false'. Refute it at one input. -/
def whereBackWrong : ChangeSpec := { name := "whereBack", fn := fun _ => fun
  | [d1, d2, d3] => { results := [.lit (.bool false)], args := [d1, d2, d3] }
  | _ => none }
def WhereBackWrongFalsely : Prop := whereBackRow.holds Try.pinned (OpenSpec.ofChange whereBackWrong)

/-- 'herdsmanlaw1.WhereAll': WHATEVER THE INPUT: true; the input reads as it did. -/
def whereAllSpec : ChangeSpec := { name := "whereAll", fn := fun _ => fun
  | [d1, d2] => { results := [.lit (.bool true)], args := [d1, d2] }
  | _ => none }
def whereAllRow : OpenClaim := { program := "ytfgenmohgfifaaa", sum := "ef7f1097759780b0d0358753f3ad0871c6a3a3c263089bed66fb257e548fc018", func := "herdsman/herdsmanlaw1.WhereAll", spec := "whereAll", apart := false }
def WhereAllSaid : Prop := whereAllRow.holds Try.pinned (OpenSpec.ofChange whereAllSpec)

/-- ITS FALSE NEIGHBOUR: 'it returns false'. Refute it at one input. -/
def whereAllWrong : ChangeSpec := { name := "whereAll", fn := fun _ => fun
  | [d1, d2] => { results := [.lit (.bool false)], args := [d1, d2] }
  | _ => none }
def WhereAllWrongFalsely : Prop := whereAllRow.holds Try.pinned (OpenSpec.ofChange whereAllWrong)

/-- 'herdsmanlaw1.WhereAsks': WHATEVER THE INPUT: true; the input reads as it did. -/
def whereAsksSpec : ChangeSpec := { name := "whereAsks", fn := fun _ => fun
  | [d1, d2, d3, d4, d5, d6, d7] => { results := [.lit (.bool true)], args := [d1, d2, d3, d4, d5, d6, d7] }
  | _ => none }
def whereAsksRow : OpenClaim := { program := "ytfgenmohgfifaaa", sum := "ef7f1097759780b0d0358753f3ad0871c6a3a3c263089bed66fb257e548fc018", func := "herdsman/herdsmanlaw1.WhereAsks", spec := "whereAsks", apart := false }
def WhereAsksSaid : Prop := whereAsksRow.holds Try.pinned (OpenSpec.ofChange whereAsksSpec)

/-- ITS FALSE NEIGHBOUR: 'it returns false'. Refute it at one input. -/
def whereAsksWrong : ChangeSpec := { name := "whereAsks", fn := fun _ => fun
  | [d1, d2, d3, d4, d5, d6, d7] => { results := [.lit (.bool false)], args := [d1, d2, d3, d4, d5, d6, d7] }
  | _ => none }
def WhereAsksWrongFalsely : Prop := whereAsksRow.holds Try.pinned (OpenSpec.ofChange whereAsksWrong)

/-- 'herdsmanlaw1.WhereMates': WHATEVER THE INPUT: true; the input reads as it did. -/
def whereMatesSpec : ChangeSpec := { name := "whereMates", fn := fun _ => fun
  | [d1, d2, d3, d4, d5] => { results := [.lit (.bool true)], args := [d1, d2, d3, d4, d5] }
  | _ => none }
def whereMatesRow : OpenClaim := { program := "ytfgenmohgfifaaa", sum := "ef7f1097759780b0d0358753f3ad0871c6a3a3c263089bed66fb257e548fc018", func := "herdsman/herdsmanlaw1.WhereMates", spec := "whereMates", apart := false }
def WhereMatesSaid : Prop := whereMatesRow.holds Try.pinned (OpenSpec.ofChange whereMatesSpec)

/-- ITS FALSE NEIGHBOUR: 'it returns false'. Refute it at one input. -/
def whereMatesWrong : ChangeSpec := { name := "whereMates", fn := fun _ => fun
  | [d1, d2, d3, d4, d5] => { results := [.lit (.bool false)], args := [d1, d2, d3, d4, d5] }
  | _ => none }
def WhereMatesWrongFalsely : Prop := whereMatesRow.holds Try.pinned (OpenSpec.ofChange whereMatesWrong)

/- THE SECOND FORM. 'bulk': how many values and letters a reading holds, each counted each time it is reached (what is shared counts as often as it is met; a slice's spare places count too). A statement '..UptoSaid' is the law's where the arguments, and the package variables that the reading takes, are together of bulk at most 1048576: NARROWER than '..Said'. Prove '..Said' where nothing that the law and all that it calls make is longer than what came in: it says more and counts as full. Else prove '..UptoSaid'. A law counts once. -/
mutual
def uptoBulk {H : Type} : DataW H → Nat
  | .lit (.string bytes) => bytes.length + 1
  | .lit _ => 1
  | .nil => 1
  | .ptr d => uptoBulk d + 1
  | .slice elems spare => uptoBulkAll elems + uptoBulkAll spare + 1
  | .agg parts => uptoBulkAll parts + 1
  | .iface _ d => uptoBulk d + 1
  | .map entries => uptoBulkEntries entries + 1
  | .held _ => 1
def uptoBulkAll {H : Type} : List (DataW H) → Nat
  | [] => 0
  | d :: r => uptoBulk d + uptoBulkAll r
def uptoBulkEntries {H : Type} : List (Lit × DataW H) → Nat
  | [] => 0
  | x :: r => uptoBulkEntry x + uptoBulkEntries r
def uptoBulkEntry {H : Type} : Lit × DataW H → Nat
  | (.string bytes, d) => bytes.length + uptoBulk d + 1
  | (_, d) => uptoBulk d + 1
 end
def uptoSmall : (H : Type) → List (DataW H) → Bool := fun _ ds => decide (uptoBulkAll ds ≤ 1048576)
def OpenSpec.upto (s : _root_.Go.ChangeSpec) : _root_.Go.OpenSpec := { _root_.Go.OpenSpec.ofChange s with cond := some uptoSmall }

/-- 'herdsmanlaw3.PackAsks', WHERE WHAT IT READS IS OF BULK AT MOST 1048576: true; the input reads as it did. -/
def packAsksUptoRow : OpenClaim := { program := "ytfgenmohgfifaaa", sum := "ef7f1097759780b0d0358753f3ad0871c6a3a3c263089bed66fb257e548fc018", func := "herdsman/herdsmanlaw3.PackAsks", spec := "packAsks", unfollowed := true, recurses := true, apart := false, narrowed := true }
def PackAsksUptoSaid : Prop := packAsksUptoRow.holds Try.pinned (OpenSpec.upto packAsksSpec)

/-- 'herdsmanlaw3.PackLeast', WHERE WHAT IT READS IS OF BULK AT MOST 1048576: true; the input reads as it did. -/
def packLeastUptoRow : OpenClaim := { program := "ytfgenmohgfifaaa", sum := "ef7f1097759780b0d0358753f3ad0871c6a3a3c263089bed66fb257e548fc018", func := "herdsman/herdsmanlaw3.PackLeast", spec := "packLeast", unfollowed := true, recurses := true, apart := false, narrowed := true }
def PackLeastUptoSaid : Prop := packLeastUptoRow.holds Try.pinned (OpenSpec.upto packLeastSpec)

/-- 'herdsmanlaw1.WhereParts', WHERE WHAT IT READS IS OF BULK AT MOST 1048576: true; the input reads as it did. -/
def wherePartsUptoRow : OpenClaim := { program := "ytfgenmohgfifaaa", sum := "ef7f1097759780b0d0358753f3ad0871c6a3a3c263089bed66fb257e548fc018", func := "herdsman/herdsmanlaw1.WhereParts", spec := "whereParts", apart := false, narrowed := true }
def WherePartsUptoSaid : Prop := wherePartsUptoRow.holds Try.pinned (OpenSpec.upto wherePartsSpec)

/-- 'herdsmanlaw1.WhereBack', WHERE WHAT IT READS IS OF BULK AT MOST 1048576: true; the input reads as it did. -/
def whereBackUptoRow : OpenClaim := { program := "ytfgenmohgfifaaa", sum := "ef7f1097759780b0d0358753f3ad0871c6a3a3c263089bed66fb257e548fc018", func := "herdsman/herdsmanlaw1.WhereBack", spec := "whereBack", apart := false, narrowed := true }
def WhereBackUptoSaid : Prop := whereBackUptoRow.holds Try.pinned (OpenSpec.upto whereBackSpec)

/-- 'herdsmanlaw1.WhereAll', WHERE WHAT IT READS IS OF BULK AT MOST 1048576: true; the input reads as it did. -/
def whereAllUptoRow : OpenClaim := { program := "ytfgenmohgfifaaa", sum := "ef7f1097759780b0d0358753f3ad0871c6a3a3c263089bed66fb257e548fc018", func := "herdsman/herdsmanlaw1.WhereAll", spec := "whereAll", apart := false, narrowed := true }
def WhereAllUptoSaid : Prop := whereAllUptoRow.holds Try.pinned (OpenSpec.upto whereAllSpec)

/-- 'herdsmanlaw1.WhereAsks', WHERE WHAT IT READS IS OF BULK AT MOST 1048576: true; the input reads as it did. -/
def whereAsksUptoRow : OpenClaim := { program := "ytfgenmohgfifaaa", sum := "ef7f1097759780b0d0358753f3ad0871c6a3a3c263089bed66fb257e548fc018", func := "herdsman/herdsmanlaw1.WhereAsks", spec := "whereAsks", apart := false, narrowed := true }
def WhereAsksUptoSaid : Prop := whereAsksUptoRow.holds Try.pinned (OpenSpec.upto whereAsksSpec)

/-- 'herdsmanlaw1.WhereMates', WHERE WHAT IT READS IS OF BULK AT MOST 1048576: true; the input reads as it did. -/
def whereMatesUptoRow : OpenClaim := { program := "ytfgenmohgfifaaa", sum := "ef7f1097759780b0d0358753f3ad0871c6a3a3c263089bed66fb257e548fc018", func := "herdsman/herdsmanlaw1.WhereMates", spec := "whereMates", apart := false, narrowed := true }
def WhereMatesUptoSaid : Prop := whereMatesUptoRow.holds Try.pinned (OpenSpec.upto whereMatesSpec)

end Rows
end Go.Proofs.Ytfgenmohgfifaaa
