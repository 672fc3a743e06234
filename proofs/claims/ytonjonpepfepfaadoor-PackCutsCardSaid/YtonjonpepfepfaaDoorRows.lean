/-
  NARROWER THAN 'FOR EVERY INPUT', by the rows' own cells (each row's printed sentence says how): PackReads: laid · PackBack: laid · PackTurned: laid · PackCuts: laid.
  DERIVED. THE GIVEN ROWS OF THIS SEAT. 4 by the template 'for every input the law returns true; each argument reads behind the call as it read before'; 0 by the template 'total and deterministic' (their statements: YtonjonpepfepfaaDoorTotals.lean).
  GIVEN WITH THE SEED: the statements are not yours to turn. If you find one false, say at which input.
  Laid BY PROGRAM, IN A SANDBOX (cutbox-rows.mjs): the forced cells as the released guide's own fill.sh prints them over the translation 04c62c062fb19ddb… (all of the seat's roots in one cut). By AI agents, Wed Nov 11 2026. No macro, syntax, notation, axiom, sorry.
-/
import Derived.Test.YtonjonpepfepfaaDoorChecked
import GoSem.Claim
import GoSem.ClaimJoined
import GoSem.ClaimMapViews
import Derived.JoinedTies
import Derived.KernelRfl
namespace Go.Proofs.YtonjonpepfepfaaDoor
/- THE CELL 'sum', in the pinned program and in every row, IS THE sha256 OF THE DUMP (.gsa) THAT YtonjonpepfepfaaDoorProg.lean LOADS. Nothing in Lean hashes anything: it is a label: what it is worth is what the hold of that sum in a sandbox is worth. -/
noncomputable def Tryd.pinned : Pinned := { name := "ytonjonpepfepfaadoor", sum := "04c62c062fb19ddb747af485654c40ad2e042c9516ede16936051d0a2a6dc0c3", checked := Tryd.checked }
namespace Rows
def none {H : Type} : Left H := { results := [], args := [] }

/- WHAT THE LISTED PACKAGE-LEVEL VARIABLES READ AS WHEN THE CALL BEGINS. Each datum BY PROGRAM (the guide's laid-datum.mjs) off the statement by which the dump's own 'gosem.cut.vars' lays the variable. In a bare row this is a premise. The card (YtonjonpepfepfaaDoorCards.lean) ties it to the program's text. -/
def laid_errors_errorType {H : Type} : DataW H := .iface "internal/reflectlite.rtype" (.agg [.ptr (.lit (.string [101, 114, 114, 111, 114]))])
def laid_herdsman_pack_errEnd {H : Type} : DataW H := .iface "*errors.errorString" (.ptr (.agg [.lit (.string [116, 104, 101, 32, 98, 121, 116, 101, 115, 32, 101, 110, 100])]))
def laid_herdsman_pack_errForm {H : Type} : DataW H := .iface "*errors.errorString" (.ptr (.agg [.lit (.string [110, 111, 98, 111, 100, 121, 32, 119, 114, 105, 116, 101, 115, 32, 115, 111])]))

/-- 'herdsmanlaw3.PackReads': WHATEVER THE INPUT: true; the input reads as it did. -/
def packReadsSpec : ChangeSpec := { name := "packReads", fn := fun _ => fun
  | [d1, d2, d3, d4, d5] => { results := [.lit (.bool true)], args := [d1, d2, d3, d4, d5] }
  | _ => none }
def packReadsRow : OpenClaim := { program := "ytonjonpepfepfaadoor", sum := "04c62c062fb19ddb747af485654c40ad2e042c9516ede16936051d0a2a6dc0c3", func := "herdsman/herdsmanlaw3.PackReads", spec := "packReads", inPlace := ["internal/bytealg.MakeNoZero", "internal/reflectlite.TypeOf", "internal/reflectlite.ValueOf", "(internal/reflectlite.Value).Type", "(internal/reflectlite.Value).IsNil", "(internal/reflectlite.Value).Elem", "(internal/reflectlite.Value).Set"], unfollowed := true, recurses := true, named := ["herdsman/pack.errForm", "herdsman/pack.errEnd", "errors.errorType"], apart := false, laid := [("errors.errorType", laid_errors_errorType), ("herdsman/pack.errEnd", laid_herdsman_pack_errEnd), ("herdsman/pack.errForm", laid_herdsman_pack_errForm)] }
def PackReadsSaid : Prop := packReadsRow.holds Tryd.pinned (OpenSpec.ofChange packReadsSpec)

/-- ITS FALSE NEIGHBOUR: 'it returns false'. Refute it at one input. -/
def packReadsWrong : ChangeSpec := { name := "packReads", fn := fun _ => fun
  | [d1, d2, d3, d4, d5] => { results := [.lit (.bool false)], args := [d1, d2, d3, d4, d5] }
  | _ => none }
def PackReadsWrongFalsely : Prop := packReadsRow.holds Tryd.pinned (OpenSpec.ofChange packReadsWrong)

/-- 'herdsmanlaw3.PackBack': WHATEVER THE INPUT: true; the input reads as it did. -/
def packBackSpec : ChangeSpec := { name := "packBack", fn := fun _ => fun
  | [d1, d2, d3, d4, d5] => { results := [.lit (.bool true)], args := [d1, d2, d3, d4, d5] }
  | _ => none }
def packBackRow : OpenClaim := { program := "ytonjonpepfepfaadoor", sum := "04c62c062fb19ddb747af485654c40ad2e042c9516ede16936051d0a2a6dc0c3", func := "herdsman/herdsmanlaw3.PackBack", spec := "packBack", inPlace := ["internal/bytealg.MakeNoZero", "internal/reflectlite.TypeOf", "internal/reflectlite.ValueOf", "(internal/reflectlite.Value).Type", "(internal/reflectlite.Value).IsNil", "(internal/reflectlite.Value).Elem", "(internal/reflectlite.Value).Set"], unfollowed := true, recurses := true, named := ["herdsman/pack.errForm", "herdsman/pack.errEnd", "errors.errorType"], apart := false, laid := [("errors.errorType", laid_errors_errorType), ("herdsman/pack.errEnd", laid_herdsman_pack_errEnd), ("herdsman/pack.errForm", laid_herdsman_pack_errForm)] }
def PackBackSaid : Prop := packBackRow.holds Tryd.pinned (OpenSpec.ofChange packBackSpec)

/-- ITS FALSE NEIGHBOUR: 'it returns false'. Refute it at one input. -/
def packBackWrong : ChangeSpec := { name := "packBack", fn := fun _ => fun
  | [d1, d2, d3, d4, d5] => { results := [.lit (.bool false)], args := [d1, d2, d3, d4, d5] }
  | _ => none }
def PackBackWrongFalsely : Prop := packBackRow.holds Tryd.pinned (OpenSpec.ofChange packBackWrong)

/-- 'herdsmanlaw3.PackTurned': WHATEVER THE INPUT: true; the input reads as it did. -/
def packTurnedSpec : ChangeSpec := { name := "packTurned", fn := fun _ => fun
  | [d1, d2, d3, d4, d5, d6] => { results := [.lit (.bool true)], args := [d1, d2, d3, d4, d5, d6] }
  | _ => none }
def packTurnedRow : OpenClaim := { program := "ytonjonpepfepfaadoor", sum := "04c62c062fb19ddb747af485654c40ad2e042c9516ede16936051d0a2a6dc0c3", func := "herdsman/herdsmanlaw3.PackTurned", spec := "packTurned", inPlace := ["internal/bytealg.MakeNoZero", "internal/reflectlite.TypeOf", "internal/reflectlite.ValueOf", "(internal/reflectlite.Value).Type", "(internal/reflectlite.Value).IsNil", "(internal/reflectlite.Value).Elem", "(internal/reflectlite.Value).Set"], unfollowed := true, recurses := true, named := ["herdsman/pack.errForm", "herdsman/pack.errEnd", "errors.errorType"], apart := false, laid := [("errors.errorType", laid_errors_errorType), ("herdsman/pack.errEnd", laid_herdsman_pack_errEnd), ("herdsman/pack.errForm", laid_herdsman_pack_errForm)] }
def PackTurnedSaid : Prop := packTurnedRow.holds Tryd.pinned (OpenSpec.ofChange packTurnedSpec)

/-- ITS FALSE NEIGHBOUR: 'it returns false'. Refute it at one input. -/
def packTurnedWrong : ChangeSpec := { name := "packTurned", fn := fun _ => fun
  | [d1, d2, d3, d4, d5, d6] => { results := [.lit (.bool false)], args := [d1, d2, d3, d4, d5, d6] }
  | _ => none }
def PackTurnedWrongFalsely : Prop := packTurnedRow.holds Tryd.pinned (OpenSpec.ofChange packTurnedWrong)

/-- 'herdsmanlaw3.PackCuts': WHATEVER THE INPUT: true; the input reads as it did. -/
def packCutsSpec : ChangeSpec := { name := "packCuts", fn := fun _ => fun
  | [d1, d2, d3, d4, d5] => { results := [.lit (.bool true)], args := [d1, d2, d3, d4, d5] }
  | _ => none }
def packCutsRow : OpenClaim := { program := "ytonjonpepfepfaadoor", sum := "04c62c062fb19ddb747af485654c40ad2e042c9516ede16936051d0a2a6dc0c3", func := "herdsman/herdsmanlaw3.PackCuts", spec := "packCuts", inPlace := ["internal/bytealg.MakeNoZero", "internal/reflectlite.TypeOf", "internal/reflectlite.ValueOf", "(internal/reflectlite.Value).Type", "(internal/reflectlite.Value).IsNil", "(internal/reflectlite.Value).Elem", "(internal/reflectlite.Value).Set"], unfollowed := true, recurses := true, named := ["herdsman/pack.errForm", "herdsman/pack.errEnd", "errors.errorType"], apart := false, laid := [("errors.errorType", laid_errors_errorType), ("herdsman/pack.errEnd", laid_herdsman_pack_errEnd), ("herdsman/pack.errForm", laid_herdsman_pack_errForm)] }
def PackCutsSaid : Prop := packCutsRow.holds Tryd.pinned (OpenSpec.ofChange packCutsSpec)

/-- ITS FALSE NEIGHBOUR: 'it returns false'. Refute it at one input. -/
def packCutsWrong : ChangeSpec := { name := "packCuts", fn := fun _ => fun
  | [d1, d2, d3, d4, d5] => { results := [.lit (.bool false)], args := [d1, d2, d3, d4, d5] }
  | _ => none }
def PackCutsWrongFalsely : Prop := packCutsRow.holds Tryd.pinned (OpenSpec.ofChange packCutsWrong)

/- THE SECOND FORM. 'bulk': how many values and letters a reading holds, each counted each time it is reached (what is shared counts as often as it is met; a slice's spare places count too). A statement '..UptoSaid' is the law's where the arguments, and the package variables that the reading takes, are together of bulk at most 1048576: NARROWER than '..Said'. Prove '..Said' where nothing that the law and all that it calls make is longer than what came in: it says more and counts as full. Else prove '..UptoSaid'. A law counts once. -/
mutual
def uptoBulk {H : Type} : DataW H → Nat
  | .lit (.string bytes) => bytes.length + 1
  | .lit _ => 1
  | .nil => 1
  | .ptr d => uptoBulk d + 1
  | .slice elems spare => uptoBulkAll elems + uptoBulkAll spare + 1
  | .agg parts => uptoBulkAll parts + 1
  | .iface _ d => uptoBulk d + 1
  | .map entries => uptoBulkEntries entries + 1
  | .held _ => 1
def uptoBulkAll {H : Type} : List (DataW H) → Nat
  | [] => 0
  | d :: r => uptoBulk d + uptoBulkAll r
def uptoBulkEntries {H : Type} : List (Lit × DataW H) → Nat
  | [] => 0
  | x :: r => uptoBulkEntry x + uptoBulkEntries r
def uptoBulkEntry {H : Type} : Lit × DataW H → Nat
  | (.string bytes, d) => bytes.length + uptoBulk d + 1
  | (_, d) => uptoBulk d + 1
 end
def uptoSmall : (H : Type) → List (DataW H) → Bool := fun _ ds => decide (uptoBulkAll ds ≤ 1048576)
def OpenSpec.upto (s : _root_.Go.ChangeSpec) : _root_.Go.OpenSpec := { _root_.Go.OpenSpec.ofChange s with cond := some uptoSmall }

/-- 'herdsmanlaw3.PackReads', WHERE WHAT IT READS IS OF BULK AT MOST 1048576: true; the input reads as it did. -/
def packReadsUptoRow : OpenClaim := { program := "ytonjonpepfepfaadoor", sum := "04c62c062fb19ddb747af485654c40ad2e042c9516ede16936051d0a2a6dc0c3", func := "herdsman/herdsmanlaw3.PackReads", spec := "packReads", inPlace := ["internal/bytealg.MakeNoZero", "internal/reflectlite.TypeOf", "internal/reflectlite.ValueOf", "(internal/reflectlite.Value).Type", "(internal/reflectlite.Value).IsNil", "(internal/reflectlite.Value).Elem", "(internal/reflectlite.Value).Set"], unfollowed := true, recurses := true, named := ["herdsman/pack.errForm", "herdsman/pack.errEnd", "errors.errorType"], apart := false, laid := [("errors.errorType", laid_errors_errorType), ("herdsman/pack.errEnd", laid_herdsman_pack_errEnd), ("herdsman/pack.errForm", laid_herdsman_pack_errForm)], narrowed := true }
def PackReadsUptoSaid : Prop := packReadsUptoRow.holds Tryd.pinned (OpenSpec.upto packReadsSpec)

/-- 'herdsmanlaw3.PackBack', WHERE WHAT IT READS IS OF BULK AT MOST 1048576: true; the input reads as it did. -/
def packBackUptoRow : OpenClaim := { program := "ytonjonpepfepfaadoor", sum := "04c62c062fb19ddb747af485654c40ad2e042c9516ede16936051d0a2a6dc0c3", func := "herdsman/herdsmanlaw3.PackBack", spec := "packBack", inPlace := ["internal/bytealg.MakeNoZero", "internal/reflectlite.TypeOf", "internal/reflectlite.ValueOf", "(internal/reflectlite.Value).Type", "(internal/reflectlite.Value).IsNil", "(internal/reflectlite.Value).Elem", "(internal/reflectlite.Value).Set"], unfollowed := true, recurses := true, named := ["herdsman/pack.errForm", "herdsman/pack.errEnd", "errors.errorType"], apart := false, laid := [("errors.errorType", laid_errors_errorType), ("herdsman/pack.errEnd", laid_herdsman_pack_errEnd), ("herdsman/pack.errForm", laid_herdsman_pack_errForm)], narrowed := true }
def PackBackUptoSaid : Prop := packBackUptoRow.holds Tryd.pinned (OpenSpec.upto packBackSpec)

/-- 'herdsmanlaw3.PackTurned', WHERE WHAT IT READS IS OF BULK AT MOST 1048576: true; the input reads as it did. -/
def packTurnedUptoRow : OpenClaim := { program := "ytonjonpepfepfaadoor", sum := "04c62c062fb19ddb747af485654c40ad2e042c9516ede16936051d0a2a6dc0c3", func := "herdsman/herdsmanlaw3.PackTurned", spec := "packTurned", inPlace := ["internal/bytealg.MakeNoZero", "internal/reflectlite.TypeOf", "internal/reflectlite.ValueOf", "(internal/reflectlite.Value).Type", "(internal/reflectlite.Value).IsNil", "(internal/reflectlite.Value).Elem", "(internal/reflectlite.Value).Set"], unfollowed := true, recurses := true, named := ["herdsman/pack.errForm", "herdsman/pack.errEnd", "errors.errorType"], apart := false, laid := [("errors.errorType", laid_errors_errorType), ("herdsman/pack.errEnd", laid_herdsman_pack_errEnd), ("herdsman/pack.errForm", laid_herdsman_pack_errForm)], narrowed := true }
def PackTurnedUptoSaid : Prop := packTurnedUptoRow.holds Tryd.pinned (OpenSpec.upto packTurnedSpec)

/-- 'herdsmanlaw3.PackCuts', WHERE WHAT IT READS IS OF BULK AT MOST 1048576: true; the input reads as it did. -/
def packCutsUptoRow : OpenClaim := { program := "ytonjonpepfepfaadoor", sum := "04c62c062fb19ddb747af485654c40ad2e042c9516ede16936051d0a2a6dc0c3", func := "herdsman/herdsmanlaw3.PackCuts", spec := "packCuts", inPlace := ["internal/bytealg.MakeNoZero", "internal/reflectlite.TypeOf", "internal/reflectlite.ValueOf", "(internal/reflectlite.Value).Type", "(internal/reflectlite.Value).IsNil", "(internal/reflectlite.Value).Elem", "(internal/reflectlite.Value).Set"], unfollowed := true, recurses := true, named := ["herdsman/pack.errForm", "herdsman/pack.errEnd", "errors.errorType"], apart := false, laid := [("errors.errorType", laid_errors_errorType), ("herdsman/pack.errEnd", laid_herdsman_pack_errEnd), ("herdsman/pack.errForm", laid_herdsman_pack_errForm)], narrowed := true }
def PackCutsUptoSaid : Prop := packCutsUptoRow.holds Tryd.pinned (OpenSpec.upto packCutsSpec)

end Rows
end Go.Proofs.YtonjonpepfepfaaDoor
