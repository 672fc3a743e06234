/-
  No cell of these rows narrows 'for every input' (looked for: loops, veiled, ifaces, maps, wideKeys, modest, calm, conditions, laid).
  DERIVED. THE GIVEN ROWS OF THIS SEAT. 9 by the template 'for every input the law returns true; each argument reads behind the call as it read before'; 0 by the template 'total and deterministic' (their statements: YtkidcebfpengmaaTotals.lean).
  GIVEN WITH THE SEED: the statements are not yours to turn. If you find one false, say at which input.
  Laid BY PROGRAM, IN A SANDBOX (cutbox-rows.mjs): the forced cells as the released guide's own fill.sh prints them over the translation 65725f88c3cf8038… (all of the seat's roots in one cut). By AI agents, Wed Nov 11 2026. No macro, syntax, notation, axiom, sorry.
-/
import Derived.Test.YtkidcebfpengmaaChecked
import GoSem.Claim
import GoSem.ClaimJoined
import GoSem.ClaimMapViews
import Derived.JoinedTies
import Derived.KernelRfl
namespace Go.Proofs.Ytkidcebfpengmaa
/- THE CELL 'sum', in the pinned program and in every row, IS THE sha256 OF THE DUMP (.gsa) THAT YtkidcebfpengmaaProg.lean LOADS. Nothing in Lean hashes anything: it is a label: what it is worth is what the hold of that sum in a sandbox is worth. -/
noncomputable def Try.pinned : Pinned := { name := "ytkidcebfpengmaa", sum := "65725f88c3cf8038137ed21d96e828d0c2bce95d3ee35fb7824735216e712ae4", checked := Try.checked }
namespace Rows
def none {H : Type} : Left H := { results := [], args := [] }

/-- 'herdsmanlaw24.MarchAsks': WHATEVER THE INPUT: true; the input reads as it did. -/
def marchAsksSpec : ChangeSpec := { name := "marchAsks", fn := fun _ => fun
  | [d1, d2, d3, d4, d5, d6] => { results := [.lit (.bool true)], args := [d1, d2, d3, d4, d5, d6] }
  | _ => none }
def marchAsksRow : OpenClaim := { program := "ytkidcebfpengmaa", sum := "65725f88c3cf8038137ed21d96e828d0c2bce95d3ee35fb7824735216e712ae4", func := "herdsman/herdsmanlaw24.MarchAsks", spec := "marchAsks", unfollowed := true, recurses := true, apart := false }
def MarchAsksSaid : Prop := marchAsksRow.holds Try.pinned (OpenSpec.ofChange marchAsksSpec)

/-- ITS FALSE NEIGHBOUR: 'it returns false'. Refute it at one input. -/
def marchAsksWrong : ChangeSpec := { name := "marchAsks", fn := fun _ => fun
  | [d1, d2, d3, d4, d5, d6] => { results := [.lit (.bool false)], args := [d1, d2, d3, d4, d5, d6] }
  | _ => none }
def MarchAsksWrongFalsely : Prop := marchAsksRow.holds Try.pinned (OpenSpec.ofChange marchAsksWrong)

/-- 'herdsmanlaw24.MarchApart': WHATEVER THE INPUT: true; the input reads as it did. -/
def marchApartSpec : ChangeSpec := { name := "marchApart", fn := fun _ => fun
  | [d1, d2, d3] => { results := [.lit (.bool true)], args := [d1, d2, d3] }
  | _ => none }
def marchApartRow : OpenClaim := { program := "ytkidcebfpengmaa", sum := "65725f88c3cf8038137ed21d96e828d0c2bce95d3ee35fb7824735216e712ae4", func := "herdsman/herdsmanlaw24.MarchApart", spec := "marchApart", unfollowed := true, recurses := true, apart := false }
def MarchApartSaid : Prop := marchApartRow.holds Try.pinned (OpenSpec.ofChange marchApartSpec)

/-- ITS FALSE NEIGHBOUR: 'it returns false'. Refute it at one input. -/
def marchApartWrong : ChangeSpec := { name := "marchApart", fn := fun _ => fun
  | [d1, d2, d3] => { results := [.lit (.bool false)], args := [d1, d2, d3] }
  | _ => none }
def MarchApartWrongFalsely : Prop := marchApartRow.holds Try.pinned (OpenSpec.ofChange marchApartWrong)

/-- 'herdsmanlaw24.MarchStays': WHATEVER THE INPUT: true; the input reads as it did. -/
def marchStaysSpec : ChangeSpec := { name := "marchStays", fn := fun _ => fun
  | [d1, d2, d3] => { results := [.lit (.bool true)], args := [d1, d2, d3] }
  | _ => none }
def marchStaysRow : OpenClaim := { program := "ytkidcebfpengmaa", sum := "65725f88c3cf8038137ed21d96e828d0c2bce95d3ee35fb7824735216e712ae4", func := "herdsman/herdsmanlaw24.MarchStays", spec := "marchStays", unfollowed := true, recurses := true, apart := false }
def MarchStaysSaid : Prop := marchStaysRow.holds Try.pinned (OpenSpec.ofChange marchStaysSpec)

/-- ITS FALSE NEIGHBOUR: 'it returns false'. Refute it at one input. -/
def marchStaysWrong : ChangeSpec := { name := "marchStays", fn := fun _ => fun
  | [d1, d2, d3] => { results := [.lit (.bool false)], args := [d1, d2, d3] }
  | _ => none }
def MarchStaysWrongFalsely : Prop := marchStaysRow.holds Try.pinned (OpenSpec.ofChange marchStaysWrong)

/-- 'herdsmanlaw24.MarchAlone': WHATEVER THE INPUT: true; the input reads as it did. -/
def marchAloneSpec : ChangeSpec := { name := "marchAlone", fn := fun _ => fun
  | [d1, d2, d3, d4, d5, d6] => { results := [.lit (.bool true)], args := [d1, d2, d3, d4, d5, d6] }
  | _ => none }
def marchAloneRow : OpenClaim := { program := "ytkidcebfpengmaa", sum := "65725f88c3cf8038137ed21d96e828d0c2bce95d3ee35fb7824735216e712ae4", func := "herdsman/herdsmanlaw24.MarchAlone", spec := "marchAlone", unfollowed := true, recurses := true, apart := false }
def MarchAloneSaid : Prop := marchAloneRow.holds Try.pinned (OpenSpec.ofChange marchAloneSpec)

/-- ITS FALSE NEIGHBOUR: 'it returns false'. Refute it at one input. -/
def marchAloneWrong : ChangeSpec := { name := "marchAlone", fn := fun _ => fun
  | [d1, d2, d3, d4, d5, d6] => { results := [.lit (.bool false)], args := [d1, d2, d3, d4, d5, d6] }
  | _ => none }
def MarchAloneWrongFalsely : Prop := marchAloneRow.holds Try.pinned (OpenSpec.ofChange marchAloneWrong)

/-- 'herdsmanlaw25.CrowdCodes': WHATEVER THE INPUT: true; the input reads as it did. -/
def crowdCodesSpec : ChangeSpec := { name := "crowdCodes", fn := fun _ => fun
  | [d1, d2, d3, d4, d5, d6] => { results := [.lit (.bool true)], args := [d1, d2, d3, d4, d5, d6] }
  | _ => none }
def crowdCodesRow : OpenClaim := { program := "ytkidcebfpengmaa", sum := "65725f88c3cf8038137ed21d96e828d0c2bce95d3ee35fb7824735216e712ae4", func := "herdsman/herdsmanlaw25.CrowdCodes", spec := "crowdCodes", unfollowed := true, recurses := true, apart := false }
def CrowdCodesSaid : Prop := crowdCodesRow.holds Try.pinned (OpenSpec.ofChange crowdCodesSpec)

/-- ITS FALSE NEIGHBOUR: 'it returns false'. Refute it at one input. -/
def crowdCodesWrong : ChangeSpec := { name := "crowdCodes", fn := fun _ => fun
  | [d1, d2, d3, d4, d5, d6] => { results := [.lit (.bool false)], args := [d1, d2, d3, d4, d5, d6] }
  | _ => none }
def CrowdCodesWrongFalsely : Prop := crowdCodesRow.holds Try.pinned (OpenSpec.ofChange crowdCodesWrong)

/-- 'herdsmanlaw25.CrowdIds': WHATEVER THE INPUT: true; the input reads as it did. -/
def crowdIdsSpec : ChangeSpec := { name := "crowdIds", fn := fun _ => fun
  | [d1, d2, d3] => { results := [.lit (.bool true)], args := [d1, d2, d3] }
  | _ => none }
def crowdIdsRow : OpenClaim := { program := "ytkidcebfpengmaa", sum := "65725f88c3cf8038137ed21d96e828d0c2bce95d3ee35fb7824735216e712ae4", func := "herdsman/herdsmanlaw25.CrowdIds", spec := "crowdIds", unfollowed := true, recurses := true, apart := false }
def CrowdIdsSaid : Prop := crowdIdsRow.holds Try.pinned (OpenSpec.ofChange crowdIdsSpec)

/-- ITS FALSE NEIGHBOUR: 'it returns false'. Refute it at one input. -/
def crowdIdsWrong : ChangeSpec := { name := "crowdIds", fn := fun _ => fun
  | [d1, d2, d3] => { results := [.lit (.bool false)], args := [d1, d2, d3] }
  | _ => none }
def CrowdIdsWrongFalsely : Prop := crowdIdsRow.holds Try.pinned (OpenSpec.ofChange crowdIdsWrong)

/-- 'herdsmanlaw25.CrowdPlays': WHATEVER THE INPUT: true; the input reads as it did. -/
def crowdPlaysSpec : ChangeSpec := { name := "crowdPlays", fn := fun _ => fun
  | [d1, d2, d3, d4, d5] => { results := [.lit (.bool true)], args := [d1, d2, d3, d4, d5] }
  | _ => none }
def crowdPlaysRow : OpenClaim := { program := "ytkidcebfpengmaa", sum := "65725f88c3cf8038137ed21d96e828d0c2bce95d3ee35fb7824735216e712ae4", func := "herdsman/herdsmanlaw25.CrowdPlays", spec := "crowdPlays", unfollowed := true, recurses := true, apart := false }
def CrowdPlaysSaid : Prop := crowdPlaysRow.holds Try.pinned (OpenSpec.ofChange crowdPlaysSpec)

/-- ITS FALSE NEIGHBOUR: 'it returns false'. Refute it at one input. -/
def crowdPlaysWrong : ChangeSpec := { name := "crowdPlays", fn := fun _ => fun
  | [d1, d2, d3, d4, d5] => { results := [.lit (.bool false)], args := [d1, d2, d3, d4, d5] }
  | _ => none }
def CrowdPlaysWrongFalsely : Prop := crowdPlaysRow.holds Try.pinned (OpenSpec.ofChange crowdPlaysWrong)

/-- 'herdsmanlaw25.CrowdApart': WHATEVER THE INPUT: true; the input reads as it did. -/
def crowdApartSpec : ChangeSpec := { name := "crowdApart", fn := fun _ => fun
  | [d1, d2, d3, d4] => { results := [.lit (.bool true)], args := [d1, d2, d3, d4] }
  | _ => none }
def crowdApartRow : OpenClaim := { program := "ytkidcebfpengmaa", sum := "65725f88c3cf8038137ed21d96e828d0c2bce95d3ee35fb7824735216e712ae4", func := "herdsman/herdsmanlaw25.CrowdApart", spec := "crowdApart", unfollowed := true, recurses := true, apart := false }
def CrowdApartSaid : Prop := crowdApartRow.holds Try.pinned (OpenSpec.ofChange crowdApartSpec)

/-- ITS FALSE NEIGHBOUR: 'it returns false'. Refute it at one input. -/
def crowdApartWrong : ChangeSpec := { name := "crowdApart", fn := fun _ => fun
  | [d1, d2, d3, d4] => { results := [.lit (.bool false)], args := [d1, d2, d3, d4] }
  | _ => none }
def CrowdApartWrongFalsely : Prop := crowdApartRow.holds Try.pinned (OpenSpec.ofChange crowdApartWrong)

/-- 'herdsmanlaw25.CrowdNone': WHATEVER THE INPUT: true; the input reads as it did. -/
def crowdNoneSpec : ChangeSpec := { name := "crowdNone", fn := fun _ => fun
  | [d1, d2, d3, d4, d5] => { results := [.lit (.bool true)], args := [d1, d2, d3, d4, d5] }
  | _ => none }
def crowdNoneRow : OpenClaim := { program := "ytkidcebfpengmaa", sum := "65725f88c3cf8038137ed21d96e828d0c2bce95d3ee35fb7824735216e712ae4", func := "herdsman/herdsmanlaw25.CrowdNone", spec := "crowdNone", unfollowed := true, recurses := true, apart := false }
def CrowdNoneSaid : Prop := crowdNoneRow.holds Try.pinned (OpenSpec.ofChange crowdNoneSpec)

/-- ITS FALSE NEIGHBOUR: 'it returns false'. Refute it at one input. -/
def crowdNoneWrong : ChangeSpec := { name := "crowdNone", fn := fun _ => fun
  | [d1, d2, d3, d4, d5] => { results := [.lit (.bool false)], args := [d1, d2, d3, d4, d5] }
  | _ => none }
def CrowdNoneWrongFalsely : Prop := crowdNoneRow.holds Try.pinned (OpenSpec.ofChange crowdNoneWrong)

/- THE SECOND FORM. 'bulk': how many values and letters a reading holds, each counted each time it is reached (what is shared counts as often as it is met; a slice's spare places count too). A statement '..UptoSaid' is the law's where the arguments, and the package variables that the reading takes, are together of bulk at most 1048576: NARROWER than '..Said'. Prove '..Said' where nothing that the law and all that it calls make is longer than what came in: it says more and counts as full. Else prove '..UptoSaid'. A law counts once. -/
mutual
def uptoBulk {H : Type} : DataW H → Nat
  | .lit (.string bytes) => bytes.length + 1
  | .lit _ => 1
  | .nil => 1
  | .ptr d => uptoBulk d + 1
  | .slice elems spare => uptoBulkAll elems + uptoBulkAll spare + 1
  | .agg parts => uptoBulkAll parts + 1
  | .iface _ d => uptoBulk d + 1
  | .map entries => uptoBulkEntries entries + 1
  | .held _ => 1
def uptoBulkAll {H : Type} : List (DataW H) → Nat
  | [] => 0
  | d :: r => uptoBulk d + uptoBulkAll r
def uptoBulkEntries {H : Type} : List (Lit × DataW H) → Nat
  | [] => 0
  | x :: r => uptoBulkEntry x + uptoBulkEntries r
def uptoBulkEntry {H : Type} : Lit × DataW H → Nat
  | (.string bytes, d) => bytes.length + uptoBulk d + 1
  | (_, d) => uptoBulk d + 1
 end
def uptoSmall : (H : Type) → List (DataW H) → Bool := fun _ ds => decide (uptoBulkAll ds ≤ 1048576)
def OpenSpec.upto (s : _root_.Go.ChangeSpec) : _root_.Go.OpenSpec := { _root_.Go.OpenSpec.ofChange s with cond := some uptoSmall }

/-- 'herdsmanlaw24.MarchAsks', WHERE WHAT IT READS IS OF BULK AT MOST 1048576: true; the input reads as it did. -/
def marchAsksUptoRow : OpenClaim := { program := "ytkidcebfpengmaa", sum := "65725f88c3cf8038137ed21d96e828d0c2bce95d3ee35fb7824735216e712ae4", func := "herdsman/herdsmanlaw24.MarchAsks", spec := "marchAsks", unfollowed := true, recurses := true, apart := false, narrowed := true }
def MarchAsksUptoSaid : Prop := marchAsksUptoRow.holds Try.pinned (OpenSpec.upto marchAsksSpec)

/-- 'herdsmanlaw24.MarchApart', WHERE WHAT IT READS IS OF BULK AT MOST 1048576: true; the input reads as it did. -/
def marchApartUptoRow : OpenClaim := { program := "ytkidcebfpengmaa", sum := "65725f88c3cf8038137ed21d96e828d0c2bce95d3ee35fb7824735216e712ae4", func := "herdsman/herdsmanlaw24.MarchApart", spec := "marchApart", unfollowed := true, recurses := true, apart := false, narrowed := true }
def MarchApartUptoSaid : Prop := marchApartUptoRow.holds Try.pinned (OpenSpec.upto marchApartSpec)

/-- 'herdsmanlaw24.MarchStays', WHERE WHAT IT READS IS OF BULK AT MOST 1048576: true; the input reads as it did. -/
def marchStaysUptoRow : OpenClaim := { program := "ytkidcebfpengmaa", sum := "65725f88c3cf8038137ed21d96e828d0c2bce95d3ee35fb7824735216e712ae4", func := "herdsman/herdsmanlaw24.MarchStays", spec := "marchStays", unfollowed := true, recurses := true, apart := false, narrowed := true }
def MarchStaysUptoSaid : Prop := marchStaysUptoRow.holds Try.pinned (OpenSpec.upto marchStaysSpec)

/-- 'herdsmanlaw24.MarchAlone', WHERE WHAT IT READS IS OF BULK AT MOST 1048576: true; the input reads as it did. -/
def marchAloneUptoRow : OpenClaim := { program := "ytkidcebfpengmaa", sum := "65725f88c3cf8038137ed21d96e828d0c2bce95d3ee35fb7824735216e712ae4", func := "herdsman/herdsmanlaw24.MarchAlone", spec := "marchAlone", unfollowed := true, recurses := true, apart := false, narrowed := true }
def MarchAloneUptoSaid : Prop := marchAloneUptoRow.holds Try.pinned (OpenSpec.upto marchAloneSpec)

/-- 'herdsmanlaw25.CrowdCodes', WHERE WHAT IT READS IS OF BULK AT MOST 1048576: true; the input reads as it did. -/
def crowdCodesUptoRow : OpenClaim := { program := "ytkidcebfpengmaa", sum := "65725f88c3cf8038137ed21d96e828d0c2bce95d3ee35fb7824735216e712ae4", func := "herdsman/herdsmanlaw25.CrowdCodes", spec := "crowdCodes", unfollowed := true, recurses := true, apart := false, narrowed := true }
def CrowdCodesUptoSaid : Prop := crowdCodesUptoRow.holds Try.pinned (OpenSpec.upto crowdCodesSpec)

/-- 'herdsmanlaw25.CrowdIds', WHERE WHAT IT READS IS OF BULK AT MOST 1048576: true; the input reads as it did. -/
def crowdIdsUptoRow : OpenClaim := { program := "ytkidcebfpengmaa", sum := "65725f88c3cf8038137ed21d96e828d0c2bce95d3ee35fb7824735216e712ae4", func := "herdsman/herdsmanlaw25.CrowdIds", spec := "crowdIds", unfollowed := true, recurses := true, apart := false, narrowed := true }
def CrowdIdsUptoSaid : Prop := crowdIdsUptoRow.holds Try.pinned (OpenSpec.upto crowdIdsSpec)

/-- 'herdsmanlaw25.CrowdPlays', WHERE WHAT IT READS IS OF BULK AT MOST 1048576: true; the input reads as it did. -/
def crowdPlaysUptoRow : OpenClaim := { program := "ytkidcebfpengmaa", sum := "65725f88c3cf8038137ed21d96e828d0c2bce95d3ee35fb7824735216e712ae4", func := "herdsman/herdsmanlaw25.CrowdPlays", spec := "crowdPlays", unfollowed := true, recurses := true, apart := false, narrowed := true }
def CrowdPlaysUptoSaid : Prop := crowdPlaysUptoRow.holds Try.pinned (OpenSpec.upto crowdPlaysSpec)

/-- 'herdsmanlaw25.CrowdApart', WHERE WHAT IT READS IS OF BULK AT MOST 1048576: true; the input reads as it did. -/
def crowdApartUptoRow : OpenClaim := { program := "ytkidcebfpengmaa", sum := "65725f88c3cf8038137ed21d96e828d0c2bce95d3ee35fb7824735216e712ae4", func := "herdsman/herdsmanlaw25.CrowdApart", spec := "crowdApart", unfollowed := true, recurses := true, apart := false, narrowed := true }
def CrowdApartUptoSaid : Prop := crowdApartUptoRow.holds Try.pinned (OpenSpec.upto crowdApartSpec)

/-- 'herdsmanlaw25.CrowdNone', WHERE WHAT IT READS IS OF BULK AT MOST 1048576: true; the input reads as it did. -/
def crowdNoneUptoRow : OpenClaim := { program := "ytkidcebfpengmaa", sum := "65725f88c3cf8038137ed21d96e828d0c2bce95d3ee35fb7824735216e712ae4", func := "herdsman/herdsmanlaw25.CrowdNone", spec := "crowdNone", unfollowed := true, recurses := true, apart := false, narrowed := true }
def CrowdNoneUptoSaid : Prop := crowdNoneUptoRow.holds Try.pinned (OpenSpec.upto crowdNoneSpec)

end Rows
end Go.Proofs.Ytkidcebfpengmaa
