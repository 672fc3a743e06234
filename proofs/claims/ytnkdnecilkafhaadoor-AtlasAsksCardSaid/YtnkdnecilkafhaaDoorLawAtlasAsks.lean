import Derived.Test.YtnkdnecilkafhaaDoorRows
import Derived.Test.YtnkdnecilkafhaaDoorFLAtlasAsks
import Derived.Test.YtnkdnecilkafhaaDoorPureAtlasAsks
import Derived.WalkKit
import Derived.ProofKit
import Derived.OpenShut
import Derived.ShutString
import Derived.ChangeOld
import Derived.Below
import Derived.SizedLaws
import Derived.ChangeSlices
import Derived.Test.YtnkdnecilkafhaaDoorLaid
import Derived.Test.YtnkdnecilkafhaaDoorCards
import Derived.Test.YtnkdnecilkafhaaDoorTie
import Derived.SevenTiedAt
namespace Go.Proofs.YtnkdnecilkafhaaDoor.atlasAsks
open Go.ChangeShapes Go.WideShapes Go.ChangeAt Go.RowKit Go.Hx
open Go.ChangeMaps (open_string shut_string)
set_option linter.unusedVariables false
theorem own : ownKnob Tryd.prog.godebug = none := by kernel_rfl
theorem laidOut : laidOutB Tryd.prog = true := by kernel_rfl
set_option maxRecDepth 100000 in
set_option maxHeartbeats 1000000 in
theorem lifted (os : Os) (started : os.Started) (H : Type) (enc : TypeId × Value → H) :
    ReturnsInHanded {} Tryd.checked os 7 .any (fun w args => (Rows.atlasAsksSpec.pre enc Tryd.prog Tryd.f7 Rows.atlasAsksRow.domain false w args ∧ laidMetH Tryd.prog laid_ w) ∧ sizedMet enc Tryd.prog Tryd.f7 (OpenSpec.ofChange Rows.atlasAsksSpec) false w args) (Rows.atlasAsksSpec.post enc Tryd.prog Tryd.f7 false true false false) := by
  refine returnsInHanded_of_change_and (C := Tryd.checked) (X := fun w _ => laidMetH Tryd.prog laid_ w) (fun _ _ _ hh h => h.of_heap hh) own started (by kernel_rfl) Tryd.func7
    (ChangeSpec.witness_at (enc := enc) (C := Tryd.checked) (os := os) (X := fun w _ => laidMetH Tryd.prog laid_ w) false (laidWorld os) #[(.agg #[(.int .i64 0), (.int .i64 0), (.slice none 0 0)]), (.int .i64 0), (.bool false)] 8 rfl (by kernel_rfl) (by kernel_rfl) (by kernel_rfl) (by kernel_rfl) (by kernel_rfl) (laidWorld_met os _)) ?_
  intro W base args ds gs before hval0 hW hcnd hsz0 hL _
  obtain ⟨el, hG⟩ := glb_of_laid hL
  have hval : ∀ (j : Nat) t v, Tryd.f7.params[j]? = some t → args[j]? = some v → Value.okWide Tryd.prog W .any base t v := hval0
  have hW' := hW
  obtain ⟨p, q, hA0, hV, rfl, hfz, hnd⟩ := hW
  have hA : DataW.TrodAll enc Tryd.prog W 0 (fun _ => true) true Tryd.f7.params.toList args.toList ds p := hA0
  rw [Tryd.params7] at hA hval
  obtain ⟨v0, vs0, d0, ds0, p0, q0, hargs, rfl, rfl, h0, r0⟩ := trodAll_cons hA
  obtain ⟨v1, vs1, d1, ds1, p1, q1, rfl, rfl, rfl, h1, r1⟩ := trodAll_cons r0
  obtain ⟨v2, vs2, d2, ds2, p2, q2, rfl, rfl, rfl, h2, r2⟩ := trodAll_cons r1
  obtain ⟨rfl, rfl, rfl⟩ := trodAll_nil r2
  obtain rfl : args = #[v0, v1, v2] := by cases args; simp_all
  obtain ⟨rfl, rfl⟩ := trodVars_none hV
  obtain ⟨cs0, rfl, sz0⟩ := okWide_struct Tryd.underlying26 (hval 0 26 v0 rfl rfl)
  have k0 := h0
  have lt0 : ∀ x ∈ p0, x.block < W.heap.size := by obtain ⟨m, hm⟩ := k0; exact DataW.trod_lt m _ _ _ hm
  obtain ⟨fu0, hg0⟩ := h0
  obtain ⟨xs0, m0, _, _, hl0, hlen0, hf0⟩ := DataW.trod_struct Tryd.underlying26 hg0
  have hc0 : Tryd.prog.cellsOf 26 = 3 := by kernel_rfl
  rw [hc0] at sz0
  obtain ⟨c0_0, c0_1, c0_2, rfl⟩ := arr_3 sz0
  obtain ⟨y0_0, hy0_0⟩ : ∃ y, xs0[0]? = some y := ⟨xs0[0]'(by rw [hlen0]; exact Nat.le_of_ble_eq_true rfl), List.getElem?_eq_getElem _⟩
  have f0_0 := (hf0 0 _ rfl).trans hy0_0
  have e0_0 : Tryd.prog.cellsOf 3 = 1 := by kernel_rfl
  obtain ⟨n0_0, hn0_0, _, wn0_0⟩ := DataW.trod_int Tryd.underlying3 f0_0
  have hm0_0 : [c0_0] = [.int .i64 n0_0] := by rw [← hn0_0]; show _ = List.take (Tryd.prog.cellsOf 3) _; rw [e0_0]; rfl
  obtain rfl := (List.cons.inj hm0_0).1
  obtain ⟨y0_1, hy0_1⟩ : ∃ y, xs0[1]? = some y := ⟨xs0[1]'(by rw [hlen0]; exact Nat.le_of_ble_eq_true rfl), List.getElem?_eq_getElem _⟩
  have f0_1 := (hf0 1 _ rfl).trans hy0_1
  have e0_1 : Tryd.prog.cellsOf 3 = 1 := by kernel_rfl
  obtain ⟨n0_1, hn0_1, _, wn0_1⟩ := DataW.trod_int Tryd.underlying3 f0_1
  have hm0_1 : [c0_1] = [.int .i64 n0_1] := by rw [← hn0_1]; show _ = List.take (Tryd.prog.cellsOf 3) _; rw [e0_1]; rfl
  obtain rfl := (List.cons.inj hm0_1).1
  obtain ⟨y0_2, hy0_2⟩ : ∃ y, xs0[2]? = some y := ⟨xs0[2]'(by rw [hlen0]; exact Nat.le_of_ble_eq_true rfl), List.getElem?_eq_getElem _⟩
  have f0_2 := (hf0 2 _ rfl).trans hy0_2
  have e0_2 : Tryd.prog.cellsOf 22 = 1 := by kernel_rfl
  obtain ⟨b0_2, nn0_2, x0_2, hcs0_2, sr0_2, cp0_2, gd0_2, ml0_2⟩ := open_flat Tryd.underlying22 (opens_u8 Tryd.underlying5 (by kernel_rfl)) f0_2
  have hm0_2 : [c0_2] = [.slice b0_2 (List.length x0_2) nn0_2] := by rw [← hcs0_2]; show _ = List.take (Tryd.prog.cellsOf 22) _; rw [e0_2]; rfl
  obtain rfl := (List.cons.inj hm0_2).1
  obtain ⟨a1, rfl, rfl, rfl, w1⟩ := open_int Tryd.underlying3 (hval 1 3 v1 rfl rfl) h1
  obtain ⟨a2, rfl, rfl, rfl⟩ := open_bool Tryd.underlying4 (hval 2 4 v2 rfl rfl) h2
  clear hA0 hval0 hsz0
  have pu : law4_AtlasAsks.f ⟨n0_0, n0_1, x0_2⟩ a1 a2 = some true := AtlasAsks_pure ⟨n0_0, n0_1, x0_2⟩ a1 a2 ⟨wf_i64 wn0_0, wf_i64 wn0_1, gd0_2⟩ (wf_i64 w1) ml0_2
  refine (row_calls W (law4_AtlasAsks.c ⟨n0_0, n0_1, x0_2⟩ a1 a2 true (allOf W) pu hG sr0_2 cp0_2)).mono fun e W' ⟨he, bel⟩ => ?_
  subst he
  exact ⟨_, rfl, _, _, _, [], _, [], hW', trodAll_mk1 (shut_bool Tryd.underlying4 _), (trodAll_cons_mk (Below.trod laidOut (by kernel_rfl) (of_decide_eq_true (by kernel_rfl)) k0 bel lt0) (trodAll_cons_mk (shut_int Tryd.underlying3 w1) (trodAll_cons_mk (shut_bool Tryd.underlying4 _) trodAll_mk0))), rfl, bel.frame _, fun h => by cases h⟩
theorem over : Rows.atlasAsksRow.holds Tryd.pinned (OpenSpec.ofChange Rows.atlasAsksSpec) :=
  OpenClaim.holds_of_wide 7 Tryd.f7 rfl rfl rfl rfl rfl rfl rfl ⟨rfl, rfl, rfl, rfl, rfl⟩ rfl rfl rfl rfl rfl (by kernel_rfl) Tryd.func7 (by kernel_rfl)
    (of_decide_eq_true (by kernel_rfl)) (by unfold Func.isWrapper; first | (rw [if_pos (by decide +kernel)]; kernel_rfl) | (rw [if_neg (by decide +kernel)]; exact ⟨rfl, rfl⟩))
    (fun os started H enc _ => lifted os started H enc)
theorem card : Rows.AtlasAsksCardSaid :=
  Claim7.holds_tied_plain_at .later [] [.handle, .sentinel, .sentinel] true (true, "70828caca83314c99d08c79441d19926d7f904e8ffa495d48eee308665aabcc9") true over (fun _ h => by cases h) (by kernel_rfl) (fun _ h => by cases h) atlasAsks_row_tie rfl ⟨rfl, rfl⟩ (by kernel_rfl) rfl
    (fun f fn hf hfn => by
      obtain rfl : f = 7 := Option.some.inj ((show Tryd.prog.funcNamed "herdsman/herdsmanlaw4.AtlasAsks" = some 7 by kernel_rfl).symm.trans hf) |>.symm
      obtain rfl : fn = Tryd.f7 := (Option.some.inj (Tryd.func7.symm.trans hfn)).symm
      exact ⟨by kernel_rfl, fun j t ht => by
        have hall : (Tryd.f7.params.toList.all fun t => !Tryd.prog.wantsStandIn t) = true := by kernel_rfl
        have hm : t ∈ Tryd.f7.params.toList := Array.mem_toList_iff.2 (Array.mem_of_getElem? ht)
        have := List.all_eq_true.1 hall t hm
        show Tryd.prog.wantsStandIn t = false
        simpa using this⟩)
    (by kernel_rfl)
end Go.Proofs.YtnkdnecilkafhaaDoor.atlasAsks
namespace Go.Proofs.YtnkdnecilkafhaaDoor
theorem atlasAsks_holds : Rows.AtlasAsksCardSaid := atlasAsks.card
end Go.Proofs.YtnkdnecilkafhaaDoor
