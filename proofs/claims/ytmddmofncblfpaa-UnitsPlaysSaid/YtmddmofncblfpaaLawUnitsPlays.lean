import Derived.Test.YtmddmofncblfpaaRows
import Derived.Test.YtmddmofncblfpaaFLUnitsPlays
import Derived.Test.YtmddmofncblfpaaPureUnitsPlays
import Derived.WalkKit
import Derived.ProofKit
import Derived.OpenShut
import Derived.ShutString
import Derived.ChangeOld
import Derived.Below
import Derived.SizedLaws
import Derived.ChangeSlices
namespace Go.Proofs.Ytmddmofncblfpaa.unitsPlays
open Go.ChangeShapes Go.WideShapes Go.ChangeAt Go.RowKit Go.Hx
open Go.ChangeMaps (open_string shut_string)
set_option linter.unusedVariables false
theorem own : ownKnob Try.prog.godebug = none := by kernel_rfl
theorem laidOut : laidOutB Try.prog = true := by kernel_rfl
theorem opens55 : Opens Try.prog 55 k_herdsmanlaw21_Ask (fun x => (inI64 x.Kind ∧ inI64 x.Id ∧ inI64 x.Cell ∧ inI64 x.Goal)) := by
  refine ⟨by kernel_rfl, fun enc w base spare held n cs y h => ?_⟩
  obtain ⟨xs, m, _, _, hl, hlen, hf⟩ := DataW.trod_struct Try.underlying55 h
  have hc : Try.prog.cellsOf 55 = 4 := by kernel_rfl
  rw [hc] at hl
  match cs, hl with
  | [c0, c1, c2, c3], _ =>
    obtain ⟨y0, hy0⟩ : ∃ y, xs[0]? = some y := ⟨xs[0]'(by rw [hlen]; exact Nat.le_of_ble_eq_true rfl), List.getElem?_eq_getElem _⟩
    have f0 := (hf 0 _ rfl).trans hy0
    have e0 : Try.prog.cellsOf 3 = 1 := by kernel_rfl
    obtain ⟨n0, hn0, _, wn0⟩ := DataW.trod_int Try.underlying3 f0
    have hm0 : [c0] = [.int .i64 n0] := by
      rw [← hn0]; show _ = List.take (Try.prog.cellsOf 3) _; rw [e0]; rfl
    obtain rfl := (List.cons.inj hm0).1
    obtain ⟨y1, hy1⟩ : ∃ y, xs[1]? = some y := ⟨xs[1]'(by rw [hlen]; exact Nat.le_of_ble_eq_true rfl), List.getElem?_eq_getElem _⟩
    have f1 := (hf 1 _ rfl).trans hy1
    have e1 : Try.prog.cellsOf 3 = 1 := by kernel_rfl
    obtain ⟨n1, hn1, _, wn1⟩ := DataW.trod_int Try.underlying3 f1
    have hm1 : [c1] = [.int .i64 n1] := by
      rw [← hn1]; show _ = List.take (Try.prog.cellsOf 3) _; rw [e1]; rfl
    obtain rfl := (List.cons.inj hm1).1
    obtain ⟨y2, hy2⟩ : ∃ y, xs[2]? = some y := ⟨xs[2]'(by rw [hlen]; exact Nat.le_of_ble_eq_true rfl), List.getElem?_eq_getElem _⟩
    have f2 := (hf 2 _ rfl).trans hy2
    have e2 : Try.prog.cellsOf 3 = 1 := by kernel_rfl
    obtain ⟨n2, hn2, _, wn2⟩ := DataW.trod_int Try.underlying3 f2
    have hm2 : [c2] = [.int .i64 n2] := by
      rw [← hn2]; show _ = List.take (Try.prog.cellsOf 3) _; rw [e2]; rfl
    obtain rfl := (List.cons.inj hm2).1
    obtain ⟨y3, hy3⟩ : ∃ y, xs[3]? = some y := ⟨xs[3]'(by rw [hlen]; exact Nat.le_of_ble_eq_true rfl), List.getElem?_eq_getElem _⟩
    have f3 := (hf 3 _ rfl).trans hy3
    have e3 : Try.prog.cellsOf 3 = 1 := by kernel_rfl
    obtain ⟨n3, hn3, _, wn3⟩ := DataW.trod_int Try.underlying3 f3
    have hm3 : [c3] = [.int .i64 n3] := by
      rw [← hn3]; show _ = List.take (Try.prog.cellsOf 3) _; rw [e3]; rfl
    obtain rfl := (List.cons.inj hm3).1
    exact ⟨⟨n0, n1, n2, n3⟩, rfl, ⟨wf_i64 wn0, wf_i64 wn1, wf_i64 wn2, wf_i64 wn3⟩⟩
set_option maxRecDepth 100000 in
set_option maxHeartbeats 1000000 in
theorem lifted (os : Os) (started : os.Started) (H : Type) (enc : TypeId × Value → H) :
    ReturnsInHanded {} Try.checked os 8 .any (Rows.unitsPlaysSpec.pre6 enc Try.prog Try.f8 Rows.unitsPlaysRow.domain false) (Rows.unitsPlaysSpec.post enc Try.prog Try.f8 false true false false) := by
  refine returnsInHanded_of_change_sized (C := Try.checked) own started (by kernel_rfl) Try.func8
    (ChangeSpec.witness6 (enc := enc) (C := Try.checked) false ⟨#[], #[(.int .i64 0), (.slice none 0 0)], []⟩ 8 (by kernel_rfl) (by kernel_rfl) (by kernel_rfl) (by kernel_rfl)) ?_
  intro W base args ds gs before hval0 hW hcnd hsz0 _
  have hval : ∀ (j : Nat) t v, Try.f8.params[j]? = some t → args[j]? = some v → Value.okWide Try.prog W .any base t v := hval0
  have hW' := hW
  obtain ⟨p, q, hA0, hV, rfl, hfz, hnd⟩ := hW
  have hA : DataW.TrodAll enc Try.prog W 0 (fun _ => true) true Try.f8.params.toList args.toList ds p := hA0
  rw [Try.params8] at hA hval
  obtain ⟨v0, vs0, d0, ds0, p0, q0, hargs, rfl, rfl, h0, r0⟩ := trodAll_cons hA
  obtain ⟨v1, vs1, d1, ds1, p1, q1, rfl, rfl, rfl, h1, r1⟩ := trodAll_cons r0
  obtain ⟨rfl, rfl, rfl⟩ := trodAll_nil r1
  obtain rfl : args = #[v0, v1] := by cases args; simp_all
  obtain ⟨rfl, rfl⟩ := trodVars_none hV
  obtain ⟨a0, rfl, rfl, rfl, w0⟩ := open_int Try.underlying3 (hval 0 3 v0 rfl rfl) h0
  obtain ⟨a1, len1, cap1, rfl⟩ := okWide_slice Try.underlying50 (hval 1 50 v1 rfl rfl)
  have k1 := h1
  have lt1 : ∀ x ∈ p1, x.block < W.heap.size := by obtain ⟨m, hm⟩ := k1; exact DataW.trod_lt m _ _ _ hm
  obtain ⟨fu1, hf1⟩ := h1
  obtain ⟨b1, n1, x1, hcs1, sr1, cp1, gd1, ml1⟩ := open_flat Try.underlying50 opens55 hf1
  simp only [Value.cells, List.cons.injEq, Value.slice.injEq, and_true] at hcs1
  obtain ⟨rfl, rfl, rfl⟩ := hcs1
  clear hA0 hval0 hsz0
  have pu : law21_UnitsPlays.f a0 x1 = some true := UnitsPlays_pure a0 x1 (wf_i64 w0) gd1
  refine (row_calls W (law21_UnitsPlays.c a0 x1 true (allOf W) pu sr1 cp1)).mono fun e W' ⟨he, bel⟩ => ?_
  subst he
  exact ⟨_, rfl, _, _, _, [], _, [], hW', trodAll_mk1 (shut_bool Try.underlying4 _), (trodAll_cons_mk (shut_int Try.underlying3 w0) (trodAll_cons_mk (Below.trod laidOut (by kernel_rfl) (of_decide_eq_true (by kernel_rfl)) k1 bel lt1) trodAll_mk0)), rfl, bel.frame _, fun h => by cases h⟩
theorem over : Rows.unitsPlaysRow.holds Try.pinned (OpenSpec.ofChange Rows.unitsPlaysSpec) :=
  OpenClaim.holds_of_wide 8 Try.f8 rfl rfl rfl rfl rfl rfl rfl ⟨rfl, rfl, rfl, rfl, rfl⟩ rfl rfl rfl rfl rfl (by kernel_rfl) Try.func8 (by kernel_rfl)
    (of_decide_eq_true (by kernel_rfl)) (by unfold Func.isWrapper; first | (rw [if_pos (by decide +kernel)]; kernel_rfl) | (rw [if_neg (by decide +kernel)]; exact ⟨rfl, rfl⟩))
    (fun os started H enc _ => lifted os started H enc)
end Go.Proofs.Ytmddmofncblfpaa.unitsPlays
namespace Go.Proofs.Ytmddmofncblfpaa
theorem unitsPlays_holds : Rows.UnitsPlaysSaid := unitsPlays.over
end Go.Proofs.Ytmddmofncblfpaa
