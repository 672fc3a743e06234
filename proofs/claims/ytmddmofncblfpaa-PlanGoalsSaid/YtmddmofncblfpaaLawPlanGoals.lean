import Derived.Test.YtmddmofncblfpaaRows
import Derived.Test.YtmddmofncblfpaaFLPlanGoals
import Derived.Test.YtmddmofncblfpaaPurePlanGoals
import Derived.WalkKit
import Derived.ProofKit
import Derived.OpenShut
import Derived.ShutString
import Derived.ChangeOld
import Derived.Below
import Derived.SizedLaws
import Derived.ChangeSlices
namespace Go.Proofs.Ytmddmofncblfpaa.planGoals
open Go.ChangeShapes Go.WideShapes Go.ChangeAt Go.RowKit Go.Hx
open Go.ChangeMaps (open_string shut_string)
set_option linter.unusedVariables false
theorem own : ownKnob Try.prog.godebug = none := by kernel_rfl
theorem laidOut : laidOutB Try.prog = true := by kernel_rfl
theorem lst47 {α : Type} {cs : List α} (h : cs.length = 3) : ∃ c0 c1 c2, cs = [c0, c1, c2] := by
  match cs, h with
  | [c0, c1, c2], _ => exact ⟨c0, c1, c2, rfl⟩
theorem opens47 : Opens Try.prog 47 k_api_Unit (fun x => (inI64 x.Id ∧ inI64 x.Cell ∧ inI64 x.Goal)) := by
  refine ⟨by kernel_rfl, fun enc w base spare held n cs y h => ?_⟩
  obtain ⟨xs, m, _, _, hl, hlen, hf⟩ := DataW.trod_struct Try.underlying47 h
  have hc : Try.prog.cellsOf 47 = 3 := by kernel_rfl
  rw [hc] at hl
  obtain ⟨c0, c1, c2, rfl⟩ := lst47 hl
  obtain ⟨y0, hy0⟩ : ∃ y, xs[0]? = some y := ⟨xs[0]'(by rw [hlen]; exact Nat.le_of_ble_eq_true rfl), List.getElem?_eq_getElem _⟩
  have f0 := (hf 0 _ rfl).trans hy0
  have e0 : Try.prog.cellsOf 3 = 1 := by kernel_rfl
  obtain ⟨n0, hn0, _, wn0⟩ := DataW.trod_int Try.underlying3 f0
  have hm0 : [c0] = [.int .i64 n0] := by
    rw [← hn0]; show _ = List.take (Try.prog.cellsOf 3) _; rw [e0]; rfl
  obtain rfl := (List.cons.inj hm0).1
  obtain ⟨y1, hy1⟩ : ∃ y, xs[1]? = some y := ⟨xs[1]'(by rw [hlen]; exact Nat.le_of_ble_eq_true rfl), List.getElem?_eq_getElem _⟩
  have f1 := (hf 1 _ rfl).trans hy1
  have e1 : Try.prog.cellsOf 3 = 1 := by kernel_rfl
  obtain ⟨n1, hn1, _, wn1⟩ := DataW.trod_int Try.underlying3 f1
  have hm1 : [c1] = [.int .i64 n1] := by
    rw [← hn1]; show _ = List.take (Try.prog.cellsOf 3) _; rw [e1]; rfl
  obtain rfl := (List.cons.inj hm1).1
  obtain ⟨y2, hy2⟩ : ∃ y, xs[2]? = some y := ⟨xs[2]'(by rw [hlen]; exact Nat.le_of_ble_eq_true rfl), List.getElem?_eq_getElem _⟩
  have f2 := (hf 2 _ rfl).trans hy2
  have e2 : Try.prog.cellsOf 3 = 1 := by kernel_rfl
  obtain ⟨n2, hn2, _, wn2⟩ := DataW.trod_int Try.underlying3 f2
  have hm2 : [c2] = [.int .i64 n2] := by
    rw [← hn2]; show _ = List.take (Try.prog.cellsOf 3) _; rw [e2]; rfl
  obtain rfl := (List.cons.inj hm2).1
  exact ⟨⟨n0, n1, n2⟩, rfl, ⟨wf_i64 wn0, wf_i64 wn1, wf_i64 wn2⟩⟩
set_option maxRecDepth 100000 in
set_option maxHeartbeats 1000000 in
theorem lifted (os : Os) (started : os.Started) (H : Type) (enc : TypeId × Value → H) :
    ReturnsInHanded {} Try.checked os 14 .any (Rows.planGoalsSpec.pre6 enc Try.prog Try.f14 Rows.planGoalsRow.domain false) (Rows.planGoalsSpec.post enc Try.prog Try.f14 false true false false) := by
  refine returnsInHanded_of_change_sized (C := Try.checked) own started (by kernel_rfl) Try.func14
    (ChangeSpec.witness6 (enc := enc) (C := Try.checked) false ⟨#[], #[(.slice none 0 0), (.bool false)], []⟩ 8 (by kernel_rfl) (by kernel_rfl) (by kernel_rfl) (by kernel_rfl)) ?_
  intro W base args ds gs before hval0 hW hcnd hsz0 _
  have hval : ∀ (j : Nat) t v, Try.f14.params[j]? = some t → args[j]? = some v → Value.okWide Try.prog W .any base t v := hval0
  have hW' := hW
  obtain ⟨p, q, hA0, hV, rfl, hfz, hnd⟩ := hW
  have hA : DataW.TrodAll enc Try.prog W 0 (fun _ => true) true Try.f14.params.toList args.toList ds p := hA0
  rw [Try.params14] at hA hval
  obtain ⟨v0, vs0, d0, ds0, p0, q0, hargs, rfl, rfl, h0, r0⟩ := trodAll_cons hA
  obtain ⟨v1, vs1, d1, ds1, p1, q1, rfl, rfl, rfl, h1, r1⟩ := trodAll_cons r0
  obtain ⟨rfl, rfl, rfl⟩ := trodAll_nil r1
  obtain rfl : args = #[v0, v1] := by cases args; simp_all
  obtain ⟨rfl, rfl⟩ := trodVars_none hV
  obtain ⟨a0, len0, cap0, rfl⟩ := okWide_slice Try.underlying44 (hval 0 44 v0 rfl rfl)
  have k0 := h0
  have lt0 : ∀ x ∈ p0, x.block < W.heap.size := by obtain ⟨m, hm⟩ := k0; exact DataW.trod_lt m _ _ _ hm
  obtain ⟨fu0, hf0⟩ := h0
  obtain ⟨b0, n0, x0, hcs0, sr0, cp0, gd0, ml0⟩ := open_flat Try.underlying44 opens47 hf0
  simp only [Value.cells, List.cons.injEq, Value.slice.injEq, and_true] at hcs0
  obtain ⟨rfl, rfl, rfl⟩ := hcs0
  obtain ⟨a1, rfl, rfl, rfl⟩ := open_bool Try.underlying4 (hval 1 4 v1 rfl rfl) h1
  clear hA0 hval0 hsz0
  have pu : law23_PlanGoals.f x0 a1 = some true := PlanGoals_pure x0 a1 gd0 ml0
  refine (row_calls W (law23_PlanGoals.c x0 a1 true (allOf W) pu sr0 cp0)).mono fun e W' ⟨he, bel⟩ => ?_
  subst he
  exact ⟨_, rfl, _, _, _, [], _, [], hW', trodAll_mk1 (shut_bool Try.underlying4 _), (trodAll_cons_mk (Below.trod laidOut (by kernel_rfl) (of_decide_eq_true (by kernel_rfl)) k0 bel lt0) (trodAll_cons_mk (shut_bool Try.underlying4 _) trodAll_mk0)), rfl, bel.frame _, fun h => by cases h⟩
theorem over : Rows.planGoalsRow.holds Try.pinned (OpenSpec.ofChange Rows.planGoalsSpec) :=
  OpenClaim.holds_of_wide 14 Try.f14 rfl rfl rfl rfl rfl rfl rfl ⟨rfl, rfl, rfl, rfl, rfl⟩ rfl rfl rfl rfl rfl (by kernel_rfl) Try.func14 (by kernel_rfl)
    (of_decide_eq_true (by kernel_rfl)) (by unfold Func.isWrapper; first | (rw [if_pos (by decide +kernel)]; kernel_rfl) | (rw [if_neg (by decide +kernel)]; exact ⟨rfl, rfl⟩))
    (fun os started H enc _ => lifted os started H enc)
end Go.Proofs.Ytmddmofncblfpaa.planGoals
namespace Go.Proofs.Ytmddmofncblfpaa
theorem planGoals_holds : Rows.PlanGoalsSaid := planGoals.over
end Go.Proofs.Ytmddmofncblfpaa
