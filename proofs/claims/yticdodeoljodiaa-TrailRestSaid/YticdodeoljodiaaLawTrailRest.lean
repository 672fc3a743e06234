import Derived.Test.YticdodeoljodiaaRows
import Derived.Test.YticdodeoljodiaaFLTrailRest
import Derived.Test.YticdodeoljodiaaPureTrailRest
import Derived.WalkKit
import Derived.ProofKit
import Derived.OpenShut
import Derived.ShutString
import Derived.ChangeOld
import Derived.Below
import Derived.SizedLaws
import Derived.ChangeSlices
namespace Go.Proofs.Yticdodeoljodiaa.trailRest
open Go.ChangeShapes Go.WideShapes Go.ChangeAt Go.RowKit Go.Hx
open Go.ChangeMaps (open_string shut_string)
set_option linter.unusedVariables false
theorem own : ownKnob Try.prog.godebug = none := by kernel_rfl
theorem laidOut : laidOutB Try.prog = true := by kernel_rfl
theorem lst72 {α : Type} {cs : List α} (h : cs.length = 3) : ∃ c0 c1 c2, cs = [c0, c1, c2] := by
  match cs, h with
  | [c0, c1, c2], _ => exact ⟨c0, c1, c2, rfl⟩
theorem opens72 : Opens Try.prog 72 k_api_Unit (fun x => (inI64 x.Id ∧ inI64 x.Cell ∧ inI64 x.Goal)) := by
  refine ⟨by kernel_rfl, fun enc w base spare held n cs y h => ?_⟩
  obtain ⟨xs, m, _, _, hl, hlen, hf⟩ := DataW.trod_struct Try.underlying72 h
  have hc : Try.prog.cellsOf 72 = 3 := by kernel_rfl
  rw [hc] at hl
  obtain ⟨c0, c1, c2, rfl⟩ := lst72 hl
  obtain ⟨y0, hy0⟩ : ∃ y, xs[0]? = some y := ⟨xs[0]'(by rw [hlen]; exact Nat.le_of_ble_eq_true rfl), List.getElem?_eq_getElem _⟩
  have f0 := (hf 0 _ rfl).trans hy0
  have e0 : Try.prog.cellsOf 3 = 1 := by kernel_rfl
  obtain ⟨n0, hn0, _, wn0⟩ := DataW.trod_int Try.underlying3 f0
  have hm0 : [c0] = [.int .i64 n0] := by
    rw [← hn0]; show _ = List.take (Try.prog.cellsOf 3) _; rw [e0]; rfl
  obtain rfl := (List.cons.inj hm0).1
  obtain ⟨y1, hy1⟩ : ∃ y, xs[1]? = some y := ⟨xs[1]'(by rw [hlen]; exact Nat.le_of_ble_eq_true rfl), List.getElem?_eq_getElem _⟩
  have f1 := (hf 1 _ rfl).trans hy1
  have e1 : Try.prog.cellsOf 3 = 1 := by kernel_rfl
  obtain ⟨n1, hn1, _, wn1⟩ := DataW.trod_int Try.underlying3 f1
  have hm1 : [c1] = [.int .i64 n1] := by
    rw [← hn1]; show _ = List.take (Try.prog.cellsOf 3) _; rw [e1]; rfl
  obtain rfl := (List.cons.inj hm1).1
  obtain ⟨y2, hy2⟩ : ∃ y, xs[2]? = some y := ⟨xs[2]'(by rw [hlen]; exact Nat.le_of_ble_eq_true rfl), List.getElem?_eq_getElem _⟩
  have f2 := (hf 2 _ rfl).trans hy2
  have e2 : Try.prog.cellsOf 3 = 1 := by kernel_rfl
  obtain ⟨n2, hn2, _, wn2⟩ := DataW.trod_int Try.underlying3 f2
  have hm2 : [c2] = [.int .i64 n2] := by
    rw [← hn2]; show _ = List.take (Try.prog.cellsOf 3) _; rw [e2]; rfl
  obtain rfl := (List.cons.inj hm2).1
  exact ⟨⟨n0, n1, n2⟩, rfl, ⟨wf_i64 wn0, wf_i64 wn1, wf_i64 wn2⟩⟩
set_option maxRecDepth 100000 in
set_option maxHeartbeats 1000000 in
theorem lifted (os : Os) (started : os.Started) (H : Type) (enc : TypeId × Value → H) :
    ReturnsInHanded {} Try.checked os 11 .any (Rows.trailRestSpec.pre6 enc Try.prog Try.f11 Rows.trailRestRow.domain false) (Rows.trailRestSpec.post enc Try.prog Try.f11 false true false false) := by
  refine returnsInHanded_of_change_sized (C := Try.checked) own started (by kernel_rfl) Try.func11
    (ChangeSpec.witness6 (enc := enc) (C := Try.checked) false ⟨#[], #[(.agg #[(.int .i64 0), (.int .i64 0), (.slice none 0 0)]), (.slice none 0 0), (.slice none 0 0), (.bool false)], []⟩ 8 (by kernel_rfl) (by kernel_rfl) (by kernel_rfl) (by kernel_rfl)) ?_
  intro W base args ds gs before hval0 hW hcnd hsz0 _
  have hval : ∀ (j : Nat) t v, Try.f11.params[j]? = some t → args[j]? = some v → Value.okWide Try.prog W .any base t v := hval0
  have hW' := hW
  obtain ⟨p, q, hA0, hV, rfl, hfz, hnd⟩ := hW
  have hA : DataW.TrodAll enc Try.prog W 0 (fun _ => true) true Try.f11.params.toList args.toList ds p := hA0
  rw [Try.params11] at hA hval
  obtain ⟨v0, vs0, d0, ds0, p0, q0, hargs, rfl, rfl, h0, r0⟩ := trodAll_cons hA
  obtain ⟨v1, vs1, d1, ds1, p1, q1, rfl, rfl, rfl, h1, r1⟩ := trodAll_cons r0
  obtain ⟨v2, vs2, d2, ds2, p2, q2, rfl, rfl, rfl, h2, r2⟩ := trodAll_cons r1
  obtain ⟨v3, vs3, d3, ds3, p3, q3, rfl, rfl, rfl, h3, r3⟩ := trodAll_cons r2
  obtain ⟨rfl, rfl, rfl⟩ := trodAll_nil r3
  obtain rfl : args = #[v0, v1, v2, v3] := by cases args; simp_all
  obtain ⟨rfl, rfl⟩ := trodVars_none hV
  obtain ⟨cs0, rfl, sz0⟩ := okWide_struct Try.underlying24 (hval 0 24 v0 rfl rfl)
  have k0 := h0
  have lt0 : ∀ x ∈ p0, x.block < W.heap.size := by obtain ⟨m, hm⟩ := k0; exact DataW.trod_lt m _ _ _ hm
  obtain ⟨fu0, hg0⟩ := h0
  obtain ⟨xs0, m0, _, _, hl0, hlen0, hf0⟩ := DataW.trod_struct Try.underlying24 hg0
  have hc0 : Try.prog.cellsOf 24 = 3 := by kernel_rfl
  rw [hc0] at sz0
  obtain ⟨c0_0, c0_1, c0_2, rfl⟩ := arr_3 sz0
  obtain ⟨y0_0, hy0_0⟩ : ∃ y, xs0[0]? = some y := ⟨xs0[0]'(by rw [hlen0]; exact Nat.le_of_ble_eq_true rfl), List.getElem?_eq_getElem _⟩
  have f0_0 := (hf0 0 _ rfl).trans hy0_0
  have e0_0 : Try.prog.cellsOf 3 = 1 := by kernel_rfl
  obtain ⟨n0_0, hn0_0, _, wn0_0⟩ := DataW.trod_int Try.underlying3 f0_0
  have hm0_0 : [c0_0] = [.int .i64 n0_0] := by rw [← hn0_0]; show _ = List.take (Try.prog.cellsOf 3) _; rw [e0_0]; rfl
  obtain rfl := (List.cons.inj hm0_0).1
  obtain ⟨y0_1, hy0_1⟩ : ∃ y, xs0[1]? = some y := ⟨xs0[1]'(by rw [hlen0]; exact Nat.le_of_ble_eq_true rfl), List.getElem?_eq_getElem _⟩
  have f0_1 := (hf0 1 _ rfl).trans hy0_1
  have e0_1 : Try.prog.cellsOf 3 = 1 := by kernel_rfl
  obtain ⟨n0_1, hn0_1, _, wn0_1⟩ := DataW.trod_int Try.underlying3 f0_1
  have hm0_1 : [c0_1] = [.int .i64 n0_1] := by rw [← hn0_1]; show _ = List.take (Try.prog.cellsOf 3) _; rw [e0_1]; rfl
  obtain rfl := (List.cons.inj hm0_1).1
  obtain ⟨y0_2, hy0_2⟩ : ∃ y, xs0[2]? = some y := ⟨xs0[2]'(by rw [hlen0]; exact Nat.le_of_ble_eq_true rfl), List.getElem?_eq_getElem _⟩
  have f0_2 := (hf0 2 _ rfl).trans hy0_2
  have e0_2 : Try.prog.cellsOf 22 = 1 := by kernel_rfl
  obtain ⟨b0_2, nn0_2, x0_2, hcs0_2, sr0_2, cp0_2, gd0_2, ml0_2⟩ := open_flat Try.underlying22 (opens_u8 Try.underlying5 (by kernel_rfl)) f0_2
  have hm0_2 : [c0_2] = [.slice b0_2 (List.length x0_2) nn0_2] := by rw [← hcs0_2]; show _ = List.take (Try.prog.cellsOf 22) _; rw [e0_2]; rfl
  obtain rfl := (List.cons.inj hm0_2).1
  obtain ⟨a1, len1, cap1, rfl⟩ := okWide_slice Try.underlying66 (hval 1 66 v1 rfl rfl)
  have k1 := h1
  have lt1 : ∀ x ∈ p1, x.block < W.heap.size := by obtain ⟨m, hm⟩ := k1; exact DataW.trod_lt m _ _ _ hm
  obtain ⟨fu1, hf1⟩ := h1
  obtain ⟨b1, n1, x1, hcs1, sr1, cp1, gd1, ml1⟩ := open_flat Try.underlying66 opens72 hf1
  simp only [Value.cells, List.cons.injEq, Value.slice.injEq, and_true] at hcs1
  obtain ⟨rfl, rfl, rfl⟩ := hcs1
  obtain ⟨a2, len2, cap2, rfl⟩ := okWide_slice Try.underlying35 (hval 2 35 v2 rfl rfl)
  have k2 := h2
  have lt2 : ∀ x ∈ p2, x.block < W.heap.size := by obtain ⟨m, hm⟩ := k2; exact DataW.trod_lt m _ _ _ hm
  obtain ⟨fu2, hf2⟩ := h2
  obtain ⟨b2, n2, x2, hcs2, sr2, cp2, gd2, ml2⟩ := open_flat Try.underlying35 (opens_i64 Try.underlying3 (by kernel_rfl)) hf2
  simp only [Value.cells, List.cons.injEq, Value.slice.injEq, and_true] at hcs2
  obtain ⟨rfl, rfl, rfl⟩ := hcs2
  obtain ⟨a3, rfl, rfl, rfl⟩ := open_bool Try.underlying4 (hval 3 4 v3 rfl rfl) h3
  clear hA0 hval0 hsz0
  have pu : law30_TrailRest.f ⟨n0_0, n0_1, x0_2⟩ x1 x2 a3 = some true := TrailRest_pure ⟨n0_0, n0_1, x0_2⟩ x1 x2 a3 ⟨wf_i64 wn0_0, wf_i64 wn0_1, gd0_2⟩ gd1 gd2 ml0_2 ml1 ml2
  refine (row_calls W (law30_TrailRest.c ⟨n0_0, n0_1, x0_2⟩ x1 x2 a3 true (allOf W) pu sr0_2 cp0_2 sr1 cp1 sr2 cp2)).mono fun e W' ⟨he, bel⟩ => ?_
  subst he
  exact ⟨_, rfl, _, _, _, [], _, [], hW', trodAll_mk1 (shut_bool Try.underlying4 _), (trodAll_cons_mk (Below.trod laidOut (by kernel_rfl) (of_decide_eq_true (by kernel_rfl)) k0 bel lt0) (trodAll_cons_mk (Below.trod laidOut (by kernel_rfl) (of_decide_eq_true (by kernel_rfl)) k1 bel lt1) (trodAll_cons_mk (Below.trod laidOut (by kernel_rfl) (of_decide_eq_true (by kernel_rfl)) k2 bel lt2) (trodAll_cons_mk (shut_bool Try.underlying4 _) trodAll_mk0)))), rfl, bel.frame _, fun h => by cases h⟩
theorem over : Rows.trailRestRow.holds Try.pinned (OpenSpec.ofChange Rows.trailRestSpec) :=
  OpenClaim.holds_of_wide 11 Try.f11 rfl rfl rfl rfl rfl rfl rfl ⟨rfl, rfl, rfl, rfl, rfl⟩ rfl rfl rfl rfl rfl (by kernel_rfl) Try.func11 (by kernel_rfl)
    (of_decide_eq_true (by kernel_rfl)) (by unfold Func.isWrapper; first | (rw [if_pos (by decide +kernel)]; kernel_rfl) | (rw [if_neg (by decide +kernel)]; exact ⟨rfl, rfl⟩))
    (fun os started H enc _ => lifted os started H enc)
end Go.Proofs.Yticdodeoljodiaa.trailRest
namespace Go.Proofs.Yticdodeoljodiaa
theorem trailRest_holds : Rows.TrailRestSaid := trailRest.over
end Go.Proofs.Yticdodeoljodiaa
