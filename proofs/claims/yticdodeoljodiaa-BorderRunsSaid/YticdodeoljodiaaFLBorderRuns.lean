import Derived.Test.YticdodeoljodiaaT
import Derived.Test.YticdodeoljodiaaFborder
import Derived.Test.YticdodeoljodiaaFgrid
import Derived.Test.YticdodeoljodiaaFlaw11
import Derived.Test.YticdodeoljodiaaFref1
import Derived.Test.YticdodeoljodiaaFwhere
namespace Go.Proofs.Yticdodeoljodiaa
open Go.Hx
set_option maxRecDepth 100000
set_option linter.unusedVariables false
/-! ### herdsman/herdsmanlaw11.BorderRuns: function 5 -/
def law11_BorderRuns.l2 : Nat → api_Map → grid_Grid → Int → Int → (List Int) → Int → Int → Option Bool
  | 0, _, _, _, _, _, _, _ => none
  | k25 + 1, v1, yv2, v4, x7, v20, x23, x24 => if x24 < (List.length v20 : Int) then ((if (0 ≤ x24 ∧ x24 < (List.length v20 : Int)) then (if (rd v20 x24) < 0 then (some true) else (if (rd v20 x24) ≥ (List.length v1.C : Int) then (some true) else (if (0 ≤ (rd v20 x24) ∧ (rd v20 x24) < (List.length v1.C : Int)) then (if ((rd v1.C (rd v20 x24)) == 255) = true then (some true) else ((where_Sector.f v1.W v1.H (rd v20 x24)).bind fun v28 => if (v28 != v4) = true then (some true) else (if x24 > 0 then (if (0 ≤ (w64 (x24 - 1)) ∧ (w64 (x24 - 1)) < (List.length v20 : Int)) then (some (decide ((rd v20 (w64 (x24 - 1))) ≥ (rd v20 x24)))) else none) else (some false)))) else none))) else none).bind fun x26 => if x26 = true then (some false) else (if (0 ≤ x24 ∧ x24 < (List.length v20 : Int)) then ((border_Cross.f yv2 (rd v20 x24)).bind fun v29 => law11_BorderRuns.l2 k25 v1 yv2 v4 x7 v20 (w64 (x23 + (List.length v29 : Int))) (w64 (x24 + 1))) else none)) else ((law11_told.f).bind fun v30 => some ((v30 && (x7 == x23)) && (decide ((List.length v20 : Int) ≤ 60))))
def law11_BorderRuns.l1 : Nat → (List api_Run) → Int → Int → Option (Sum Bool Int)
  | 0, _, _, _ => none
  | k17 + 1, v12, x15, x16 => if x16 < (List.length v12 : Int) then ((if (0 ≤ x16 ∧ x16 < (List.length v12 : Int)) then (if (rd v12 x16).Len < 1 then (some true) else (if (rd v12 x16).From < 0 then (some true) else (if (w64 ((rd v12 x16).From + (rd v12 x16).Len)) > 16 then (some true) else (if x16 > 0 then (if (0 ≤ (w64 (x16 - 1)) ∧ (w64 (x16 - 1)) < (List.length v12 : Int)) then (some (decide ((w64 ((rd v12 (w64 (x16 - 1))).From + (rd v12 (w64 (x16 - 1))).Len)) ≥ (rd v12 x16).From))) else none) else (some false))))) else none).bind fun x18 => if x18 = true then (some (Sum.inl false)) else (if (0 ≤ x16 ∧ x16 < (List.length v12 : Int)) then (law11_BorderRuns.l1 k17 v12 (w64 (x15 + (rd v12 x16).Len)) (w64 (x16 + 1))) else none)) else (some (Sum.inr x15))
def law11_BorderRuns.l0 : Nat → api_Map → grid_Grid → Int → Int → Int → Option Bool
  | 0, _, _, _, _, _ => none
  | k9 + 1, v1, yv2, v4, x7, x8 => if x8 ≤ 3 then (((border_Runs.f yv2 v4 x8).bind fun v12 => law11_BorderRuns.l1 fuel v12 x7 0).bind fun zz => match zz with | Sum.inl q => some q | Sum.inr x10 => law11_BorderRuns.l0 k9 v1 yv2 v4 x10 (w64 (x8 + 1))) else ((border_Nodes.f yv2 v4).bind fun v20 => law11_BorderRuns.l2 fuel v1 yv2 v4 x7 v20 0 0)
def law11_BorderRuns.f (w : Int) (h : Int) (c : (List Int)) (sector : Int) : Option Bool := (ref1_Made.f w h c).bind fun v1 => (grid_New.f v1 0).bind fun v2 => optm v2 (some false) (fun yv2 => (ref1_Count.f v1.W v1.H).bind fun v3 => (ref1_Within.f sector 0 (w64 (v3 - 1))).bind fun v4 => law11_BorderRuns.l0 fuel v1 yv2 v4 0 0)
set_option maxHeartbeats 4000000 in
theorem law11_BorderRuns.c {a_c : Option Addr} {n_c : Nat} (w : Int) (h : Int) (c : (List Int)) (sector : Int) (r : Bool) (F : Hp) (H : law11_BorderRuns.f w h c sector = some r) (h_c : SliceR (Fl.int .u8) c a_c F) (c_c : List.length c ≤ n_c) :
    CallsL Try.prog 5 [(.int .i64 w), (.int .i64 h), (.slice a_c (List.length c) n_c), (.int .i64 sector)] [F] (fun _ : Unit => (.bool r)) (fun _ => [F]) := by
  unfold law11_BorderRuns.f at H
  refine calls_atL [(0, (.int .i64 w)), (1, (.int .i64 h)), (2, (.slice a_c (List.length c) n_c)), (3, (.int .i64 sector))] Try.func5 rfl rfl ⟨rfl, rfl, rfl, rfl, trivial⟩ (fun W => ?_)
  refine at_seq ?_
  refine at_region [0] rfl ?_
  refine at_s T rfl ?_
  refine at_end ?_
  refine at_sub [(0, (.int .i64 w)), (1, (.int .i64 h)), (2, (.slice a_c (List.length c) n_c)), (3, (.int .i64 sector))] ⟨rfl, rfl, rfl, rfl, trivial⟩ ?_
  refine at_then ?_
  refine at_seq ?_
  refine at_region [0, 1, 2, 3, 4, 5] rfl ?_
  iterate 3 refine at_s T rfl ?_
  obtain ⟨v1, V1, H⟩ := bind_e H
  refine at_cons (at_cR (ref1_Made.R v1) [] [] rfl rfl rfl rfl has13 rfl rfl (ref1_Made.c w h c v1 _ V1 (ro_of h_c (j := 0) rfl) c_c) ?_)
  rintro _ _ ⟨a1, n1, H1, s1, rfl, rfl⟩
  refine at_cons (at_al T [(.int .i64 0), (.int .i64 0), (.slice none 0 0)] rfl rfl rfl rfl (fun b2 => ?_))
  refine at_cons (at_st T 2 [(.int .i64 v1.W), (.int .i64 v1.H), (.slice a1 (List.length v1.C) n1)] rfl rfl rfl rfl rfl rfl rfl rfl rfl rfl ?_)
  refine at_end ?_
  refine at_sub [(3, (.int .i64 sector)), (9, (.pointer (some ⟨b2, 0, none⟩)))] ⟨rfl, rfl, trivial⟩ ?_
  refine at_then ?_
  refine at_seq ?_
  refine at_region [0, 1, 2] rfl ?_
  refine at_v rfl (g_loadA T (cs := [(.int .i64 v1.W), (.int .i64 v1.H), (.slice a1 (List.length v1.C) n1)]) rfl rfl rfl rfl rfl rfl (in_varA (j := 2) rfl rfl)) ?_
  obtain ⟨v2, V2, H⟩ := bind_e H
  refine at_cons (at_cR (grid_New.R v2) [] [] rfl rfl rfl rfl has14 rfl rfl (grid_New.c v1 0 v2 _ V2 (own_of s1 (j := 1) rfl) s1.cap_le) ?_)
  rintro _ _ ⟨_, _, O3, rfl, rfl⟩
  rcases v2 with _ | yv2
  · replace H := optm_n rfl H
    obtain ⟨rfl, rfl⟩ := O3
    refine at_s T rfl ?_
    refine at_end ?_
    refine at_sub [(3, (.int .i64 sector)), (9, (.pointer (some ⟨b2, 0, none⟩))), (10, (.pointer none))] ⟨rfl, rfl, rfl, trivial⟩ ?_
    refine at_then ?_
    refine at_seq ?_
    refine at_seq ?_
    refine at_region [0, 1] rfl ?_
    iterate 2 refine at_s T rfl ?_
    refine at_end ?_
    refine at_sub [(3, (.int .i64 sector)), (9, (.pointer (some ⟨b2, 0, none⟩))), (10, (.pointer none)), (26, (.bool true))] ⟨rfl, rfl, rfl, rfl, trivial⟩ ?_
    refine at_then ?_
    refine at_cond_t rfl ?_
    refine at_seq ?_
    refine at_region [0] rfl ?_
    refine at_s T rfl ?_
    refine at_end ?_
    refine at_to [(8, (.bool false))] [0] [F] ⟨rfl, trivial⟩ rfl ?_
    refine at_then ?_
    refine at_ret ?_
    refine at_rt ?_
    obtain rfl := Option.some.inj H
    exact at_post (T := T) rfl (.tmp rfl .nil) (fun w o => ⟨(), rfl, own_to [0] rfl o⟩)
  · replace H := optm_s rfl H
    obtain ⟨b3, a4, n4, H4, a5, n5, H5, s4, s5, rfl, rfl⟩ := O3
    refine at_s T rfl ?_
    refine at_end ?_
    refine at_sub [(3, (.int .i64 sector)), (9, (.pointer (some ⟨b2, 0, none⟩))), (10, (.pointer (some ⟨b3, 0, none⟩)))] ⟨rfl, rfl, rfl, trivial⟩ ?_
    refine at_then ?_
    refine at_seq ?_
    refine at_seq ?_
    refine at_region [0, 1] rfl ?_
    iterate 2 refine at_s T rfl ?_
    refine at_end ?_
    refine at_sub [(3, (.int .i64 sector)), (9, (.pointer (some ⟨b2, 0, none⟩))), (10, (.pointer (some ⟨b3, 0, none⟩))), (26, (.bool false))] ⟨rfl, rfl, rfl, rfl, trivial⟩ ?_
    refine at_then ?_
    refine at_cond_f rfl ?_
    refine at_skip ?_
    refine at_then ?_
    refine at_seq ?_
    refine at_region [0, 1, 2, 3, 4, 5, 6, 7, 8] rfl ?_
    iterate 2 refine at_s T rfl ?_
    refine at_v rfl (g_load T rfl rfl rfl rfl (in_var (j := 2) rfl rfl)) ?_
    refine at_s T rfl ?_
    refine at_v rfl (g_load T rfl rfl rfl rfl (in_var (j := 2) rfl rfl)) ?_
    obtain ⟨v3, V4, H⟩ := bind_e H
    refine at_cons (at_c (B := fun _ => []) [] rfl rfl rfl rfl has16 rfl rfl (ref1_Count.c v1.W v1.H v3 _ V4) (fun _ => ?_))
    refine at_s T rfl ?_
    obtain ⟨v4, V5, H⟩ := bind_e H
    refine at_cons (at_c (B := fun _ => []) [] rfl rfl rfl rfl has15 rfl rfl (ref1_Within.c sector 0 (w64 (v3 - 1)) v4 _ V5) (fun _ => ?_))
    refine at_s T rfl ?_
    refine at_end ?_
    refine at_sub [(9, (.pointer (some ⟨b2, 0, none⟩))), (10, (.pointer (some ⟨b3, 0, none⟩))), (11, (.int .i64 v4))] ⟨rfl, rfl, rfl, trivial⟩ ?_
    refine at_then ?_
    refine at_seq ?_
    refine at_region [0, 1] rfl ?_
    iterate 2 refine at_s T rfl ?_
    refine at_end ?_
    refine at_sub [(9, (.pointer (some ⟨b2, 0, none⟩))), (10, (.pointer (some ⟨b3, 0, none⟩))), (11, (.int .i64 v4)), (12, (.int .i64 0)), (13, (.int .i64 0))] ⟨rfl, rfl, rfl, rfl, rfl, trivial⟩ ?_
    refine at_then ?_
    refine at_seq ?_
    refine at_seq ?_
    refine at_region [0] rfl ?_
    refine at_s T rfl ?_
    refine at_end ?_
    refine at_sub [(9, (.pointer (some ⟨b2, 0, none⟩))), (10, (.pointer (some ⟨b3, 0, none⟩))), (11, (.int .i64 v4)), (12, (.int .i64 0)), (13, (.int .i64 0)), (14, (.int .i64 0))] ⟨rfl, rfl, rfl, rfl, rfl, rfl, trivial⟩ ?_
    refine at_then ?_
    refine at_block ?_
    refine at_loopL (σ := Nat × Int × Int) (fun ⟨k9, x7, x8⟩ => law11_BorderRuns.l0 k9 v1 yv2 v4 x7 x8 = some r) (fun ⟨k9, x7, x8⟩ => [(9, (.pointer (some ⟨b2, 0, none⟩))), (10, (.pointer (some ⟨b3, 0, none⟩))), (11, (.int .i64 v4)), (12, (.int .i64 x7)), (13, (.int .i64 0)), (14, (.int .i64 x8))]) (fun ⟨k9, x7, x8⟩ => [F, [(b2, Obj.cells #[(.int .i64 v1.W), (.int .i64 v1.H), (.slice a1 (List.length v1.C) n1)] 24 (0, 0))], H1, [(b3, Obj.cells #[(.int .i64 yv2.m.W), (.int .i64 yv2.m.H), (.slice a4 (List.length yv2.m.C) n4), (.int .i64 yv2.epoch), (.slice a5 (List.length yv2.versions) n5)] 81 (0, 0))], H4, H5]) (fun s => s.1) (fuel, 0, 0) [0, 1, 0, 0, 0, 0] H ⟨rfl, rfl, rfl, rfl, rfl, rfl, trivial⟩ rfl ?_
    rintro ⟨k9, x7, x8⟩ Z6
    replace Z6 : law11_BorderRuns.l0 k9 v1 yv2 v4 x7 x8 = some r := Z6
    rcases k9 with _ | k9
    · rw [law11_BorderRuns.l0] at Z6; cases Z6
    · rw [law11_BorderRuns.l0] at Z6
      refine at_seq ?_
      refine at_seq ?_
      refine at_region [0, 1] rfl ?_
      iterate 2 refine at_s T rfl ?_
      refine at_end ?_
      refine at_sub [(9, (.pointer (some ⟨b2, 0, none⟩))), (10, (.pointer (some ⟨b3, 0, none⟩))), (11, (.int .i64 v4)), (12, (.int .i64 x7)), (13, (.int .i64 0)), (14, (.int .i64 x8)), (36, (.bool (decide (x8 ≤ 3))))] ⟨rfl, rfl, rfl, rfl, rfl, rfl, rfl, trivial⟩ ?_
      refine at_then ?_
      refine at_cond rfl (fun c7 => ?_) (fun c7 => ?_)
      · replace Z6 := if_t (of_decide_eq_true c7) Z6
        refine at_skip ?_
        refine at_then ?_
        obtain ⟨z11, Z8, Z6⟩ := bind_e Z6
        refine at_seq_mid (σ := Int) (fun x10 => (Sum.inr x10) = z11) (fun x10 => [(9, (.pointer (some ⟨b2, 0, none⟩))), (10, (.pointer (some ⟨b3, 0, none⟩))), (11, (.int .i64 v4)), (12, (.int .i64 x10)), (13, (.int .i64 0)), (14, (.int .i64 x8))]) (fun x10 => [F, [(b2, Obj.cells #[(.int .i64 v1.W), (.int .i64 v1.H), (.slice a1 (List.length v1.C) n1)] 24 (0, 0))], H1, [(b3, Obj.cells #[(.int .i64 yv2.m.W), (.int .i64 yv2.m.H), (.slice a4 (List.length yv2.m.C) n4), (.int .i64 yv2.epoch), (.slice a5 (List.length yv2.versions) n5)] 81 (0, 0))], H4, H5]) ?_ ?_
        · refine at_block ?_
          refine at_seq ?_
          refine at_region [0, 1, 2, 3, 4] rfl ?_
          iterate 3 refine at_s T rfl ?_
          obtain ⟨v12, V9, Z8⟩ := bind_e Z8
          refine at_cons (at_cR (As := [[(b3, Obj.cells #[(.int .i64 yv2.m.W), (.int .i64 yv2.m.H), (.slice a4 (List.length yv2.m.C) n4), (.int .i64 yv2.epoch), (.slice a5 (List.length yv2.versions) n5)] 81 (0, 0))], H4, H5]) (R := [F, [(b2, Obj.cells #[(.int .i64 v1.W), (.int .i64 v1.H), (.slice a1 (List.length v1.C) n1)] 24 (0, 0))], H1]) (border_Runs.R v12) [[(b3, Obj.cells #[(.int .i64 yv2.m.W), (.int .i64 yv2.m.H), (.slice a4 (List.length yv2.m.C) n4), (.int .i64 yv2.epoch), (.slice a5 (List.length yv2.versions) n5)] 81 (0, 0))], H4, H5] [3, 3, 3] rfl rfl rfl rfl has26 rfl rfl (border_Runs.c yv2 v4 x8 v12 _ V9 s4 s5) ?_)
          rintro _ _ ⟨a6, n6, H6, s6, rfl, rfl⟩
          refine at_s T rfl ?_
          refine at_end ?_
          refine at_sub [(9, (.pointer (some ⟨b2, 0, none⟩))), (10, (.pointer (some ⟨b3, 0, none⟩))), (11, (.int .i64 v4)), (12, (.int .i64 x7)), (13, (.int .i64 0)), (14, (.int .i64 x8)), (15, (.slice a6 (List.length v12) n6))] ⟨rfl, rfl, rfl, rfl, rfl, rfl, rfl, trivial⟩ ?_
          refine at_then ?_
          refine at_seq ?_
          refine at_region [0] rfl ?_
          refine at_s T rfl ?_
          refine at_end ?_
          refine at_sub [(9, (.pointer (some ⟨b2, 0, none⟩))), (10, (.pointer (some ⟨b3, 0, none⟩))), (11, (.int .i64 v4)), (12, (.int .i64 x7)), (13, (.int .i64 0)), (14, (.int .i64 x8)), (15, (.slice a6 (List.length v12) n6)), (16, (.int .i64 0))] ⟨rfl, rfl, rfl, rfl, rfl, rfl, rfl, rfl, trivial⟩ ?_
          refine at_then ?_
          refine at_block ?_
          refine at_loopL (σ := Nat × Int × Int) (fun ⟨k17, x15, x16⟩ => law11_BorderRuns.l1 k17 v12 x15 x16 = some z11) (fun ⟨k17, x15, x16⟩ => [(9, (.pointer (some ⟨b2, 0, none⟩))), (10, (.pointer (some ⟨b3, 0, none⟩))), (11, (.int .i64 v4)), (12, (.int .i64 x15)), (13, (.int .i64 0)), (14, (.int .i64 x8)), (15, (.slice a6 (List.length v12) n6)), (16, (.int .i64 x16))]) (fun ⟨k17, x15, x16⟩ => [F, [(b2, Obj.cells #[(.int .i64 v1.W), (.int .i64 v1.H), (.slice a1 (List.length v1.C) n1)] 24 (0, 0))], H1, [(b3, Obj.cells #[(.int .i64 yv2.m.W), (.int .i64 yv2.m.H), (.slice a4 (List.length yv2.m.C) n4), (.int .i64 yv2.epoch), (.slice a5 (List.length yv2.versions) n5)] 81 (0, 0))], H4, H5, H6]) (fun s => s.1) (fuel, x7, 0) [0, 0, 0, 1, 1, 1, 0] Z8 ⟨rfl, rfl, rfl, rfl, rfl, rfl, rfl, rfl, trivial⟩ rfl ?_
          rintro ⟨k17, x15, x16⟩ Z10
          replace Z10 : law11_BorderRuns.l1 k17 v12 x15 x16 = some z11 := Z10
          rcases k17 with _ | k17
          · rw [law11_BorderRuns.l1] at Z10; cases Z10
          · rw [law11_BorderRuns.l1] at Z10
            refine at_seq ?_
            refine at_seq ?_
            refine at_region [0, 1, 2, 3] rfl ?_
            iterate 4 refine at_s T rfl ?_
            refine at_end ?_
            refine at_sub [(9, (.pointer (some ⟨b2, 0, none⟩))), (10, (.pointer (some ⟨b3, 0, none⟩))), (11, (.int .i64 v4)), (12, (.int .i64 x15)), (13, (.int .i64 0)), (14, (.int .i64 x8)), (15, (.slice a6 (List.length v12) n6)), (16, (.int .i64 x16)), (46, (.bool (decide (x16 < (List.length v12 : Int)))))] ⟨rfl, rfl, rfl, rfl, rfl, rfl, rfl, rfl, rfl, trivial⟩ ?_
            refine at_then ?_
            refine at_cond rfl (fun c11 => ?_) (fun c11 => ?_)
            · replace Z10 := if_t (of_decide_eq_true c11) Z10
              refine at_skip ?_
              refine at_then ?_
              refine at_seq ?_
              refine at_block ?_
              refine at_seq ?_
              obtain ⟨z19, Z12, Z10⟩ := bind_e Z10
              refine at_seq_mid (σ := Bool) (fun x18 => x18 = z19) (fun x18 => [(9, (.pointer (some ⟨b2, 0, none⟩))), (10, (.pointer (some ⟨b3, 0, none⟩))), (11, (.int .i64 v4)), (12, (.int .i64 x15)), (13, (.int .i64 0)), (14, (.int .i64 x8)), (15, (.slice a6 (List.length v12) n6)), (16, (.int .i64 x16)), (101, (.bool x18))]) (fun x18 => [F, [(b2, Obj.cells #[(.int .i64 v1.W), (.int .i64 v1.H), (.slice a1 (List.length v1.C) n1)] 24 (0, 0))], H1, [(b3, Obj.cells #[(.int .i64 yv2.m.W), (.int .i64 yv2.m.H), (.slice a4 (List.length yv2.m.C) n4), (.int .i64 yv2.epoch), (.slice a5 (List.length yv2.versions) n5)] 81 (0, 0))], H4, H5, H6]) ?_ ?_
              · refine at_region_q mix (by kernel_rfl) ?_
                iterate 2 refine atq_s T rfl ?_
                obtain ⟨c13, Z12⟩ := chk_e Z12
                obtain ⟨q7, o7, e7⟩ := s6.r.addr c13.1 c13.2
                refine atq_v rfl rfl rfl (g_index T rfl rfl rfl rfl rfl e7 c13.1 c13.2) ?_
                refine atq_s T rfl ?_
                refine atq_v rfl rfl rfl (g_load T rfl rfl rfl rfl (in_elem1 (k := k_api_Run) (own_of s6 (j := 6) rfl) e7 c13 1 rfl)) ?_
                iterate 2 refine atq_s T rfl ?_
                refine atq_case (s := 55) rfl (fun c14 => ?_) (fun c14 => ?_)
                · replace Z12 := if_t (of_decide_eq_true c14) Z12
                  iterate 46 refine atq_s T rfl ?_
                  refine atq_end ?_
                  refine at_sub [(9, (.pointer (some ⟨b2, 0, none⟩))), (10, (.pointer (some ⟨b3, 0, none⟩))), (11, (.int .i64 v4)), (12, (.int .i64 x15)), (13, (.int .i64 0)), (14, (.int .i64 x8)), (15, (.slice a6 (List.length v12) n6)), (16, (.int .i64 x16)), (101, (.bool true))] ⟨rfl, rfl, rfl, rfl, rfl, rfl, rfl, rfl, rfl, trivial⟩ ?_
                  refine at_then ?_
                  obtain rfl := Option.some.inj Z12
                  exact at_mid true [0, 0, 0, 0, 0, 0, 0] rfl ⟨rfl, rfl, rfl, rfl, rfl, rfl, rfl, rfl, rfl, trivial⟩ rfl
                · replace Z12 := if_f (of_decide_eq_false c14) Z12
                  iterate 2 refine atq_s T rfl ?_
                  refine atq_v rfl rfl rfl (g_index T rfl rfl rfl rfl rfl e7 c13.1 c13.2) ?_
                  refine atq_s T rfl ?_
                  refine atq_v rfl rfl rfl (g_load T rfl rfl rfl rfl (in_elem1 (k := k_api_Run) (own_of s6 (j := 6) rfl) e7 c13 0 rfl)) ?_
                  iterate 3 refine atq_s T rfl ?_
                  refine atq_case (s := 63) rfl (fun c15 => ?_) (fun c15 => ?_)
                  · replace Z12 := if_t (of_decide_eq_true c15) Z12
                    iterate 38 refine atq_s T rfl ?_
                    refine atq_end ?_
                    refine at_sub [(9, (.pointer (some ⟨b2, 0, none⟩))), (10, (.pointer (some ⟨b3, 0, none⟩))), (11, (.int .i64 v4)), (12, (.int .i64 x15)), (13, (.int .i64 0)), (14, (.int .i64 x8)), (15, (.slice a6 (List.length v12) n6)), (16, (.int .i64 x16)), (101, (.bool true))] ⟨rfl, rfl, rfl, rfl, rfl, rfl, rfl, rfl, rfl, trivial⟩ ?_
                    refine at_then ?_
                    obtain rfl := Option.some.inj Z12
                    exact at_mid true [0, 0, 0, 0, 0, 0, 0] rfl ⟨rfl, rfl, rfl, rfl, rfl, rfl, rfl, rfl, rfl, trivial⟩ rfl
                  · replace Z12 := if_f (of_decide_eq_false c15) Z12
                    iterate 2 refine atq_s T rfl ?_
                    refine atq_v rfl rfl rfl (g_index T rfl rfl rfl rfl rfl e7 c13.1 c13.2) ?_
                    refine atq_s T rfl ?_
                    refine atq_v rfl rfl rfl (g_load T rfl rfl rfl rfl (in_elem1 (k := k_api_Run) (own_of s6 (j := 6) rfl) e7 c13 0 rfl)) ?_
                    iterate 2 refine atq_s T rfl ?_
                    refine atq_v rfl rfl rfl (g_index T rfl rfl rfl rfl rfl e7 c13.1 c13.2) ?_
                    refine atq_s T rfl ?_
                    refine atq_v rfl rfl rfl (g_load T rfl rfl rfl rfl (in_elem1 (k := k_api_Run) (own_of s6 (j := 6) rfl) e7 c13 1 rfl)) ?_
                    iterate 4 refine atq_s T rfl ?_
                    refine atq_case (s := 77) rfl (fun c16 => ?_) (fun c16 => ?_)
                    · replace Z12 := if_t (of_decide_eq_true c16) Z12
                      iterate 24 refine atq_s T rfl ?_
                      refine atq_end ?_
                      refine at_sub [(9, (.pointer (some ⟨b2, 0, none⟩))), (10, (.pointer (some ⟨b3, 0, none⟩))), (11, (.int .i64 v4)), (12, (.int .i64 x15)), (13, (.int .i64 0)), (14, (.int .i64 x8)), (15, (.slice a6 (List.length v12) n6)), (16, (.int .i64 x16)), (101, (.bool true))] ⟨rfl, rfl, rfl, rfl, rfl, rfl, rfl, rfl, rfl, trivial⟩ ?_
                      refine at_then ?_
                      obtain rfl := Option.some.inj Z12
                      exact at_mid true [0, 0, 0, 0, 0, 0, 0] rfl ⟨rfl, rfl, rfl, rfl, rfl, rfl, rfl, rfl, rfl, trivial⟩ rfl
                    · replace Z12 := if_f (of_decide_eq_false c16) Z12
                      iterate 3 refine atq_s T rfl ?_
                      refine atq_case (s := 80) rfl (fun c17 => ?_) (fun c17 => ?_)
                      · replace Z12 := if_t (of_decide_eq_true c17) Z12
                        iterate 3 refine atq_s T rfl ?_
                        obtain ⟨c18, Z12⟩ := chk_e Z12
                        refine atq_v rfl rfl rfl (g_index T rfl rfl rfl rfl rfl e7 c18.1 c18.2) ?_
                        refine atq_s T rfl ?_
                        refine atq_v rfl rfl rfl (g_load T rfl rfl rfl rfl (in_elem1 (k := k_api_Run) (own_of s6 (j := 6) rfl) e7 c18 0 rfl)) ?_
                        iterate 3 refine atq_s T rfl ?_
                        refine atq_v rfl rfl rfl (g_index T rfl rfl rfl rfl rfl e7 c18.1 c18.2) ?_
                        refine atq_s T rfl ?_
                        refine atq_v rfl rfl rfl (g_load T rfl rfl rfl rfl (in_elem1 (k := k_api_Run) (own_of s6 (j := 6) rfl) e7 c18 1 rfl)) ?_
                        iterate 3 refine atq_s T rfl ?_
                        refine atq_v rfl rfl rfl (g_index T rfl rfl rfl rfl rfl e7 c13.1 c13.2) ?_
                        refine atq_s T rfl ?_
                        refine atq_v rfl rfl rfl (g_load T rfl rfl rfl rfl (in_elem1 (k := k_api_Run) (own_of s6 (j := 6) rfl) e7 c13 0 rfl)) ?_
                        iterate 3 refine atq_s T rfl ?_
                        refine atq_end ?_
                        refine at_sub [(9, (.pointer (some ⟨b2, 0, none⟩))), (10, (.pointer (some ⟨b3, 0, none⟩))), (11, (.int .i64 v4)), (12, (.int .i64 x15)), (13, (.int .i64 0)), (14, (.int .i64 x8)), (15, (.slice a6 (List.length v12) n6)), (16, (.int .i64 x16)), (101, (.bool (decide ((w64 ((rd v12 (w64 (x16 - 1))).From + (rd v12 (w64 (x16 - 1))).Len)) ≥ (rd v12 x16).From))))] ⟨rfl, rfl, rfl, rfl, rfl, rfl, rfl, rfl, rfl, trivial⟩ ?_
                        refine at_then ?_
                        obtain rfl := Option.some.inj Z12
                        exact at_mid (decide ((w64 ((rd v12 (w64 (x16 - 1))).From + (rd v12 (w64 (x16 - 1))).Len)) ≥ (rd v12 x16).From)) [0, 0, 0, 0, 0, 0, 0] rfl ⟨rfl, rfl, rfl, rfl, rfl, rfl, rfl, rfl, rfl, trivial⟩ rfl
                      · replace Z12 := if_f (of_decide_eq_false c17) Z12
                        iterate 21 refine atq_s T rfl ?_
                        refine atq_end ?_
                        refine at_sub [(9, (.pointer (some ⟨b2, 0, none⟩))), (10, (.pointer (some ⟨b3, 0, none⟩))), (11, (.int .i64 v4)), (12, (.int .i64 x15)), (13, (.int .i64 0)), (14, (.int .i64 x8)), (15, (.slice a6 (List.length v12) n6)), (16, (.int .i64 x16)), (101, (.bool false))] ⟨rfl, rfl, rfl, rfl, rfl, rfl, rfl, rfl, rfl, trivial⟩ ?_
                        refine at_then ?_
                        obtain rfl := Option.some.inj Z12
                        exact at_mid false [0, 0, 0, 0, 0, 0, 0] rfl ⟨rfl, rfl, rfl, rfl, rfl, rfl, rfl, rfl, rfl, trivial⟩ rfl
              · rintro x18 rfl
                refine at_cond rfl (fun c19 => ?_) (fun c19 => ?_)
                · replace Z10 := if_t c19 Z10
                  refine at_seq ?_
                  refine at_region [0] rfl ?_
                  refine at_s T rfl ?_
                  refine at_end ?_
                  refine at_to [(8, (.bool false))] [0] [F] ⟨rfl, trivial⟩ rfl ?_
                  refine at_then ?_
                  refine at_ret ?_
                  refine at_rt ?_
                  refine at_rb ?_
                  refine at_rt ?_
                  refine at_rt ?_
                  refine at_rb ?_
                  refine at_rb ?_
                  refine at_rt ?_
                  refine at_rt ?_
                  refine at_rb ?_
                  refine at_rt ?_
                  obtain rfl := Option.some.inj Z10
                  obtain rfl := Option.some.inj (show some false = some r from Z6)
                  exact at_post (T := T) rfl (.tmp rfl .nil) (fun w o => ⟨(), rfl, own_to [0] rfl o⟩)
                · replace Z10 := if_f (bf c19) Z10
                  refine at_skip ?_
                  refine at_then ?_
                  refine at_region [0, 1, 2, 3, 4, 5, 6, 7] rfl ?_
                  iterate 3 refine at_s T rfl ?_
                  obtain ⟨c20, Z10⟩ := chk_e Z10
                  obtain ⟨q8, o8, e8⟩ := s6.r.addr c20.1 c20.2
                  refine at_v rfl (g_index T rfl rfl rfl rfl rfl e8 c20.1 c20.2) ?_
                  refine at_s T rfl ?_
                  refine at_v rfl (g_load T rfl rfl rfl rfl (in_elem1 (k := k_api_Run) (own_of s6 (j := 6) rfl) e8 c20 1 rfl)) ?_
                  iterate 2 refine at_s T rfl ?_
                  refine at_end ?_
                  refine at_sub [(9, (.pointer (some ⟨b2, 0, none⟩))), (10, (.pointer (some ⟨b3, 0, none⟩))), (11, (.int .i64 v4)), (12, (.int .i64 (w64 (x15 + (rd v12 x16).Len)))), (13, (.int .i64 0)), (14, (.int .i64 x8)), (15, (.slice a6 (List.length v12) n6)), (16, (.int .i64 x16))] ⟨rfl, rfl, rfl, rfl, rfl, rfl, rfl, rfl, trivial⟩ ?_
                  refine at_nb ?_
                  refine at_then ?_
                  refine at_region [0, 1, 2] rfl ?_
                  iterate 3 refine at_s T rfl ?_
                  refine at_end ?_
                  refine at_sub [(9, (.pointer (some ⟨b2, 0, none⟩))), (10, (.pointer (some ⟨b3, 0, none⟩))), (11, (.int .i64 v4)), (12, (.int .i64 (w64 (x15 + (rd v12 x16).Len)))), (13, (.int .i64 0)), (14, (.int .i64 x8)), (15, (.slice a6 (List.length v12) n6)), (16, (.int .i64 (w64 (x16 + 1))))] ⟨rfl, rfl, rfl, rfl, rfl, rfl, rfl, rfl, trivial⟩ ?_
                  refine at_then ?_
                  exact at_roundL (k17, (w64 (x15 + (rd v12 x16).Len)), (w64 (x16 + 1))) [0, 0, 0, 0, 0, 0, 0] Z10 (Nat.lt_succ_self _) ⟨rfl, rfl, rfl, rfl, rfl, rfl, rfl, rfl, trivial⟩ rfl
            · replace Z10 := if_f (of_decide_eq_false c11) Z10
              refine at_exit ?_
              refine at_xt ?_
              refine at_xt ?_
              refine at_xb ?_
              refine at_nb ?_
              refine at_then ?_
              obtain rfl := Option.some.inj Z10
              exact at_mid x15 [0, 0, 0, 0, 0, 0] rfl ⟨rfl, rfl, rfl, rfl, rfl, rfl, trivial⟩ rfl
        · rintro x10 rfl
          refine at_region [0, 1, 2] rfl ?_
          iterate 3 refine at_s T rfl ?_
          refine at_end ?_
          refine at_sub [(9, (.pointer (some ⟨b2, 0, none⟩))), (10, (.pointer (some ⟨b3, 0, none⟩))), (11, (.int .i64 v4)), (12, (.int .i64 x10)), (13, (.int .i64 0)), (14, (.int .i64 (w64 (x8 + 1))))] ⟨rfl, rfl, rfl, rfl, rfl, rfl, trivial⟩ ?_
          refine at_then ?_
          exact at_roundL (k9, x10, (w64 (x8 + 1))) [0, 0, 0, 0, 0, 0] Z6 (Nat.lt_succ_self _) ⟨rfl, rfl, rfl, rfl, rfl, rfl, trivial⟩ rfl
      · replace Z6 := if_f (of_decide_eq_false c7) Z6
        refine at_exit ?_
        refine at_xt ?_
        refine at_xt ?_
        refine at_xb ?_
        refine at_then ?_
        refine at_seq ?_
        refine at_region [0, 1, 2, 3] rfl ?_
        iterate 2 refine at_s T rfl ?_
        obtain ⟨v20, V21, Z6⟩ := bind_e Z6
        refine at_cons (at_cR (As := [[(b3, Obj.cells #[(.int .i64 yv2.m.W), (.int .i64 yv2.m.H), (.slice a4 (List.length yv2.m.C) n4), (.int .i64 yv2.epoch), (.slice a5 (List.length yv2.versions) n5)] 81 (0, 0))], H4, H5]) (R := [F, [(b2, Obj.cells #[(.int .i64 v1.W), (.int .i64 v1.H), (.slice a1 (List.length v1.C) n1)] 24 (0, 0))], H1]) (border_Nodes.R v20) [[(b3, Obj.cells #[(.int .i64 yv2.m.W), (.int .i64 yv2.m.H), (.slice a4 (List.length yv2.m.C) n4), (.int .i64 yv2.epoch), (.slice a5 (List.length yv2.versions) n5)] 81 (0, 0))], H4, H5] [3, 3, 3] rfl rfl rfl rfl has23 rfl rfl (border_Nodes.c yv2 v4 v20 _ V21 s4 s5) ?_)
        rintro _ _ ⟨a9, n9, H9, s9, rfl, rfl⟩
        refine at_s T rfl ?_
        refine at_end ?_
        refine at_sub [(9, (.pointer (some ⟨b2, 0, none⟩))), (10, (.pointer (some ⟨b3, 0, none⟩))), (11, (.int .i64 v4)), (12, (.int .i64 x7)), (13, (.int .i64 0)), (17, (.slice a9 (List.length v20) n9))] ⟨rfl, rfl, rfl, rfl, rfl, rfl, trivial⟩ ?_
        refine at_then ?_
        refine at_seq ?_
        refine at_seq ?_
        refine at_region [0] rfl ?_
        refine at_s T rfl ?_
        refine at_end ?_
        refine at_sub [(9, (.pointer (some ⟨b2, 0, none⟩))), (10, (.pointer (some ⟨b3, 0, none⟩))), (11, (.int .i64 v4)), (12, (.int .i64 x7)), (13, (.int .i64 0)), (17, (.slice a9 (List.length v20) n9)), (18, (.int .i64 0))] ⟨rfl, rfl, rfl, rfl, rfl, rfl, rfl, trivial⟩ ?_
        refine at_then ?_
        refine at_block ?_
        refine at_loopL (σ := Nat × Int × Int) (fun ⟨k25, x23, x24⟩ => law11_BorderRuns.l2 k25 v1 yv2 v4 x7 v20 x23 x24 = some r) (fun ⟨k25, x23, x24⟩ => [(9, (.pointer (some ⟨b2, 0, none⟩))), (10, (.pointer (some ⟨b3, 0, none⟩))), (11, (.int .i64 v4)), (12, (.int .i64 x7)), (13, (.int .i64 x23)), (17, (.slice a9 (List.length v20) n9)), (18, (.int .i64 x24))]) (fun ⟨k25, x23, x24⟩ => [F, [(b2, Obj.cells #[(.int .i64 v1.W), (.int .i64 v1.H), (.slice a1 (List.length v1.C) n1)] 24 (0, 0))], H1, [(b3, Obj.cells #[(.int .i64 yv2.m.W), (.int .i64 yv2.m.H), (.slice a4 (List.length yv2.m.C) n4), (.int .i64 yv2.epoch), (.slice a5 (List.length yv2.versions) n5)] 81 (0, 0))], H4, H5, H9]) (fun s => s.1) (fuel, 0, 0) [0, 0, 0, 1, 1, 1, 0] Z6 ⟨rfl, rfl, rfl, rfl, rfl, rfl, rfl, trivial⟩ rfl ?_
        rintro ⟨k25, x23, x24⟩ Z22
        replace Z22 : law11_BorderRuns.l2 k25 v1 yv2 v4 x7 v20 x23 x24 = some r := Z22
        rcases k25 with _ | k25
        · rw [law11_BorderRuns.l2] at Z22; cases Z22
        · rw [law11_BorderRuns.l2] at Z22
          refine at_seq ?_
          refine at_seq ?_
          refine at_region [0, 1, 2, 3] rfl ?_
          iterate 4 refine at_s T rfl ?_
          refine at_end ?_
          refine at_sub [(9, (.pointer (some ⟨b2, 0, none⟩))), (10, (.pointer (some ⟨b3, 0, none⟩))), (11, (.int .i64 v4)), (12, (.int .i64 x7)), (13, (.int .i64 x23)), (17, (.slice a9 (List.length v20) n9)), (18, (.int .i64 x24)), (115, (.bool (decide (x24 < (List.length v20 : Int)))))] ⟨rfl, rfl, rfl, rfl, rfl, rfl, rfl, rfl, trivial⟩ ?_
          refine at_then ?_
          refine at_cond rfl (fun c23 => ?_) (fun c23 => ?_)
          · replace Z22 := if_t (of_decide_eq_true c23) Z22
            refine at_skip ?_
            refine at_then ?_
            refine at_seq ?_
            refine at_block ?_
            refine at_seq ?_
            obtain ⟨z27, Z24, Z22⟩ := bind_e Z22
            refine at_seq_mid (σ := Bool) (fun x26 => x26 = z27) (fun x26 => [(9, (.pointer (some ⟨b2, 0, none⟩))), (10, (.pointer (some ⟨b3, 0, none⟩))), (11, (.int .i64 v4)), (12, (.int .i64 x7)), (13, (.int .i64 x23)), (17, (.slice a9 (List.length v20) n9)), (18, (.int .i64 x24)), (172, (.bool x26))]) (fun x26 => [F, [(b2, Obj.cells #[(.int .i64 v1.W), (.int .i64 v1.H), (.slice a1 (List.length v1.C) n1)] 24 (0, 0))], H1, [(b3, Obj.cells #[(.int .i64 yv2.m.W), (.int .i64 yv2.m.H), (.slice a4 (List.length yv2.m.C) n4), (.int .i64 yv2.epoch), (.slice a5 (List.length yv2.versions) n5)] 81 (0, 0))], H4, H5, H9]) ?_ ?_
            · refine at_region_q mix (by kernel_rfl) ?_
              iterate 2 refine atq_s T rfl ?_
              obtain ⟨c25, Z24⟩ := chk_e Z24
              obtain ⟨q10, o10, e10⟩ := s9.r.addr c25.1 c25.2
              refine atq_v rfl rfl rfl (g_index T rfl rfl rfl rfl rfl e10 c25.1 c25.2) ?_
              refine atq_v rfl rfl rfl (g_load T rfl rfl rfl rfl (in_elem1 (k := (Fl.int .i64)) (own_of s9 (j := 6) rfl) e10 c25 0 rfl)) ?_
              iterate 2 refine atq_s T rfl ?_
              refine atq_case (s := 123) rfl (fun c26 => ?_) (fun c26 => ?_)
              · replace Z24 := if_t (of_decide_eq_true c26) Z24
                iterate 49 refine atq_s T rfl ?_
                refine atq_end ?_
                refine at_sub [(9, (.pointer (some ⟨b2, 0, none⟩))), (10, (.pointer (some ⟨b3, 0, none⟩))), (11, (.int .i64 v4)), (12, (.int .i64 x7)), (13, (.int .i64 x23)), (17, (.slice a9 (List.length v20) n9)), (18, (.int .i64 x24)), (172, (.bool true))] ⟨rfl, rfl, rfl, rfl, rfl, rfl, rfl, rfl, trivial⟩ ?_
                refine at_then ?_
                obtain rfl := Option.some.inj Z24
                exact at_mid true [0, 0, 0, 0, 0, 0, 0] rfl ⟨rfl, rfl, rfl, rfl, rfl, rfl, rfl, rfl, trivial⟩ rfl
              · replace Z24 := if_f (of_decide_eq_false c26) Z24
                iterate 2 refine atq_s T rfl ?_
                refine atq_v rfl rfl rfl (g_index T rfl rfl rfl rfl rfl e10 c25.1 c25.2) ?_
                refine atq_v rfl rfl rfl (g_load T rfl rfl rfl rfl (in_elem1 (k := (Fl.int .i64)) (own_of s9 (j := 6) rfl) e10 c25 0 rfl)) ?_
                refine atq_s T rfl ?_
                refine atq_v rfl rfl rfl (g_load T rfl rfl rfl rfl (in_var (j := 1) rfl rfl)) ?_
                iterate 4 refine atq_s T rfl ?_
                refine atq_case (s := 133) rfl (fun c27 => ?_) (fun c27 => ?_)
                · replace Z24 := if_t (of_decide_eq_true c27) Z24
                  iterate 39 refine atq_s T rfl ?_
                  refine atq_end ?_
                  refine at_sub [(9, (.pointer (some ⟨b2, 0, none⟩))), (10, (.pointer (some ⟨b3, 0, none⟩))), (11, (.int .i64 v4)), (12, (.int .i64 x7)), (13, (.int .i64 x23)), (17, (.slice a9 (List.length v20) n9)), (18, (.int .i64 x24)), (172, (.bool true))] ⟨rfl, rfl, rfl, rfl, rfl, rfl, rfl, rfl, trivial⟩ ?_
                  refine at_then ?_
                  obtain rfl := Option.some.inj Z24
                  exact at_mid true [0, 0, 0, 0, 0, 0, 0] rfl ⟨rfl, rfl, rfl, rfl, rfl, rfl, rfl, rfl, trivial⟩ rfl
                · replace Z24 := if_f (of_decide_eq_false c27) Z24
                  refine atq_s T rfl ?_
                  refine atq_v rfl rfl rfl (g_load T rfl rfl rfl rfl (in_var (j := 1) rfl rfl)) ?_
                  iterate 2 refine atq_s T rfl ?_
                  refine atq_v rfl rfl rfl (g_index T rfl rfl rfl rfl rfl e10 c25.1 c25.2) ?_
                  refine atq_v rfl rfl rfl (g_load T rfl rfl rfl rfl (in_elem1 (k := (Fl.int .i64)) (own_of s9 (j := 6) rfl) e10 c25 0 rfl)) ?_
                  obtain ⟨c28, Z24⟩ := chk_e Z24
                  obtain ⟨q11, o11, e11⟩ := s1.r.addr c28.1 c28.2
                  refine atq_v rfl rfl rfl (g_index T rfl rfl rfl rfl rfl e11 c28.1 c28.2) ?_
                  refine atq_v rfl rfl rfl (g_load T rfl rfl rfl rfl (in_elem1 (k := (Fl.int .u8)) (own_of s1 (j := 2) rfl) e11 c28 0 rfl)) ?_
                  iterate 3 refine atq_s T rfl ?_
                  refine atq_case (s := 144) rfl (fun c29 => ?_) (fun c29 => ?_)
                  · replace Z24 := if_t c29 Z24
                    iterate 28 refine atq_s T rfl ?_
                    refine atq_end ?_
                    refine at_sub [(9, (.pointer (some ⟨b2, 0, none⟩))), (10, (.pointer (some ⟨b3, 0, none⟩))), (11, (.int .i64 v4)), (12, (.int .i64 x7)), (13, (.int .i64 x23)), (17, (.slice a9 (List.length v20) n9)), (18, (.int .i64 x24)), (172, (.bool true))] ⟨rfl, rfl, rfl, rfl, rfl, rfl, rfl, rfl, trivial⟩ ?_
                    refine at_then ?_
                    obtain rfl := Option.some.inj Z24
                    exact at_mid true [0, 0, 0, 0, 0, 0, 0] rfl ⟨rfl, rfl, rfl, rfl, rfl, rfl, rfl, rfl, trivial⟩ rfl
                  · replace Z24 := if_f (bf c29) Z24
                    refine atq_s T rfl ?_
                    refine atq_v rfl rfl rfl (g_load T rfl rfl rfl rfl (in_var (j := 1) rfl rfl)) ?_
                    refine atq_s T rfl ?_
                    refine atq_v rfl rfl rfl (g_load T rfl rfl rfl rfl (in_var (j := 1) rfl rfl)) ?_
                    iterate 2 refine atq_s T rfl ?_
                    refine atq_v rfl rfl rfl (g_index T rfl rfl rfl rfl rfl e10 c25.1 c25.2) ?_
                    refine atq_v rfl rfl rfl (g_load T rfl rfl rfl rfl (in_elem1 (k := (Fl.int .i64)) (own_of s9 (j := 6) rfl) e10 c25 0 rfl)) ?_
                    obtain ⟨v28, V30, Z24⟩ := bind_e Z24
                    refine atq_c rfl rfl rfl rfl rfl rfl has31 rfl (where_Sector.c v1.W v1.H (rd v20 x24) v28 _ V30) ?_
                    iterate 4 refine atq_s T rfl ?_
                    refine atq_case (s := 157) rfl (fun c31 => ?_) (fun c31 => ?_)
                    · replace Z24 := if_t c31 Z24
                      iterate 15 refine atq_s T rfl ?_
                      refine atq_end ?_
                      refine at_sub [(9, (.pointer (some ⟨b2, 0, none⟩))), (10, (.pointer (some ⟨b3, 0, none⟩))), (11, (.int .i64 v4)), (12, (.int .i64 x7)), (13, (.int .i64 x23)), (17, (.slice a9 (List.length v20) n9)), (18, (.int .i64 x24)), (172, (.bool true))] ⟨rfl, rfl, rfl, rfl, rfl, rfl, rfl, rfl, trivial⟩ ?_
                      refine at_then ?_
                      obtain rfl := Option.some.inj Z24
                      exact at_mid true [0, 0, 0, 0, 0, 0, 0] rfl ⟨rfl, rfl, rfl, rfl, rfl, rfl, rfl, rfl, trivial⟩ rfl
                    · replace Z24 := if_f (bf c31) Z24
                      iterate 3 refine atq_s T rfl ?_
                      refine atq_case (s := 160) rfl (fun c32 => ?_) (fun c32 => ?_)
                      · replace Z24 := if_t (of_decide_eq_true c32) Z24
                        iterate 3 refine atq_s T rfl ?_
                        obtain ⟨c33, Z24⟩ := chk_e Z24
                        refine atq_v rfl rfl rfl (g_index T rfl rfl rfl rfl rfl e10 c33.1 c33.2) ?_
                        refine atq_v rfl rfl rfl (g_load T rfl rfl rfl rfl (in_elem1 (k := (Fl.int .i64)) (own_of s9 (j := 6) rfl) e10 c33 0 rfl)) ?_
                        iterate 2 refine atq_s T rfl ?_
                        refine atq_v rfl rfl rfl (g_index T rfl rfl rfl rfl rfl e10 c25.1 c25.2) ?_
                        refine atq_v rfl rfl rfl (g_load T rfl rfl rfl rfl (in_elem1 (k := (Fl.int .i64)) (own_of s9 (j := 6) rfl) e10 c25 0 rfl)) ?_
                        iterate 3 refine atq_s T rfl ?_
                        refine atq_end ?_
                        refine at_sub [(9, (.pointer (some ⟨b2, 0, none⟩))), (10, (.pointer (some ⟨b3, 0, none⟩))), (11, (.int .i64 v4)), (12, (.int .i64 x7)), (13, (.int .i64 x23)), (17, (.slice a9 (List.length v20) n9)), (18, (.int .i64 x24)), (172, (.bool (decide ((rd v20 (w64 (x24 - 1))) ≥ (rd v20 x24)))))] ⟨rfl, rfl, rfl, rfl, rfl, rfl, rfl, rfl, trivial⟩ ?_
                        refine at_then ?_
                        obtain rfl := Option.some.inj Z24
                        exact at_mid (decide ((rd v20 (w64 (x24 - 1))) ≥ (rd v20 x24))) [0, 0, 0, 0, 0, 0, 0] rfl ⟨rfl, rfl, rfl, rfl, rfl, rfl, rfl, rfl, trivial⟩ rfl
                      · replace Z24 := if_f (of_decide_eq_false c32) Z24
                        iterate 12 refine atq_s T rfl ?_
                        refine atq_end ?_
                        refine at_sub [(9, (.pointer (some ⟨b2, 0, none⟩))), (10, (.pointer (some ⟨b3, 0, none⟩))), (11, (.int .i64 v4)), (12, (.int .i64 x7)), (13, (.int .i64 x23)), (17, (.slice a9 (List.length v20) n9)), (18, (.int .i64 x24)), (172, (.bool false))] ⟨rfl, rfl, rfl, rfl, rfl, rfl, rfl, rfl, trivial⟩ ?_
                        refine at_then ?_
                        obtain rfl := Option.some.inj Z24
                        exact at_mid false [0, 0, 0, 0, 0, 0, 0] rfl ⟨rfl, rfl, rfl, rfl, rfl, rfl, rfl, rfl, trivial⟩ rfl
            · rintro x26 rfl
              refine at_cond rfl (fun c34 => ?_) (fun c34 => ?_)
              · replace Z22 := if_t c34 Z22
                refine at_seq ?_
                refine at_region [0] rfl ?_
                refine at_s T rfl ?_
                refine at_end ?_
                refine at_to [(8, (.bool false))] [0] [F] ⟨rfl, trivial⟩ rfl ?_
                refine at_then ?_
                refine at_ret ?_
                refine at_rt ?_
                refine at_rb ?_
                refine at_rt ?_
                refine at_rt ?_
                refine at_rb ?_
                refine at_rt ?_
                obtain rfl := Option.some.inj Z22
                exact at_post (T := T) rfl (.tmp rfl .nil) (fun w o => ⟨(), rfl, own_to [0] rfl o⟩)
              · replace Z22 := if_f (bf c34) Z22
                refine at_skip ?_
                refine at_then ?_
                refine at_region [0, 1, 2, 3, 4, 5, 6, 7, 8, 9] rfl ?_
                iterate 4 refine at_s T rfl ?_
                obtain ⟨c35, Z22⟩ := chk_e Z22
                obtain ⟨q12, o12, e12⟩ := s9.r.addr c35.1 c35.2
                refine at_v rfl (g_index T rfl rfl rfl rfl rfl e12 c35.1 c35.2) ?_
                refine at_v rfl (g_load T rfl rfl rfl rfl (in_elem1 (k := (Fl.int .i64)) (own_of s9 (j := 6) rfl) e12 c35 0 rfl)) ?_
                obtain ⟨v29, V36, Z22⟩ := bind_e Z22
                refine at_cons (at_cR (As := [[(b3, Obj.cells #[(.int .i64 yv2.m.W), (.int .i64 yv2.m.H), (.slice a4 (List.length yv2.m.C) n4), (.int .i64 yv2.epoch), (.slice a5 (List.length yv2.versions) n5)] 81 (0, 0))], H4, H5]) (R := [F, [(b2, Obj.cells #[(.int .i64 v1.W), (.int .i64 v1.H), (.slice a1 (List.length v1.C) n1)] 24 (0, 0))], H1, H9]) (border_Cross.R v29) [[(b3, Obj.cells #[(.int .i64 yv2.m.W), (.int .i64 yv2.m.H), (.slice a4 (List.length yv2.m.C) n4), (.int .i64 yv2.epoch), (.slice a5 (List.length yv2.versions) n5)] 81 (0, 0))], H4, H5] [3, 3, 3] rfl rfl rfl rfl has29 rfl rfl (border_Cross.c yv2 (rd v20 x24) v29 _ V36 s4 s5) ?_)
                rintro _ _ ⟨a13, n13, H13, s13, rfl, rfl⟩
                iterate 3 refine at_s T rfl ?_
                refine at_end ?_
                refine at_to [(9, (.pointer (some ⟨b2, 0, none⟩))), (10, (.pointer (some ⟨b3, 0, none⟩))), (11, (.int .i64 v4)), (12, (.int .i64 x7)), (13, (.int .i64 (w64 (x23 + (List.length v29 : Int))))), (17, (.slice a9 (List.length v20) n9)), (18, (.int .i64 x24))] [0, 0, 0, 0, 1, 1, 1] [F, [(b2, Obj.cells #[(.int .i64 v1.W), (.int .i64 v1.H), (.slice a1 (List.length v1.C) n1)] 24 (0, 0))], H1, H9, [(b3, Obj.cells #[(.int .i64 yv2.m.W), (.int .i64 yv2.m.H), (.slice a4 (List.length yv2.m.C) n4), (.int .i64 yv2.epoch), (.slice a5 (List.length yv2.versions) n5)] 81 (0, 0))], H4, H5] ⟨rfl, rfl, rfl, rfl, rfl, rfl, rfl, trivial⟩ rfl ?_
                refine at_nb ?_
                refine at_then ?_
                refine at_region [0, 1, 2] rfl ?_
                iterate 3 refine at_s T rfl ?_
                refine at_end ?_
                refine at_sub [(9, (.pointer (some ⟨b2, 0, none⟩))), (10, (.pointer (some ⟨b3, 0, none⟩))), (11, (.int .i64 v4)), (12, (.int .i64 x7)), (13, (.int .i64 (w64 (x23 + (List.length v29 : Int))))), (17, (.slice a9 (List.length v20) n9)), (18, (.int .i64 (w64 (x24 + 1))))] ⟨rfl, rfl, rfl, rfl, rfl, rfl, rfl, trivial⟩ ?_
                refine at_then ?_
                exact at_roundL (k25, (w64 (x23 + (List.length v29 : Int))), (w64 (x24 + 1))) [0, 0, 0, 1, 1, 1, 0] Z22 (Nat.lt_succ_self _) ⟨rfl, rfl, rfl, rfl, rfl, rfl, rfl, trivial⟩ rfl
          · replace Z22 := if_f (of_decide_eq_false c23) Z22
            refine at_exit ?_
            refine at_xt ?_
            refine at_xt ?_
            refine at_xb ?_
            refine at_then ?_
            refine at_seq ?_
            refine at_region [0, 1, 2, 3, 4, 5, 6, 7, 8, 9, 10, 11] rfl ?_
            obtain ⟨v30, V37, Z22⟩ := bind_e Z22
            refine at_cons (at_c (B := fun _ => []) [] rfl rfl rfl rfl has19 rfl rfl (law11_told.c  v30 _ V37) (fun _ => ?_))
            refine at_s T rfl ?_
            refine at_grp T [2, 3, 4, 5] (s := 183) (c := v30) [(17, (.slice a9 (List.length v20) n9)), (187, (.bool (v30 && (x7 == x23))))] rfl rfl rfl (fun c38 => ⟨rfl, (by rw [c38]; rfl), trivial⟩) (fun c38 => ⟨rfl, (by rw [c38]; rfl), trivial⟩) ?_
            refine at_s T rfl ?_
            refine at_grp T [7, 8, 9, 10] (s := 188) (c := (v30 && (x7 == x23))) [(192, (.bool ((v30 && (x7 == x23)) && (decide ((List.length v20 : Int) ≤ 60)))))] rfl rfl rfl (fun c39 => ⟨(by rw [c39]; rfl), trivial⟩) (fun c39 => ⟨(by rw [c39]; rfl), trivial⟩) ?_
            refine at_s T rfl ?_
            refine at_end ?_
            refine at_to [(8, (.bool ((v30 && (x7 == x23)) && (decide ((List.length v20 : Int) ≤ 60)))))] [0] [F] ⟨rfl, trivial⟩ rfl ?_
            refine at_then ?_
            refine at_ret ?_
            obtain rfl := Option.some.inj Z22
            exact at_post (T := T) rfl (.tmp rfl .nil) (fun w o => ⟨(), rfl, own_to [0] rfl o⟩)
def law11_BorderRuns.Pure : Prop := ∀ (w : Int) (h : Int) (c : (List Int)) (sector : Int), inI64 w → inI64 h → (∀ y ∈ c, inU8 y) → inI64 sector → List.length c ≤ 9223372036854775807 → law11_BorderRuns.f w h c sector = some true
end Go.Proofs.Yticdodeoljodiaa
