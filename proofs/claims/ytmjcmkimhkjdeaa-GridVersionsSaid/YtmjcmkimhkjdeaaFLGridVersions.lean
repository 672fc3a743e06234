import Derived.Test.YtmjcmkimhkjdeaaT
import Derived.Test.YtmjcmkimhkjdeaaFgrid
import Derived.Test.YtmjcmkimhkjdeaaFlaw5
import Derived.Test.YtmjcmkimhkjdeaaFref1
namespace Go.Proofs.Ytmjcmkimhkjdeaa
open Go.Hx
set_option maxRecDepth 100000
set_option linter.unusedVariables false
/-! ### herdsman/herdsmanlaw5.GridVersions: function 3 -/
def law5_GridVersions.l2 : Nat → api_Map → Int → List Int → (Int × grid_Grid) → Int → Int → Option (Sum Bool (Int × Int × (List Int) × Int × (List Int)))
  | 0, _, _, _, _, _, _ => none
  | k50 + 1, v1, v3, x33, v39, x23, x49 => if x49 < v3 then ((if (v39.1 == 0) = true then ((ref1_Sector.f v1.W v1.H x23).bind fun v53 => some (x49 == v53)) else (some false)).bind fun x51 => (if x51 = true then ((grid_Grid_Version.f v39.2 x49).bind fun v56 => (grid_Grid_Epoch.f v39.2).bind fun v57 => if (v56 != v57) = true then (some true) else (if (!x51) = true then ((grid_Grid_Version.f v39.2 x49).bind fun v58 => if (0 ≤ x49 ∧ x49 < (List.length x33 : Int)) then (some (v58 != (rd x33 x49))) else none) else (some false))) else (if (!x51) = true then ((grid_Grid_Version.f v39.2 x49).bind fun v59 => if (0 ≤ x49 ∧ x49 < (List.length x33 : Int)) then (some (v59 != (rd x33 x49))) else none) else (some false))).bind fun x54 => if x54 = true then (some (Sum.inl false)) else (law5_GridVersions.l2 k50 v1 v3 x33 v39 x23 (w64 (x49 + 1)))) else (some (Sum.inr (v39.2.m.W, v39.2.m.H, v39.2.m.C, v39.2.epoch, v39.2.versions)))
def law5_GridVersions.l1 : Nat → api_Map → Int → Int → List Int → Int → List Int → Int → Int → Int → List Int → Int → Option (Sum Bool (Int × Int × (List Int) × Int × (List Int)))
  | 0, _, _, _, _, _, _, _, _, _, _, _ => none
  | k35 + 1, v1, v3, x24, x12, x13, x14, x10, x11, x23, x33, x34 => if x34 < v3 then ((grid_Grid_Version.f (grid_Grid.mk (api_Map.mk x10 x11 x12) x13 x14) x34).bind fun v36 => if (0 ≤ x34 ∧ x34 < (List.length x33 : Int)) then (law5_GridVersions.l1 k35 v1 v3 x24 x12 x13 x14 x10 x11 x23 (List.set x33 (Int.toNat x34) v36) (w64 (x34 + 1))) else none) else ((grid_Grid_Epoch.f (grid_Grid.mk (api_Map.mk x10 x11 x12) x13 x14)).bind fun v37 => (grid_Grid_Cost.f (grid_Grid.mk (api_Map.mk x10 x11 x12) x13 x14) x23).bind fun v38 => (grid_Grid_Edit.f (grid_Grid.mk (api_Map.mk x10 x11 x12) x13 x14) x23 x24).bind fun v39 => (if (!(v39.1 == 0)) = true then ((grid_Grid_Epoch.f v39.2).bind fun v42 => if (v42 != v37) = true then (some true) else ((grid_Grid_Cost.f v39.2 x23).bind fun v43 => if (v43 != v38) = true then (some true) else (if (v39.1 == 0) = true then ((grid_Grid_Epoch.f v39.2).bind fun v44 => if (v44 != (w64 (v37 + 1))) = true then (some true) else ((grid_Grid_Cost.f v39.2 x23).bind fun v45 => some (v45 != x24))) else (some false)))) else (if (v39.1 == 0) = true then ((grid_Grid_Epoch.f v39.2).bind fun v46 => if (v46 != (w64 (v37 + 1))) = true then (some true) else ((grid_Grid_Cost.f v39.2 x23).bind fun v47 => some (v47 != x24))) else (some false))).bind fun x40 => if x40 = true then (some (Sum.inl false)) else (law5_GridVersions.l2 fuel v1 v3 x33 v39 x23 0))
def law5_GridVersions.l0 : Nat → (List herdsmanlaw5_Lay) → api_Map → Int → Int → Int → List Int → Int → List Int → Int → Option Bool
  | 0, _, _, _, _, _, _, _, _, _ => none
  | k16 + 1, l, v1, v3, x10, x11, x12, x13, x14, x15 => if ((decide (x15 < (List.length l : Int))) && (decide (x15 < 30))) = true then (((if (0 ≤ x15 ∧ x15 < (List.length l : Int)) then ((ref1_Within.f ((rd l x15).Cell) (-1) (List.length v1.C : Int)).bind fun v26 => (ref1_Within.f ((rd l x15).Cost) 0 256).bind fun v27 => some (v26, v27)) else none).bind fun (x23, x24) => if (0 ≤ v3 ∧ v3 ≤ 1099511627776) then (law5_GridVersions.l1 fuel v1 v3 x24 x12 x13 x14 x10 x11 x23 (List.replicate (Int.toNat v3) (0 : Int)) 0) else none).bind fun zz => match zz with | Sum.inl q => some q | Sum.inr (x17, x18, x19, x20, x21) => law5_GridVersions.l0 k16 l v1 v3 x17 x18 x19 x20 x21 (w64 (x15 + 1))) else ((law5_told.f).bind fun v60 => some v60)
def law5_GridVersions.f (w : Int) (h : Int) (c : (List Int)) (l : (List herdsmanlaw5_Lay)) : Option Bool := (ref1_Made.f w h c).bind fun v1 => (grid_New.f v1 7).bind fun v2 => optm v2 (some false) (fun yv2 => (ref1_Count.f v1.W v1.H).bind fun v3 => law5_GridVersions.l0 fuel l v1 v3 yv2.m.W yv2.m.H yv2.m.C yv2.epoch yv2.versions 0)
set_option maxHeartbeats 4000000 in
theorem law5_GridVersions.c {a_c : Option Addr} {n_c : Nat} {a_l : Option Addr} {n_l : Nat} (w : Int) (h : Int) (c : (List Int)) (l : (List herdsmanlaw5_Lay)) (r : Bool) (F : Hp) (H : law5_GridVersions.f w h c l = some r) (h_c : SliceR (Fl.int .u8) c a_c F) (c_c : List.length c ≤ n_c) (h_l : SliceR k_herdsmanlaw5_Lay l a_l F) (c_l : List.length l ≤ n_l) :
    CallsL Try.prog 3 [(.int .i64 w), (.int .i64 h), (.slice a_c (List.length c) n_c), (.slice a_l (List.length l) n_l)] [F] (fun _ : Unit => (.bool r)) (fun _ => [F]) := by
  unfold law5_GridVersions.f at H
  refine calls_atL [(0, (.int .i64 w)), (1, (.int .i64 h)), (2, (.slice a_c (List.length c) n_c)), (3, (.slice a_l (List.length l) n_l))] Try.func3 rfl rfl ⟨rfl, rfl, rfl, rfl, trivial⟩ (fun W => ?_)
  refine at_seq ?_
  refine at_region [0] rfl ?_
  refine at_s T rfl ?_
  refine at_end ?_
  refine at_sub [(0, (.int .i64 w)), (1, (.int .i64 h)), (2, (.slice a_c (List.length c) n_c)), (3, (.slice a_l (List.length l) n_l))] ⟨rfl, rfl, rfl, rfl, trivial⟩ ?_
  refine at_then ?_
  refine at_seq ?_
  refine at_region [0, 1, 2, 3, 4, 5] rfl ?_
  iterate 3 refine at_s T rfl ?_
  obtain ⟨v1, V1, H⟩ := bind_e H
  refine at_cons (at_cR (ref1_Made.R v1) [] [] rfl rfl rfl rfl has14 rfl rfl (ref1_Made.c w h c v1 _ V1 (ro_of h_c (j := 0) rfl) c_c) ?_)
  rintro _ _ ⟨a1, n1, H1, s1, rfl, rfl⟩
  refine at_cons (at_al T [(.int .i64 0), (.int .i64 0), (.slice none 0 0)] rfl rfl rfl rfl (fun b2 => ?_))
  refine at_cons (at_st T 2 [(.int .i64 v1.W), (.int .i64 v1.H), (.slice a1 (List.length v1.C) n1)] rfl rfl rfl rfl rfl rfl rfl rfl rfl rfl ?_)
  refine at_end ?_
  refine at_sub [(3, (.slice a_l (List.length l) n_l)), (9, (.pointer (some ⟨b2, 0, none⟩)))] ⟨rfl, rfl, trivial⟩ ?_
  refine at_then ?_
  refine at_seq ?_
  refine at_region [0, 1, 2] rfl ?_
  refine at_v rfl (g_loadA T (cs := [(.int .i64 v1.W), (.int .i64 v1.H), (.slice a1 (List.length v1.C) n1)]) rfl rfl rfl rfl rfl rfl (in_varA (j := 2) rfl rfl)) ?_
  obtain ⟨v2, V2, H⟩ := bind_e H
  refine at_cons (at_cR (grid_New.R v2) [] [] rfl rfl rfl rfl has15 rfl rfl (grid_New.c v1 7 v2 _ V2 (own_of s1 (j := 1) rfl) s1.cap_le) ?_)
  rintro _ _ ⟨_, _, O3, rfl, rfl⟩
  rcases v2 with _ | yv2
  · replace H := optm_n rfl H
    obtain ⟨rfl, rfl⟩ := O3
    refine at_s T rfl ?_
    refine at_end ?_
    refine at_sub [(3, (.slice a_l (List.length l) n_l)), (9, (.pointer (some ⟨b2, 0, none⟩))), (10, (.pointer none))] ⟨rfl, rfl, rfl, trivial⟩ ?_
    refine at_then ?_
    refine at_seq ?_
    refine at_seq ?_
    refine at_region [0, 1] rfl ?_
    iterate 2 refine at_s T rfl ?_
    refine at_end ?_
    refine at_sub [(3, (.slice a_l (List.length l) n_l)), (9, (.pointer (some ⟨b2, 0, none⟩))), (10, (.pointer none)), (28, (.bool true))] ⟨rfl, rfl, rfl, rfl, trivial⟩ ?_
    refine at_then ?_
    refine at_cond_t rfl ?_
    refine at_seq ?_
    refine at_region [0] rfl ?_
    refine at_s T rfl ?_
    refine at_end ?_
    refine at_to [(8, (.bool false))] [0] [F] ⟨rfl, trivial⟩ rfl ?_
    refine at_then ?_
    refine at_ret ?_
    refine at_rt ?_
    obtain rfl := Option.some.inj H
    exact at_post (T := T) rfl (.tmp rfl .nil) (fun w o => ⟨(), rfl, own_to [0] rfl o⟩)
  · replace H := optm_s rfl H
    obtain ⟨b3, a4, n4, H4, a5, n5, H5, s4, s5, rfl, rfl⟩ := O3
    refine at_s T rfl ?_
    refine at_end ?_
    refine at_sub [(3, (.slice a_l (List.length l) n_l)), (9, (.pointer (some ⟨b2, 0, none⟩))), (10, (.pointer (some ⟨b3, 0, none⟩)))] ⟨rfl, rfl, rfl, trivial⟩ ?_
    refine at_then ?_
    refine at_seq ?_
    refine at_seq ?_
    refine at_region [0, 1] rfl ?_
    iterate 2 refine at_s T rfl ?_
    refine at_end ?_
    refine at_sub [(3, (.slice a_l (List.length l) n_l)), (9, (.pointer (some ⟨b2, 0, none⟩))), (10, (.pointer (some ⟨b3, 0, none⟩))), (28, (.bool false))] ⟨rfl, rfl, rfl, rfl, trivial⟩ ?_
    refine at_then ?_
    refine at_cond_f rfl ?_
    refine at_skip ?_
    refine at_then ?_
    refine at_seq ?_
    refine at_region [0, 1, 2, 3, 4, 5] rfl ?_
    refine at_s T rfl ?_
    refine at_v rfl (g_load T rfl rfl rfl rfl (in_var (j := 2) rfl rfl)) ?_
    refine at_s T rfl ?_
    refine at_v rfl (g_load T rfl rfl rfl rfl (in_var (j := 2) rfl rfl)) ?_
    obtain ⟨v3, V4, H⟩ := bind_e H
    refine at_cons (at_c (B := fun _ => []) [] rfl rfl rfl rfl has16 rfl rfl (ref1_Count.c v1.W v1.H v3 _ V4) (fun _ => ?_))
    refine at_s T rfl ?_
    refine at_end ?_
    refine at_sub [(3, (.slice a_l (List.length l) n_l)), (9, (.pointer (some ⟨b2, 0, none⟩))), (10, (.pointer (some ⟨b3, 0, none⟩))), (11, (.int .i64 v3))] ⟨rfl, rfl, rfl, rfl, trivial⟩ ?_
    refine at_then ?_
    refine at_seq ?_
    refine at_seq ?_
    refine at_region [0] rfl ?_
    refine at_s T rfl ?_
    refine at_end ?_
    refine at_sub [(3, (.slice a_l (List.length l) n_l)), (9, (.pointer (some ⟨b2, 0, none⟩))), (10, (.pointer (some ⟨b3, 0, none⟩))), (11, (.int .i64 v3)), (12, (.int .i64 0))] ⟨rfl, rfl, rfl, rfl, rfl, trivial⟩ ?_
    refine at_then ?_
    refine at_block ?_
    refine at_loopL (σ := Nat × Int × Int × List Int × Int × List Int × Int × Option Addr × Nat × Hp × Option Addr × Nat × Hp) (fun ⟨k16, x10, x11, x12, x13, x14, x15, a8, n8, H8, a9, n9, H9⟩ => law5_GridVersions.l0 k16 l v1 v3 x10 x11 x12 x13 x14 x15 = some r ∧ SliceO (Fl.int .u8) 5 x12 a8 n8 H8 ∧ SliceO (Fl.int .i64) 2 x14 a9 n9 H9) (fun ⟨k16, x10, x11, x12, x13, x14, x15, a8, n8, H8, a9, n9, H9⟩ => [(3, (.slice a_l (List.length l) n_l)), (9, (.pointer (some ⟨b2, 0, none⟩))), (10, (.pointer (some ⟨b3, 0, none⟩))), (11, (.int .i64 v3)), (12, (.int .i64 x15))]) (fun ⟨k16, x10, x11, x12, x13, x14, x15, a8, n8, H8, a9, n9, H9⟩ => [F, [(b2, Obj.cells #[(.int .i64 v1.W), (.int .i64 v1.H), (.slice a1 (List.length v1.C) n1)] 25 (0, 0))], H1, [(b3, Obj.cells #[(.int .i64 x10), (.int .i64 x11), (.slice a8 (List.length x12) n8), (.int .i64 x13), (.slice a9 (List.length x14) n9)] 71 (0, 0))], H8, H9]) (fun s => s.1) (fuel, yv2.m.W, yv2.m.H, yv2.m.C, yv2.epoch, yv2.versions, 0, a4, n4, H4, a5, n5, H5) [0, 1, 0, 0, 0, 0] ⟨H, s4, s5⟩ ⟨rfl, rfl, rfl, rfl, rfl, trivial⟩ rfl ?_
    rintro ⟨k16, x10, x11, x12, x13, x14, x15, a8, n8, H8, a9, n9, H9⟩ ⟨Z5, s8, s9⟩
    replace Z5 : law5_GridVersions.l0 k16 l v1 v3 x10 x11 x12 x13 x14 x15 = some r := Z5
    rcases k16 with _ | k16
    · rw [law5_GridVersions.l0] at Z5; cases Z5
    · rw [law5_GridVersions.l0] at Z5
      refine at_seq ?_
      refine at_seq ?_
      refine at_region [0, 1, 2, 3, 4, 5, 6, 7] rfl ?_
      iterate 5 refine at_s T rfl ?_
      refine at_grp T [5, 6, 7] (s := 38) (c := (decide (x15 < (List.length l : Int)))) [(3, (.slice a_l (List.length l) n_l)), (9, (.pointer (some ⟨b2, 0, none⟩))), (10, (.pointer (some ⟨b3, 0, none⟩))), (11, (.int .i64 v3)), (12, (.int .i64 x15)), (41, (.bool ((decide (x15 < (List.length l : Int))) && (decide (x15 < 30)))))] rfl rfl rfl (fun c6 => ⟨rfl, rfl, rfl, rfl, rfl, (by rw [c6]; rfl), trivial⟩) (fun c6 => ⟨rfl, rfl, rfl, rfl, rfl, (by rw [c6]; rfl), trivial⟩) ?_
      refine at_end ?_
      refine at_sub [(3, (.slice a_l (List.length l) n_l)), (9, (.pointer (some ⟨b2, 0, none⟩))), (10, (.pointer (some ⟨b3, 0, none⟩))), (11, (.int .i64 v3)), (12, (.int .i64 x15)), (41, (.bool ((decide (x15 < (List.length l : Int))) && (decide (x15 < 30)))))] ⟨rfl, rfl, rfl, rfl, rfl, rfl, trivial⟩ ?_
      refine at_then ?_
      refine at_cond rfl (fun c7 => ?_) (fun c7 => ?_)
      · replace Z5 := if_t c7 Z5
        refine at_skip ?_
        refine at_then ?_
        obtain ⟨z22, Z8, Z5⟩ := bind_e Z5
        refine at_seq_mid (σ := Int × Int × List Int × Int × List Int × Option Addr × Nat × Hp × Option Addr × Nat × Hp) (fun ⟨x17, x18, x19, x20, x21, a10, n10, H10, a11, n11, H11⟩ => (Sum.inr (x17, x18, x19, x20, x21)) = z22 ∧ SliceO (Fl.int .u8) 5 x19 a10 n10 H10 ∧ SliceO (Fl.int .i64) 2 x21 a11 n11 H11) (fun ⟨x17, x18, x19, x20, x21, a10, n10, H10, a11, n11, H11⟩ => [(3, (.slice a_l (List.length l) n_l)), (9, (.pointer (some ⟨b2, 0, none⟩))), (10, (.pointer (some ⟨b3, 0, none⟩))), (11, (.int .i64 v3)), (12, (.int .i64 x15))]) (fun ⟨x17, x18, x19, x20, x21, a10, n10, H10, a11, n11, H11⟩ => [F, [(b2, Obj.cells #[(.int .i64 v1.W), (.int .i64 v1.H), (.slice a1 (List.length v1.C) n1)] 25 (0, 0))], H1, [(b3, Obj.cells #[(.int .i64 x17), (.int .i64 x18), (.slice a10 (List.length x19) n10), (.int .i64 x20), (.slice a11 (List.length x21) n11)] 71 (0, 0))], H10, H11]) ?_ ?_
        · refine at_block ?_
          obtain ⟨z25, Z9, Z8⟩ := bind_e Z8
          refine at_seq_mid (σ := Int × Int × Nat) (fun ⟨x23, x24, b12⟩ => (x23, x24) = z25) (fun ⟨x23, x24, b12⟩ => [(3, (.slice a_l (List.length l) n_l)), (9, (.pointer (some ⟨b2, 0, none⟩))), (10, (.pointer (some ⟨b3, 0, none⟩))), (11, (.int .i64 v3)), (12, (.int .i64 x15)), (13, (.pointer (some ⟨b12, 0, none⟩)))]) (fun ⟨x23, x24, b12⟩ => [F, [(b2, Obj.cells #[(.int .i64 v1.W), (.int .i64 v1.H), (.slice a1 (List.length v1.C) n1)] 25 (0, 0))], H1, [(b3, Obj.cells #[(.int .i64 x10), (.int .i64 x11), (.slice a8 (List.length x12) n8), (.int .i64 x13), (.slice a9 (List.length x14) n9)] 71 (0, 0))], H8, H9, [(b12, Obj.cells #[(.int .i64 x23), (.int .i64 x24)] 32 (0, 0))]]) ?_ ?_
          · refine at_region_m [[], [], [0, 1], [0, 1, 2], [0, 1, 2, 3], [], [5], [5, 6], [0, 1, 2, 3, 4, 5, 6, 7], [], [], [9, 10], [9, 10, 11], [9, 10, 11, 12], [0, 1, 2, 3, 4, 5, 6, 7, 8, 9, 10, 11, 12, 13], [0, 1, 2, 3, 4, 5, 6, 7, 8, 9, 10, 11, 12, 13, 14], [], [0, 1, 2, 3, 4, 5, 6, 7, 8, 9, 10, 11, 12, 13, 14, 15, 16]] [] [F, [(b2, Obj.cells #[(.int .i64 v1.W), (.int .i64 v1.H), (.slice a1 (List.length v1.C) n1)] 25 (0, 0))], H1, [(b3, Obj.cells #[(.int .i64 x10), (.int .i64 x11), (.slice a8 (List.length x12) n8), (.int .i64 x13), (.slice a9 (List.length x14) n9)] 71 (0, 0))], H8, H9] mix (by kernel_rfl) (by repeat first | exact pf_body | refine pf_then ?_ | refine pf_block ?_) (fun hg pf => ?_)
            refine atm_s T 0 hg pf (by kernel_rfl) (still_o [0, 0, 0, 0, 0, 0] rfl) rfl ?_
            refine atm_s T 1 hg pf (by kernel_rfl) (still_o [0, 0, 0, 0, 0, 0] rfl) rfl ?_
            obtain ⟨c10, Z9⟩ := chk_e Z9
            obtain ⟨q13, o13, e13⟩ := h_l.addr c10.1 c10.2
            refine atm_v 2 hg pf (by kernel_rfl) (still_o [0, 0, 0, 0, 0, 0] rfl) rfl rfl (g_index T rfl rfl rfl rfl rfl e13 c10.1 c10.2) ?_
            refine atm_s T 3 hg pf (by kernel_rfl) (still_o [0, 0, 0, 0, 0, 0] rfl) rfl ?_
            refine atm_v 4 hg pf (by kernel_rfl) (still_o [0, 0, 0, 0, 0, 0] rfl) rfl rfl (g_load T rfl rfl rfl rfl (in_elem1 (k := k_herdsmanlaw5_Lay) (ro_of h_l (j := 0) rfl) e13 c10 0 rfl)) ?_
            refine atm_s T 5 hg pf (by kernel_rfl) (still_o [0, 0, 0, 0, 0, 0] rfl) rfl ?_
            refine atm_v 6 hg pf (by kernel_rfl) (still_o [0, 0, 0, 0, 0, 0] rfl) rfl rfl (g_load T rfl rfl rfl rfl (in_var (j := 1) rfl rfl)) ?_
            refine atm_s T 7 hg pf (by kernel_rfl) (still_o [0, 0, 0, 0, 0, 0] rfl) rfl ?_
            refine atm_s T 9 hg pf (by kernel_rfl) (still_o [0, 0, 0, 0, 0, 0] rfl) rfl ?_
            refine atm_s T 10 hg pf (by kernel_rfl) (still_o [0, 0, 0, 0, 0, 0] rfl) rfl ?_
            refine atm_v 11 hg pf (by kernel_rfl) (still_o [0, 0, 0, 0, 0, 0] rfl) rfl rfl (g_index T rfl rfl rfl rfl rfl e13 c10.1 c10.2) ?_
            refine atm_s T 12 hg pf (by kernel_rfl) (still_o [0, 0, 0, 0, 0, 0] rfl) rfl ?_
            refine atm_v 13 hg pf (by kernel_rfl) (still_o [0, 0, 0, 0, 0, 0] rfl) rfl rfl (g_load T rfl rfl rfl rfl (in_elem1 (k := k_herdsmanlaw5_Lay) (ro_of h_l (j := 0) rfl) e13 c10 1 rfl)) ?_
            refine atm_two 8 16 (by kernel_rfl) ?_ ?_
            · obtain ⟨v26, V11, Z9⟩ := bind_e Z9
              refine at_c (B := fun _ => []) [] rfl rfl rfl rfl has17 rfl rfl (ref1_Within.c ((rd l x15).Cell) (-1) (List.length v1.C : Int) v26 _ V11) (fun _ => ?_)
              refine atm_next (still_o [0, 0, 0, 0, 0, 0] rfl) ?_
              refine atm_two 14 16 (by kernel_rfl) ?_ ?_
              · obtain ⟨v27, V12, Z9⟩ := bind_e Z9
                refine at_c (B := fun _ => []) [] rfl rfl rfl rfl has17 rfl rfl (ref1_Within.c ((rd l x15).Cost) 0 256 v27 _ V12) (fun _ => ?_)
                refine atm_next (still_o [0, 0, 0, 0, 0, 0] rfl) ?_
                refine atm_s T 15 hg pf (by kernel_rfl) (still_o [0, 0, 0, 0, 0, 0] rfl) rfl ?_
                refine atm_one 16 (by kernel_rfl) ?_
                refine at_al T [(.int .i64 0), (.int .i64 0)] rfl rfl rfl rfl (fun b14 => ?_)
                refine atm_next (still_o [0, 0, 0, 0, 0, 0] rfl) ?_
                refine atm_one 17 (by kernel_rfl) ?_
                refine at_st T 6 [(.int .i64 v26), (.int .i64 v27)] rfl rfl rfl rfl rfl rfl rfl rfl rfl rfl ?_
                refine atm_next (still_o [0, 0, 0, 0, 0, 0] rfl) ?_
                refine atm_end (by kernel_rfl) ?_
                refine at_sub [(3, (.slice a_l (List.length l) n_l)), (9, (.pointer (some ⟨b2, 0, none⟩))), (10, (.pointer (some ⟨b3, 0, none⟩))), (11, (.int .i64 v3)), (12, (.int .i64 x15)), (13, (.pointer (some ⟨b14, 0, none⟩)))] ⟨rfl, rfl, rfl, rfl, rfl, rfl, trivial⟩ ?_
                refine at_then ?_
                obtain rfl := Option.some.inj Z9
                exact at_mid (v26, v27, b14) [0, 0, 0, 0, 0, 0, 0] rfl ⟨rfl, rfl, rfl, rfl, rfl, rfl, trivial⟩ rfl
              · refine at_al T [(.int .i64 0), (.int .i64 0)] rfl rfl rfl rfl (fun b15 => ?_)
                refine atm_next (still_o [0, 0, 0, 0, 0, 0] rfl) ?_
                refine atm_one 14 (by kernel_rfl) ?_
                obtain ⟨v28, V13, Z9⟩ := bind_e Z9
                refine at_c (B := fun _ => []) [] rfl rfl rfl rfl has17 rfl rfl (ref1_Within.c ((rd l x15).Cost) 0 256 v28 _ V13) (fun _ => ?_)
                refine atm_next (still_o [0, 0, 0, 0, 0, 0] rfl) ?_
                refine atm_s T 15 hg pf (by kernel_rfl) (still_o [0, 0, 0, 0, 0, 0] rfl) rfl ?_
                refine atm_one 17 (by kernel_rfl) ?_
                refine at_st T 6 [(.int .i64 v26), (.int .i64 v28)] rfl rfl rfl rfl rfl rfl rfl rfl rfl rfl ?_
                refine atm_next (still_o [0, 0, 0, 0, 0, 0] rfl) ?_
                refine atm_end (by kernel_rfl) ?_
                refine at_sub [(3, (.slice a_l (List.length l) n_l)), (9, (.pointer (some ⟨b2, 0, none⟩))), (10, (.pointer (some ⟨b3, 0, none⟩))), (11, (.int .i64 v3)), (12, (.int .i64 x15)), (13, (.pointer (some ⟨b15, 0, none⟩)))] ⟨rfl, rfl, rfl, rfl, rfl, rfl, trivial⟩ ?_
                refine at_then ?_
                obtain rfl := Option.some.inj Z9
                exact at_mid (v26, v28, b15) [0, 0, 0, 0, 0, 0, 0] rfl ⟨rfl, rfl, rfl, rfl, rfl, rfl, trivial⟩ rfl
            · refine at_al T [(.int .i64 0), (.int .i64 0)] rfl rfl rfl rfl (fun b16 => ?_)
              refine atm_next (still_o [0, 0, 0, 0, 0, 0] rfl) ?_
              refine atm_one 8 (by kernel_rfl) ?_
              obtain ⟨v29, V14, Z9⟩ := bind_e Z9
              refine at_c (B := fun _ => []) [] rfl rfl rfl rfl has17 rfl rfl (ref1_Within.c ((rd l x15).Cell) (-1) (List.length v1.C : Int) v29 _ V14) (fun _ => ?_)
              refine atm_next (still_o [0, 0, 0, 0, 0, 0] rfl) ?_
              refine atm_one 14 (by kernel_rfl) ?_
              obtain ⟨v30, V15, Z9⟩ := bind_e Z9
              refine at_c (B := fun _ => []) [] rfl rfl rfl rfl has17 rfl rfl (ref1_Within.c ((rd l x15).Cost) 0 256 v30 _ V15) (fun _ => ?_)
              refine atm_next (still_o [0, 0, 0, 0, 0, 0] rfl) ?_
              refine atm_s T 15 hg pf (by kernel_rfl) (still_o [0, 0, 0, 0, 0, 0] rfl) rfl ?_
              refine atm_one 17 (by kernel_rfl) ?_
              refine at_st T 6 [(.int .i64 v29), (.int .i64 v30)] rfl rfl rfl rfl rfl rfl rfl rfl rfl rfl ?_
              refine atm_next (still_o [0, 0, 0, 0, 0, 0] rfl) ?_
              refine atm_end (by kernel_rfl) ?_
              refine at_sub [(3, (.slice a_l (List.length l) n_l)), (9, (.pointer (some ⟨b2, 0, none⟩))), (10, (.pointer (some ⟨b3, 0, none⟩))), (11, (.int .i64 v3)), (12, (.int .i64 x15)), (13, (.pointer (some ⟨b16, 0, none⟩)))] ⟨rfl, rfl, rfl, rfl, rfl, rfl, trivial⟩ ?_
              refine at_then ?_
              obtain rfl := Option.some.inj Z9
              exact at_mid (v29, v30, b16) [0, 0, 0, 0, 0, 0, 0] rfl ⟨rfl, rfl, rfl, rfl, rfl, rfl, trivial⟩ rfl
          · rintro ⟨x23, x24, b12⟩ rfl
            refine at_seq ?_
            refine at_region [0, 1, 2] rfl ?_
            refine at_s T rfl ?_
            obtain ⟨c16, Z8⟩ := chk_e Z8
            refine at_cons (at_mk (k := (Fl.int .i64)) T (0 : Int) rfl rfl rfl rfl rfl rfl rfl rfl c16 rfl (fun a17 n17 H17 s17 => ?_))
            refine at_s T rfl ?_
            refine at_end ?_
            refine at_sub [(3, (.slice a_l (List.length l) n_l)), (9, (.pointer (some ⟨b2, 0, none⟩))), (10, (.pointer (some ⟨b3, 0, none⟩))), (11, (.int .i64 v3)), (12, (.int .i64 x15)), (13, (.pointer (some ⟨b12, 0, none⟩))), (14, (.slice a17 (List.length (List.replicate (Int.toNat v3) (0 : Int))) n17))] ⟨rfl, rfl, rfl, rfl, rfl, rfl, rfl, trivial⟩ ?_
            refine at_then ?_
            refine at_seq ?_
            refine at_seq ?_
            refine at_region [0] rfl ?_
            refine at_s T rfl ?_
            refine at_end ?_
            refine at_sub [(3, (.slice a_l (List.length l) n_l)), (9, (.pointer (some ⟨b2, 0, none⟩))), (10, (.pointer (some ⟨b3, 0, none⟩))), (11, (.int .i64 v3)), (12, (.int .i64 x15)), (13, (.pointer (some ⟨b12, 0, none⟩))), (14, (.slice a17 (List.length (List.replicate (Int.toNat v3) (0 : Int))) n17)), (15, (.int .i64 0))] ⟨rfl, rfl, rfl, rfl, rfl, rfl, rfl, rfl, trivial⟩ ?_
            refine at_then ?_
            refine at_block ?_
            refine at_loopL (σ := Nat × List Int × Int × Option Addr × Nat × Hp) (fun ⟨k35, x33, x34, a19, n19, H19⟩ => law5_GridVersions.l1 k35 v1 v3 x24 x12 x13 x14 x10 x11 x23 x33 x34 = some z22 ∧ SliceO (Fl.int .i64) 2 x33 a19 n19 H19) (fun ⟨k35, x33, x34, a19, n19, H19⟩ => [(3, (.slice a_l (List.length l) n_l)), (9, (.pointer (some ⟨b2, 0, none⟩))), (10, (.pointer (some ⟨b3, 0, none⟩))), (11, (.int .i64 v3)), (12, (.int .i64 x15)), (13, (.pointer (some ⟨b12, 0, none⟩))), (14, (.slice a19 (List.length x33) n19)), (15, (.int .i64 x34))]) (fun ⟨k35, x33, x34, a19, n19, H19⟩ => [F, [(b2, Obj.cells #[(.int .i64 v1.W), (.int .i64 v1.H), (.slice a1 (List.length v1.C) n1)] 25 (0, 0))], H1, [(b3, Obj.cells #[(.int .i64 x10), (.int .i64 x11), (.slice a8 (List.length x12) n8), (.int .i64 x13), (.slice a9 (List.length x14) n9)] 71 (0, 0))], H8, H9, [(b12, Obj.cells #[(.int .i64 x23), (.int .i64 x24)] 32 (0, 0))], H19]) (fun s => s.1) (fuel, (List.replicate (Int.toNat v3) (0 : Int)), 0, a17, n17, H17) [0, 0, 0, 0, 0, 0, 0, 0] ⟨Z8, s17⟩ ⟨rfl, rfl, rfl, rfl, rfl, rfl, rfl, rfl, trivial⟩ rfl ?_
            rintro ⟨k35, x33, x34, a19, n19, H19⟩ ⟨Z17, s19⟩
            replace Z17 : law5_GridVersions.l1 k35 v1 v3 x24 x12 x13 x14 x10 x11 x23 x33 x34 = some z22 := Z17
            rcases k35 with _ | k35
            · rw [law5_GridVersions.l1] at Z17; cases Z17
            · rw [law5_GridVersions.l1] at Z17
              refine at_seq ?_
              refine at_seq ?_
              refine at_region [0, 1, 2] rfl ?_
              iterate 3 refine at_s T rfl ?_
              refine at_end ?_
              refine at_sub [(3, (.slice a_l (List.length l) n_l)), (9, (.pointer (some ⟨b2, 0, none⟩))), (10, (.pointer (some ⟨b3, 0, none⟩))), (11, (.int .i64 v3)), (12, (.int .i64 x15)), (13, (.pointer (some ⟨b12, 0, none⟩))), (14, (.slice a19 (List.length x33) n19)), (15, (.int .i64 x34)), (64, (.bool (decide (x34 < v3))))] ⟨rfl, rfl, rfl, rfl, rfl, rfl, rfl, rfl, rfl, trivial⟩ ?_
              refine at_then ?_
              refine at_cond rfl (fun c18 => ?_) (fun c18 => ?_)
              · replace Z17 := if_t (of_decide_eq_true c18) Z17
                refine at_skip ?_
                refine at_then ?_
                refine at_seq ?_
                refine at_block ?_
                refine at_region [0, 1, 2, 3, 4, 5, 6] rfl ?_
                iterate 4 refine at_s T rfl ?_
                obtain ⟨v36, V19, Z17⟩ := bind_e Z17
                refine at_cons (at_c (As := [[(b3, Obj.cells #[(.int .i64 x10), (.int .i64 x11), (.slice a8 (List.length x12) n8), (.int .i64 x13), (.slice a9 (List.length x14) n9)] 71 (0, 0))], H8, H9]) (R := [F, [(b2, Obj.cells #[(.int .i64 v1.W), (.int .i64 v1.H), (.slice a1 (List.length v1.C) n1)] 25 (0, 0))], H1, [(b12, Obj.cells #[(.int .i64 x23), (.int .i64 x24)] 32 (0, 0))], H19]) (B := fun _ => [[(b3, Obj.cells #[(.int .i64 x10), (.int .i64 x11), (.slice a8 (List.length x12) n8), (.int .i64 x13), (.slice a9 (List.length x14) n9)] 71 (0, 0))], H8, H9]) [3, 3, 3] rfl rfl rfl rfl has18 rfl rfl (grid_Grid_Version.c (grid_Grid.mk (api_Map.mk x10 x11 x12) x13 x14) x34 v36 _ V19 s8 s9) (fun _ => ?_))
                obtain ⟨c20, Z17⟩ := chk_e Z17
                obtain ⟨q20, o20, e20⟩ := s19.r.addr c20.1 c20.2
                refine at_v rfl (g_index T rfl rfl rfl rfl rfl e20 c20.1 c20.2) ?_
                refine at_cons (at_se (k := (Fl.int .i64)) T 4 0 v36 rfl rfl rfl rfl rfl rfl s19 e20 c20 rfl rfl rfl (fun H21 s21 => ?_))
                refine at_to [(3, (.slice a_l (List.length l) n_l)), (9, (.pointer (some ⟨b2, 0, none⟩))), (10, (.pointer (some ⟨b3, 0, none⟩))), (11, (.int .i64 v3)), (12, (.int .i64 x15)), (13, (.pointer (some ⟨b12, 0, none⟩))), (14, (.slice a19 (List.length (List.set x33 (Int.toNat x34) v36)) n19)), (15, (.int .i64 x34))] [0, 0, 0, 0, 0, 0, 0, 0] [F, [(b2, Obj.cells #[(.int .i64 v1.W), (.int .i64 v1.H), (.slice a1 (List.length v1.C) n1)] 25 (0, 0))], H1, [(b12, Obj.cells #[(.int .i64 x23), (.int .i64 x24)] 32 (0, 0))], H21, [(b3, Obj.cells #[(.int .i64 x10), (.int .i64 x11), (.slice a8 (List.length x12) n8), (.int .i64 x13), (.slice a9 (List.length x14) n9)] 71 (0, 0))], H8, H9] ⟨rfl, rfl, rfl, rfl, rfl, rfl, (by first | rfl | (simp only [List.length_set]; rfl)), rfl, trivial⟩ rfl ?_
                refine at_end ?_
                refine at_sub [(3, (.slice a_l (List.length l) n_l)), (9, (.pointer (some ⟨b2, 0, none⟩))), (10, (.pointer (some ⟨b3, 0, none⟩))), (11, (.int .i64 v3)), (12, (.int .i64 x15)), (13, (.pointer (some ⟨b12, 0, none⟩))), (14, (.slice a19 (List.length (List.set x33 (Int.toNat x34) v36)) n19)), (15, (.int .i64 x34))] ⟨rfl, rfl, rfl, rfl, rfl, rfl, rfl, rfl, trivial⟩ ?_
                refine at_nb ?_
                refine at_then ?_
                refine at_region [0, 1, 2] rfl ?_
                iterate 3 refine at_s T rfl ?_
                refine at_end ?_
                refine at_sub [(3, (.slice a_l (List.length l) n_l)), (9, (.pointer (some ⟨b2, 0, none⟩))), (10, (.pointer (some ⟨b3, 0, none⟩))), (11, (.int .i64 v3)), (12, (.int .i64 x15)), (13, (.pointer (some ⟨b12, 0, none⟩))), (14, (.slice a19 (List.length (List.set x33 (Int.toNat x34) v36)) n19)), (15, (.int .i64 (w64 (x34 + 1))))] ⟨rfl, rfl, rfl, rfl, rfl, rfl, rfl, rfl, trivial⟩ ?_
                refine at_then ?_
                exact at_roundL (k35, (List.set x33 (Int.toNat x34) v36), (w64 (x34 + 1)), a19, n19, H21) [0, 0, 0, 2, 2, 2, 0, 0] ⟨Z17, s21⟩ (Nat.lt_succ_self _) ⟨rfl, rfl, rfl, rfl, rfl, rfl, rfl, rfl, trivial⟩ rfl
              · replace Z17 := if_f (of_decide_eq_false c18) Z17
                refine at_exit ?_
                refine at_xt ?_
                refine at_xt ?_
                refine at_xb ?_
                refine at_then ?_
                refine at_seq ?_
                refine at_region_q mix (by kernel_rfl) ?_
                refine atq_s T rfl ?_
                obtain ⟨v37, V21, Z17⟩ := bind_e Z17
                refine atq_cr (As := [[(b3, Obj.cells #[(.int .i64 x10), (.int .i64 x11), (.slice a8 (List.length x12) n8), (.int .i64 x13), (.slice a9 (List.length x14) n9)] 71 (0, 0))], H8, H9]) (R := [F, [(b2, Obj.cells #[(.int .i64 v1.W), (.int .i64 v1.H), (.slice a1 (List.length v1.C) n1)] 25 (0, 0))], H1, [(b12, Obj.cells #[(.int .i64 x23), (.int .i64 x24)] 32 (0, 0))], H19]) [3, 3, 3] rfl rfl rfl rfl rfl rfl has19 rfl rfl (grid_Grid_Epoch.c (grid_Grid.mk (api_Map.mk x10 x11 x12) x13 x14) v37 _ V21 s8 s9) ?_
                iterate 2 refine atq_s T rfl ?_
                refine atq_v rfl rfl rfl (g_load T rfl rfl rfl rfl (in_var (j := 6) rfl rfl)) ?_
                obtain ⟨v38, V22, Z17⟩ := bind_e Z17
                refine atq_cr (As := [[(b3, Obj.cells #[(.int .i64 x10), (.int .i64 x11), (.slice a8 (List.length x12) n8), (.int .i64 x13), (.slice a9 (List.length x14) n9)] 71 (0, 0))], H8, H9]) (R := [F, [(b2, Obj.cells #[(.int .i64 v1.W), (.int .i64 v1.H), (.slice a1 (List.length v1.C) n1)] 25 (0, 0))], H1, [(b12, Obj.cells #[(.int .i64 x23), (.int .i64 x24)] 32 (0, 0))], H19]) [3, 3, 3] rfl rfl rfl rfl rfl rfl has20 rfl rfl (grid_Grid_Cost.c (grid_Grid.mk (api_Map.mk x10 x11 x12) x13 x14) x23 v38 _ V22 s8 s9) ?_
                iterate 2 refine atq_s T rfl ?_
                refine atq_end ?_
                refine at_sub [(3, (.slice a_l (List.length l) n_l)), (9, (.pointer (some ⟨b2, 0, none⟩))), (10, (.pointer (some ⟨b3, 0, none⟩))), (11, (.int .i64 v3)), (12, (.int .i64 x15)), (13, (.pointer (some ⟨b12, 0, none⟩))), (14, (.slice a19 (List.length x33) n19)), (16, (.int .i64 v37)), (17, (.int .i64 v38))] ⟨rfl, rfl, rfl, rfl, rfl, rfl, rfl, rfl, rfl, trivial⟩ ?_
                refine at_then ?_
                refine at_seq ?_
                refine at_region [0, 1, 2, 3, 4, 5, 6, 7] rfl ?_
                iterate 2 refine at_s T rfl ?_
                refine at_v rfl (g_load T rfl rfl rfl rfl (in_var (j := 6) rfl rfl)) ?_
                refine at_s T rfl ?_
                refine at_v rfl (g_load T rfl rfl rfl rfl (in_var (j := 6) rfl rfl)) ?_
                obtain ⟨v39, V23, Z17⟩ := bind_e Z17
                refine at_cons (at_cR (As := [[(b3, Obj.cells #[(.int .i64 x10), (.int .i64 x11), (.slice a8 (List.length x12) n8), (.int .i64 x13), (.slice a9 (List.length x14) n9)] 71 (0, 0))], H8, H9]) (R := [F, [(b2, Obj.cells #[(.int .i64 v1.W), (.int .i64 v1.H), (.slice a1 (List.length v1.C) n1)] 25 (0, 0))], H1, [(b12, Obj.cells #[(.int .i64 x23), (.int .i64 x24)] 32 (0, 0))], H19]) (grid_Grid_Edit.R b3 v39) [] [3, 3, 3] rfl rfl rfl rfl has21 rfl rfl (grid_Grid_Edit.c (grid_Grid.mk (api_Map.mk x10 x11 x12) x13 x14) x23 x24 v39 _ V23 s8 s9) ?_)
                rintro _ _ ⟨a22, n22, H22, a23, n23, H23, s22, s23, rfl, rfl⟩
                iterate 2 refine at_s T rfl ?_
                refine at_end ?_
                refine at_sub [(3, (.slice a_l (List.length l) n_l)), (9, (.pointer (some ⟨b2, 0, none⟩))), (10, (.pointer (some ⟨b3, 0, none⟩))), (11, (.int .i64 v3)), (12, (.int .i64 x15)), (13, (.pointer (some ⟨b12, 0, none⟩))), (14, (.slice a19 (List.length x33) n19)), (16, (.int .i64 v37)), (17, (.int .i64 v38)), (18, (.bool (v39.1 == 0)))] ⟨rfl, rfl, rfl, rfl, rfl, rfl, rfl, rfl, rfl, rfl, trivial⟩ ?_
                refine at_then ?_
                refine at_seq ?_
                obtain ⟨z41, Z24, Z17⟩ := bind_e Z17
                refine at_seq_mid (σ := Bool) (fun x40 => x40 = z41) (fun x40 => [(3, (.slice a_l (List.length l) n_l)), (9, (.pointer (some ⟨b2, 0, none⟩))), (10, (.pointer (some ⟨b3, 0, none⟩))), (11, (.int .i64 v3)), (12, (.int .i64 x15)), (13, (.pointer (some ⟨b12, 0, none⟩))), (14, (.slice a19 (List.length x33) n19)), (18, (.bool (v39.1 == 0))), (120, (.bool x40))]) (fun x40 => [F, [(b2, Obj.cells #[(.int .i64 v1.W), (.int .i64 v1.H), (.slice a1 (List.length v1.C) n1)] 25 (0, 0))], H1, [(b3, Obj.cells #[(.int .i64 v39.2.m.W), (.int .i64 v39.2.m.H), (.slice a22 (List.length v39.2.m.C) n22), (.int .i64 v39.2.epoch), (.slice a23 (List.length v39.2.versions) n23)] 71 (0, 0))], H22, H23, [(b12, Obj.cells #[(.int .i64 x23), (.int .i64 x24)] 32 (0, 0))], H19]) ?_ ?_
                · refine at_region_q mix (by kernel_rfl) ?_
                  iterate 3 refine atq_s T rfl ?_
                  refine atq_case (s := 88) rfl (fun c25 => ?_) (fun c25 => ?_)
                  · replace Z24 := if_t c25 Z24
                    refine atq_s T rfl ?_
                    obtain ⟨v42, V26, Z24⟩ := bind_e Z24
                    refine atq_cr (As := [[(b3, Obj.cells #[(.int .i64 v39.2.m.W), (.int .i64 v39.2.m.H), (.slice a22 (List.length v39.2.m.C) n22), (.int .i64 v39.2.epoch), (.slice a23 (List.length v39.2.versions) n23)] 71 (0, 0))], H22, H23]) (R := [F, [(b2, Obj.cells #[(.int .i64 v1.W), (.int .i64 v1.H), (.slice a1 (List.length v1.C) n1)] 25 (0, 0))], H1, [(b12, Obj.cells #[(.int .i64 x23), (.int .i64 x24)] 32 (0, 0))], H19]) [5, 5, 5] rfl rfl rfl rfl rfl rfl has19 rfl rfl (grid_Grid_Epoch.c v39.2 v42 _ V26 s22 s23) ?_
                    iterate 3 refine atq_s T rfl ?_
                    refine atq_case (s := 93) rfl (fun c27 => ?_) (fun c27 => ?_)
                    · replace Z24 := if_t c27 Z24
                      iterate 27 refine atq_s T rfl ?_
                      refine atq_end ?_
                      refine at_sub [(3, (.slice a_l (List.length l) n_l)), (9, (.pointer (some ⟨b2, 0, none⟩))), (10, (.pointer (some ⟨b3, 0, none⟩))), (11, (.int .i64 v3)), (12, (.int .i64 x15)), (13, (.pointer (some ⟨b12, 0, none⟩))), (14, (.slice a19 (List.length x33) n19)), (18, (.bool (v39.1 == 0))), (120, (.bool true))] ⟨rfl, rfl, rfl, rfl, rfl, rfl, rfl, rfl, rfl, trivial⟩ ?_
                      refine at_then ?_
                      obtain rfl := Option.some.inj Z24
                      exact at_mid true [0, 0, 0, 2, 2, 2, 0, 0] rfl ⟨rfl, rfl, rfl, rfl, rfl, rfl, rfl, rfl, rfl, trivial⟩ rfl
                    · replace Z24 := if_f (bf c27) Z24
                      iterate 2 refine atq_s T rfl ?_
                      refine atq_v rfl rfl rfl (g_load T rfl rfl rfl rfl (in_var (j := 3) rfl rfl)) ?_
                      obtain ⟨v43, V28, Z24⟩ := bind_e Z24
                      refine atq_cr (As := [[(b3, Obj.cells #[(.int .i64 v39.2.m.W), (.int .i64 v39.2.m.H), (.slice a22 (List.length v39.2.m.C) n22), (.int .i64 v39.2.epoch), (.slice a23 (List.length v39.2.versions) n23)] 71 (0, 0))], H22, H23]) (R := [F, [(b2, Obj.cells #[(.int .i64 v1.W), (.int .i64 v1.H), (.slice a1 (List.length v1.C) n1)] 25 (0, 0))], H1, [(b12, Obj.cells #[(.int .i64 x23), (.int .i64 x24)] 32 (0, 0))], H19]) [5, 5, 5] rfl rfl rfl rfl rfl rfl has20 rfl rfl (grid_Grid_Cost.c v39.2 x23 v43 _ V28 s22 s23) ?_
                      iterate 5 refine atq_s T rfl ?_
                      refine atq_case (s := 102) rfl (fun c29 => ?_) (fun c29 => ?_)
                      · replace Z24 := if_t c29 Z24
                        iterate 18 refine atq_s T rfl ?_
                        refine atq_end ?_
                        refine at_sub [(3, (.slice a_l (List.length l) n_l)), (9, (.pointer (some ⟨b2, 0, none⟩))), (10, (.pointer (some ⟨b3, 0, none⟩))), (11, (.int .i64 v3)), (12, (.int .i64 x15)), (13, (.pointer (some ⟨b12, 0, none⟩))), (14, (.slice a19 (List.length x33) n19)), (18, (.bool (v39.1 == 0))), (120, (.bool true))] ⟨rfl, rfl, rfl, rfl, rfl, rfl, rfl, rfl, rfl, trivial⟩ ?_
                        refine at_then ?_
                        obtain rfl := Option.some.inj Z24
                        exact at_mid true [0, 0, 0, 2, 2, 2, 0, 0] rfl ⟨rfl, rfl, rfl, rfl, rfl, rfl, rfl, rfl, rfl, trivial⟩ rfl
                      · replace Z24 := if_f (bf c29) Z24
                        iterate 2 refine atq_s T rfl ?_
                        refine atq_case (s := 104) rfl (fun c30 => ?_) (fun c30 => ?_)
                        · replace Z24 := if_t c30 Z24
                          refine atq_s T rfl ?_
                          obtain ⟨v44, V31, Z24⟩ := bind_e Z24
                          refine atq_cr (As := [[(b3, Obj.cells #[(.int .i64 v39.2.m.W), (.int .i64 v39.2.m.H), (.slice a22 (List.length v39.2.m.C) n22), (.int .i64 v39.2.epoch), (.slice a23 (List.length v39.2.versions) n23)] 71 (0, 0))], H22, H23]) (R := [F, [(b2, Obj.cells #[(.int .i64 v1.W), (.int .i64 v1.H), (.slice a1 (List.length v1.C) n1)] 25 (0, 0))], H1, [(b12, Obj.cells #[(.int .i64 x23), (.int .i64 x24)] 32 (0, 0))], H19]) [5, 5, 5] rfl rfl rfl rfl rfl rfl has19 rfl rfl (grid_Grid_Epoch.c v39.2 v44 _ V31 s22 s23) ?_
                          iterate 4 refine atq_s T rfl ?_
                          refine atq_case (s := 110) rfl (fun c32 => ?_) (fun c32 => ?_)
                          · replace Z24 := if_t c32 Z24
                            iterate 10 refine atq_s T rfl ?_
                            refine atq_end ?_
                            refine at_sub [(3, (.slice a_l (List.length l) n_l)), (9, (.pointer (some ⟨b2, 0, none⟩))), (10, (.pointer (some ⟨b3, 0, none⟩))), (11, (.int .i64 v3)), (12, (.int .i64 x15)), (13, (.pointer (some ⟨b12, 0, none⟩))), (14, (.slice a19 (List.length x33) n19)), (18, (.bool (v39.1 == 0))), (120, (.bool true))] ⟨rfl, rfl, rfl, rfl, rfl, rfl, rfl, rfl, rfl, trivial⟩ ?_
                            refine at_then ?_
                            obtain rfl := Option.some.inj Z24
                            exact at_mid true [0, 0, 0, 2, 2, 2, 0, 0] rfl ⟨rfl, rfl, rfl, rfl, rfl, rfl, rfl, rfl, rfl, trivial⟩ rfl
                          · replace Z24 := if_f (bf c32) Z24
                            iterate 2 refine atq_s T rfl ?_
                            refine atq_v rfl rfl rfl (g_load T rfl rfl rfl rfl (in_var (j := 3) rfl rfl)) ?_
                            obtain ⟨v45, V33, Z24⟩ := bind_e Z24
                            refine atq_cr (As := [[(b3, Obj.cells #[(.int .i64 v39.2.m.W), (.int .i64 v39.2.m.H), (.slice a22 (List.length v39.2.m.C) n22), (.int .i64 v39.2.epoch), (.slice a23 (List.length v39.2.versions) n23)] 71 (0, 0))], H22, H23]) (R := [F, [(b2, Obj.cells #[(.int .i64 v1.W), (.int .i64 v1.H), (.slice a1 (List.length v1.C) n1)] 25 (0, 0))], H1, [(b12, Obj.cells #[(.int .i64 x23), (.int .i64 x24)] 32 (0, 0))], H19]) [5, 5, 5] rfl rfl rfl rfl rfl rfl has20 rfl rfl (grid_Grid_Cost.c v39.2 x23 v45 _ V33 s22 s23) ?_
                            refine atq_s T rfl ?_
                            refine atq_v rfl rfl rfl (g_load T rfl rfl rfl rfl (in_var (j := 3) rfl rfl)) ?_
                            iterate 4 refine atq_s T rfl ?_
                            refine atq_end ?_
                            refine at_sub [(3, (.slice a_l (List.length l) n_l)), (9, (.pointer (some ⟨b2, 0, none⟩))), (10, (.pointer (some ⟨b3, 0, none⟩))), (11, (.int .i64 v3)), (12, (.int .i64 x15)), (13, (.pointer (some ⟨b12, 0, none⟩))), (14, (.slice a19 (List.length x33) n19)), (18, (.bool (v39.1 == 0))), (120, (.bool (v45 != x24)))] ⟨rfl, rfl, rfl, rfl, rfl, rfl, rfl, rfl, rfl, trivial⟩ ?_
                            refine at_then ?_
                            obtain rfl := Option.some.inj Z24
                            exact at_mid (v45 != x24) [0, 0, 0, 2, 2, 2, 0, 0] rfl ⟨rfl, rfl, rfl, rfl, rfl, rfl, rfl, rfl, rfl, trivial⟩ rfl
                        · replace Z24 := if_f (bf c30) Z24
                          iterate 16 refine atq_s T rfl ?_
                          refine atq_end ?_
                          refine at_sub [(3, (.slice a_l (List.length l) n_l)), (9, (.pointer (some ⟨b2, 0, none⟩))), (10, (.pointer (some ⟨b3, 0, none⟩))), (11, (.int .i64 v3)), (12, (.int .i64 x15)), (13, (.pointer (some ⟨b12, 0, none⟩))), (14, (.slice a19 (List.length x33) n19)), (18, (.bool (v39.1 == 0))), (120, (.bool false))] ⟨rfl, rfl, rfl, rfl, rfl, rfl, rfl, rfl, rfl, trivial⟩ ?_
                          refine at_then ?_
                          obtain rfl := Option.some.inj Z24
                          exact at_mid false [0, 0, 0, 2, 2, 2, 0, 0] rfl ⟨rfl, rfl, rfl, rfl, rfl, rfl, rfl, rfl, rfl, trivial⟩ rfl
                  · replace Z24 := if_f (bf c25) Z24
                    iterate 16 refine atq_s T rfl ?_
                    refine atq_case (s := 104) rfl (fun c34 => ?_) (fun c34 => ?_)
                    · replace Z24 := if_t c34 Z24
                      refine atq_s T rfl ?_
                      obtain ⟨v46, V35, Z24⟩ := bind_e Z24
                      refine atq_cr (As := [[(b3, Obj.cells #[(.int .i64 v39.2.m.W), (.int .i64 v39.2.m.H), (.slice a22 (List.length v39.2.m.C) n22), (.int .i64 v39.2.epoch), (.slice a23 (List.length v39.2.versions) n23)] 71 (0, 0))], H22, H23]) (R := [F, [(b2, Obj.cells #[(.int .i64 v1.W), (.int .i64 v1.H), (.slice a1 (List.length v1.C) n1)] 25 (0, 0))], H1, [(b12, Obj.cells #[(.int .i64 x23), (.int .i64 x24)] 32 (0, 0))], H19]) [5, 5, 5] rfl rfl rfl rfl rfl rfl has19 rfl rfl (grid_Grid_Epoch.c v39.2 v46 _ V35 s22 s23) ?_
                      iterate 4 refine atq_s T rfl ?_
                      refine atq_case (s := 110) rfl (fun c36 => ?_) (fun c36 => ?_)
                      · replace Z24 := if_t c36 Z24
                        iterate 10 refine atq_s T rfl ?_
                        refine atq_end ?_
                        refine at_sub [(3, (.slice a_l (List.length l) n_l)), (9, (.pointer (some ⟨b2, 0, none⟩))), (10, (.pointer (some ⟨b3, 0, none⟩))), (11, (.int .i64 v3)), (12, (.int .i64 x15)), (13, (.pointer (some ⟨b12, 0, none⟩))), (14, (.slice a19 (List.length x33) n19)), (18, (.bool (v39.1 == 0))), (120, (.bool true))] ⟨rfl, rfl, rfl, rfl, rfl, rfl, rfl, rfl, rfl, trivial⟩ ?_
                        refine at_then ?_
                        obtain rfl := Option.some.inj Z24
                        exact at_mid true [0, 0, 0, 2, 2, 2, 0, 0] rfl ⟨rfl, rfl, rfl, rfl, rfl, rfl, rfl, rfl, rfl, trivial⟩ rfl
                      · replace Z24 := if_f (bf c36) Z24
                        iterate 2 refine atq_s T rfl ?_
                        refine atq_v rfl rfl rfl (g_load T rfl rfl rfl rfl (in_var (j := 3) rfl rfl)) ?_
                        obtain ⟨v47, V37, Z24⟩ := bind_e Z24
                        refine atq_cr (As := [[(b3, Obj.cells #[(.int .i64 v39.2.m.W), (.int .i64 v39.2.m.H), (.slice a22 (List.length v39.2.m.C) n22), (.int .i64 v39.2.epoch), (.slice a23 (List.length v39.2.versions) n23)] 71 (0, 0))], H22, H23]) (R := [F, [(b2, Obj.cells #[(.int .i64 v1.W), (.int .i64 v1.H), (.slice a1 (List.length v1.C) n1)] 25 (0, 0))], H1, [(b12, Obj.cells #[(.int .i64 x23), (.int .i64 x24)] 32 (0, 0))], H19]) [5, 5, 5] rfl rfl rfl rfl rfl rfl has20 rfl rfl (grid_Grid_Cost.c v39.2 x23 v47 _ V37 s22 s23) ?_
                        refine atq_s T rfl ?_
                        refine atq_v rfl rfl rfl (g_load T rfl rfl rfl rfl (in_var (j := 3) rfl rfl)) ?_
                        iterate 4 refine atq_s T rfl ?_
                        refine atq_end ?_
                        refine at_sub [(3, (.slice a_l (List.length l) n_l)), (9, (.pointer (some ⟨b2, 0, none⟩))), (10, (.pointer (some ⟨b3, 0, none⟩))), (11, (.int .i64 v3)), (12, (.int .i64 x15)), (13, (.pointer (some ⟨b12, 0, none⟩))), (14, (.slice a19 (List.length x33) n19)), (18, (.bool (v39.1 == 0))), (120, (.bool (v47 != x24)))] ⟨rfl, rfl, rfl, rfl, rfl, rfl, rfl, rfl, rfl, trivial⟩ ?_
                        refine at_then ?_
                        obtain rfl := Option.some.inj Z24
                        exact at_mid (v47 != x24) [0, 0, 0, 2, 2, 2, 0, 0] rfl ⟨rfl, rfl, rfl, rfl, rfl, rfl, rfl, rfl, rfl, trivial⟩ rfl
                    · replace Z24 := if_f (bf c34) Z24
                      iterate 16 refine atq_s T rfl ?_
                      refine atq_end ?_
                      refine at_sub [(3, (.slice a_l (List.length l) n_l)), (9, (.pointer (some ⟨b2, 0, none⟩))), (10, (.pointer (some ⟨b3, 0, none⟩))), (11, (.int .i64 v3)), (12, (.int .i64 x15)), (13, (.pointer (some ⟨b12, 0, none⟩))), (14, (.slice a19 (List.length x33) n19)), (18, (.bool (v39.1 == 0))), (120, (.bool false))] ⟨rfl, rfl, rfl, rfl, rfl, rfl, rfl, rfl, rfl, trivial⟩ ?_
                      refine at_then ?_
                      obtain rfl := Option.some.inj Z24
                      exact at_mid false [0, 0, 0, 2, 2, 2, 0, 0] rfl ⟨rfl, rfl, rfl, rfl, rfl, rfl, rfl, rfl, rfl, trivial⟩ rfl
                · rintro x40 rfl
                  refine at_cond rfl (fun c38 => ?_) (fun c38 => ?_)
                  · replace Z17 := if_t c38 Z17
                    refine at_seq ?_
                    refine at_region [0] rfl ?_
                    refine at_s T rfl ?_
                    refine at_end ?_
                    refine at_to [(8, (.bool false))] [0] [F] ⟨rfl, trivial⟩ rfl ?_
                    refine at_then ?_
                    refine at_ret ?_
                    refine at_rt ?_
                    refine at_rb ?_
                    refine at_rt ?_
                    refine at_rt ?_
                    refine at_rb ?_
                    refine at_rt ?_
                    obtain rfl := Option.some.inj Z17
                    obtain rfl := Option.some.inj (show some false = some r from Z5)
                    exact at_post (T := T) rfl (.tmp rfl .nil) (fun w o => ⟨(), rfl, own_to [0] rfl o⟩)
                  · replace Z17 := if_f (bf c38) Z17
                    refine at_skip ?_
                    refine at_then ?_
                    refine at_seq ?_
                    refine at_region [0] rfl ?_
                    refine at_s T rfl ?_
                    refine at_end ?_
                    refine at_sub [(3, (.slice a_l (List.length l) n_l)), (9, (.pointer (some ⟨b2, 0, none⟩))), (10, (.pointer (some ⟨b3, 0, none⟩))), (11, (.int .i64 v3)), (12, (.int .i64 x15)), (13, (.pointer (some ⟨b12, 0, none⟩))), (14, (.slice a19 (List.length x33) n19)), (18, (.bool (v39.1 == 0))), (19, (.int .i64 0))] ⟨rfl, rfl, rfl, rfl, rfl, rfl, rfl, rfl, rfl, trivial⟩ ?_
                    refine at_then ?_
                    refine at_block ?_
                    refine at_loopL (σ := Nat × Int) (fun ⟨k50, x49⟩ => law5_GridVersions.l2 k50 v1 v3 x33 v39 x23 x49 = some z22) (fun ⟨k50, x49⟩ => [(3, (.slice a_l (List.length l) n_l)), (9, (.pointer (some ⟨b2, 0, none⟩))), (10, (.pointer (some ⟨b3, 0, none⟩))), (11, (.int .i64 v3)), (12, (.int .i64 x15)), (13, (.pointer (some ⟨b12, 0, none⟩))), (14, (.slice a19 (List.length x33) n19)), (18, (.bool (v39.1 == 0))), (19, (.int .i64 x49))]) (fun ⟨k50, x49⟩ => [F, [(b2, Obj.cells #[(.int .i64 v1.W), (.int .i64 v1.H), (.slice a1 (List.length v1.C) n1)] 25 (0, 0))], H1, [(b3, Obj.cells #[(.int .i64 v39.2.m.W), (.int .i64 v39.2.m.H), (.slice a22 (List.length v39.2.m.C) n22), (.int .i64 v39.2.epoch), (.slice a23 (List.length v39.2.versions) n23)] 71 (0, 0))], H22, H23, [(b12, Obj.cells #[(.int .i64 x23), (.int .i64 x24)] 32 (0, 0))], H19]) (fun s => s.1) (fuel, 0) [0, 0, 0, 0, 0, 0, 0, 0] Z17 ⟨rfl, rfl, rfl, rfl, rfl, rfl, rfl, rfl, rfl, trivial⟩ rfl ?_
                    rintro ⟨k50, x49⟩ Z39
                    replace Z39 : law5_GridVersions.l2 k50 v1 v3 x33 v39 x23 x49 = some z22 := Z39
                    rcases k50 with _ | k50
                    · rw [law5_GridVersions.l2] at Z39; cases Z39
                    · rw [law5_GridVersions.l2] at Z39
                      refine at_seq ?_
                      refine at_seq ?_
                      refine at_region [0, 1, 2] rfl ?_
                      iterate 3 refine at_s T rfl ?_
                      refine at_end ?_
                      refine at_sub [(3, (.slice a_l (List.length l) n_l)), (9, (.pointer (some ⟨b2, 0, none⟩))), (10, (.pointer (some ⟨b3, 0, none⟩))), (11, (.int .i64 v3)), (12, (.int .i64 x15)), (13, (.pointer (some ⟨b12, 0, none⟩))), (14, (.slice a19 (List.length x33) n19)), (18, (.bool (v39.1 == 0))), (19, (.int .i64 x49)), (123, (.bool (decide (x49 < v3))))] ⟨rfl, rfl, rfl, rfl, rfl, rfl, rfl, rfl, rfl, rfl, trivial⟩ ?_
                      refine at_then ?_
                      refine at_cond rfl (fun c40 => ?_) (fun c40 => ?_)
                      · replace Z39 := if_t (of_decide_eq_true c40) Z39
                        refine at_skip ?_
                        refine at_then ?_
                        refine at_seq ?_
                        refine at_block ?_
                        obtain ⟨z52, Z41, Z39⟩ := bind_e Z39
                        refine at_seq_mid (σ := Bool) (fun x51 => x51 = z52) (fun x51 => [(3, (.slice a_l (List.length l) n_l)), (9, (.pointer (some ⟨b2, 0, none⟩))), (10, (.pointer (some ⟨b3, 0, none⟩))), (11, (.int .i64 v3)), (12, (.int .i64 x15)), (13, (.pointer (some ⟨b12, 0, none⟩))), (14, (.slice a19 (List.length x33) n19)), (18, (.bool (v39.1 == 0))), (19, (.int .i64 x49)), (20, (.bool x51))]) (fun x51 => [F, [(b2, Obj.cells #[(.int .i64 v1.W), (.int .i64 v1.H), (.slice a1 (List.length v1.C) n1)] 25 (0, 0))], H1, [(b3, Obj.cells #[(.int .i64 v39.2.m.W), (.int .i64 v39.2.m.H), (.slice a22 (List.length v39.2.m.C) n22), (.int .i64 v39.2.epoch), (.slice a23 (List.length v39.2.versions) n23)] 71 (0, 0))], H22, H23, [(b12, Obj.cells #[(.int .i64 x23), (.int .i64 x24)] 32 (0, 0))], H19]) ?_ ?_
                        · refine at_region [0, 1, 2, 3, 4, 5, 6, 7, 8, 9, 10, 11, 12] rfl ?_
                          iterate 2 refine at_s T rfl ?_
                          refine at_case (s := 127) rfl (fun c42 => ?_) (fun c42 => ?_)
                          · replace Z41 := if_t c42 Z41
                            iterate 2 refine at_s T rfl ?_
                            refine at_v rfl (g_load T rfl rfl rfl rfl (in_var (j := 1) rfl rfl)) ?_
                            refine at_s T rfl ?_
                            refine at_v rfl (g_load T rfl rfl rfl rfl (in_var (j := 1) rfl rfl)) ?_
                            refine at_s T rfl ?_
                            refine at_v rfl (g_load T rfl rfl rfl rfl (in_var (j := 6) rfl rfl)) ?_
                            obtain ⟨v53, V43, Z41⟩ := bind_e Z41
                            refine at_cons (at_c (B := fun _ => []) [] rfl rfl rfl rfl has22 rfl rfl (ref1_Sector.c v1.W v1.H x23 v53 _ V43) (fun _ => ?_))
                            iterate 3 refine at_s T rfl ?_
                            refine at_end ?_
                            refine at_sub [(3, (.slice a_l (List.length l) n_l)), (9, (.pointer (some ⟨b2, 0, none⟩))), (10, (.pointer (some ⟨b3, 0, none⟩))), (11, (.int .i64 v3)), (12, (.int .i64 x15)), (13, (.pointer (some ⟨b12, 0, none⟩))), (14, (.slice a19 (List.length x33) n19)), (18, (.bool (v39.1 == 0))), (19, (.int .i64 x49)), (20, (.bool (x49 == v53)))] ⟨rfl, rfl, rfl, rfl, rfl, rfl, rfl, rfl, rfl, rfl, trivial⟩ ?_
                            refine at_then ?_
                            obtain rfl := Option.some.inj Z41
                            exact at_mid (x49 == v53) [0, 0, 0, 0, 0, 0, 0, 0] rfl ⟨rfl, rfl, rfl, rfl, rfl, rfl, rfl, rfl, rfl, rfl, trivial⟩ rfl
                          · replace Z41 := if_f (bf c42) Z41
                            iterate 11 refine at_s T rfl ?_
                            refine at_end ?_
                            refine at_sub [(3, (.slice a_l (List.length l) n_l)), (9, (.pointer (some ⟨b2, 0, none⟩))), (10, (.pointer (some ⟨b3, 0, none⟩))), (11, (.int .i64 v3)), (12, (.int .i64 x15)), (13, (.pointer (some ⟨b12, 0, none⟩))), (14, (.slice a19 (List.length x33) n19)), (18, (.bool (v39.1 == 0))), (19, (.int .i64 x49)), (20, (.bool false))] ⟨rfl, rfl, rfl, rfl, rfl, rfl, rfl, rfl, rfl, rfl, trivial⟩ ?_
                            refine at_then ?_
                            obtain rfl := Option.some.inj Z41
                            exact at_mid false [0, 0, 0, 0, 0, 0, 0, 0] rfl ⟨rfl, rfl, rfl, rfl, rfl, rfl, rfl, rfl, rfl, rfl, trivial⟩ rfl
                        · rintro x51 rfl
                          obtain ⟨z55, Z44, Z39⟩ := bind_e Z39
                          refine at_seq_mid (σ := Bool) (fun x54 => x54 = z55) (fun x54 => [(3, (.slice a_l (List.length l) n_l)), (9, (.pointer (some ⟨b2, 0, none⟩))), (10, (.pointer (some ⟨b3, 0, none⟩))), (11, (.int .i64 v3)), (12, (.int .i64 x15)), (13, (.pointer (some ⟨b12, 0, none⟩))), (14, (.slice a19 (List.length x33) n19)), (18, (.bool (v39.1 == 0))), (19, (.int .i64 x49)), (160, (.bool x54))]) (fun x54 => [F, [(b2, Obj.cells #[(.int .i64 v1.W), (.int .i64 v1.H), (.slice a1 (List.length v1.C) n1)] 25 (0, 0))], H1, [(b3, Obj.cells #[(.int .i64 v39.2.m.W), (.int .i64 v39.2.m.H), (.slice a22 (List.length v39.2.m.C) n22), (.int .i64 v39.2.epoch), (.slice a23 (List.length v39.2.versions) n23)] 71 (0, 0))], H22, H23, [(b12, Obj.cells #[(.int .i64 x23), (.int .i64 x24)] 32 (0, 0))], H19]) ?_ ?_
                          · refine at_region_q mix (by kernel_rfl) ?_
                            iterate 2 refine atq_s T rfl ?_
                            refine atq_case (s := 139) rfl (fun c45 => ?_) (fun c45 => ?_)
                            · replace Z44 := if_t c45 Z44
                              iterate 2 refine atq_s T rfl ?_
                              obtain ⟨v56, V46, Z44⟩ := bind_e Z44
                              refine atq_cr (As := [[(b3, Obj.cells #[(.int .i64 v39.2.m.W), (.int .i64 v39.2.m.H), (.slice a22 (List.length v39.2.m.C) n22), (.int .i64 v39.2.epoch), (.slice a23 (List.length v39.2.versions) n23)] 71 (0, 0))], H22, H23]) (R := [F, [(b2, Obj.cells #[(.int .i64 v1.W), (.int .i64 v1.H), (.slice a1 (List.length v1.C) n1)] 25 (0, 0))], H1, [(b12, Obj.cells #[(.int .i64 x23), (.int .i64 x24)] 32 (0, 0))], H19]) [3, 3, 3] rfl rfl rfl rfl rfl rfl has18 rfl rfl (grid_Grid_Version.c v39.2 x49 v56 _ V46 s22 s23) ?_
                              refine atq_s T rfl ?_
                              obtain ⟨v57, V47, Z44⟩ := bind_e Z44
                              refine atq_cr (As := [[(b3, Obj.cells #[(.int .i64 v39.2.m.W), (.int .i64 v39.2.m.H), (.slice a22 (List.length v39.2.m.C) n22), (.int .i64 v39.2.epoch), (.slice a23 (List.length v39.2.versions) n23)] 71 (0, 0))], H22, H23]) (R := [F, [(b2, Obj.cells #[(.int .i64 v1.W), (.int .i64 v1.H), (.slice a1 (List.length v1.C) n1)] 25 (0, 0))], H1, [(b12, Obj.cells #[(.int .i64 x23), (.int .i64 x24)] 32 (0, 0))], H19]) [3, 3, 3] rfl rfl rfl rfl rfl rfl has19 rfl rfl (grid_Grid_Epoch.c v39.2 v57 _ V47 s22 s23) ?_
                              iterate 3 refine atq_s T rfl ?_
                              refine atq_case (s := 147) rfl (fun c48 => ?_) (fun c48 => ?_)
                              · replace Z44 := if_t c48 Z44
                                iterate 13 refine atq_s T rfl ?_
                                refine atq_end ?_
                                refine at_sub [(3, (.slice a_l (List.length l) n_l)), (9, (.pointer (some ⟨b2, 0, none⟩))), (10, (.pointer (some ⟨b3, 0, none⟩))), (11, (.int .i64 v3)), (12, (.int .i64 x15)), (13, (.pointer (some ⟨b12, 0, none⟩))), (14, (.slice a19 (List.length x33) n19)), (18, (.bool (v39.1 == 0))), (19, (.int .i64 x49)), (160, (.bool true))] ⟨rfl, rfl, rfl, rfl, rfl, rfl, rfl, rfl, rfl, rfl, trivial⟩ ?_
                                refine at_then ?_
                                obtain rfl := Option.some.inj Z44
                                exact at_mid true [0, 0, 0, 0, 0, 0, 0, 0] rfl ⟨rfl, rfl, rfl, rfl, rfl, rfl, rfl, rfl, rfl, rfl, trivial⟩ rfl
                              · replace Z44 := if_f (bf c48) Z44
                                iterate 3 refine atq_s T rfl ?_
                                refine atq_case (s := 150) rfl (fun c49 => ?_) (fun c49 => ?_)
                                · replace Z44 := if_t c49 Z44
                                  iterate 2 refine atq_s T rfl ?_
                                  obtain ⟨v58, V50, Z44⟩ := bind_e Z44
                                  refine atq_cr (As := [[(b3, Obj.cells #[(.int .i64 v39.2.m.W), (.int .i64 v39.2.m.H), (.slice a22 (List.length v39.2.m.C) n22), (.int .i64 v39.2.epoch), (.slice a23 (List.length v39.2.versions) n23)] 71 (0, 0))], H22, H23]) (R := [F, [(b2, Obj.cells #[(.int .i64 v1.W), (.int .i64 v1.H), (.slice a1 (List.length v1.C) n1)] 25 (0, 0))], H1, [(b12, Obj.cells #[(.int .i64 x23), (.int .i64 x24)] 32 (0, 0))], H19]) [3, 3, 3] rfl rfl rfl rfl rfl rfl has18 rfl rfl (grid_Grid_Version.c v39.2 x49 v58 _ V50 s22 s23) ?_
                                  iterate 2 refine atq_s T rfl ?_
                                  obtain ⟨c51, Z44⟩ := chk_e Z44
                                  obtain ⟨q24, o24, e24⟩ := s19.r.addr c51.1 c51.2
                                  refine atq_v rfl rfl rfl (g_index T rfl rfl rfl rfl rfl e24 c51.1 c51.2) ?_
                                  refine atq_v rfl rfl rfl (g_load T rfl rfl rfl rfl (in_elem1 (k := (Fl.int .i64)) (own_of s19 (j := 7) rfl) e24 c51 0 rfl)) ?_
                                  iterate 3 refine atq_s T rfl ?_
                                  refine atq_end ?_
                                  refine at_sub [(3, (.slice a_l (List.length l) n_l)), (9, (.pointer (some ⟨b2, 0, none⟩))), (10, (.pointer (some ⟨b3, 0, none⟩))), (11, (.int .i64 v3)), (12, (.int .i64 x15)), (13, (.pointer (some ⟨b12, 0, none⟩))), (14, (.slice a19 (List.length x33) n19)), (18, (.bool (v39.1 == 0))), (19, (.int .i64 x49)), (160, (.bool (v58 != (rd x33 x49))))] ⟨rfl, rfl, rfl, rfl, rfl, rfl, rfl, rfl, rfl, rfl, trivial⟩ ?_
                                  refine at_then ?_
                                  obtain rfl := Option.some.inj Z44
                                  exact at_mid (v58 != (rd x33 x49)) [0, 0, 0, 0, 0, 0, 0, 0] rfl ⟨rfl, rfl, rfl, rfl, rfl, rfl, rfl, rfl, rfl, rfl, trivial⟩ rfl
                                · replace Z44 := if_f (bf c49) Z44
                                  iterate 10 refine atq_s T rfl ?_
                                  refine atq_end ?_
                                  refine at_sub [(3, (.slice a_l (List.length l) n_l)), (9, (.pointer (some ⟨b2, 0, none⟩))), (10, (.pointer (some ⟨b3, 0, none⟩))), (11, (.int .i64 v3)), (12, (.int .i64 x15)), (13, (.pointer (some ⟨b12, 0, none⟩))), (14, (.slice a19 (List.length x33) n19)), (18, (.bool (v39.1 == 0))), (19, (.int .i64 x49)), (160, (.bool false))] ⟨rfl, rfl, rfl, rfl, rfl, rfl, rfl, rfl, rfl, rfl, trivial⟩ ?_
                                  refine at_then ?_
                                  obtain rfl := Option.some.inj Z44
                                  exact at_mid false [0, 0, 0, 0, 0, 0, 0, 0] rfl ⟨rfl, rfl, rfl, rfl, rfl, rfl, rfl, rfl, rfl, rfl, trivial⟩ rfl
                            · replace Z44 := if_f (bf c45) Z44
                              iterate 11 refine atq_s T rfl ?_
                              refine atq_case (s := 150) rfl (fun c52 => ?_) (fun c52 => ?_)
                              · replace Z44 := if_t c52 Z44
                                iterate 2 refine atq_s T rfl ?_
                                obtain ⟨v59, V53, Z44⟩ := bind_e Z44
                                refine atq_cr (As := [[(b3, Obj.cells #[(.int .i64 v39.2.m.W), (.int .i64 v39.2.m.H), (.slice a22 (List.length v39.2.m.C) n22), (.int .i64 v39.2.epoch), (.slice a23 (List.length v39.2.versions) n23)] 71 (0, 0))], H22, H23]) (R := [F, [(b2, Obj.cells #[(.int .i64 v1.W), (.int .i64 v1.H), (.slice a1 (List.length v1.C) n1)] 25 (0, 0))], H1, [(b12, Obj.cells #[(.int .i64 x23), (.int .i64 x24)] 32 (0, 0))], H19]) [3, 3, 3] rfl rfl rfl rfl rfl rfl has18 rfl rfl (grid_Grid_Version.c v39.2 x49 v59 _ V53 s22 s23) ?_
                                iterate 2 refine atq_s T rfl ?_
                                obtain ⟨c54, Z44⟩ := chk_e Z44
                                obtain ⟨q25, o25, e25⟩ := s19.r.addr c54.1 c54.2
                                refine atq_v rfl rfl rfl (g_index T rfl rfl rfl rfl rfl e25 c54.1 c54.2) ?_
                                refine atq_v rfl rfl rfl (g_load T rfl rfl rfl rfl (in_elem1 (k := (Fl.int .i64)) (own_of s19 (j := 7) rfl) e25 c54 0 rfl)) ?_
                                iterate 3 refine atq_s T rfl ?_
                                refine atq_end ?_
                                refine at_sub [(3, (.slice a_l (List.length l) n_l)), (9, (.pointer (some ⟨b2, 0, none⟩))), (10, (.pointer (some ⟨b3, 0, none⟩))), (11, (.int .i64 v3)), (12, (.int .i64 x15)), (13, (.pointer (some ⟨b12, 0, none⟩))), (14, (.slice a19 (List.length x33) n19)), (18, (.bool (v39.1 == 0))), (19, (.int .i64 x49)), (160, (.bool (v59 != (rd x33 x49))))] ⟨rfl, rfl, rfl, rfl, rfl, rfl, rfl, rfl, rfl, rfl, trivial⟩ ?_
                                refine at_then ?_
                                obtain rfl := Option.some.inj Z44
                                exact at_mid (v59 != (rd x33 x49)) [0, 0, 0, 0, 0, 0, 0, 0] rfl ⟨rfl, rfl, rfl, rfl, rfl, rfl, rfl, rfl, rfl, rfl, trivial⟩ rfl
                              · replace Z44 := if_f (bf c52) Z44
                                iterate 10 refine atq_s T rfl ?_
                                refine atq_end ?_
                                refine at_sub [(3, (.slice a_l (List.length l) n_l)), (9, (.pointer (some ⟨b2, 0, none⟩))), (10, (.pointer (some ⟨b3, 0, none⟩))), (11, (.int .i64 v3)), (12, (.int .i64 x15)), (13, (.pointer (some ⟨b12, 0, none⟩))), (14, (.slice a19 (List.length x33) n19)), (18, (.bool (v39.1 == 0))), (19, (.int .i64 x49)), (160, (.bool false))] ⟨rfl, rfl, rfl, rfl, rfl, rfl, rfl, rfl, rfl, rfl, trivial⟩ ?_
                                refine at_then ?_
                                obtain rfl := Option.some.inj Z44
                                exact at_mid false [0, 0, 0, 0, 0, 0, 0, 0] rfl ⟨rfl, rfl, rfl, rfl, rfl, rfl, rfl, rfl, rfl, rfl, trivial⟩ rfl
                          · rintro x54 rfl
                            refine at_cond rfl (fun c55 => ?_) (fun c55 => ?_)
                            · replace Z39 := if_t c55 Z39
                              refine at_seq ?_
                              refine at_region [0] rfl ?_
                              refine at_s T rfl ?_
                              refine at_end ?_
                              refine at_to [(8, (.bool false))] [0] [F] ⟨rfl, trivial⟩ rfl ?_
                              refine at_then ?_
                              refine at_ret ?_
                              refine at_rb ?_
                              refine at_rt ?_
                              refine at_rt ?_
                              refine at_rb ?_
                              refine at_rb ?_
                              refine at_rt ?_
                              refine at_rt ?_
                              refine at_rb ?_
                              refine at_rt ?_
                              obtain rfl := Option.some.inj Z39
                              obtain rfl := Option.some.inj (show some false = some r from Z5)
                              exact at_post (T := T) rfl (.tmp rfl .nil) (fun w o => ⟨(), rfl, own_to [0] rfl o⟩)
                            · replace Z39 := if_f (bf c55) Z39
                              refine at_skip ?_
                              refine at_nb ?_
                              refine at_then ?_
                              refine at_region [0, 1, 2] rfl ?_
                              iterate 3 refine at_s T rfl ?_
                              refine at_end ?_
                              refine at_sub [(3, (.slice a_l (List.length l) n_l)), (9, (.pointer (some ⟨b2, 0, none⟩))), (10, (.pointer (some ⟨b3, 0, none⟩))), (11, (.int .i64 v3)), (12, (.int .i64 x15)), (13, (.pointer (some ⟨b12, 0, none⟩))), (14, (.slice a19 (List.length x33) n19)), (18, (.bool (v39.1 == 0))), (19, (.int .i64 (w64 (x49 + 1))))] ⟨rfl, rfl, rfl, rfl, rfl, rfl, rfl, rfl, rfl, trivial⟩ ?_
                              refine at_then ?_
                              exact at_roundL (k50, (w64 (x49 + 1))) [0, 0, 0, 0, 0, 0, 0, 0] Z39 (Nat.lt_succ_self _) ⟨rfl, rfl, rfl, rfl, rfl, rfl, rfl, rfl, rfl, trivial⟩ rfl
                      · replace Z39 := if_f (of_decide_eq_false c40) Z39
                        refine at_exit ?_
                        refine at_xt ?_
                        refine at_xt ?_
                        refine at_xb ?_
                        refine at_nb ?_
                        refine at_then ?_
                        obtain rfl := Option.some.inj Z39
                        exact at_mid (v39.2.m.W, v39.2.m.H, v39.2.m.C, v39.2.epoch, v39.2.versions, a22, n22, H22, a23, n23, H23) [0, 0, 0, 0, 0, 0] ⟨rfl, s22, s23⟩ ⟨rfl, rfl, rfl, rfl, rfl, trivial⟩ rfl
        · rintro ⟨x17, x18, x19, x20, x21, a10, n10, H10, a11, n11, H11⟩ ⟨rfl, s10, s11⟩
          refine at_region [0, 1, 2] rfl ?_
          iterate 3 refine at_s T rfl ?_
          refine at_end ?_
          refine at_sub [(3, (.slice a_l (List.length l) n_l)), (9, (.pointer (some ⟨b2, 0, none⟩))), (10, (.pointer (some ⟨b3, 0, none⟩))), (11, (.int .i64 v3)), (12, (.int .i64 (w64 (x15 + 1))))] ⟨rfl, rfl, rfl, rfl, rfl, trivial⟩ ?_
          refine at_then ?_
          exact at_roundL (k16, x17, x18, x19, x20, x21, (w64 (x15 + 1)), a10, n10, H10, a11, n11, H11) [0, 0, 0, 0, 0, 0] ⟨Z5, s10, s11⟩ (Nat.lt_succ_self _) ⟨rfl, rfl, rfl, rfl, rfl, trivial⟩ rfl
      · replace Z5 := if_f (bf c7) Z5
        refine at_exit ?_
        refine at_xt ?_
        refine at_xt ?_
        refine at_xb ?_
        refine at_then ?_
        refine at_seq ?_
        refine at_region [0, 1] rfl ?_
        obtain ⟨v60, V56, Z5⟩ := bind_e Z5
        refine at_cons (at_c (B := fun _ => []) [] rfl rfl rfl rfl has23 rfl rfl (law5_told.c  v60 _ V56) (fun _ => ?_))
        refine at_s T rfl ?_
        refine at_end ?_
        refine at_to [(8, (.bool v60))] [0] [F] ⟨rfl, trivial⟩ rfl ?_
        refine at_then ?_
        refine at_ret ?_
        obtain rfl := Option.some.inj Z5
        exact at_post (T := T) rfl (.tmp rfl .nil) (fun w o => ⟨(), rfl, own_to [0] rfl o⟩)
def law5_GridVersions.Pure : Prop := ∀ (w : Int) (h : Int) (c : (List Int)) (l : (List herdsmanlaw5_Lay)), inI64 w → inI64 h → (∀ y ∈ c, inU8 y) → (∀ y ∈ l, (inI64 y.Cell ∧ inI64 y.Cost)) → law5_GridVersions.f w h c l = some true
end Go.Proofs.Ytmjcmkimhkjdeaa
