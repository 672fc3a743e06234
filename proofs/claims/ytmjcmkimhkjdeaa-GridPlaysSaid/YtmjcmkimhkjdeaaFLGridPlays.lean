import Derived.Test.YtmjcmkimhkjdeaaT
import Derived.Test.YtmjcmkimhkjdeaaFgrid
import Derived.Test.YtmjcmkimhkjdeaaFlaw5
import Derived.Test.YtmjcmkimhkjdeaaFref1
import Derived.Test.YtmjcmkimhkjdeaaFref11
namespace Go.Proofs.Ytmjcmkimhkjdeaa
open Go.Hx
set_option maxRecDepth 100000
set_option linter.unusedVariables false
/-! ### herdsman/herdsmanlaw5.GridPlays: function 5 -/
def law5_GridPlays.l2 : Nat → Int → Int → Int → List Int → List Int → Int → Int → List Int → Int → List Int → Int → Option Bool
  | 0, _, _, _, _, _, _, _, _, _, _, _ => none
  | k54 + 1, v4, x25, x24, x26, x28, x21, x27, x30, x22, x23, x53 => if x53 < v4 then ((grid_Grid_Tile.f (grid_Grid.mk (api_Map.mk x24 x25 x26) x27 x28) x53).bind fun v55 => (if (!v55.2) = true then (some true) else ((ref1_TileOf.f (api_Map.mk x21 x22 x23) x53).bind fun v58 => (ref1_SameTile.f v55.1 v58).bind fun v59 => if (!v59) = true then (some true) else (if (0 ≤ x53 ∧ x53 < (List.length x30 : Int)) then ((grid_Grid_Version.f (grid_Grid.mk (api_Map.mk x24 x25 x26) x27 x28) x53).bind fun v60 => some (v60 != (rd x30 x53))) else none))).bind fun x56 => if x56 = true then (some false) else (law5_GridPlays.l2 k54 v4 x25 x24 x26 x28 x21 x27 x30 x22 x23 (w64 (x53 + 1)))) else ((grid_Grid_Size.f (grid_Grid.mk (api_Map.mk x24 x25 x26) x27 x28)).bind fun v61 => (grid_Grid_Tile.f (grid_Grid.mk (api_Map.mk x24 x25 x26) x27 x28) v4).bind fun v62 => ((law5_told.f).bind fun v65 => if v65 = true then (if (v61.1 == x21) = true then (if (v61.2 == x22) = true then ((grid_Grid_Map.f (grid_Grid.mk (api_Map.mk x24 x25 x26) x27 x28)).bind fun v66 => (ref1_SameMap.f v66 (api_Map.mk x21 x22 x23)).bind fun v67 => if v67 = true then (if (!v62.2) = true then (if ((List.length v62.1.C : Int) == 0) = true then ((grid_Grid_Version.f (grid_Grid.mk (api_Map.mk x24 x25 x26) x27 x28) v4).bind fun v68 => if (v68 == 0) = true then ((grid_Grid_Version.f (grid_Grid.mk (api_Map.mk x24 x25 x26) x27 x28) (-1)).bind fun v69 => some (v69 == 0)) else (some false)) else (some false)) else (some false)) else (some false)) else (some false)) else (some false)) else (some false)).bind fun x63 => some x63)
def law5_GridPlays.l1 : Nat → Int → (List herdsmanlaw5_Lay) → Bool → Int → Int → Int → List Int → Int → Int → List Int → Int → List Int → Int → List Int → Int → Option Bool
  | 0, _, _, _, _, _, _, _, _, _, _, _, _, _, _, _ => none
  | k32 + 1, epoch, l, raw, v4, x21, x22, x23, x24, x25, x26, x27, x28, x29, x30, x31 => if ((decide (x31 < (List.length l : Int))) && (decide (x31 < 40))) = true then (if (0 ≤ x31 ∧ x31 < (List.length l : Int)) then ((if (!raw) = true then ((ref1_Within.f ((rd l x31).Cell) (-1) (List.length x23 : Int)).bind fun v36 => (ref1_Within.f ((rd l x31).Cost) 0 256).bind fun v37 => some (v36, v37)) else (some ((rd l x31).Cell, (rd l x31).Cost))).bind fun (x33, x34) => ((ref1_IsCell.f x21 x22 x33).bind fun v40 => if (!v40) = true then (some 7) else ((ref1_In.f x34 1 255).bind fun v41 => if (!v41) = true then (some 8) else (some 0))).bind fun x38 => (grid_Grid_Edit.f (grid_Grid.mk (api_Map.mk x24 x25 x26) x27 x28) x33 x34).bind fun v42 => if (v42.1 != x38) = true then (some false) else ((if (x38 == 0) = true then ((ref11_Edited.f (api_Map.mk x21 x22 x23) x33 (wu8 x34)).bind fun v49 => (ref1_Sector.f v49.W v49.H x33).bind fun v50 => if (0 ≤ v50 ∧ v50 < (List.length x30 : Int)) then (some (v49.W, v49.H, v49.C, (w64 (x29 + 1)), (List.set x30 (Int.toNat v50) (w64 (x29 + 1))))) else none) else (some (x21, x22, x23, x29, x30))).bind fun (x43, x44, x45, x46, x47) => (grid_Grid_Epoch.f v42.2).bind fun v51 => if (v51 != x46) = true then (some false) else (law5_GridPlays.l1 k32 epoch l raw v4 x43 x44 x45 v42.2.m.W v42.2.m.H v42.2.m.C v42.2.epoch v42.2.versions x46 x47 (w64 (x31 + 1))))) else none) else (law5_GridPlays.l2 fuel v4 x25 x24 x26 x28 x21 x27 x30 x22 x23 0)
def law5_GridPlays.l0 : Nat → Int → (List herdsmanlaw5_Lay) → Bool → api_Map → Int → grid_Grid → Int → List Int → Int → Option Bool
  | 0, _, _, _, _, _, _, _, _, _ => none
  | k9 + 1, epoch, l, raw, v1, v2, yv3, v4, x7, x8 => if x8 < v4 then (if (0 ≤ x8 ∧ x8 < (List.length x7 : Int)) then (law5_GridPlays.l0 k9 epoch l raw v1 v2 yv3 v4 (List.set x7 (Int.toNat x8) (w64 (v2 + 1))) (w64 (x8 + 1))) else none) else (law5_GridPlays.l1 fuel epoch l raw v4 v1.W v1.H v1.C yv3.m.W yv3.m.H yv3.m.C yv3.epoch yv3.versions (w64 (v2 + 1)) x7 0)
def law5_GridPlays.f (w : Int) (h : Int) (c : (List Int)) (epoch : Int) (l : (List herdsmanlaw5_Lay)) (raw : Bool) : Option Bool := (ref1_Made.f w h c).bind fun v1 => (ref1_Within.f epoch 0 4611686018427387904).bind fun v2 => (grid_New.f v1 v2).bind fun v3 => optm v3 (some false) (fun yv3 => (ref1_Count.f v1.W v1.H).bind fun v4 => if (0 ≤ v4 ∧ v4 ≤ 1099511627776) then (law5_GridPlays.l0 fuel epoch l raw v1 v2 yv3 v4 (List.replicate (Int.toNat v4) (0 : Int)) 0) else none)
set_option maxHeartbeats 4000000 in
theorem law5_GridPlays.c {a_c : Option Addr} {n_c : Nat} {a_l : Option Addr} {n_l : Nat} (w : Int) (h : Int) (c : (List Int)) (epoch : Int) (l : (List herdsmanlaw5_Lay)) (raw : Bool) (r : Bool) (F : Hp) (H : law5_GridPlays.f w h c epoch l raw = some r) (h_c : SliceR (Fl.int .u8) c a_c F) (c_c : List.length c ≤ n_c) (h_l : SliceR k_herdsmanlaw5_Lay l a_l F) (c_l : List.length l ≤ n_l) :
    CallsL Try.prog 5 [(.int .i64 w), (.int .i64 h), (.slice a_c (List.length c) n_c), (.int .i64 epoch), (.slice a_l (List.length l) n_l), (.bool raw)] [F] (fun _ : Unit => (.bool r)) (fun _ => [F]) := by
  unfold law5_GridPlays.f at H
  refine calls_atL [(0, (.int .i64 w)), (1, (.int .i64 h)), (2, (.slice a_c (List.length c) n_c)), (3, (.int .i64 epoch)), (4, (.slice a_l (List.length l) n_l)), (5, (.bool raw))] Try.func5 rfl rfl ⟨rfl, rfl, rfl, rfl, rfl, rfl, trivial⟩ (fun W => ?_)
  refine at_seq ?_
  refine at_region [0] rfl ?_
  refine at_s T rfl ?_
  refine at_end ?_
  refine at_sub [(0, (.int .i64 w)), (1, (.int .i64 h)), (2, (.slice a_c (List.length c) n_c)), (3, (.int .i64 epoch)), (4, (.slice a_l (List.length l) n_l)), (5, (.bool raw))] ⟨rfl, rfl, rfl, rfl, rfl, rfl, trivial⟩ ?_
  refine at_then ?_
  refine at_seq ?_
  refine at_region [0, 1, 2, 3, 4, 5] rfl ?_
  iterate 3 refine at_s T rfl ?_
  obtain ⟨v1, V1, H⟩ := bind_e H
  refine at_cons (at_cR (ref1_Made.R v1) [] [] rfl rfl rfl rfl has14 rfl rfl (ref1_Made.c w h c v1 _ V1 (ro_of h_c (j := 0) rfl) c_c) ?_)
  rintro _ _ ⟨a1, n1, H1, s1, rfl, rfl⟩
  refine at_cons (at_al T [(.int .i64 0), (.int .i64 0), (.slice none 0 0)] rfl rfl rfl rfl (fun b2 => ?_))
  refine at_cons (at_st T 2 [(.int .i64 v1.W), (.int .i64 v1.H), (.slice a1 (List.length v1.C) n1)] rfl rfl rfl rfl rfl rfl rfl rfl rfl rfl ?_)
  refine at_end ?_
  refine at_sub [(3, (.int .i64 epoch)), (4, (.slice a_l (List.length l) n_l)), (5, (.bool raw)), (13, (.pointer (some ⟨b2, 0, none⟩)))] ⟨rfl, rfl, rfl, rfl, trivial⟩ ?_
  refine at_then ?_
  refine at_seq ?_
  refine at_region [0, 1, 2] rfl ?_
  refine at_s T rfl ?_
  obtain ⟨v2, V2, H⟩ := bind_e H
  refine at_cons (at_c (B := fun _ => []) [] rfl rfl rfl rfl has17 rfl rfl (ref1_Within.c epoch 0 4611686018427387904 v2 _ V2) (fun _ => ?_))
  refine at_s T rfl ?_
  refine at_end ?_
  refine at_sub [(4, (.slice a_l (List.length l) n_l)), (5, (.bool raw)), (13, (.pointer (some ⟨b2, 0, none⟩))), (14, (.int .i64 v2))] ⟨rfl, rfl, rfl, rfl, trivial⟩ ?_
  refine at_then ?_
  refine at_seq ?_
  refine at_region [0, 1, 2, 3] rfl ?_
  refine at_v rfl (g_loadA T (cs := [(.int .i64 v1.W), (.int .i64 v1.H), (.slice a1 (List.length v1.C) n1)]) rfl rfl rfl rfl rfl rfl (in_varA (j := 2) rfl rfl)) ?_
  refine at_s T rfl ?_
  obtain ⟨v3, V3, H⟩ := bind_e H
  refine at_cons (at_cR (grid_New.R v3) [] [] rfl rfl rfl rfl has15 rfl rfl (grid_New.c v1 v2 v3 _ V3 (own_of s1 (j := 1) rfl) s1.cap_le) ?_)
  rintro _ _ ⟨_, _, O4, rfl, rfl⟩
  rcases v3 with _ | yv3
  · replace H := optm_n rfl H
    obtain ⟨rfl, rfl⟩ := O4
    refine at_s T rfl ?_
    refine at_end ?_
    refine at_sub [(4, (.slice a_l (List.length l) n_l)), (5, (.bool raw)), (13, (.pointer (some ⟨b2, 0, none⟩))), (14, (.int .i64 v2)), (15, (.pointer none))] ⟨rfl, rfl, rfl, rfl, rfl, trivial⟩ ?_
    refine at_then ?_
    refine at_seq ?_
    refine at_seq ?_
    refine at_region [0, 1] rfl ?_
    iterate 2 refine at_s T rfl ?_
    refine at_end ?_
    refine at_sub [(4, (.slice a_l (List.length l) n_l)), (5, (.bool raw)), (13, (.pointer (some ⟨b2, 0, none⟩))), (14, (.int .i64 v2)), (15, (.pointer none)), (40, (.bool true))] ⟨rfl, rfl, rfl, rfl, rfl, rfl, trivial⟩ ?_
    refine at_then ?_
    refine at_cond_t rfl ?_
    refine at_seq ?_
    refine at_region [0] rfl ?_
    refine at_s T rfl ?_
    refine at_end ?_
    refine at_to [(12, (.bool false))] [0] [F] ⟨rfl, trivial⟩ rfl ?_
    refine at_then ?_
    refine at_ret ?_
    refine at_rt ?_
    obtain rfl := Option.some.inj H
    exact at_post (T := T) rfl (.tmp rfl .nil) (fun w o => ⟨(), rfl, own_to [0] rfl o⟩)
  · replace H := optm_s rfl H
    obtain ⟨b3, a4, n4, H4, a5, n5, H5, s4, s5, rfl, rfl⟩ := O4
    refine at_s T rfl ?_
    refine at_end ?_
    refine at_sub [(4, (.slice a_l (List.length l) n_l)), (5, (.bool raw)), (13, (.pointer (some ⟨b2, 0, none⟩))), (14, (.int .i64 v2)), (15, (.pointer (some ⟨b3, 0, none⟩)))] ⟨rfl, rfl, rfl, rfl, rfl, trivial⟩ ?_
    refine at_then ?_
    refine at_seq ?_
    refine at_seq ?_
    refine at_region [0, 1] rfl ?_
    iterate 2 refine at_s T rfl ?_
    refine at_end ?_
    refine at_sub [(4, (.slice a_l (List.length l) n_l)), (5, (.bool raw)), (13, (.pointer (some ⟨b2, 0, none⟩))), (14, (.int .i64 v2)), (15, (.pointer (some ⟨b3, 0, none⟩))), (40, (.bool false))] ⟨rfl, rfl, rfl, rfl, rfl, rfl, trivial⟩ ?_
    refine at_then ?_
    refine at_cond_f rfl ?_
    refine at_skip ?_
    refine at_then ?_
    refine at_seq ?_
    refine at_region [0, 1, 2, 3, 4, 5] rfl ?_
    refine at_s T rfl ?_
    refine at_v rfl (g_load T rfl rfl rfl rfl (in_var (j := 2) rfl rfl)) ?_
    refine at_s T rfl ?_
    refine at_v rfl (g_load T rfl rfl rfl rfl (in_var (j := 2) rfl rfl)) ?_
    obtain ⟨v4, V5, H⟩ := bind_e H
    refine at_cons (at_c (B := fun _ => []) [] rfl rfl rfl rfl has16 rfl rfl (ref1_Count.c v1.W v1.H v4 _ V5) (fun _ => ?_))
    refine at_s T rfl ?_
    refine at_end ?_
    refine at_sub [(4, (.slice a_l (List.length l) n_l)), (5, (.bool raw)), (13, (.pointer (some ⟨b2, 0, none⟩))), (14, (.int .i64 v2)), (15, (.pointer (some ⟨b3, 0, none⟩))), (16, (.int .i64 v4))] ⟨rfl, rfl, rfl, rfl, rfl, rfl, trivial⟩ ?_
    refine at_then ?_
    refine at_seq ?_
    refine at_region [0, 1, 2] rfl ?_
    iterate 3 refine at_s T rfl ?_
    refine at_end ?_
    refine at_sub [(4, (.slice a_l (List.length l) n_l)), (5, (.bool raw)), (13, (.pointer (some ⟨b2, 0, none⟩))), (15, (.pointer (some ⟨b3, 0, none⟩))), (16, (.int .i64 v4)), (17, (.int .i64 (w64 (v2 + 1))))] ⟨rfl, rfl, rfl, rfl, rfl, rfl, trivial⟩ ?_
    refine at_then ?_
    refine at_seq ?_
    refine at_region [0, 1, 2] rfl ?_
    refine at_s T rfl ?_
    obtain ⟨c6, H⟩ := chk_e H
    refine at_cons (at_mk (k := (Fl.int .i64)) T (0 : Int) rfl rfl rfl rfl rfl rfl rfl rfl c6 rfl (fun a6 n6 H6 s6 => ?_))
    refine at_s T rfl ?_
    refine at_end ?_
    refine at_sub [(4, (.slice a_l (List.length l) n_l)), (5, (.bool raw)), (13, (.pointer (some ⟨b2, 0, none⟩))), (15, (.pointer (some ⟨b3, 0, none⟩))), (16, (.int .i64 v4)), (17, (.int .i64 (w64 (v2 + 1)))), (18, (.slice a6 (List.length (List.replicate (Int.toNat v4) (0 : Int))) n6))] ⟨rfl, rfl, rfl, rfl, rfl, rfl, rfl, trivial⟩ ?_
    refine at_then ?_
    refine at_seq ?_
    refine at_seq ?_
    refine at_region [0] rfl ?_
    refine at_s T rfl ?_
    refine at_end ?_
    refine at_sub [(4, (.slice a_l (List.length l) n_l)), (5, (.bool raw)), (13, (.pointer (some ⟨b2, 0, none⟩))), (15, (.pointer (some ⟨b3, 0, none⟩))), (16, (.int .i64 v4)), (17, (.int .i64 (w64 (v2 + 1)))), (18, (.slice a6 (List.length (List.replicate (Int.toNat v4) (0 : Int))) n6)), (19, (.int .i64 0))] ⟨rfl, rfl, rfl, rfl, rfl, rfl, rfl, rfl, trivial⟩ ?_
    refine at_then ?_
    refine at_block ?_
    refine at_loopL (σ := Nat × List Int × Int × Option Addr × Nat × Hp) (fun ⟨k9, x7, x8, a8, n8, H8⟩ => law5_GridPlays.l0 k9 epoch l raw v1 v2 yv3 v4 x7 x8 = some r ∧ SliceO (Fl.int .i64) 2 x7 a8 n8 H8) (fun ⟨k9, x7, x8, a8, n8, H8⟩ => [(4, (.slice a_l (List.length l) n_l)), (5, (.bool raw)), (13, (.pointer (some ⟨b2, 0, none⟩))), (15, (.pointer (some ⟨b3, 0, none⟩))), (16, (.int .i64 v4)), (17, (.int .i64 (w64 (v2 + 1)))), (18, (.slice a8 (List.length x7) n8)), (19, (.int .i64 x8))]) (fun ⟨k9, x7, x8, a8, n8, H8⟩ => [F, [(b2, Obj.cells #[(.int .i64 v1.W), (.int .i64 v1.H), (.slice a1 (List.length v1.C) n1)] 25 (0, 0))], H1, [(b3, Obj.cells #[(.int .i64 yv3.m.W), (.int .i64 yv3.m.H), (.slice a4 (List.length yv3.m.C) n4), (.int .i64 yv3.epoch), (.slice a5 (List.length yv3.versions) n5)] 71 (0, 0))], H4, H5, H8]) (fun s => s.1) (fuel, (List.replicate (Int.toNat v4) (0 : Int)), 0, a6, n6, H6) [0, 1, 0, 0, 0, 0, 0] ⟨H, s6⟩ ⟨rfl, rfl, rfl, rfl, rfl, rfl, rfl, rfl, trivial⟩ rfl ?_
    rintro ⟨k9, x7, x8, a8, n8, H8⟩ ⟨Z7, s8⟩
    replace Z7 : law5_GridPlays.l0 k9 epoch l raw v1 v2 yv3 v4 x7 x8 = some r := Z7
    rcases k9 with _ | k9
    · rw [law5_GridPlays.l0] at Z7; cases Z7
    · rw [law5_GridPlays.l0] at Z7
      refine at_seq ?_
      refine at_seq ?_
      refine at_region [0, 1, 2] rfl ?_
      iterate 3 refine at_s T rfl ?_
      refine at_end ?_
      refine at_sub [(4, (.slice a_l (List.length l) n_l)), (5, (.bool raw)), (13, (.pointer (some ⟨b2, 0, none⟩))), (15, (.pointer (some ⟨b3, 0, none⟩))), (16, (.int .i64 v4)), (17, (.int .i64 (w64 (v2 + 1)))), (18, (.slice a8 (List.length x7) n8)), (19, (.int .i64 x8)), (52, (.bool (decide (x8 < v4))))] ⟨rfl, rfl, rfl, rfl, rfl, rfl, rfl, rfl, rfl, trivial⟩ ?_
      refine at_then ?_
      refine at_cond rfl (fun c8 => ?_) (fun c8 => ?_)
      · replace Z7 := if_t (of_decide_eq_true c8) Z7
        refine at_skip ?_
        refine at_then ?_
        refine at_seq ?_
        refine at_block ?_
        refine at_region [0, 1, 2, 3, 4] rfl ?_
        iterate 3 refine at_s T rfl ?_
        obtain ⟨c9, Z7⟩ := chk_e Z7
        obtain ⟨q9, o9, e9⟩ := s8.r.addr c9.1 c9.2
        refine at_v rfl (g_index T rfl rfl rfl rfl rfl e9 c9.1 c9.2) ?_
        refine at_cons (at_se (k := (Fl.int .i64)) T 6 0 (w64 (v2 + 1)) rfl rfl rfl rfl rfl rfl s8 e9 c9 rfl rfl rfl (fun H10 s10 => ?_))
        refine at_to [(4, (.slice a_l (List.length l) n_l)), (5, (.bool raw)), (13, (.pointer (some ⟨b2, 0, none⟩))), (15, (.pointer (some ⟨b3, 0, none⟩))), (16, (.int .i64 v4)), (17, (.int .i64 (w64 (v2 + 1)))), (18, (.slice a8 (List.length (List.set x7 (Int.toNat x8) (w64 (v2 + 1)))) n8)), (19, (.int .i64 x8))] [0, 0, 0, 0, 0, 0, 0] [F, [(b2, Obj.cells #[(.int .i64 v1.W), (.int .i64 v1.H), (.slice a1 (List.length v1.C) n1)] 25 (0, 0))], H1, [(b3, Obj.cells #[(.int .i64 yv3.m.W), (.int .i64 yv3.m.H), (.slice a4 (List.length yv3.m.C) n4), (.int .i64 yv3.epoch), (.slice a5 (List.length yv3.versions) n5)] 71 (0, 0))], H4, H5, H10] ⟨rfl, rfl, rfl, rfl, rfl, rfl, (by first | rfl | (simp only [List.length_set]; rfl)), rfl, trivial⟩ rfl ?_
        refine at_end ?_
        refine at_sub [(4, (.slice a_l (List.length l) n_l)), (5, (.bool raw)), (13, (.pointer (some ⟨b2, 0, none⟩))), (15, (.pointer (some ⟨b3, 0, none⟩))), (16, (.int .i64 v4)), (17, (.int .i64 (w64 (v2 + 1)))), (18, (.slice a8 (List.length (List.set x7 (Int.toNat x8) (w64 (v2 + 1)))) n8)), (19, (.int .i64 x8))] ⟨rfl, rfl, rfl, rfl, rfl, rfl, rfl, rfl, trivial⟩ ?_
        refine at_nb ?_
        refine at_then ?_
        refine at_region [0, 1, 2] rfl ?_
        iterate 3 refine at_s T rfl ?_
        refine at_end ?_
        refine at_sub [(4, (.slice a_l (List.length l) n_l)), (5, (.bool raw)), (13, (.pointer (some ⟨b2, 0, none⟩))), (15, (.pointer (some ⟨b3, 0, none⟩))), (16, (.int .i64 v4)), (17, (.int .i64 (w64 (v2 + 1)))), (18, (.slice a8 (List.length (List.set x7 (Int.toNat x8) (w64 (v2 + 1)))) n8)), (19, (.int .i64 (w64 (x8 + 1))))] ⟨rfl, rfl, rfl, rfl, rfl, rfl, rfl, rfl, trivial⟩ ?_
        refine at_then ?_
        exact at_roundL (k9, (List.set x7 (Int.toNat x8) (w64 (v2 + 1))), (w64 (x8 + 1)), a8, n8, H10) [0, 0, 0, 0, 0, 0, 0] ⟨Z7, s10⟩ (Nat.lt_succ_self _) ⟨rfl, rfl, rfl, rfl, rfl, rfl, rfl, rfl, trivial⟩ rfl
      · replace Z7 := if_f (of_decide_eq_false c8) Z7
        refine at_exit ?_
        refine at_xt ?_
        refine at_xt ?_
        refine at_xb ?_
        refine at_then ?_
        refine at_seq ?_
        refine at_seq ?_
        refine at_region [0] rfl ?_
        refine at_s T rfl ?_
        refine at_end ?_
        refine at_sub [(4, (.slice a_l (List.length l) n_l)), (5, (.bool raw)), (13, (.pointer (some ⟨b2, 0, none⟩))), (15, (.pointer (some ⟨b3, 0, none⟩))), (16, (.int .i64 v4)), (17, (.int .i64 (w64 (v2 + 1)))), (18, (.slice a8 (List.length x7) n8)), (20, (.int .i64 0))] ⟨rfl, rfl, rfl, rfl, rfl, rfl, rfl, rfl, trivial⟩ ?_
        refine at_then ?_
        refine at_block ?_
        refine at_loopL (σ := Nat × Int × Int × List Int × Int × Int × List Int × Int × List Int × Int × List Int × Int × Option Addr × Nat × Hp × Option Addr × Nat × Hp × Option Addr × Nat × Hp × Option Addr × Nat × Hp) (fun ⟨k32, x21, x22, x23, x24, x25, x26, x27, x28, x29, x30, x31, a15, n15, H15, a16, n16, H16, a17, n17, H17, a18, n18, H18⟩ => law5_GridPlays.l1 k32 epoch l raw v4 x21 x22 x23 x24 x25 x26 x27 x28 x29 x30 x31 = some r ∧ SliceO (Fl.int .u8) 5 x23 a15 n15 H15 ∧ SliceO (Fl.int .u8) 5 x26 a16 n16 H16 ∧ SliceO (Fl.int .i64) 2 x28 a17 n17 H17 ∧ SliceO (Fl.int .i64) 2 x30 a18 n18 H18) (fun ⟨k32, x21, x22, x23, x24, x25, x26, x27, x28, x29, x30, x31, a15, n15, H15, a16, n16, H16, a17, n17, H17, a18, n18, H18⟩ => [(4, (.slice a_l (List.length l) n_l)), (5, (.bool raw)), (13, (.pointer (some ⟨b2, 0, none⟩))), (15, (.pointer (some ⟨b3, 0, none⟩))), (16, (.int .i64 v4)), (17, (.int .i64 x29)), (18, (.slice a18 (List.length x30) n18)), (20, (.int .i64 x31))]) (fun ⟨k32, x21, x22, x23, x24, x25, x26, x27, x28, x29, x30, x31, a15, n15, H15, a16, n16, H16, a17, n17, H17, a18, n18, H18⟩ => [F, [(b2, Obj.cells #[(.int .i64 x21), (.int .i64 x22), (.slice a15 (List.length x23) n15)] 25 (0, 0))], H15, [(b3, Obj.cells #[(.int .i64 x24), (.int .i64 x25), (.slice a16 (List.length x26) n16), (.int .i64 x27), (.slice a17 (List.length x28) n17)] 71 (0, 0))], H16, H17, H18]) (fun s => s.1) (fuel, v1.W, v1.H, v1.C, yv3.m.W, yv3.m.H, yv3.m.C, yv3.epoch, yv3.versions, (w64 (v2 + 1)), x7, 0, a1, n1, H1, a4, n4, H4, a5, n5, H5, a8, n8, H8) [0, 0, 0, 0, 0, 0, 0] ⟨Z7, s1, s4, s5, s8⟩ ⟨rfl, rfl, rfl, rfl, rfl, rfl, rfl, rfl, trivial⟩ rfl ?_
        rintro ⟨k32, x21, x22, x23, x24, x25, x26, x27, x28, x29, x30, x31, a15, n15, H15, a16, n16, H16, a17, n17, H17, a18, n18, H18⟩ ⟨Z10, s15, s16, s17, s18⟩
        replace Z10 : law5_GridPlays.l1 k32 epoch l raw v4 x21 x22 x23 x24 x25 x26 x27 x28 x29 x30 x31 = some r := Z10
        rcases k32 with _ | k32
        · rw [law5_GridPlays.l1] at Z10; cases Z10
        · rw [law5_GridPlays.l1] at Z10
          refine at_seq ?_
          refine at_seq ?_
          refine at_region [0, 1, 2, 3, 4, 5, 6, 7] rfl ?_
          iterate 5 refine at_s T rfl ?_
          refine at_grp T [5, 6, 7] (s := 63) (c := (decide (x31 < (List.length l : Int)))) [(4, (.slice a_l (List.length l) n_l)), (5, (.bool raw)), (13, (.pointer (some ⟨b2, 0, none⟩))), (15, (.pointer (some ⟨b3, 0, none⟩))), (16, (.int .i64 v4)), (17, (.int .i64 x29)), (18, (.slice a18 (List.length x30) n18)), (20, (.int .i64 x31)), (66, (.bool ((decide (x31 < (List.length l : Int))) && (decide (x31 < 40)))))] rfl rfl rfl (fun c11 => ⟨rfl, rfl, rfl, rfl, rfl, rfl, rfl, rfl, (by rw [c11]; rfl), trivial⟩) (fun c11 => ⟨rfl, rfl, rfl, rfl, rfl, rfl, rfl, rfl, (by rw [c11]; rfl), trivial⟩) ?_
          refine at_end ?_
          refine at_sub [(4, (.slice a_l (List.length l) n_l)), (5, (.bool raw)), (13, (.pointer (some ⟨b2, 0, none⟩))), (15, (.pointer (some ⟨b3, 0, none⟩))), (16, (.int .i64 v4)), (17, (.int .i64 x29)), (18, (.slice a18 (List.length x30) n18)), (20, (.int .i64 x31)), (66, (.bool ((decide (x31 < (List.length l : Int))) && (decide (x31 < 40)))))] ⟨rfl, rfl, rfl, rfl, rfl, rfl, rfl, rfl, rfl, trivial⟩ ?_
          refine at_then ?_
          refine at_cond rfl (fun c12 => ?_) (fun c12 => ?_)
          · replace Z10 := if_t c12 Z10
            refine at_skip ?_
            refine at_then ?_
            refine at_seq ?_
            refine at_block ?_
            refine at_seq ?_
            refine at_region [0, 1, 2, 3, 4, 5] rfl ?_
            iterate 2 refine at_s T rfl ?_
            obtain ⟨c13, Z10⟩ := chk_e Z10
            obtain ⟨q19, o19, e19⟩ := h_l.addr c13.1 c13.2
            refine at_v rfl (g_index T rfl rfl rfl rfl rfl e19 c13.1 c13.2) ?_
            refine at_v rfl (g_loadA T (cs := [(.int .i64 (rd l x31).Cell), (.int .i64 (rd l x31).Cost)]) rfl rfl rfl rfl rfl rfl (in_elemA (k := k_herdsmanlaw5_Lay) (ro_of h_l (j := 0) rfl) e19 c13 rfl)) ?_
            refine at_cons (at_al T [(.int .i64 0), (.int .i64 0)] rfl rfl rfl rfl (fun b20 => ?_))
            refine at_cons (at_st T 7 [(.int .i64 (rd l x31).Cell), (.int .i64 (rd l x31).Cost)] rfl rfl rfl rfl rfl rfl rfl rfl rfl rfl ?_)
            refine at_end ?_
            refine at_sub [(4, (.slice a_l (List.length l) n_l)), (5, (.bool raw)), (13, (.pointer (some ⟨b2, 0, none⟩))), (15, (.pointer (some ⟨b3, 0, none⟩))), (16, (.int .i64 v4)), (17, (.int .i64 x29)), (18, (.slice a18 (List.length x30) n18)), (20, (.int .i64 x31)), (21, (.pointer (some ⟨b20, 0, none⟩)))] ⟨rfl, rfl, rfl, rfl, rfl, rfl, rfl, rfl, rfl, trivial⟩ ?_
            refine at_then ?_
            obtain ⟨z35, Z14, Z10⟩ := bind_e Z10
            refine at_seq_mid (σ := Int × Int) (fun ⟨x33, x34⟩ => (x33, x34) = z35) (fun ⟨x33, x34⟩ => [(4, (.slice a_l (List.length l) n_l)), (5, (.bool raw)), (13, (.pointer (some ⟨b2, 0, none⟩))), (15, (.pointer (some ⟨b3, 0, none⟩))), (16, (.int .i64 v4)), (17, (.int .i64 x29)), (18, (.slice a18 (List.length x30) n18)), (20, (.int .i64 x31)), (21, (.pointer (some ⟨b20, 0, none⟩)))]) (fun ⟨x33, x34⟩ => [F, [(b2, Obj.cells #[(.int .i64 x21), (.int .i64 x22), (.slice a15 (List.length x23) n15)] 25 (0, 0))], H15, [(b3, Obj.cells #[(.int .i64 x24), (.int .i64 x25), (.slice a16 (List.length x26) n16), (.int .i64 x27), (.slice a17 (List.length x28) n17)] 71 (0, 0))], H16, H17, H18, [(b20, Obj.cells #[(.int .i64 x33), (.int .i64 x34)] 32 (0, 0))]]) ?_ ?_
            · refine at_seq ?_
              refine at_region [0, 1] rfl ?_
              iterate 2 refine at_s T rfl ?_
              refine at_end ?_
              refine at_sub [(4, (.slice a_l (List.length l) n_l)), (5, (.bool raw)), (13, (.pointer (some ⟨b2, 0, none⟩))), (15, (.pointer (some ⟨b3, 0, none⟩))), (16, (.int .i64 v4)), (17, (.int .i64 x29)), (18, (.slice a18 (List.length x30) n18)), (20, (.int .i64 x31)), (21, (.pointer (some ⟨b20, 0, none⟩))), (74, (.bool (!raw)))] ⟨rfl, rfl, rfl, rfl, rfl, rfl, rfl, rfl, rfl, rfl, trivial⟩ ?_
              refine at_then ?_
              refine at_cond rfl (fun c15 => ?_) (fun c15 => ?_)
              · replace Z14 := if_t c15 Z14
                refine at_region_m [[], [0], [], [2], [2, 3], [0, 1, 2, 3, 4], [], [6], [0, 1, 2, 3, 4, 5, 6, 7], [0, 1, 2, 3, 4, 5, 6, 7, 8], [0, 1, 2, 3, 4, 5, 6, 7, 8, 9]] [10] [F, [(b2, Obj.cells #[(.int .i64 x21), (.int .i64 x22), (.slice a15 (List.length x23) n15)] 25 (0, 0))], H15, [(b3, Obj.cells #[(.int .i64 x24), (.int .i64 x25), (.slice a16 (List.length x26) n16), (.int .i64 x27), (.slice a17 (List.length x28) n17)] 71 (0, 0))], H16, H17, H18, [(b20, Obj.cells #[(.int .i64 (rd l x31).Cell), (.int .i64 (rd l x31).Cost)] 32 (0, 0))]] mix (by kernel_rfl) (by repeat first | exact pf_body | refine pf_then ?_ | refine pf_block ?_) (fun hg pf => ?_)
                refine atm_s T 0 hg pf (by kernel_rfl) (still_o [0, 0, 0, 0, 0, 0, 0, 0] rfl) rfl ?_
                refine atm_v 1 hg pf (by kernel_rfl) (still_o [0, 0, 0, 0, 0, 0, 0, 0] rfl) rfl rfl (g_load T rfl rfl rfl rfl (in_var (j := 7) rfl rfl)) ?_
                refine atm_s T 2 hg pf (by kernel_rfl) (still_o [0, 0, 0, 0, 0, 0, 0, 0] rfl) rfl ?_
                refine atm_v 3 hg pf (by kernel_rfl) (still_o [0, 0, 0, 0, 0, 0, 0, 0] rfl) rfl rfl (g_load T rfl rfl rfl rfl (in_var (j := 1) rfl rfl)) ?_
                refine atm_s T 4 hg pf (by kernel_rfl) (still_o [0, 0, 0, 0, 0, 0, 0, 0] rfl) rfl ?_
                refine atm_s T 6 hg pf (by kernel_rfl) (still_o [0, 0, 0, 0, 0, 0, 0, 0] rfl) rfl ?_
                refine atm_v 7 hg pf (by kernel_rfl) (still_o [0, 0, 0, 0, 0, 0, 0, 0] rfl) rfl rfl (g_load T rfl rfl rfl rfl (in_var (j := 7) rfl rfl)) ?_
                refine atm_one 5 (by kernel_rfl) ?_
                obtain ⟨v36, V16, Z14⟩ := bind_e Z14
                refine at_c (B := fun _ => []) [] rfl rfl rfl rfl has17 rfl rfl (ref1_Within.c ((rd l x31).Cell) (-1) (List.length x23 : Int) v36 _ V16) (fun _ => ?_)
                refine atm_next (still_o [0, 0, 0, 0, 0, 0, 0, 0] rfl) ?_
                refine atm_one 8 (by kernel_rfl) ?_
                obtain ⟨v37, V17, Z14⟩ := bind_e Z14
                refine at_c (B := fun _ => []) [] rfl rfl rfl rfl has17 rfl rfl (ref1_Within.c ((rd l x31).Cost) 0 256 v37 _ V17) (fun _ => ?_)
                refine atm_next (still_o [0, 0, 0, 0, 0, 0, 0, 0] rfl) ?_
                refine atm_s T 9 hg pf (by kernel_rfl) (still_o [0, 0, 0, 0, 0, 0, 0, 0] rfl) rfl ?_
                refine atm_one 10 (by kernel_rfl) ?_
                refine at_st T 7 [(.int .i64 v36), (.int .i64 v37)] rfl rfl rfl rfl rfl rfl rfl rfl rfl rfl ?_
                refine atm_next (still_l (by kernel_rfl)) ?_
                refine atm_end (by kernel_rfl) ?_
                refine at_sub [(4, (.slice a_l (List.length l) n_l)), (5, (.bool raw)), (13, (.pointer (some ⟨b2, 0, none⟩))), (15, (.pointer (some ⟨b3, 0, none⟩))), (16, (.int .i64 v4)), (17, (.int .i64 x29)), (18, (.slice a18 (List.length x30) n18)), (20, (.int .i64 x31)), (21, (.pointer (some ⟨b20, 0, none⟩)))] ⟨rfl, rfl, rfl, rfl, rfl, rfl, rfl, rfl, rfl, trivial⟩ ?_
                refine at_then ?_
                obtain rfl := Option.some.inj Z14
                exact at_mid (v36, v37) [0, 0, 0, 0, 0, 0, 0, 0] rfl ⟨rfl, rfl, rfl, rfl, rfl, rfl, rfl, rfl, rfl, trivial⟩ rfl
              · replace Z14 := if_f (bf c15) Z14
                refine at_skip ?_
                refine at_then ?_
                obtain rfl := Option.some.inj Z14
                exact at_mid ((rd l x31).Cell, (rd l x31).Cost) [0, 0, 0, 0, 0, 0, 0, 0] rfl ⟨rfl, rfl, rfl, rfl, rfl, rfl, rfl, rfl, rfl, trivial⟩ rfl
            · rintro ⟨x33, x34⟩ rfl
              refine at_seq ?_
              refine at_region [0] rfl ?_
              refine at_s T rfl ?_
              refine at_end ?_
              refine at_sub [(4, (.slice a_l (List.length l) n_l)), (5, (.bool raw)), (13, (.pointer (some ⟨b2, 0, none⟩))), (15, (.pointer (some ⟨b3, 0, none⟩))), (16, (.int .i64 v4)), (17, (.int .i64 x29)), (18, (.slice a18 (List.length x30) n18)), (20, (.int .i64 x31)), (21, (.pointer (some ⟨b20, 0, none⟩))), (22, (.int .i64 0))] ⟨rfl, rfl, rfl, rfl, rfl, rfl, rfl, rfl, rfl, rfl, trivial⟩ ?_
              refine at_then ?_
              obtain ⟨z39, Z18, Z10⟩ := bind_e Z10
              refine at_seq_mid (σ := Int) (fun x38 => x38 = z39) (fun x38 => [(4, (.slice a_l (List.length l) n_l)), (5, (.bool raw)), (13, (.pointer (some ⟨b2, 0, none⟩))), (15, (.pointer (some ⟨b3, 0, none⟩))), (16, (.int .i64 v4)), (17, (.int .i64 x29)), (18, (.slice a18 (List.length x30) n18)), (20, (.int .i64 x31)), (21, (.pointer (some ⟨b20, 0, none⟩))), (22, (.int .i64 x38))]) (fun x38 => [F, [(b2, Obj.cells #[(.int .i64 x21), (.int .i64 x22), (.slice a15 (List.length x23) n15)] 25 (0, 0))], H15, [(b3, Obj.cells #[(.int .i64 x24), (.int .i64 x25), (.slice a16 (List.length x26) n16), (.int .i64 x27), (.slice a17 (List.length x28) n17)] 71 (0, 0))], H16, H17, H18, [(b20, Obj.cells #[(.int .i64 x33), (.int .i64 x34)] 32 (0, 0))]]) ?_ ?_
              · refine at_seq ?_
                refine at_region [0, 1, 2, 3, 4, 5, 6, 7] rfl ?_
                refine at_s T rfl ?_
                refine at_v rfl (g_load T rfl rfl rfl rfl (in_var (j := 1) rfl rfl)) ?_
                refine at_s T rfl ?_
                refine at_v rfl (g_load T rfl rfl rfl rfl (in_var (j := 1) rfl rfl)) ?_
                refine at_s T rfl ?_
                refine at_v rfl (g_load T rfl rfl rfl rfl (in_var (j := 7) rfl rfl)) ?_
                obtain ⟨v40, V19, Z18⟩ := bind_e Z18
                refine at_cons (at_c (B := fun _ => []) [] rfl rfl rfl rfl has28 rfl rfl (ref1_IsCell.c x21 x22 x33 v40 _ V19) (fun _ => ?_))
                refine at_s T rfl ?_
                refine at_end ?_
                refine at_sub [(4, (.slice a_l (List.length l) n_l)), (5, (.bool raw)), (13, (.pointer (some ⟨b2, 0, none⟩))), (15, (.pointer (some ⟨b3, 0, none⟩))), (16, (.int .i64 v4)), (17, (.int .i64 x29)), (18, (.slice a18 (List.length x30) n18)), (20, (.int .i64 x31)), (21, (.pointer (some ⟨b20, 0, none⟩))), (22, (.int .i64 0)), (92, (.bool (!v40)))] ⟨rfl, rfl, rfl, rfl, rfl, rfl, rfl, rfl, rfl, rfl, rfl, trivial⟩ ?_
                refine at_then ?_
                refine at_cond rfl (fun c20 => ?_) (fun c20 => ?_)
                · replace Z18 := if_t c20 Z18
                  refine at_region [0] rfl ?_
                  refine at_s T rfl ?_
                  refine at_end ?_
                  refine at_sub [(4, (.slice a_l (List.length l) n_l)), (5, (.bool raw)), (13, (.pointer (some ⟨b2, 0, none⟩))), (15, (.pointer (some ⟨b3, 0, none⟩))), (16, (.int .i64 v4)), (17, (.int .i64 x29)), (18, (.slice a18 (List.length x30) n18)), (20, (.int .i64 x31)), (21, (.pointer (some ⟨b20, 0, none⟩))), (22, (.int .i64 7))] ⟨rfl, rfl, rfl, rfl, rfl, rfl, rfl, rfl, rfl, rfl, trivial⟩ ?_
                  refine at_then ?_
                  obtain rfl := Option.some.inj Z18
                  exact at_mid 7 [0, 0, 0, 0, 0, 0, 0, 0] rfl ⟨rfl, rfl, rfl, rfl, rfl, rfl, rfl, rfl, rfl, rfl, trivial⟩ rfl
                · replace Z18 := if_f (bf c20) Z18
                  refine at_seq ?_
                  refine at_region [0, 1, 2, 3] rfl ?_
                  refine at_s T rfl ?_
                  refine at_v rfl (g_load T rfl rfl rfl rfl (in_var (j := 7) rfl rfl)) ?_
                  obtain ⟨v41, V21, Z18⟩ := bind_e Z18
                  refine at_cons (at_c (B := fun _ => []) [] rfl rfl rfl rfl has29 rfl rfl (ref1_In.c x34 1 255 v41 _ V21) (fun _ => ?_))
                  refine at_s T rfl ?_
                  refine at_end ?_
                  refine at_sub [(4, (.slice a_l (List.length l) n_l)), (5, (.bool raw)), (13, (.pointer (some ⟨b2, 0, none⟩))), (15, (.pointer (some ⟨b3, 0, none⟩))), (16, (.int .i64 v4)), (17, (.int .i64 x29)), (18, (.slice a18 (List.length x30) n18)), (20, (.int .i64 x31)), (21, (.pointer (some ⟨b20, 0, none⟩))), (22, (.int .i64 0)), (96, (.bool (!v41)))] ⟨rfl, rfl, rfl, rfl, rfl, rfl, rfl, rfl, rfl, rfl, rfl, trivial⟩ ?_
                  refine at_then ?_
                  refine at_cond rfl (fun c22 => ?_) (fun c22 => ?_)
                  · replace Z18 := if_t c22 Z18
                    refine at_region [0] rfl ?_
                    refine at_s T rfl ?_
                    refine at_end ?_
                    refine at_sub [(4, (.slice a_l (List.length l) n_l)), (5, (.bool raw)), (13, (.pointer (some ⟨b2, 0, none⟩))), (15, (.pointer (some ⟨b3, 0, none⟩))), (16, (.int .i64 v4)), (17, (.int .i64 x29)), (18, (.slice a18 (List.length x30) n18)), (20, (.int .i64 x31)), (21, (.pointer (some ⟨b20, 0, none⟩))), (22, (.int .i64 8))] ⟨rfl, rfl, rfl, rfl, rfl, rfl, rfl, rfl, rfl, rfl, trivial⟩ ?_
                    refine at_then ?_
                    obtain rfl := Option.some.inj Z18
                    exact at_mid 8 [0, 0, 0, 0, 0, 0, 0, 0] rfl ⟨rfl, rfl, rfl, rfl, rfl, rfl, rfl, rfl, rfl, rfl, trivial⟩ rfl
                  · replace Z18 := if_f (bf c22) Z18
                    refine at_skip ?_
                    refine at_then ?_
                    obtain rfl := Option.some.inj Z18
                    exact at_mid 0 [0, 0, 0, 0, 0, 0, 0, 0] rfl ⟨rfl, rfl, rfl, rfl, rfl, rfl, rfl, rfl, rfl, rfl, trivial⟩ rfl
              · rintro x38 rfl
                refine at_seq ?_
                refine at_seq ?_
                refine at_region [0, 1, 2, 3, 4, 5, 6, 7] rfl ?_
                iterate 2 refine at_s T rfl ?_
                refine at_v rfl (g_load T rfl rfl rfl rfl (in_var (j := 7) rfl rfl)) ?_
                refine at_s T rfl ?_
                refine at_v rfl (g_load T rfl rfl rfl rfl (in_var (j := 7) rfl rfl)) ?_
                obtain ⟨v42, V23, Z10⟩ := bind_e Z10
                refine at_cons (at_cR (As := [[(b3, Obj.cells #[(.int .i64 x24), (.int .i64 x25), (.slice a16 (List.length x26) n16), (.int .i64 x27), (.slice a17 (List.length x28) n17)] 71 (0, 0))], H16, H17]) (R := [F, [(b2, Obj.cells #[(.int .i64 x21), (.int .i64 x22), (.slice a15 (List.length x23) n15)] 25 (0, 0))], H15, H18, [(b20, Obj.cells #[(.int .i64 x33), (.int .i64 x34)] 32 (0, 0))]]) (grid_Grid_Edit.R b3 v42) [] [3, 3, 3] rfl rfl rfl rfl has21 rfl rfl (grid_Grid_Edit.c (grid_Grid.mk (api_Map.mk x24 x25 x26) x27 x28) x33 x34 v42 _ V23 s16 s17) ?_)
                rintro _ _ ⟨a21, n21, H21, a22, n22, H22, s21, s22, rfl, rfl⟩
                iterate 2 refine at_s T rfl ?_
                refine at_end ?_
                refine at_sub [(4, (.slice a_l (List.length l) n_l)), (5, (.bool raw)), (13, (.pointer (some ⟨b2, 0, none⟩))), (15, (.pointer (some ⟨b3, 0, none⟩))), (16, (.int .i64 v4)), (17, (.int .i64 x29)), (18, (.slice a18 (List.length x30) n18)), (20, (.int .i64 x31)), (21, (.pointer (some ⟨b20, 0, none⟩))), (22, (.int .i64 x38)), (104, (.bool (v42.1 != x38)))] ⟨rfl, rfl, rfl, rfl, rfl, rfl, rfl, rfl, rfl, rfl, rfl, trivial⟩ ?_
                refine at_then ?_
                refine at_cond rfl (fun c24 => ?_) (fun c24 => ?_)
                · replace Z10 := if_t c24 Z10
                  refine at_seq ?_
                  refine at_region [0] rfl ?_
                  refine at_s T rfl ?_
                  refine at_end ?_
                  refine at_to [(12, (.bool false))] [0] [F] ⟨rfl, trivial⟩ rfl ?_
                  refine at_then ?_
                  refine at_ret ?_
                  refine at_rt ?_
                  refine at_rb ?_
                  refine at_rt ?_
                  refine at_rt ?_
                  refine at_rb ?_
                  refine at_rt ?_
                  obtain rfl := Option.some.inj Z10
                  exact at_post (T := T) rfl (.tmp rfl .nil) (fun w o => ⟨(), rfl, own_to [0] rfl o⟩)
                · replace Z10 := if_f (bf c24) Z10
                  refine at_skip ?_
                  refine at_then ?_
                  obtain ⟨z48, Z25, Z10⟩ := bind_e Z10
                  refine at_seq_mid (σ := Int × Int × List Int × Int × List Int × Option Addr × Nat × Hp × Option Addr × Nat × Hp) (fun ⟨x43, x44, x45, x46, x47, a23, n23, H23, a24, n24, H24⟩ => (x43, x44, x45, x46, x47) = z48 ∧ SliceO (Fl.int .u8) 5 x45 a23 n23 H23 ∧ SliceO (Fl.int .i64) 2 x47 a24 n24 H24) (fun ⟨x43, x44, x45, x46, x47, a23, n23, H23, a24, n24, H24⟩ => [(4, (.slice a_l (List.length l) n_l)), (5, (.bool raw)), (13, (.pointer (some ⟨b2, 0, none⟩))), (15, (.pointer (some ⟨b3, 0, none⟩))), (16, (.int .i64 v4)), (17, (.int .i64 x46)), (18, (.slice a24 (List.length x47) n24)), (20, (.int .i64 x31))]) (fun ⟨x43, x44, x45, x46, x47, a23, n23, H23, a24, n24, H24⟩ => [F, [(b2, Obj.cells #[(.int .i64 x43), (.int .i64 x44), (.slice a23 (List.length x45) n23)] 25 (0, 0))], H23, [(b3, Obj.cells #[(.int .i64 v42.2.m.W), (.int .i64 v42.2.m.H), (.slice a21 (List.length v42.2.m.C) n21), (.int .i64 v42.2.epoch), (.slice a22 (List.length v42.2.versions) n22)] 71 (0, 0))], H21, H22, H24]) ?_ ?_
                  · refine at_seq ?_
                    refine at_region [0, 1] rfl ?_
                    iterate 2 refine at_s T rfl ?_
                    refine at_end ?_
                    refine at_sub [(4, (.slice a_l (List.length l) n_l)), (5, (.bool raw)), (13, (.pointer (some ⟨b2, 0, none⟩))), (15, (.pointer (some ⟨b3, 0, none⟩))), (16, (.int .i64 v4)), (17, (.int .i64 x29)), (18, (.slice a18 (List.length x30) n18)), (20, (.int .i64 x31)), (21, (.pointer (some ⟨b20, 0, none⟩))), (106, (.bool (x38 == 0)))] ⟨rfl, rfl, rfl, rfl, rfl, rfl, rfl, rfl, rfl, rfl, trivial⟩ ?_
                    refine at_then ?_
                    refine at_cond rfl (fun c26 => ?_) (fun c26 => ?_)
                    · replace Z25 := if_t c26 Z25
                      refine at_seq ?_
                      refine at_region [0, 1, 2] rfl ?_
                      iterate 3 refine at_s T rfl ?_
                      refine at_end ?_
                      refine at_sub [(4, (.slice a_l (List.length l) n_l)), (5, (.bool raw)), (13, (.pointer (some ⟨b2, 0, none⟩))), (15, (.pointer (some ⟨b3, 0, none⟩))), (16, (.int .i64 v4)), (17, (.int .i64 (w64 (x29 + 1)))), (18, (.slice a18 (List.length x30) n18)), (20, (.int .i64 x31)), (21, (.pointer (some ⟨b20, 0, none⟩)))] ⟨rfl, rfl, rfl, rfl, rfl, rfl, rfl, rfl, rfl, trivial⟩ ?_
                      refine at_then ?_
                      refine at_seq ?_
                      refine at_region [0, 1, 2, 3, 4, 5, 6, 7] rfl ?_
                      refine at_v rfl (g_loadA T (cs := [(.int .i64 x21), (.int .i64 x22), (.slice a15 (List.length x23) n15)]) rfl rfl rfl rfl rfl rfl (in_varA (j := 1) rfl rfl)) ?_
                      refine at_s T rfl ?_
                      refine at_v rfl (g_load T rfl rfl rfl rfl (in_var (j := 4) rfl rfl)) ?_
                      refine at_s T rfl ?_
                      refine at_v rfl (g_load T rfl rfl rfl rfl (in_var (j := 4) rfl rfl)) ?_
                      refine at_s T rfl ?_
                      obtain ⟨v49, V27, Z25⟩ := bind_e Z25
                      refine at_cons (at_cR (ref11_Edited.R v49) [] [] rfl rfl rfl rfl has30 rfl rfl (ref11_Edited.c (api_Map.mk x21 x22 x23) x33 (wu8 x34) v49 _ V27 (own_of s15 (j := 2) rfl) s15.cap_le) ?_)
                      rintro _ _ ⟨a25, n25, H25, s25, rfl, rfl⟩
                      refine at_cons (at_st T 1 [(.int .i64 v49.W), (.int .i64 v49.H), (.slice a25 (List.length v49.C) n25)] rfl rfl rfl rfl rfl rfl rfl rfl rfl rfl ?_)
                      refine at_end ?_
                      refine at_to [(4, (.slice a_l (List.length l) n_l)), (5, (.bool raw)), (13, (.pointer (some ⟨b2, 0, none⟩))), (15, (.pointer (some ⟨b3, 0, none⟩))), (16, (.int .i64 v4)), (17, (.int .i64 (w64 (x29 + 1)))), (18, (.slice a18 (List.length x30) n18)), (20, (.int .i64 x31)), (21, (.pointer (some ⟨b20, 0, none⟩)))] [0, 0, 1, 1, 1, 1, 1, 1] [F, [(b2, Obj.cells #[(.int .i64 v49.W), (.int .i64 v49.H), (.slice a25 (List.length v49.C) n25)] 25 (0, 0))], H18, [(b20, Obj.cells #[(.int .i64 x33), (.int .i64 x34)] 32 (0, 0))], [(b3, Obj.cells #[(.int .i64 v42.2.m.W), (.int .i64 v42.2.m.H), (.slice a21 (List.length v42.2.m.C) n21), (.int .i64 v42.2.epoch), (.slice a22 (List.length v42.2.versions) n22)] 71 (0, 0))], H21, H22, H25] ⟨rfl, rfl, rfl, rfl, rfl, rfl, rfl, rfl, rfl, trivial⟩ rfl ?_
                      refine at_then ?_
                      refine at_region [0, 1, 2, 3, 4, 5, 6, 7, 8, 9, 10] rfl ?_
                      iterate 2 refine at_s T rfl ?_
                      refine at_v rfl (g_load T rfl rfl rfl rfl (in_var (j := 1) rfl rfl)) ?_
                      refine at_s T rfl ?_
                      refine at_v rfl (g_load T rfl rfl rfl rfl (in_var (j := 1) rfl rfl)) ?_
                      refine at_s T rfl ?_
                      refine at_v rfl (g_load T rfl rfl rfl rfl (in_var (j := 3) rfl rfl)) ?_
                      obtain ⟨v50, V28, Z25⟩ := bind_e Z25
                      refine at_cons (at_c (B := fun _ => []) [] rfl rfl rfl rfl has22 rfl rfl (ref1_Sector.c v49.W v49.H x33 v50 _ V28) (fun _ => ?_))
                      refine at_s T rfl ?_
                      obtain ⟨c29, Z25⟩ := chk_e Z25
                      obtain ⟨q26, o26, e26⟩ := s18.r.addr c29.1 c29.2
                      refine at_v rfl (g_index T rfl rfl rfl rfl rfl e26 c29.1 c29.2) ?_
                      refine at_cons (at_se (k := (Fl.int .i64)) T 2 0 (w64 (x29 + 1)) rfl rfl rfl rfl rfl rfl s18 e26 c29 rfl rfl rfl (fun H27 s27 => ?_))
                      refine at_to [(4, (.slice a_l (List.length l) n_l)), (5, (.bool raw)), (13, (.pointer (some ⟨b2, 0, none⟩))), (15, (.pointer (some ⟨b3, 0, none⟩))), (16, (.int .i64 v4)), (17, (.int .i64 (w64 (x29 + 1)))), (18, (.slice a18 (List.length (List.set x30 (Int.toNat v50) (w64 (x29 + 1)))) n18)), (20, (.int .i64 x31))] [0, 0, 0, 1, 1, 1, 1] [F, [(b2, Obj.cells #[(.int .i64 v49.W), (.int .i64 v49.H), (.slice a25 (List.length v49.C) n25)] 25 (0, 0))], H27, [(b3, Obj.cells #[(.int .i64 v42.2.m.W), (.int .i64 v42.2.m.H), (.slice a21 (List.length v42.2.m.C) n21), (.int .i64 v42.2.epoch), (.slice a22 (List.length v42.2.versions) n22)] 71 (0, 0))], H21, H22, H25] ⟨rfl, rfl, rfl, rfl, rfl, rfl, (by first | rfl | (simp only [List.length_set]; rfl)), rfl, trivial⟩ rfl ?_
                      refine at_end ?_
                      refine at_sub [(4, (.slice a_l (List.length l) n_l)), (5, (.bool raw)), (13, (.pointer (some ⟨b2, 0, none⟩))), (15, (.pointer (some ⟨b3, 0, none⟩))), (16, (.int .i64 v4)), (17, (.int .i64 (w64 (x29 + 1)))), (18, (.slice a18 (List.length (List.set x30 (Int.toNat v50) (w64 (x29 + 1)))) n18)), (20, (.int .i64 x31))] ⟨rfl, rfl, rfl, rfl, rfl, rfl, rfl, rfl, trivial⟩ ?_
                      refine at_then ?_
                      obtain rfl := Option.some.inj Z25
                      exact at_mid (v49.W, v49.H, v49.C, (w64 (x29 + 1)), (List.set x30 (Int.toNat v50) (w64 (x29 + 1))), a25, n25, H25, a18, n18, H27) [0, 0, 4, 1, 1, 1, 0] ⟨rfl, s25, s27⟩ ⟨rfl, rfl, rfl, rfl, rfl, rfl, rfl, rfl, trivial⟩ rfl
                    · replace Z25 := if_f (bf c26) Z25
                      refine at_skip ?_
                      refine at_then ?_
                      obtain rfl := Option.some.inj Z25
                      exact at_mid (x21, x22, x23, x29, x30, a15, n15, H15, a18, n18, H18) [0, 0, 0, 2, 2, 2, 0] ⟨rfl, s15, s18⟩ ⟨rfl, rfl, rfl, rfl, rfl, rfl, rfl, rfl, trivial⟩ rfl
                  · rintro ⟨x43, x44, x45, x46, x47, a23, n23, H23, a24, n24, H24⟩ ⟨rfl, s23, s24⟩
                    refine at_seq ?_
                    refine at_region [0, 1, 2, 3] rfl ?_
                    refine at_s T rfl ?_
                    obtain ⟨v51, V30, Z10⟩ := bind_e Z10
                    refine at_cons (at_c (As := [[(b3, Obj.cells #[(.int .i64 v42.2.m.W), (.int .i64 v42.2.m.H), (.slice a21 (List.length v42.2.m.C) n21), (.int .i64 v42.2.epoch), (.slice a22 (List.length v42.2.versions) n22)] 71 (0, 0))], H21, H22]) (R := [F, [(b2, Obj.cells #[(.int .i64 x43), (.int .i64 x44), (.slice a23 (List.length x45) n23)] 25 (0, 0))], H23, H24]) (B := fun _ => [[(b3, Obj.cells #[(.int .i64 v42.2.m.W), (.int .i64 v42.2.m.H), (.slice a21 (List.length v42.2.m.C) n21), (.int .i64 v42.2.epoch), (.slice a22 (List.length v42.2.versions) n22)] 71 (0, 0))], H21, H22]) [3, 3, 3] rfl rfl rfl rfl has19 rfl rfl (grid_Grid_Epoch.c v42.2 v51 _ V30 s21 s22) (fun _ => ?_))
                    iterate 2 refine at_s T rfl ?_
                    refine at_end ?_
                    refine at_sub [(4, (.slice a_l (List.length l) n_l)), (5, (.bool raw)), (13, (.pointer (some ⟨b2, 0, none⟩))), (15, (.pointer (some ⟨b3, 0, none⟩))), (16, (.int .i64 v4)), (17, (.int .i64 x46)), (18, (.slice a24 (List.length x47) n24)), (20, (.int .i64 x31)), (129, (.bool (v51 != x46)))] ⟨rfl, rfl, rfl, rfl, rfl, rfl, rfl, rfl, rfl, trivial⟩ ?_
                    refine at_then ?_
                    refine at_cond rfl (fun c31 => ?_) (fun c31 => ?_)
                    · replace Z10 := if_t c31 Z10
                      refine at_seq ?_
                      refine at_region [0] rfl ?_
                      refine at_s T rfl ?_
                      refine at_end ?_
                      refine at_to [(12, (.bool false))] [0] [F] ⟨rfl, trivial⟩ rfl ?_
                      refine at_then ?_
                      refine at_ret ?_
                      refine at_rb ?_
                      refine at_rt ?_
                      refine at_rt ?_
                      refine at_rb ?_
                      refine at_rt ?_
                      obtain rfl := Option.some.inj Z10
                      exact at_post (T := T) rfl (.tmp rfl .nil) (fun w o => ⟨(), rfl, own_to [0] rfl o⟩)
                    · replace Z10 := if_f (bf c31) Z10
                      refine at_skip ?_
                      refine at_nb ?_
                      refine at_then ?_
                      refine at_region [0, 1, 2] rfl ?_
                      iterate 3 refine at_s T rfl ?_
                      refine at_end ?_
                      refine at_sub [(4, (.slice a_l (List.length l) n_l)), (5, (.bool raw)), (13, (.pointer (some ⟨b2, 0, none⟩))), (15, (.pointer (some ⟨b3, 0, none⟩))), (16, (.int .i64 v4)), (17, (.int .i64 x46)), (18, (.slice a24 (List.length x47) n24)), (20, (.int .i64 (w64 (x31 + 1))))] ⟨rfl, rfl, rfl, rfl, rfl, rfl, rfl, rfl, trivial⟩ ?_
                      refine at_then ?_
                      exact at_roundL (k32, x43, x44, x45, v42.2.m.W, v42.2.m.H, v42.2.m.C, v42.2.epoch, v42.2.versions, x46, x47, (w64 (x31 + 1)), a23, n23, H23, a21, n21, H21, a22, n22, H22, a24, n24, H24) [0, 0, 0, 1, 1, 1, 0] ⟨Z10, s23, s21, s22, s24⟩ (Nat.lt_succ_self _) ⟨rfl, rfl, rfl, rfl, rfl, rfl, rfl, rfl, trivial⟩ rfl
          · replace Z10 := if_f (bf c12) Z10
            refine at_exit ?_
            refine at_xt ?_
            refine at_xt ?_
            refine at_xb ?_
            refine at_then ?_
            refine at_seq ?_
            refine at_seq ?_
            refine at_region [0] rfl ?_
            refine at_s T rfl ?_
            refine at_end ?_
            refine at_sub [(13, (.pointer (some ⟨b2, 0, none⟩))), (15, (.pointer (some ⟨b3, 0, none⟩))), (16, (.int .i64 v4)), (18, (.slice a18 (List.length x30) n18)), (23, (.int .i64 0))] ⟨rfl, rfl, rfl, rfl, rfl, trivial⟩ ?_
            refine at_then ?_
            refine at_block ?_
            refine at_loopL (σ := Nat × Int) (fun ⟨k54, x53⟩ => law5_GridPlays.l2 k54 v4 x25 x24 x26 x28 x21 x27 x30 x22 x23 x53 = some r) (fun ⟨k54, x53⟩ => [(13, (.pointer (some ⟨b2, 0, none⟩))), (15, (.pointer (some ⟨b3, 0, none⟩))), (16, (.int .i64 v4)), (18, (.slice a18 (List.length x30) n18)), (23, (.int .i64 x53))]) (fun ⟨k54, x53⟩ => [F, [(b2, Obj.cells #[(.int .i64 x21), (.int .i64 x22), (.slice a15 (List.length x23) n15)] 25 (0, 0))], H15, [(b3, Obj.cells #[(.int .i64 x24), (.int .i64 x25), (.slice a16 (List.length x26) n16), (.int .i64 x27), (.slice a17 (List.length x28) n17)] 71 (0, 0))], H16, H17, H18]) (fun s => s.1) (fuel, 0) [0, 0, 0, 0, 0, 0, 0] Z10 ⟨rfl, rfl, rfl, rfl, rfl, trivial⟩ rfl ?_
            rintro ⟨k54, x53⟩ Z32
            replace Z32 : law5_GridPlays.l2 k54 v4 x25 x24 x26 x28 x21 x27 x30 x22 x23 x53 = some r := Z32
            rcases k54 with _ | k54
            · rw [law5_GridPlays.l2] at Z32; cases Z32
            · rw [law5_GridPlays.l2] at Z32
              refine at_seq ?_
              refine at_seq ?_
              refine at_region [0, 1, 2] rfl ?_
              iterate 3 refine at_s T rfl ?_
              refine at_end ?_
              refine at_sub [(13, (.pointer (some ⟨b2, 0, none⟩))), (15, (.pointer (some ⟨b3, 0, none⟩))), (16, (.int .i64 v4)), (18, (.slice a18 (List.length x30) n18)), (23, (.int .i64 x53)), (132, (.bool (decide (x53 < v4))))] ⟨rfl, rfl, rfl, rfl, rfl, rfl, trivial⟩ ?_
              refine at_then ?_
              refine at_cond rfl (fun c33 => ?_) (fun c33 => ?_)
              · replace Z32 := if_t (of_decide_eq_true c33) Z32
                refine at_skip ?_
                refine at_then ?_
                refine at_seq ?_
                refine at_block ?_
                refine at_seq ?_
                refine at_region [0, 1, 2, 3, 4, 5, 6, 7, 8] rfl ?_
                iterate 2 refine at_s T rfl ?_
                obtain ⟨v55, V34, Z32⟩ := bind_e Z32
                refine at_cons (at_cR (As := [[(b3, Obj.cells #[(.int .i64 x24), (.int .i64 x25), (.slice a16 (List.length x26) n16), (.int .i64 x27), (.slice a17 (List.length x28) n17)] 71 (0, 0))], H16, H17]) (R := [F, [(b2, Obj.cells #[(.int .i64 x21), (.int .i64 x22), (.slice a15 (List.length x23) n15)] 25 (0, 0))], H15, H18]) (grid_Grid_Tile.R v55) [[(b3, Obj.cells #[(.int .i64 x24), (.int .i64 x25), (.slice a16 (List.length x26) n16), (.int .i64 x27), (.slice a17 (List.length x28) n17)] 71 (0, 0))], H16, H17] [3, 3, 3] rfl rfl rfl rfl has31 rfl rfl (grid_Grid_Tile.c (grid_Grid.mk (api_Map.mk x24 x25 x26) x27 x28) x53 v55 _ V34 s16 s17) ?_)
                rintro _ _ ⟨a28, n28, H28, s28, rfl, rfl⟩
                iterate 3 refine at_s T rfl ?_
                refine at_cons (at_al T [(.int .i64 0), (.int .i64 0), (.slice none 0 0)] rfl rfl rfl rfl (fun b29 => ?_))
                refine at_cons (at_st T 8 [(.int .i64 v55.1.W), (.int .i64 v55.1.H), (.slice a28 (List.length v55.1.C) n28)] rfl rfl rfl rfl rfl rfl rfl rfl rfl rfl ?_)
                refine at_s T rfl ?_
                refine at_end ?_
                refine at_sub [(13, (.pointer (some ⟨b2, 0, none⟩))), (15, (.pointer (some ⟨b3, 0, none⟩))), (16, (.int .i64 v4)), (18, (.slice a18 (List.length x30) n18)), (23, (.int .i64 x53)), (24, (.pointer (some ⟨b29, 0, none⟩))), (25, (.bool v55.2))] ⟨rfl, rfl, rfl, rfl, rfl, rfl, rfl, trivial⟩ ?_
                refine at_then ?_
                obtain ⟨z57, Z35, Z32⟩ := bind_e Z32
                refine at_seq_mid (σ := Bool) (fun x56 => x56 = z57) (fun x56 => [(13, (.pointer (some ⟨b2, 0, none⟩))), (15, (.pointer (some ⟨b3, 0, none⟩))), (16, (.int .i64 v4)), (18, (.slice a18 (List.length x30) n18)), (23, (.int .i64 x53)), (160, (.bool x56))]) (fun x56 => [F, [(b2, Obj.cells #[(.int .i64 x21), (.int .i64 x22), (.slice a15 (List.length x23) n15)] 25 (0, 0))], H15, [(b3, Obj.cells #[(.int .i64 x24), (.int .i64 x25), (.slice a16 (List.length x26) n16), (.int .i64 x27), (.slice a17 (List.length x28) n17)] 71 (0, 0))], H16, H17, H18]) ?_ ?_
                · refine at_region_m [[], [0], [0, 1], [0, 1, 2], [0, 1, 2], [0, 1, 2], [0, 1, 2, 4, 5], [0, 1, 2, 3, 4, 5, 6], [0, 1, 2, 3, 4, 5, 6, 7], [0, 1, 2, 3, 4, 5, 6, 7, 8], [0, 1, 2, 3, 4, 5, 6, 7, 8, 9], [0, 1, 2, 3, 4, 5, 6, 7, 8, 9, 10], [0, 1, 2, 3, 4, 5, 6, 7, 8, 9, 10], [0, 1, 2, 3, 4, 5, 6, 7, 8, 9, 10, 11, 12], [0, 1, 2, 3, 4, 5, 6, 7, 8, 9, 10], [0, 1, 2, 3, 4, 5, 6, 7, 8, 9, 10], [0, 1, 2, 3, 4, 5, 6, 7, 8, 9, 10, 14, 15], [0, 1, 2, 3, 4, 5, 6, 7, 8, 9, 10, 14, 15, 16], [0, 1, 2, 3, 4, 5, 6, 7, 8, 9, 10, 11, 12, 13, 14, 15, 16, 17], [0, 1, 2, 3, 4, 5, 6, 7, 8, 9, 10, 11, 12, 13, 14, 15, 16, 17, 18]] [] [F, [(b2, Obj.cells #[(.int .i64 x21), (.int .i64 x22), (.slice a15 (List.length x23) n15)] 25 (0, 0))], H15, H18, H28, [(b3, Obj.cells #[(.int .i64 x24), (.int .i64 x25), (.slice a16 (List.length x26) n16), (.int .i64 x27), (.slice a17 (List.length x28) n17)] 71 (0, 0))], H16, H17, [(b29, Obj.cells #[(.int .i64 v55.1.W), (.int .i64 v55.1.H), (.slice a28 (List.length v55.1.C) n28)] 46 (0, 0))]] mix (by kernel_rfl) (by repeat first | exact pf_body | refine pf_then ?_ | refine pf_block ?_) (fun hg pf => ?_)
                  refine atm_s T 0 hg pf (by kernel_rfl) (still_o [0, 0, 0, 0, 0, 0, 0, 0, 0] rfl) rfl ?_
                  refine atm_s T 1 hg pf (by kernel_rfl) (still_o [0, 0, 0, 0, 0, 0, 0, 0, 0] rfl) rfl ?_
                  refine atm_s T 2 hg pf (by kernel_rfl) (still_o [0, 0, 0, 0, 0, 0, 0, 0, 0] rfl) rfl ?_
                  refine at_case (s := 143) rfl (fun c36 => ?_) (fun c36 => ?_)
                  · replace Z35 := if_t c36 Z35
                    refine atm_s T 3 hg pf (by kernel_rfl) (still_o [0, 0, 0, 0, 0, 0, 0, 0, 0] rfl) rfl ?_
                    refine atm_s T 4 hg pf (by kernel_rfl) (still_o [0, 0, 0, 0, 0, 0, 0, 0, 0] rfl) rfl ?_
                    refine atm_s T 5 hg pf (by kernel_rfl) (still_o [0, 0, 0, 0, 0, 0, 0, 0, 0] rfl) rfl ?_
                    refine atm_s T 6 hg pf (by kernel_rfl) (still_o [0, 0, 0, 0, 0, 0, 0, 0, 0] rfl) rfl ?_
                    refine atm_s T 7 hg pf (by kernel_rfl) (still_o [0, 0, 0, 0, 0, 0, 0, 0, 0] rfl) rfl ?_
                    refine atm_s T 8 hg pf (by kernel_rfl) (still_o [0, 0, 0, 0, 0, 0, 0, 0, 0] rfl) rfl ?_
                    refine atm_s T 9 hg pf (by kernel_rfl) (still_o [0, 0, 0, 0, 0, 0, 0, 0, 0] rfl) rfl ?_
                    refine atm_s T 10 hg pf (by kernel_rfl) (still_o [0, 0, 0, 0, 0, 0, 0, 0, 0] rfl) rfl ?_
                    refine atm_s T 11 hg pf (by kernel_rfl) (still_o [0, 0, 0, 0, 0, 0, 0, 0, 0] rfl) rfl ?_
                    refine atm_s T 12 hg pf (by kernel_rfl) (still_o [0, 0, 0, 0, 0, 0, 0, 0, 0] rfl) rfl ?_
                    refine atm_s T 13 hg pf (by kernel_rfl) (still_o [0, 0, 0, 0, 0, 0, 0, 0, 0] rfl) rfl ?_
                    refine atm_s T 14 hg pf (by kernel_rfl) (still_o [0, 0, 0, 0, 0, 0, 0, 0, 0] rfl) rfl ?_
                    refine atm_s T 15 hg pf (by kernel_rfl) (still_o [0, 0, 0, 0, 0, 0, 0, 0, 0] rfl) rfl ?_
                    refine atm_s T 16 hg pf (by kernel_rfl) (still_o [0, 0, 0, 0, 0, 0, 0, 0, 0] rfl) rfl ?_
                    refine atm_s T 17 hg pf (by kernel_rfl) (still_o [0, 0, 0, 0, 0, 0, 0, 0, 0] rfl) rfl ?_
                    refine atm_s T 18 hg pf (by kernel_rfl) (still_o [0, 0, 0, 0, 0, 0, 0, 0, 0] rfl) rfl ?_
                    refine atm_s T 19 hg pf (by kernel_rfl) (still_o [0, 0, 0, 0, 0, 0, 0, 0, 0] rfl) rfl ?_
                    refine atm_end (by kernel_rfl) ?_
                    refine at_to [(13, (.pointer (some ⟨b2, 0, none⟩))), (15, (.pointer (some ⟨b3, 0, none⟩))), (16, (.int .i64 v4)), (18, (.slice a18 (List.length x30) n18)), (23, (.int .i64 x53)), (160, (.bool true))] [0, 0, 0, 0, 1, 1, 1] [F, [(b2, Obj.cells #[(.int .i64 x21), (.int .i64 x22), (.slice a15 (List.length x23) n15)] 25 (0, 0))], H15, H18, [(b3, Obj.cells #[(.int .i64 x24), (.int .i64 x25), (.slice a16 (List.length x26) n16), (.int .i64 x27), (.slice a17 (List.length x28) n17)] 71 (0, 0))], H16, H17] ⟨rfl, rfl, rfl, rfl, rfl, rfl, trivial⟩ rfl ?_
                    refine at_then ?_
                    obtain rfl := Option.some.inj Z35
                    exact at_mid true [0, 0, 0, 1, 1, 1, 0] rfl ⟨rfl, rfl, rfl, rfl, rfl, rfl, trivial⟩ rfl
                  · replace Z35 := if_f (bf c36) Z35
                    refine atm_v 3 hg pf (by kernel_rfl) (still_o [0, 0, 0, 0, 0, 0, 0, 0, 0] rfl) rfl rfl (g_loadA T (cs := [(.int .i64 v55.1.W), (.int .i64 v55.1.H), (.slice a28 (List.length v55.1.C) n28)]) rfl rfl rfl rfl rfl rfl (in_varA (j := 8) rfl rfl)) ?_
                    refine atm_v 4 hg pf (by kernel_rfl) (still_o [0, 0, 0, 0, 0, 0, 0, 0, 0] rfl) rfl rfl (g_loadA T (cs := [(.int .i64 x21), (.int .i64 x22), (.slice a15 (List.length x23) n15)]) rfl rfl rfl rfl rfl rfl (in_varA (j := 1) rfl rfl)) ?_
                    refine atm_s T 5 hg pf (by kernel_rfl) (still_o [0, 0, 0, 0, 0, 0, 0, 0, 0] rfl) rfl ?_
                    refine atm_one 6 (by kernel_rfl) ?_
                    obtain ⟨v58, V37, Z35⟩ := bind_e Z35
                    refine at_cR (ref1_TileOf.R v58) [] [] rfl rfl rfl rfl has33 rfl rfl (ref1_TileOf.c (api_Map.mk x21 x22 x23) x53 v58 _ V37 (own_of s15 (j := 2) rfl) s15.cap_le) ?_
                    rintro _ _ ⟨a30, n30, H30, s30, rfl, rfl⟩
                    refine atm_next (still_o [0, 0, 0, 0, 0, 0, 0, 0, 0] rfl) ?_
                    refine atm_one 7 (by kernel_rfl) ?_
                    obtain ⟨v59, V38, Z35⟩ := bind_e Z35
                    refine at_c (B := fun _ => []) [] rfl rfl rfl rfl has32 rfl rfl (ref1_SameTile.c v55.1 v58 v59 _ V38 (own_of s28 (j := 4) rfl) s28.cap_le (own_of s30 (j := 9) rfl) s30.cap_le) (fun _ => ?_)
                    refine atm_next (still_o [0, 0, 0, 0, 0, 0, 0, 0, 0] rfl) ?_
                    refine atm_s T 8 hg pf (by kernel_rfl) (still_o [0, 0, 0, 0, 0, 0, 0, 0, 0] rfl) rfl ?_
                    refine atm_s T 9 hg pf (by kernel_rfl) (still_o [0, 0, 0, 0, 0, 0, 0, 0, 0] rfl) rfl ?_
                    refine atm_s T 10 hg pf (by kernel_rfl) (still_o [0, 0, 0, 0, 0, 0, 0, 0, 0] rfl) rfl ?_
                    refine at_case (s := 151) rfl (fun c39 => ?_) (fun c39 => ?_)
                    · replace Z35 := if_t c39 Z35
                      refine atm_s T 11 hg pf (by kernel_rfl) (still_o [0, 0, 0, 0, 0, 0, 0, 0, 0] rfl) rfl ?_
                      refine atm_s T 12 hg pf (by kernel_rfl) (still_o [0, 0, 0, 0, 0, 0, 0, 0, 0] rfl) rfl ?_
                      refine atm_s T 13 hg pf (by kernel_rfl) (still_o [0, 0, 0, 0, 0, 0, 0, 0, 0] rfl) rfl ?_
                      refine atm_s T 14 hg pf (by kernel_rfl) (still_o [0, 0, 0, 0, 0, 0, 0, 0, 0] rfl) rfl ?_
                      refine atm_s T 15 hg pf (by kernel_rfl) (still_o [0, 0, 0, 0, 0, 0, 0, 0, 0] rfl) rfl ?_
                      refine atm_s T 16 hg pf (by kernel_rfl) (still_o [0, 0, 0, 0, 0, 0, 0, 0, 0] rfl) rfl ?_
                      refine atm_s T 17 hg pf (by kernel_rfl) (still_o [0, 0, 0, 0, 0, 0, 0, 0, 0] rfl) rfl ?_
                      refine atm_s T 18 hg pf (by kernel_rfl) (still_o [0, 0, 0, 0, 0, 0, 0, 0, 0] rfl) rfl ?_
                      refine atm_s T 19 hg pf (by kernel_rfl) (still_o [0, 0, 0, 0, 0, 0, 0, 0, 0] rfl) rfl ?_
                      refine atm_end (by kernel_rfl) ?_
                      refine at_to [(13, (.pointer (some ⟨b2, 0, none⟩))), (15, (.pointer (some ⟨b3, 0, none⟩))), (16, (.int .i64 v4)), (18, (.slice a18 (List.length x30) n18)), (23, (.int .i64 x53)), (160, (.bool true))] [0, 0, 0, 0, 1, 1, 1] [F, [(b2, Obj.cells #[(.int .i64 x21), (.int .i64 x22), (.slice a15 (List.length x23) n15)] 25 (0, 0))], H15, H18, [(b3, Obj.cells #[(.int .i64 x24), (.int .i64 x25), (.slice a16 (List.length x26) n16), (.int .i64 x27), (.slice a17 (List.length x28) n17)] 71 (0, 0))], H16, H17] ⟨rfl, rfl, rfl, rfl, rfl, rfl, trivial⟩ rfl ?_
                      refine at_then ?_
                      obtain rfl := Option.some.inj Z35
                      exact at_mid true [0, 0, 0, 1, 1, 1, 0] rfl ⟨rfl, rfl, rfl, rfl, rfl, rfl, trivial⟩ rfl
                    · replace Z35 := if_f (bf c39) Z35
                      refine atm_s T 11 hg pf (by kernel_rfl) (still_o [0, 0, 0, 0, 0, 0, 0, 0, 0] rfl) rfl ?_
                      refine atm_s T 12 hg pf (by kernel_rfl) (still_o [0, 0, 0, 0, 0, 0, 0, 0, 0] rfl) rfl ?_
                      refine atm_s T 14 hg pf (by kernel_rfl) (still_o [0, 0, 0, 0, 0, 0, 0, 0, 0] rfl) rfl ?_
                      refine atm_s T 15 hg pf (by kernel_rfl) (still_o [0, 0, 0, 0, 0, 0, 0, 0, 0] rfl) rfl ?_
                      obtain ⟨c40, Z35⟩ := chk_e Z35
                      obtain ⟨q31, o31, e31⟩ := s18.r.addr c40.1 c40.2
                      refine atm_v 16 hg pf (by kernel_rfl) (still_o [0, 0, 0, 0, 0, 0, 0, 0, 0] rfl) rfl rfl (g_index T rfl rfl rfl rfl rfl e31 c40.1 c40.2) ?_
                      refine atm_v 17 hg pf (by kernel_rfl) (still_o [0, 0, 0, 0, 0, 0, 0, 0, 0] rfl) rfl rfl (g_load T rfl rfl rfl rfl (in_elem1 (k := (Fl.int .i64)) (own_of s18 (j := 3) rfl) e31 c40 0 rfl)) ?_
                      refine atm_one 13 (by kernel_rfl) ?_
                      obtain ⟨v60, V41, Z35⟩ := bind_e Z35
                      refine at_c (As := [[(b3, Obj.cells #[(.int .i64 x24), (.int .i64 x25), (.slice a16 (List.length x26) n16), (.int .i64 x27), (.slice a17 (List.length x28) n17)] 71 (0, 0))], H16, H17]) (R := [F, [(b2, Obj.cells #[(.int .i64 x21), (.int .i64 x22), (.slice a15 (List.length x23) n15)] 25 (0, 0))], H15, H18, H28, [(b29, Obj.cells #[(.int .i64 v55.1.W), (.int .i64 v55.1.H), (.slice a28 (List.length v55.1.C) n28)] 46 (0, 0))], H30]) (B := fun _ => [[(b3, Obj.cells #[(.int .i64 x24), (.int .i64 x25), (.slice a16 (List.length x26) n16), (.int .i64 x27), (.slice a17 (List.length x28) n17)] 71 (0, 0))], H16, H17]) [5, 5, 5] rfl rfl rfl rfl has18 rfl rfl (grid_Grid_Version.c (grid_Grid.mk (api_Map.mk x24 x25 x26) x27 x28) x53 v60 _ V41 s16 s17) (fun _ => ?_)
                      refine atm_next (still_o [0, 0, 0, 0, 0, 2, 2, 2, 0] rfl) ?_
                      refine atm_s T 18 hg pf (by kernel_rfl) (still_o [0, 0, 0, 0, 0, 2, 2, 2, 0] rfl) rfl ?_
                      refine atm_s T 19 hg pf (by kernel_rfl) (still_o [0, 0, 0, 0, 0, 2, 2, 2, 0] rfl) rfl ?_
                      refine atm_end (by kernel_rfl) ?_
                      refine at_to [(13, (.pointer (some ⟨b2, 0, none⟩))), (15, (.pointer (some ⟨b3, 0, none⟩))), (16, (.int .i64 v4)), (18, (.slice a18 (List.length x30) n18)), (23, (.int .i64 x53)), (160, (.bool (v60 != (rd x30 x53))))] [0, 0, 0, 0, 3, 3, 3] [F, [(b2, Obj.cells #[(.int .i64 x21), (.int .i64 x22), (.slice a15 (List.length x23) n15)] 25 (0, 0))], H15, H18, [(b3, Obj.cells #[(.int .i64 x24), (.int .i64 x25), (.slice a16 (List.length x26) n16), (.int .i64 x27), (.slice a17 (List.length x28) n17)] 71 (0, 0))], H16, H17] ⟨rfl, rfl, rfl, rfl, rfl, rfl, trivial⟩ rfl ?_
                      refine at_then ?_
                      obtain rfl := Option.some.inj Z35
                      exact at_mid (v60 != (rd x30 x53)) [0, 0, 0, 1, 1, 1, 0] rfl ⟨rfl, rfl, rfl, rfl, rfl, rfl, trivial⟩ rfl
                · rintro x56 rfl
                  refine at_cond rfl (fun c42 => ?_) (fun c42 => ?_)
                  · replace Z32 := if_t c42 Z32
                    refine at_seq ?_
                    refine at_region [0] rfl ?_
                    refine at_s T rfl ?_
                    refine at_end ?_
                    refine at_to [(12, (.bool false))] [0] [F] ⟨rfl, trivial⟩ rfl ?_
                    refine at_then ?_
                    refine at_ret ?_
                    refine at_rb ?_
                    refine at_rt ?_
                    refine at_rt ?_
                    refine at_rb ?_
                    refine at_rt ?_
                    obtain rfl := Option.some.inj Z32
                    exact at_post (T := T) rfl (.tmp rfl .nil) (fun w o => ⟨(), rfl, own_to [0] rfl o⟩)
                  · replace Z32 := if_f (bf c42) Z32
                    refine at_skip ?_
                    refine at_nb ?_
                    refine at_then ?_
                    refine at_region [0, 1, 2] rfl ?_
                    iterate 3 refine at_s T rfl ?_
                    refine at_end ?_
                    refine at_sub [(13, (.pointer (some ⟨b2, 0, none⟩))), (15, (.pointer (some ⟨b3, 0, none⟩))), (16, (.int .i64 v4)), (18, (.slice a18 (List.length x30) n18)), (23, (.int .i64 (w64 (x53 + 1))))] ⟨rfl, rfl, rfl, rfl, rfl, trivial⟩ ?_
                    refine at_then ?_
                    exact at_roundL (k54, (w64 (x53 + 1))) [0, 0, 0, 0, 0, 0, 0] Z32 (Nat.lt_succ_self _) ⟨rfl, rfl, rfl, rfl, rfl, trivial⟩ rfl
              · replace Z32 := if_f (of_decide_eq_false c33) Z32
                refine at_exit ?_
                refine at_xt ?_
                refine at_xt ?_
                refine at_xb ?_
                refine at_then ?_
                refine at_seq ?_
                refine at_region [0, 1, 2, 3, 4, 5, 6] rfl ?_
                refine at_s T rfl ?_
                obtain ⟨v61, V43, Z32⟩ := bind_e Z32
                refine at_cons (at_c (As := [[(b3, Obj.cells #[(.int .i64 x24), (.int .i64 x25), (.slice a16 (List.length x26) n16), (.int .i64 x27), (.slice a17 (List.length x28) n17)] 71 (0, 0))], H16, H17]) (R := [F, [(b2, Obj.cells #[(.int .i64 x21), (.int .i64 x22), (.slice a15 (List.length x23) n15)] 25 (0, 0))], H15, H18]) (B := fun _ => [[(b3, Obj.cells #[(.int .i64 x24), (.int .i64 x25), (.slice a16 (List.length x26) n16), (.int .i64 x27), (.slice a17 (List.length x28) n17)] 71 (0, 0))], H16, H17]) [3, 3, 3] rfl rfl rfl rfl has34 rfl rfl (grid_Grid_Size.c (grid_Grid.mk (api_Map.mk x24 x25 x26) x27 x28) v61 _ V43 s16 s17) (fun _ => ?_))
                iterate 5 refine at_s T rfl ?_
                refine at_end ?_
                refine at_to [(13, (.pointer (some ⟨b2, 0, none⟩))), (15, (.pointer (some ⟨b3, 0, none⟩))), (16, (.int .i64 v4)), (26, (.int .i64 v61.1)), (27, (.int .i64 v61.2))] [0, 0, 0, 1, 1, 1] [F, [(b2, Obj.cells #[(.int .i64 x21), (.int .i64 x22), (.slice a15 (List.length x23) n15)] 25 (0, 0))], H15, [(b3, Obj.cells #[(.int .i64 x24), (.int .i64 x25), (.slice a16 (List.length x26) n16), (.int .i64 x27), (.slice a17 (List.length x28) n17)] 71 (0, 0))], H16, H17] ⟨rfl, rfl, rfl, rfl, rfl, trivial⟩ rfl ?_
                refine at_then ?_
                refine at_seq ?_
                refine at_region [0, 1, 2, 3, 4, 5, 6, 7, 8] rfl ?_
                iterate 2 refine at_s T rfl ?_
                obtain ⟨v62, V44, Z32⟩ := bind_e Z32
                refine at_cons (at_cR (As := [[(b3, Obj.cells #[(.int .i64 x24), (.int .i64 x25), (.slice a16 (List.length x26) n16), (.int .i64 x27), (.slice a17 (List.length x28) n17)] 71 (0, 0))], H16, H17]) (R := [F, [(b2, Obj.cells #[(.int .i64 x21), (.int .i64 x22), (.slice a15 (List.length x23) n15)] 25 (0, 0))], H15]) (grid_Grid_Tile.R v62) [[(b3, Obj.cells #[(.int .i64 x24), (.int .i64 x25), (.slice a16 (List.length x26) n16), (.int .i64 x27), (.slice a17 (List.length x28) n17)] 71 (0, 0))], H16, H17] [3, 3, 3] rfl rfl rfl rfl has31 rfl rfl (grid_Grid_Tile.c (grid_Grid.mk (api_Map.mk x24 x25 x26) x27 x28) v4 v62 _ V44 s16 s17) ?_)
                rintro _ _ ⟨a32, n32, H32, s32, rfl, rfl⟩
                iterate 3 refine at_s T rfl ?_
                refine at_cons (at_al T [(.int .i64 0), (.int .i64 0), (.slice none 0 0)] rfl rfl rfl rfl (fun b33 => ?_))
                refine at_cons (at_st T 7 [(.int .i64 v62.1.W), (.int .i64 v62.1.H), (.slice a32 (List.length v62.1.C) n32)] rfl rfl rfl rfl rfl rfl rfl rfl rfl rfl ?_)
                refine at_s T rfl ?_
                refine at_end ?_
                refine at_sub [(13, (.pointer (some ⟨b2, 0, none⟩))), (15, (.pointer (some ⟨b3, 0, none⟩))), (16, (.int .i64 v4)), (26, (.int .i64 v61.1)), (27, (.int .i64 v61.2)), (28, (.pointer (some ⟨b33, 0, none⟩))), (29, (.bool v62.2))] ⟨rfl, rfl, rfl, rfl, rfl, rfl, rfl, trivial⟩ ?_
                refine at_then ?_
                obtain ⟨z64, Z45, Z32⟩ := bind_e Z32
                refine at_seq_mid (σ := Bool) (fun x63 => x63 = z64) (fun x63 => [(12, (.bool x63))]) (fun x63 => [F]) ?_ ?_
                · refine at_region_m [[], [0], [0, 1], [0, 1], [0, 1, 3], [0, 1, 2, 3, 4], [0, 1, 2, 3, 4, 5], [0, 1, 2, 3, 4, 5, 6], [0, 1, 2, 3, 4, 5, 6, 7], [0, 1, 2, 3, 4, 5, 6, 7], [0, 1, 2, 3, 4, 5, 6, 7, 9], [0, 1, 2, 3, 4, 5, 6, 7, 8, 9, 10], [0, 1, 2, 3, 4, 5, 6, 7, 8, 9, 10, 11], [0, 1, 2, 3, 4, 5, 6, 7, 8, 9, 10, 11, 12], [0, 1, 2, 3, 4, 5, 6, 7, 8, 9, 10, 11, 12, 13], [0, 1, 2, 3, 4, 5, 6, 7, 8, 9, 10, 11, 12, 13, 14], [0, 1, 2, 3, 4, 5, 6, 7, 8, 9, 10, 11, 12, 13], [0, 1, 2, 3, 4, 5, 6, 7, 8, 9, 10, 11, 12, 13, 14, 15, 16], [0, 1, 2, 3, 4, 5, 6, 7, 8, 9, 10, 11, 12, 13, 14, 15, 16, 17], [0, 1, 2, 3, 4, 5, 6, 7, 8, 9, 10, 11, 12, 13, 14, 15, 16, 17, 18], [0, 1, 2, 3, 4, 5, 6, 7, 8, 9, 10, 11, 12, 13, 14, 15, 16, 17, 18, 19], [0, 1, 2, 3, 4, 5, 6, 7, 8, 9, 10, 11, 12, 13, 14, 15, 16, 17, 18, 19, 20], [0, 1, 2, 3, 4, 5, 6, 7, 8, 9, 10, 11, 12, 13, 14, 15, 16, 17, 18, 19, 20, 21], [0, 1, 2, 3, 4, 5, 6, 7, 8, 9, 10, 11, 12, 13, 14, 15, 16, 17, 18, 19, 20, 21, 22], [0, 1, 2, 3, 4, 5, 6, 7, 8, 9, 10, 11, 12, 13, 14, 15, 16, 17, 18, 19, 20, 21, 22, 23], [0, 1, 2, 3, 4, 5, 6, 7, 8, 9, 10, 11, 12, 13, 14, 15, 16, 17, 18, 19, 20, 21, 22, 23, 24], [0, 1, 2, 3, 4, 5, 6, 7, 8, 9, 10, 11, 12, 13, 14, 15, 16, 17, 18, 19, 20, 21, 22, 23, 24, 25], [0, 1, 2, 3, 4, 5, 6, 7, 8, 9, 10, 11, 12, 13, 14, 15, 16, 17, 18, 19, 20, 21, 22, 23, 24, 25, 26], [0, 1, 2, 3, 4, 5, 6, 7, 8, 9, 10, 11, 12, 13, 14, 15, 16, 17, 18, 19, 20, 21, 22, 23, 24, 25, 26, 27], [0, 1, 2, 3, 4, 5, 6, 7, 8, 9, 10, 11, 12, 13, 14, 15, 16, 17, 18, 19, 20, 21, 22, 23, 24, 25, 26, 27, 28], [0, 1, 2, 3, 4, 5, 6, 7, 8, 9, 10, 11, 12, 13, 14, 15, 16, 17, 18, 19, 20, 21, 22, 23, 24, 25, 26, 27, 28, 29], [0, 1, 2, 3, 4, 5, 6, 7, 8, 9, 10, 11, 12, 13, 14, 15, 16, 17, 18, 19, 20, 21, 22, 23, 24, 25, 26, 27, 28, 29], [0, 1, 2, 3, 4, 5, 6, 7, 8, 9, 10, 11, 12, 13, 14, 15, 16, 17, 18, 19, 20, 21, 22, 23, 24, 25, 26, 27, 28, 29, 30, 31], [0, 1, 2, 3, 4, 5, 6, 7, 8, 9, 10, 11, 12, 13, 14, 15, 16, 17, 18, 19, 20, 21, 22, 23, 24, 25, 26, 27, 28, 29, 30, 31, 32], [0, 1, 2, 3, 4, 5, 6, 7, 8, 9, 10, 11, 12, 13, 14, 15, 16, 17, 18, 19, 20, 21, 22, 23, 24, 25, 26, 27, 28, 29, 30, 31, 32, 33], [0, 1, 2, 3, 4, 5, 6, 7, 8, 9, 10, 11, 12, 13, 14, 15, 16, 17, 18, 19, 20, 21, 22, 23, 24, 25, 26, 27, 28, 29, 30, 31, 32, 33, 34], [0, 1, 2, 3, 4, 5, 6, 7, 8, 9, 10, 11, 12, 13, 14, 15, 16, 17, 18, 19, 20, 21, 22, 23, 24, 25, 26, 27, 28, 29, 30, 31, 32, 33, 34, 35], [0, 1, 2, 3, 4, 5, 6, 7, 8, 9, 10, 11, 12, 13, 14, 15, 16, 17, 18, 19, 20, 21, 22, 23, 24, 25, 26, 27, 28, 29, 30, 31, 32, 33, 34, 35, 36], [0, 1, 2, 3, 4, 5, 6, 7, 8, 9, 10, 11, 12, 13, 14, 15, 16, 17, 18, 19, 20, 21, 22, 23, 24, 25, 26, 27, 28, 29, 30, 31, 32, 33, 34, 35, 36, 37], [0, 1, 2, 3, 4, 5, 6, 7, 8, 9, 10, 11, 12, 13, 14, 15, 16, 17, 18, 19, 20, 21, 22, 23, 24, 25, 26, 27, 28, 29, 30, 31, 32, 33, 34, 35, 36, 37, 38], [0, 1, 2, 3, 4, 5, 6, 7, 8, 9, 10, 11, 12, 13, 14, 15, 16, 17, 18, 19, 20, 21, 22, 23, 24, 25, 26, 27, 28, 29, 30, 31, 32, 33, 34, 35, 36, 37, 38, 39]] [] [F, [(b2, Obj.cells #[(.int .i64 x21), (.int .i64 x22), (.slice a15 (List.length x23) n15)] 25 (0, 0))], H15, H32, [(b3, Obj.cells #[(.int .i64 x24), (.int .i64 x25), (.slice a16 (List.length x26) n16), (.int .i64 x27), (.slice a17 (List.length x28) n17)] 71 (0, 0))], H16, H17, [(b33, Obj.cells #[(.int .i64 v62.1.W), (.int .i64 v62.1.H), (.slice a32 (List.length v62.1.C) n32)] 46 (0, 0))]] mix (by kernel_rfl) (by repeat first | exact pf_body | refine pf_then ?_ | refine pf_block ?_) (fun hg pf => ?_)
                  refine atm_one 0 (by kernel_rfl) ?_
                  obtain ⟨v65, V46, Z45⟩ := bind_e Z45
                  refine at_c (B := fun _ => []) [] rfl rfl rfl rfl has23 rfl rfl (law5_told.c  v65 _ V46) (fun _ => ?_)
                  refine atm_next (still_o [0, 0, 0, 0, 0, 0, 0, 0] rfl) ?_
                  refine atm_s T 1 hg pf (by kernel_rfl) (still_o [0, 0, 0, 0, 0, 0, 0, 0] rfl) rfl ?_
                  refine at_case (s := 173) rfl (fun c47 => ?_) (fun c47 => ?_)
                  · replace Z45 := if_t c47 Z45
                    refine atm_s T 2 hg pf (by kernel_rfl) (still_o [0, 0, 0, 0, 0, 0, 0, 0] rfl) rfl ?_
                    refine atm_s T 3 hg pf (by kernel_rfl) (still_o [0, 0, 0, 0, 0, 0, 0, 0] rfl) rfl ?_
                    refine atm_v 4 hg pf (by kernel_rfl) (still_o [0, 0, 0, 0, 0, 0, 0, 0] rfl) rfl rfl (g_load T rfl rfl rfl rfl (in_var (j := 1) rfl rfl)) ?_
                    refine atm_s T 5 hg pf (by kernel_rfl) (still_o [0, 0, 0, 0, 0, 0, 0, 0] rfl) rfl ?_
                    refine atm_s T 6 hg pf (by kernel_rfl) (still_o [0, 0, 0, 0, 0, 0, 0, 0] rfl) rfl ?_
                    refine atm_s T 7 hg pf (by kernel_rfl) (still_o [0, 0, 0, 0, 0, 0, 0, 0] rfl) rfl ?_
                    refine at_case (s := 179) rfl (fun c48 => ?_) (fun c48 => ?_)
                    · replace Z45 := if_t c48 Z45
                      refine atm_s T 8 hg pf (by kernel_rfl) (still_o [0, 0, 0, 0, 0, 0, 0, 0] rfl) rfl ?_
                      refine atm_s T 9 hg pf (by kernel_rfl) (still_o [0, 0, 0, 0, 0, 0, 0, 0] rfl) rfl ?_
                      refine atm_v 10 hg pf (by kernel_rfl) (still_o [0, 0, 0, 0, 0, 0, 0, 0] rfl) rfl rfl (g_load T rfl rfl rfl rfl (in_var (j := 1) rfl rfl)) ?_
                      refine atm_s T 11 hg pf (by kernel_rfl) (still_o [0, 0, 0, 0, 0, 0, 0, 0] rfl) rfl ?_
                      refine atm_s T 12 hg pf (by kernel_rfl) (still_o [0, 0, 0, 0, 0, 0, 0, 0] rfl) rfl ?_
                      refine atm_s T 13 hg pf (by kernel_rfl) (still_o [0, 0, 0, 0, 0, 0, 0, 0] rfl) rfl ?_
                      refine at_case (s := 185) rfl (fun c49 => ?_) (fun c49 => ?_)
                      · replace Z45 := if_t c49 Z45
                        refine atm_s T 14 hg pf (by kernel_rfl) (still_o [0, 0, 0, 0, 0, 0, 0, 0] rfl) rfl ?_
                        refine atm_v 16 hg pf (by kernel_rfl) (still_o [0, 0, 0, 0, 0, 0, 0, 0] rfl) rfl rfl (g_loadA T (cs := [(.int .i64 x21), (.int .i64 x22), (.slice a15 (List.length x23) n15)]) rfl rfl rfl rfl rfl rfl (in_varA (j := 1) rfl rfl)) ?_
                        refine atm_one 15 (by kernel_rfl) ?_
                        obtain ⟨v66, V50, Z45⟩ := bind_e Z45
                        refine at_cR (As := [[(b3, Obj.cells #[(.int .i64 x24), (.int .i64 x25), (.slice a16 (List.length x26) n16), (.int .i64 x27), (.slice a17 (List.length x28) n17)] 71 (0, 0))], H16, H17]) (R := [F, [(b2, Obj.cells #[(.int .i64 x21), (.int .i64 x22), (.slice a15 (List.length x23) n15)] 25 (0, 0))], H15, H32, [(b33, Obj.cells #[(.int .i64 v62.1.W), (.int .i64 v62.1.H), (.slice a32 (List.length v62.1.C) n32)] 46 (0, 0))]]) (grid_Grid_Map.R v66) [[(b3, Obj.cells #[(.int .i64 x24), (.int .i64 x25), (.slice a16 (List.length x26) n16), (.int .i64 x27), (.slice a17 (List.length x28) n17)] 71 (0, 0))], H16, H17] [4, 4, 4] rfl rfl rfl rfl has27 rfl rfl (grid_Grid_Map.c (grid_Grid.mk (api_Map.mk x24 x25 x26) x27 x28) v66 _ V50 s16 s17) ?_
                        rintro _ _ ⟨a34, n34, H34, s34, rfl, rfl⟩
                        refine atm_next (still_o [0, 0, 0, 0, 2, 2, 2, 0] rfl) ?_
                        refine atm_one 17 (by kernel_rfl) ?_
                        obtain ⟨v67, V51, Z45⟩ := bind_e Z45
                        refine at_c (B := fun _ => []) [] rfl rfl rfl rfl has26 rfl rfl (ref1_SameMap.c v66 (api_Map.mk x21 x22 x23) v67 _ V51 (own_of s34 (j := 5) rfl) s34.cap_le (own_of s15 (j := 2) rfl) s15.cap_le) (fun _ => ?_)
                        refine atm_next (still_o [0, 0, 0, 0, 2, 2, 2, 0] rfl) ?_
                        refine atm_s T 18 hg pf (by kernel_rfl) (still_o [0, 0, 0, 0, 2, 2, 2, 0] rfl) rfl ?_
                        refine atm_s T 19 hg pf (by kernel_rfl) (still_o [0, 0, 0, 0, 2, 2, 2, 0] rfl) rfl ?_
                        refine at_case (s := 191) rfl (fun c52 => ?_) (fun c52 => ?_)
                        · replace Z45 := if_t c52 Z45
                          refine atm_s T 20 hg pf (by kernel_rfl) (still_o [0, 0, 0, 0, 2, 2, 2, 0] rfl) rfl ?_
                          refine atm_s T 21 hg pf (by kernel_rfl) (still_o [0, 0, 0, 0, 2, 2, 2, 0] rfl) rfl ?_
                          refine atm_s T 22 hg pf (by kernel_rfl) (still_o [0, 0, 0, 0, 2, 2, 2, 0] rfl) rfl ?_
                          refine atm_s T 23 hg pf (by kernel_rfl) (still_o [0, 0, 0, 0, 2, 2, 2, 0] rfl) rfl ?_
                          refine at_case (s := 195) rfl (fun c53 => ?_) (fun c53 => ?_)
                          · replace Z45 := if_t c53 Z45
                            refine atm_s T 24 hg pf (by kernel_rfl) (still_o [0, 0, 0, 0, 2, 2, 2, 0] rfl) rfl ?_
                            refine atm_v 25 hg pf (by kernel_rfl) (still_o [0, 0, 0, 0, 2, 2, 2, 0] rfl) rfl rfl (g_load T rfl rfl rfl rfl (in_var (j := 7) rfl rfl)) ?_
                            refine atm_s T 26 hg pf (by kernel_rfl) (still_o [0, 0, 0, 0, 2, 2, 2, 0] rfl) rfl ?_
                            refine atm_s T 27 hg pf (by kernel_rfl) (still_o [0, 0, 0, 0, 2, 2, 2, 0] rfl) rfl ?_
                            refine atm_s T 28 hg pf (by kernel_rfl) (still_o [0, 0, 0, 0, 2, 2, 2, 0] rfl) rfl ?_
                            refine atm_s T 29 hg pf (by kernel_rfl) (still_o [0, 0, 0, 0, 2, 2, 2, 0] rfl) rfl ?_
                            refine at_case (s := 201) rfl (fun c54 => ?_) (fun c54 => ?_)
                            · replace Z45 := if_t c54 Z45
                              refine atm_s T 30 hg pf (by kernel_rfl) (still_o [0, 0, 0, 0, 2, 2, 2, 0] rfl) rfl ?_
                              refine atm_s T 31 hg pf (by kernel_rfl) (still_o [0, 0, 0, 0, 2, 2, 2, 0] rfl) rfl ?_
                              refine atm_one 32 (by kernel_rfl) ?_
                              obtain ⟨v68, V55, Z45⟩ := bind_e Z45
                              refine at_c (As := [[(b3, Obj.cells #[(.int .i64 x24), (.int .i64 x25), (.slice a16 (List.length x26) n16), (.int .i64 x27), (.slice a17 (List.length x28) n17)] 71 (0, 0))], H16, H17]) (R := [F, [(b2, Obj.cells #[(.int .i64 x21), (.int .i64 x22), (.slice a15 (List.length x23) n15)] 25 (0, 0))], H15, H32, [(b33, Obj.cells #[(.int .i64 v62.1.W), (.int .i64 v62.1.H), (.slice a32 (List.length v62.1.C) n32)] 46 (0, 0))], H34]) (B := fun _ => [[(b3, Obj.cells #[(.int .i64 x24), (.int .i64 x25), (.slice a16 (List.length x26) n16), (.int .i64 x27), (.slice a17 (List.length x28) n17)] 71 (0, 0))], H16, H17]) [6, 6, 6] rfl rfl rfl rfl has18 rfl rfl (grid_Grid_Version.c (grid_Grid.mk (api_Map.mk x24 x25 x26) x27 x28) v4 v68 _ V55 s16 s17) (fun _ => ?_)
                              refine atm_next (still_o [0, 0, 0, 0, 2, 2, 2, 0] rfl) ?_
                              refine atm_s T 33 hg pf (by kernel_rfl) (still_o [0, 0, 0, 0, 2, 2, 2, 0] rfl) rfl ?_
                              refine atm_s T 34 hg pf (by kernel_rfl) (still_o [0, 0, 0, 0, 2, 2, 2, 0] rfl) rfl ?_
                              refine atm_s T 35 hg pf (by kernel_rfl) (still_o [0, 0, 0, 0, 2, 2, 2, 0] rfl) rfl ?_
                              refine at_case (s := 207) rfl (fun c56 => ?_) (fun c56 => ?_)
                              · replace Z45 := if_t c56 Z45
                                refine atm_s T 36 hg pf (by kernel_rfl) (still_o [0, 0, 0, 0, 2, 2, 2, 0] rfl) rfl ?_
                                refine atm_one 37 (by kernel_rfl) ?_
                                obtain ⟨v69, V57, Z45⟩ := bind_e Z45
                                refine at_c (As := [[(b3, Obj.cells #[(.int .i64 x24), (.int .i64 x25), (.slice a16 (List.length x26) n16), (.int .i64 x27), (.slice a17 (List.length x28) n17)] 71 (0, 0))], H16, H17]) (R := [F, [(b2, Obj.cells #[(.int .i64 x21), (.int .i64 x22), (.slice a15 (List.length x23) n15)] 25 (0, 0))], H15, H32, [(b33, Obj.cells #[(.int .i64 v62.1.W), (.int .i64 v62.1.H), (.slice a32 (List.length v62.1.C) n32)] 46 (0, 0))], H34]) (B := fun _ => [[(b3, Obj.cells #[(.int .i64 x24), (.int .i64 x25), (.slice a16 (List.length x26) n16), (.int .i64 x27), (.slice a17 (List.length x28) n17)] 71 (0, 0))], H16, H17]) [6, 6, 6] rfl rfl rfl rfl has18 rfl rfl (grid_Grid_Version.c (grid_Grid.mk (api_Map.mk x24 x25 x26) x27 x28) (-1) v69 _ V57 s16 s17) (fun _ => ?_)
                                refine atm_next (still_o [0, 0, 0, 0, 2, 2, 2, 0] rfl) ?_
                                refine atm_s T 38 hg pf (by kernel_rfl) (still_o [0, 0, 0, 0, 2, 2, 2, 0] rfl) rfl ?_
                                refine atm_s T 39 hg pf (by kernel_rfl) (still_o [0, 0, 0, 0, 2, 2, 2, 0] rfl) rfl ?_
                                refine atm_s T 40 hg pf (by kernel_rfl) (still_o [0, 0, 0, 0, 2, 2, 2, 0] rfl) rfl ?_
                                refine atm_end (by kernel_rfl) ?_
                                refine at_to [(12, (.bool (v69 == 0)))] [0] [F] ⟨rfl, trivial⟩ rfl ?_
                                refine at_then ?_
                                obtain rfl := Option.some.inj Z45
                                exact at_mid (v69 == 0) [0] rfl ⟨rfl, trivial⟩ rfl
                              · replace Z45 := if_f (bf c56) Z45
                                refine atm_s T 36 hg pf (by kernel_rfl) (still_o [0, 0, 0, 0, 2, 2, 2, 0] rfl) rfl ?_
                                refine atm_s T 37 hg pf (by kernel_rfl) (still_o [0, 0, 0, 0, 2, 2, 2, 0] rfl) rfl ?_
                                refine atm_s T 38 hg pf (by kernel_rfl) (still_o [0, 0, 0, 0, 2, 2, 2, 0] rfl) rfl ?_
                                refine atm_s T 39 hg pf (by kernel_rfl) (still_o [0, 0, 0, 0, 2, 2, 2, 0] rfl) rfl ?_
                                refine atm_s T 40 hg pf (by kernel_rfl) (still_o [0, 0, 0, 0, 2, 2, 2, 0] rfl) rfl ?_
                                refine atm_end (by kernel_rfl) ?_
                                refine at_to [(12, (.bool false))] [0] [F] ⟨rfl, trivial⟩ rfl ?_
                                refine at_then ?_
                                obtain rfl := Option.some.inj Z45
                                exact at_mid false [0] rfl ⟨rfl, trivial⟩ rfl
                            · replace Z45 := if_f (bf c54) Z45
                              refine atm_s T 30 hg pf (by kernel_rfl) (still_o [0, 0, 0, 0, 2, 2, 2, 0] rfl) rfl ?_
                              refine atm_s T 31 hg pf (by kernel_rfl) (still_o [0, 0, 0, 0, 2, 2, 2, 0] rfl) rfl ?_
                              refine atm_s T 32 hg pf (by kernel_rfl) (still_o [0, 0, 0, 0, 2, 2, 2, 0] rfl) rfl ?_
                              refine atm_s T 33 hg pf (by kernel_rfl) (still_o [0, 0, 0, 0, 2, 2, 2, 0] rfl) rfl ?_
                              refine atm_s T 34 hg pf (by kernel_rfl) (still_o [0, 0, 0, 0, 2, 2, 2, 0] rfl) rfl ?_
                              refine atm_s T 35 hg pf (by kernel_rfl) (still_o [0, 0, 0, 0, 2, 2, 2, 0] rfl) rfl ?_
                              refine atm_s T 36 hg pf (by kernel_rfl) (still_o [0, 0, 0, 0, 2, 2, 2, 0] rfl) rfl ?_
                              refine atm_s T 37 hg pf (by kernel_rfl) (still_o [0, 0, 0, 0, 2, 2, 2, 0] rfl) rfl ?_
                              refine atm_s T 38 hg pf (by kernel_rfl) (still_o [0, 0, 0, 0, 2, 2, 2, 0] rfl) rfl ?_
                              refine atm_s T 39 hg pf (by kernel_rfl) (still_o [0, 0, 0, 0, 2, 2, 2, 0] rfl) rfl ?_
                              refine atm_s T 40 hg pf (by kernel_rfl) (still_o [0, 0, 0, 0, 2, 2, 2, 0] rfl) rfl ?_
                              refine atm_end (by kernel_rfl) ?_
                              refine at_to [(12, (.bool false))] [0] [F] ⟨rfl, trivial⟩ rfl ?_
                              refine at_then ?_
                              obtain rfl := Option.some.inj Z45
                              exact at_mid false [0] rfl ⟨rfl, trivial⟩ rfl
                          · replace Z45 := if_f (bf c53) Z45
                            refine atm_s T 24 hg pf (by kernel_rfl) (still_o [0, 0, 0, 0, 2, 2, 2, 0] rfl) rfl ?_
                            refine atm_s T 25 hg pf (by kernel_rfl) (still_o [0, 0, 0, 0, 2, 2, 2, 0] rfl) rfl ?_
                            refine atm_s T 26 hg pf (by kernel_rfl) (still_o [0, 0, 0, 0, 2, 2, 2, 0] rfl) rfl ?_
                            refine atm_s T 27 hg pf (by kernel_rfl) (still_o [0, 0, 0, 0, 2, 2, 2, 0] rfl) rfl ?_
                            refine atm_s T 28 hg pf (by kernel_rfl) (still_o [0, 0, 0, 0, 2, 2, 2, 0] rfl) rfl ?_
                            refine atm_s T 29 hg pf (by kernel_rfl) (still_o [0, 0, 0, 0, 2, 2, 2, 0] rfl) rfl ?_
                            refine atm_s T 30 hg pf (by kernel_rfl) (still_o [0, 0, 0, 0, 2, 2, 2, 0] rfl) rfl ?_
                            refine atm_s T 31 hg pf (by kernel_rfl) (still_o [0, 0, 0, 0, 2, 2, 2, 0] rfl) rfl ?_
                            refine atm_s T 32 hg pf (by kernel_rfl) (still_o [0, 0, 0, 0, 2, 2, 2, 0] rfl) rfl ?_
                            refine atm_s T 33 hg pf (by kernel_rfl) (still_o [0, 0, 0, 0, 2, 2, 2, 0] rfl) rfl ?_
                            refine atm_s T 34 hg pf (by kernel_rfl) (still_o [0, 0, 0, 0, 2, 2, 2, 0] rfl) rfl ?_
                            refine atm_s T 35 hg pf (by kernel_rfl) (still_o [0, 0, 0, 0, 2, 2, 2, 0] rfl) rfl ?_
                            refine atm_s T 36 hg pf (by kernel_rfl) (still_o [0, 0, 0, 0, 2, 2, 2, 0] rfl) rfl ?_
                            refine atm_s T 37 hg pf (by kernel_rfl) (still_o [0, 0, 0, 0, 2, 2, 2, 0] rfl) rfl ?_
                            refine atm_s T 38 hg pf (by kernel_rfl) (still_o [0, 0, 0, 0, 2, 2, 2, 0] rfl) rfl ?_
                            refine atm_s T 39 hg pf (by kernel_rfl) (still_o [0, 0, 0, 0, 2, 2, 2, 0] rfl) rfl ?_
                            refine atm_s T 40 hg pf (by kernel_rfl) (still_o [0, 0, 0, 0, 2, 2, 2, 0] rfl) rfl ?_
                            refine atm_end (by kernel_rfl) ?_
                            refine at_to [(12, (.bool false))] [0] [F] ⟨rfl, trivial⟩ rfl ?_
                            refine at_then ?_
                            obtain rfl := Option.some.inj Z45
                            exact at_mid false [0] rfl ⟨rfl, trivial⟩ rfl
                        · replace Z45 := if_f (bf c52) Z45
                          refine atm_s T 20 hg pf (by kernel_rfl) (still_o [0, 0, 0, 0, 2, 2, 2, 0] rfl) rfl ?_
                          refine atm_s T 21 hg pf (by kernel_rfl) (still_o [0, 0, 0, 0, 2, 2, 2, 0] rfl) rfl ?_
                          refine atm_s T 22 hg pf (by kernel_rfl) (still_o [0, 0, 0, 0, 2, 2, 2, 0] rfl) rfl ?_
                          refine atm_s T 23 hg pf (by kernel_rfl) (still_o [0, 0, 0, 0, 2, 2, 2, 0] rfl) rfl ?_
                          refine atm_s T 24 hg pf (by kernel_rfl) (still_o [0, 0, 0, 0, 2, 2, 2, 0] rfl) rfl ?_
                          refine atm_s T 25 hg pf (by kernel_rfl) (still_o [0, 0, 0, 0, 2, 2, 2, 0] rfl) rfl ?_
                          refine atm_s T 26 hg pf (by kernel_rfl) (still_o [0, 0, 0, 0, 2, 2, 2, 0] rfl) rfl ?_
                          refine atm_s T 27 hg pf (by kernel_rfl) (still_o [0, 0, 0, 0, 2, 2, 2, 0] rfl) rfl ?_
                          refine atm_s T 28 hg pf (by kernel_rfl) (still_o [0, 0, 0, 0, 2, 2, 2, 0] rfl) rfl ?_
                          refine atm_s T 29 hg pf (by kernel_rfl) (still_o [0, 0, 0, 0, 2, 2, 2, 0] rfl) rfl ?_
                          refine atm_s T 30 hg pf (by kernel_rfl) (still_o [0, 0, 0, 0, 2, 2, 2, 0] rfl) rfl ?_
                          refine atm_s T 31 hg pf (by kernel_rfl) (still_o [0, 0, 0, 0, 2, 2, 2, 0] rfl) rfl ?_
                          refine atm_s T 32 hg pf (by kernel_rfl) (still_o [0, 0, 0, 0, 2, 2, 2, 0] rfl) rfl ?_
                          refine atm_s T 33 hg pf (by kernel_rfl) (still_o [0, 0, 0, 0, 2, 2, 2, 0] rfl) rfl ?_
                          refine atm_s T 34 hg pf (by kernel_rfl) (still_o [0, 0, 0, 0, 2, 2, 2, 0] rfl) rfl ?_
                          refine atm_s T 35 hg pf (by kernel_rfl) (still_o [0, 0, 0, 0, 2, 2, 2, 0] rfl) rfl ?_
                          refine atm_s T 36 hg pf (by kernel_rfl) (still_o [0, 0, 0, 0, 2, 2, 2, 0] rfl) rfl ?_
                          refine atm_s T 37 hg pf (by kernel_rfl) (still_o [0, 0, 0, 0, 2, 2, 2, 0] rfl) rfl ?_
                          refine atm_s T 38 hg pf (by kernel_rfl) (still_o [0, 0, 0, 0, 2, 2, 2, 0] rfl) rfl ?_
                          refine atm_s T 39 hg pf (by kernel_rfl) (still_o [0, 0, 0, 0, 2, 2, 2, 0] rfl) rfl ?_
                          refine atm_s T 40 hg pf (by kernel_rfl) (still_o [0, 0, 0, 0, 2, 2, 2, 0] rfl) rfl ?_
                          refine atm_end (by kernel_rfl) ?_
                          refine at_to [(12, (.bool false))] [0] [F] ⟨rfl, trivial⟩ rfl ?_
                          refine at_then ?_
                          obtain rfl := Option.some.inj Z45
                          exact at_mid false [0] rfl ⟨rfl, trivial⟩ rfl
                      · replace Z45 := if_f (bf c49) Z45
                        refine atm_s T 14 hg pf (by kernel_rfl) (still_o [0, 0, 0, 0, 0, 0, 0, 0] rfl) rfl ?_
                        refine atm_s T 15 hg pf (by kernel_rfl) (still_o [0, 0, 0, 0, 0, 0, 0, 0] rfl) rfl ?_
                        refine atm_s T 16 hg pf (by kernel_rfl) (still_o [0, 0, 0, 0, 0, 0, 0, 0] rfl) rfl ?_
                        refine atm_s T 17 hg pf (by kernel_rfl) (still_o [0, 0, 0, 0, 0, 0, 0, 0] rfl) rfl ?_
                        refine atm_s T 18 hg pf (by kernel_rfl) (still_o [0, 0, 0, 0, 0, 0, 0, 0] rfl) rfl ?_
                        refine atm_s T 19 hg pf (by kernel_rfl) (still_o [0, 0, 0, 0, 0, 0, 0, 0] rfl) rfl ?_
                        refine atm_s T 20 hg pf (by kernel_rfl) (still_o [0, 0, 0, 0, 0, 0, 0, 0] rfl) rfl ?_
                        refine atm_s T 21 hg pf (by kernel_rfl) (still_o [0, 0, 0, 0, 0, 0, 0, 0] rfl) rfl ?_
                        refine atm_s T 22 hg pf (by kernel_rfl) (still_o [0, 0, 0, 0, 0, 0, 0, 0] rfl) rfl ?_
                        refine atm_s T 23 hg pf (by kernel_rfl) (still_o [0, 0, 0, 0, 0, 0, 0, 0] rfl) rfl ?_
                        refine atm_s T 24 hg pf (by kernel_rfl) (still_o [0, 0, 0, 0, 0, 0, 0, 0] rfl) rfl ?_
                        refine atm_s T 25 hg pf (by kernel_rfl) (still_o [0, 0, 0, 0, 0, 0, 0, 0] rfl) rfl ?_
                        refine atm_s T 26 hg pf (by kernel_rfl) (still_o [0, 0, 0, 0, 0, 0, 0, 0] rfl) rfl ?_
                        refine atm_s T 27 hg pf (by kernel_rfl) (still_o [0, 0, 0, 0, 0, 0, 0, 0] rfl) rfl ?_
                        refine atm_s T 28 hg pf (by kernel_rfl) (still_o [0, 0, 0, 0, 0, 0, 0, 0] rfl) rfl ?_
                        refine atm_s T 29 hg pf (by kernel_rfl) (still_o [0, 0, 0, 0, 0, 0, 0, 0] rfl) rfl ?_
                        refine atm_s T 30 hg pf (by kernel_rfl) (still_o [0, 0, 0, 0, 0, 0, 0, 0] rfl) rfl ?_
                        refine atm_s T 31 hg pf (by kernel_rfl) (still_o [0, 0, 0, 0, 0, 0, 0, 0] rfl) rfl ?_
                        refine atm_s T 32 hg pf (by kernel_rfl) (still_o [0, 0, 0, 0, 0, 0, 0, 0] rfl) rfl ?_
                        refine atm_s T 33 hg pf (by kernel_rfl) (still_o [0, 0, 0, 0, 0, 0, 0, 0] rfl) rfl ?_
                        refine atm_s T 34 hg pf (by kernel_rfl) (still_o [0, 0, 0, 0, 0, 0, 0, 0] rfl) rfl ?_
                        refine atm_s T 35 hg pf (by kernel_rfl) (still_o [0, 0, 0, 0, 0, 0, 0, 0] rfl) rfl ?_
                        refine atm_s T 36 hg pf (by kernel_rfl) (still_o [0, 0, 0, 0, 0, 0, 0, 0] rfl) rfl ?_
                        refine atm_s T 37 hg pf (by kernel_rfl) (still_o [0, 0, 0, 0, 0, 0, 0, 0] rfl) rfl ?_
                        refine atm_s T 38 hg pf (by kernel_rfl) (still_o [0, 0, 0, 0, 0, 0, 0, 0] rfl) rfl ?_
                        refine atm_s T 39 hg pf (by kernel_rfl) (still_o [0, 0, 0, 0, 0, 0, 0, 0] rfl) rfl ?_
                        refine atm_s T 40 hg pf (by kernel_rfl) (still_o [0, 0, 0, 0, 0, 0, 0, 0] rfl) rfl ?_
                        refine atm_end (by kernel_rfl) ?_
                        refine at_to [(12, (.bool false))] [0] [F] ⟨rfl, trivial⟩ rfl ?_
                        refine at_then ?_
                        obtain rfl := Option.some.inj Z45
                        exact at_mid false [0] rfl ⟨rfl, trivial⟩ rfl
                    · replace Z45 := if_f (bf c48) Z45
                      refine atm_s T 8 hg pf (by kernel_rfl) (still_o [0, 0, 0, 0, 0, 0, 0, 0] rfl) rfl ?_
                      refine atm_s T 9 hg pf (by kernel_rfl) (still_o [0, 0, 0, 0, 0, 0, 0, 0] rfl) rfl ?_
                      refine atm_s T 10 hg pf (by kernel_rfl) (still_o [0, 0, 0, 0, 0, 0, 0, 0] rfl) rfl ?_
                      refine atm_s T 11 hg pf (by kernel_rfl) (still_o [0, 0, 0, 0, 0, 0, 0, 0] rfl) rfl ?_
                      refine atm_s T 12 hg pf (by kernel_rfl) (still_o [0, 0, 0, 0, 0, 0, 0, 0] rfl) rfl ?_
                      refine atm_s T 13 hg pf (by kernel_rfl) (still_o [0, 0, 0, 0, 0, 0, 0, 0] rfl) rfl ?_
                      refine atm_s T 14 hg pf (by kernel_rfl) (still_o [0, 0, 0, 0, 0, 0, 0, 0] rfl) rfl ?_
                      refine atm_s T 15 hg pf (by kernel_rfl) (still_o [0, 0, 0, 0, 0, 0, 0, 0] rfl) rfl ?_
                      refine atm_s T 16 hg pf (by kernel_rfl) (still_o [0, 0, 0, 0, 0, 0, 0, 0] rfl) rfl ?_
                      refine atm_s T 17 hg pf (by kernel_rfl) (still_o [0, 0, 0, 0, 0, 0, 0, 0] rfl) rfl ?_
                      refine atm_s T 18 hg pf (by kernel_rfl) (still_o [0, 0, 0, 0, 0, 0, 0, 0] rfl) rfl ?_
                      refine atm_s T 19 hg pf (by kernel_rfl) (still_o [0, 0, 0, 0, 0, 0, 0, 0] rfl) rfl ?_
                      refine atm_s T 20 hg pf (by kernel_rfl) (still_o [0, 0, 0, 0, 0, 0, 0, 0] rfl) rfl ?_
                      refine atm_s T 21 hg pf (by kernel_rfl) (still_o [0, 0, 0, 0, 0, 0, 0, 0] rfl) rfl ?_
                      refine atm_s T 22 hg pf (by kernel_rfl) (still_o [0, 0, 0, 0, 0, 0, 0, 0] rfl) rfl ?_
                      refine atm_s T 23 hg pf (by kernel_rfl) (still_o [0, 0, 0, 0, 0, 0, 0, 0] rfl) rfl ?_
                      refine atm_s T 24 hg pf (by kernel_rfl) (still_o [0, 0, 0, 0, 0, 0, 0, 0] rfl) rfl ?_
                      refine atm_s T 25 hg pf (by kernel_rfl) (still_o [0, 0, 0, 0, 0, 0, 0, 0] rfl) rfl ?_
                      refine atm_s T 26 hg pf (by kernel_rfl) (still_o [0, 0, 0, 0, 0, 0, 0, 0] rfl) rfl ?_
                      refine atm_s T 27 hg pf (by kernel_rfl) (still_o [0, 0, 0, 0, 0, 0, 0, 0] rfl) rfl ?_
                      refine atm_s T 28 hg pf (by kernel_rfl) (still_o [0, 0, 0, 0, 0, 0, 0, 0] rfl) rfl ?_
                      refine atm_s T 29 hg pf (by kernel_rfl) (still_o [0, 0, 0, 0, 0, 0, 0, 0] rfl) rfl ?_
                      refine atm_s T 30 hg pf (by kernel_rfl) (still_o [0, 0, 0, 0, 0, 0, 0, 0] rfl) rfl ?_
                      refine atm_s T 31 hg pf (by kernel_rfl) (still_o [0, 0, 0, 0, 0, 0, 0, 0] rfl) rfl ?_
                      refine atm_s T 32 hg pf (by kernel_rfl) (still_o [0, 0, 0, 0, 0, 0, 0, 0] rfl) rfl ?_
                      refine atm_s T 33 hg pf (by kernel_rfl) (still_o [0, 0, 0, 0, 0, 0, 0, 0] rfl) rfl ?_
                      refine atm_s T 34 hg pf (by kernel_rfl) (still_o [0, 0, 0, 0, 0, 0, 0, 0] rfl) rfl ?_
                      refine atm_s T 35 hg pf (by kernel_rfl) (still_o [0, 0, 0, 0, 0, 0, 0, 0] rfl) rfl ?_
                      refine atm_s T 36 hg pf (by kernel_rfl) (still_o [0, 0, 0, 0, 0, 0, 0, 0] rfl) rfl ?_
                      refine atm_s T 37 hg pf (by kernel_rfl) (still_o [0, 0, 0, 0, 0, 0, 0, 0] rfl) rfl ?_
                      refine atm_s T 38 hg pf (by kernel_rfl) (still_o [0, 0, 0, 0, 0, 0, 0, 0] rfl) rfl ?_
                      refine atm_s T 39 hg pf (by kernel_rfl) (still_o [0, 0, 0, 0, 0, 0, 0, 0] rfl) rfl ?_
                      refine atm_s T 40 hg pf (by kernel_rfl) (still_o [0, 0, 0, 0, 0, 0, 0, 0] rfl) rfl ?_
                      refine atm_end (by kernel_rfl) ?_
                      refine at_to [(12, (.bool false))] [0] [F] ⟨rfl, trivial⟩ rfl ?_
                      refine at_then ?_
                      obtain rfl := Option.some.inj Z45
                      exact at_mid false [0] rfl ⟨rfl, trivial⟩ rfl
                  · replace Z45 := if_f (bf c47) Z45
                    refine atm_s T 2 hg pf (by kernel_rfl) (still_o [0, 0, 0, 0, 0, 0, 0, 0] rfl) rfl ?_
                    refine atm_s T 3 hg pf (by kernel_rfl) (still_o [0, 0, 0, 0, 0, 0, 0, 0] rfl) rfl ?_
                    refine atm_s T 4 hg pf (by kernel_rfl) (still_o [0, 0, 0, 0, 0, 0, 0, 0] rfl) rfl ?_
                    refine atm_s T 5 hg pf (by kernel_rfl) (still_o [0, 0, 0, 0, 0, 0, 0, 0] rfl) rfl ?_
                    refine atm_s T 6 hg pf (by kernel_rfl) (still_o [0, 0, 0, 0, 0, 0, 0, 0] rfl) rfl ?_
                    refine atm_s T 7 hg pf (by kernel_rfl) (still_o [0, 0, 0, 0, 0, 0, 0, 0] rfl) rfl ?_
                    refine atm_s T 8 hg pf (by kernel_rfl) (still_o [0, 0, 0, 0, 0, 0, 0, 0] rfl) rfl ?_
                    refine atm_s T 9 hg pf (by kernel_rfl) (still_o [0, 0, 0, 0, 0, 0, 0, 0] rfl) rfl ?_
                    refine atm_s T 10 hg pf (by kernel_rfl) (still_o [0, 0, 0, 0, 0, 0, 0, 0] rfl) rfl ?_
                    refine atm_s T 11 hg pf (by kernel_rfl) (still_o [0, 0, 0, 0, 0, 0, 0, 0] rfl) rfl ?_
                    refine atm_s T 12 hg pf (by kernel_rfl) (still_o [0, 0, 0, 0, 0, 0, 0, 0] rfl) rfl ?_
                    refine atm_s T 13 hg pf (by kernel_rfl) (still_o [0, 0, 0, 0, 0, 0, 0, 0] rfl) rfl ?_
                    refine atm_s T 14 hg pf (by kernel_rfl) (still_o [0, 0, 0, 0, 0, 0, 0, 0] rfl) rfl ?_
                    refine atm_s T 15 hg pf (by kernel_rfl) (still_o [0, 0, 0, 0, 0, 0, 0, 0] rfl) rfl ?_
                    refine atm_s T 16 hg pf (by kernel_rfl) (still_o [0, 0, 0, 0, 0, 0, 0, 0] rfl) rfl ?_
                    refine atm_s T 17 hg pf (by kernel_rfl) (still_o [0, 0, 0, 0, 0, 0, 0, 0] rfl) rfl ?_
                    refine atm_s T 18 hg pf (by kernel_rfl) (still_o [0, 0, 0, 0, 0, 0, 0, 0] rfl) rfl ?_
                    refine atm_s T 19 hg pf (by kernel_rfl) (still_o [0, 0, 0, 0, 0, 0, 0, 0] rfl) rfl ?_
                    refine atm_s T 20 hg pf (by kernel_rfl) (still_o [0, 0, 0, 0, 0, 0, 0, 0] rfl) rfl ?_
                    refine atm_s T 21 hg pf (by kernel_rfl) (still_o [0, 0, 0, 0, 0, 0, 0, 0] rfl) rfl ?_
                    refine atm_s T 22 hg pf (by kernel_rfl) (still_o [0, 0, 0, 0, 0, 0, 0, 0] rfl) rfl ?_
                    refine atm_s T 23 hg pf (by kernel_rfl) (still_o [0, 0, 0, 0, 0, 0, 0, 0] rfl) rfl ?_
                    refine atm_s T 24 hg pf (by kernel_rfl) (still_o [0, 0, 0, 0, 0, 0, 0, 0] rfl) rfl ?_
                    refine atm_s T 25 hg pf (by kernel_rfl) (still_o [0, 0, 0, 0, 0, 0, 0, 0] rfl) rfl ?_
                    refine atm_s T 26 hg pf (by kernel_rfl) (still_o [0, 0, 0, 0, 0, 0, 0, 0] rfl) rfl ?_
                    refine atm_s T 27 hg pf (by kernel_rfl) (still_o [0, 0, 0, 0, 0, 0, 0, 0] rfl) rfl ?_
                    refine atm_s T 28 hg pf (by kernel_rfl) (still_o [0, 0, 0, 0, 0, 0, 0, 0] rfl) rfl ?_
                    refine atm_s T 29 hg pf (by kernel_rfl) (still_o [0, 0, 0, 0, 0, 0, 0, 0] rfl) rfl ?_
                    refine atm_s T 30 hg pf (by kernel_rfl) (still_o [0, 0, 0, 0, 0, 0, 0, 0] rfl) rfl ?_
                    refine atm_s T 31 hg pf (by kernel_rfl) (still_o [0, 0, 0, 0, 0, 0, 0, 0] rfl) rfl ?_
                    refine atm_s T 32 hg pf (by kernel_rfl) (still_o [0, 0, 0, 0, 0, 0, 0, 0] rfl) rfl ?_
                    refine atm_s T 33 hg pf (by kernel_rfl) (still_o [0, 0, 0, 0, 0, 0, 0, 0] rfl) rfl ?_
                    refine atm_s T 34 hg pf (by kernel_rfl) (still_o [0, 0, 0, 0, 0, 0, 0, 0] rfl) rfl ?_
                    refine atm_s T 35 hg pf (by kernel_rfl) (still_o [0, 0, 0, 0, 0, 0, 0, 0] rfl) rfl ?_
                    refine atm_s T 36 hg pf (by kernel_rfl) (still_o [0, 0, 0, 0, 0, 0, 0, 0] rfl) rfl ?_
                    refine atm_s T 37 hg pf (by kernel_rfl) (still_o [0, 0, 0, 0, 0, 0, 0, 0] rfl) rfl ?_
                    refine atm_s T 38 hg pf (by kernel_rfl) (still_o [0, 0, 0, 0, 0, 0, 0, 0] rfl) rfl ?_
                    refine atm_s T 39 hg pf (by kernel_rfl) (still_o [0, 0, 0, 0, 0, 0, 0, 0] rfl) rfl ?_
                    refine atm_s T 40 hg pf (by kernel_rfl) (still_o [0, 0, 0, 0, 0, 0, 0, 0] rfl) rfl ?_
                    refine atm_end (by kernel_rfl) ?_
                    refine at_to [(12, (.bool false))] [0] [F] ⟨rfl, trivial⟩ rfl ?_
                    refine at_then ?_
                    obtain rfl := Option.some.inj Z45
                    exact at_mid false [0] rfl ⟨rfl, trivial⟩ rfl
                · rintro x63 rfl
                  refine at_ret ?_
                  obtain rfl := Option.some.inj Z32
                  exact at_post (T := T) rfl (.tmp rfl .nil) (fun w o => ⟨(), rfl, own_to [0] rfl o⟩)
def law5_GridPlays.Pure : Prop := ∀ (w : Int) (h : Int) (c : (List Int)) (epoch : Int) (l : (List herdsmanlaw5_Lay)) (raw : Bool), inI64 w → inI64 h → (∀ y ∈ c, inU8 y) → inI64 epoch → (∀ y ∈ l, (inI64 y.Cell ∧ inI64 y.Cost)) → List.length c ≤ 9223372036854775807 → List.length l ≤ 9223372036854775807 → law5_GridPlays.f w h c epoch l raw = some true
end Go.Proofs.Ytmjcmkimhkjdeaa
