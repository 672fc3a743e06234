import Derived.Test.YtmjcmkimhkjdeaaT
import Derived.Test.YtmjcmkimhkjdeaaFgrid
import Derived.Test.YtmjcmkimhkjdeaaFlaw5
import Derived.Test.YtmjcmkimhkjdeaaFref1
namespace Go.Proofs.Ytmjcmkimhkjdeaa
open Go.Hx
set_option maxRecDepth 100000
set_option linter.unusedVariables false
/-! ### herdsman/herdsmanlaw5.GridKeeps: function 6 -/
def law5_GridKeeps.l0 : Nat → Int → api_Map → grid_Grid → Int → List Int → Int → Option Bool
  | 0, _, _, _, _, _, _ => none
  | k15 + 1, x, v2, yv3, v4, x13, x14 => if x14 < (List.length x13 : Int) then (if (0 ≤ x14 ∧ x14 < (List.length x13 : Int)) then (law5_GridKeeps.l0 k15 x v2 yv3 v4 (List.set x13 (Int.toNat x14) x) (w64 (x14 + 1))) else none) else (((law5_told.f).bind fun v18 => if v18 = true then ((grid_Grid_Map.f yv3).bind fun v19 => (ref1_SameMap.f v19 v2).bind fun v20 => if v20 = true then (if (0 ≤ v4 ∧ v4 < (List.length v2.C : Int)) then ((grid_Grid_Cost.f yv3 v4).bind fun v21 => if (v21 == (w64 (rd v2.C v4))) = true then ((grid_Grid_Epoch.f yv3).bind fun v22 => some (v22 == 1)) else (some false)) else none) else (some false)) else (some false)).bind fun x16 => some x16)
def law5_GridKeeps.f (w : Int) (h : Int) (c : (List Int)) (cell : Int) (x : Int) : Option Bool := (ref1_Made.f w h c).bind fun v1 => (ref1_Own.f v1).bind fun v2 => (grid_New.f v1 0).bind fun v3 => optm v3 (some false) (fun yv3 => (ref1_Within.f cell 0 (w64 ((List.length v1.C : Int) - 1))).bind fun v4 => if (0 ≤ v4 ∧ v4 < (List.length v1.C : Int)) then ((grid_Grid_Map.f yv3).bind fun v5 => (ref1_Sector.f v1.W v1.H v4).bind fun v6 => (grid_Grid_Tile.f yv3 v6).bind fun v7 => (if (!v7.2) = true then (some true) else (if ((List.length v5.C : Int) != (List.length v2.C : Int)) = true then (some true) else ((ref1_SameMap.f v5 v2).bind fun v10 => some (!v10)))).bind fun x8 => if x8 = true then (some false) else (if (0 ≤ v4 ∧ v4 < (List.length v5.C : Int)) then (law5_GridKeeps.l0 fuel x v2 yv3 v4 v7.1.C 0) else none)) else none)
set_option maxHeartbeats 4000000 in
theorem law5_GridKeeps.c {a_c : Option Addr} {n_c : Nat} (w : Int) (h : Int) (c : (List Int)) (cell : Int) (x : Int) (r : Bool) (F : Hp) (H : law5_GridKeeps.f w h c cell x = some r) (h_c : SliceR (Fl.int .u8) c a_c F) (c_c : List.length c ≤ n_c) :
    CallsL Try.prog 6 [(.int .i64 w), (.int .i64 h), (.slice a_c (List.length c) n_c), (.int .i64 cell), (.int .u8 x)] [F] (fun _ : Unit => (.bool r)) (fun _ => [F]) := by
  unfold law5_GridKeeps.f at H
  refine calls_atL [(0, (.int .i64 w)), (1, (.int .i64 h)), (2, (.slice a_c (List.length c) n_c)), (3, (.int .i64 cell)), (4, (.int .u8 x))] Try.func6 rfl rfl ⟨rfl, rfl, rfl, rfl, rfl, trivial⟩ (fun W => ?_)
  refine at_seq ?_
  refine at_region [0] rfl ?_
  refine at_s T rfl ?_
  refine at_end ?_
  refine at_sub [(0, (.int .i64 w)), (1, (.int .i64 h)), (2, (.slice a_c (List.length c) n_c)), (3, (.int .i64 cell)), (4, (.int .u8 x))] ⟨rfl, rfl, rfl, rfl, rfl, trivial⟩ ?_
  refine at_then ?_
  refine at_seq ?_
  refine at_region [0, 1, 2, 3, 4, 5] rfl ?_
  iterate 3 refine at_s T rfl ?_
  obtain ⟨v1, V1, H⟩ := bind_e H
  refine at_cons (at_cR (ref1_Made.R v1) [] [] rfl rfl rfl rfl has14 rfl rfl (ref1_Made.c w h c v1 _ V1 (ro_of h_c (j := 0) rfl) c_c) ?_)
  rintro _ _ ⟨a1, n1, H1, s1, rfl, rfl⟩
  refine at_cons (at_al T [(.int .i64 0), (.int .i64 0), (.slice none 0 0)] rfl rfl rfl rfl (fun b2 => ?_))
  refine at_cons (at_st T 2 [(.int .i64 v1.W), (.int .i64 v1.H), (.slice a1 (List.length v1.C) n1)] rfl rfl rfl rfl rfl rfl rfl rfl rfl rfl ?_)
  refine at_end ?_
  refine at_sub [(3, (.int .i64 cell)), (4, (.int .u8 x)), (11, (.pointer (some ⟨b2, 0, none⟩)))] ⟨rfl, rfl, rfl, trivial⟩ ?_
  refine at_then ?_
  refine at_seq ?_
  refine at_region [0, 1, 2, 3] rfl ?_
  refine at_v rfl (g_loadA T (cs := [(.int .i64 v1.W), (.int .i64 v1.H), (.slice a1 (List.length v1.C) n1)]) rfl rfl rfl rfl rfl rfl (in_varA (j := 2) rfl rfl)) ?_
  obtain ⟨v2, V2, H⟩ := bind_e H
  refine at_cons (at_cR (ref1_Own.R v2) [] [] rfl rfl rfl rfl has24 rfl rfl (ref1_Own.c v1 v2 _ V2 (own_of s1 (j := 1) rfl) s1.cap_le) ?_)
  rintro _ _ ⟨a3, n3, H3, s3, rfl, rfl⟩
  refine at_cons (at_al T [(.int .i64 0), (.int .i64 0), (.slice none 0 0)] rfl rfl rfl rfl (fun b4 => ?_))
  refine at_cons (at_st T 4 [(.int .i64 v2.W), (.int .i64 v2.H), (.slice a3 (List.length v2.C) n3)] rfl rfl rfl rfl rfl rfl rfl rfl rfl rfl ?_)
  refine at_end ?_
  refine at_sub [(3, (.int .i64 cell)), (4, (.int .u8 x)), (11, (.pointer (some ⟨b2, 0, none⟩))), (12, (.pointer (some ⟨b4, 0, none⟩)))] ⟨rfl, rfl, rfl, rfl, trivial⟩ ?_
  refine at_then ?_
  refine at_seq ?_
  refine at_region [0, 1, 2] rfl ?_
  refine at_v rfl (g_loadA T (cs := [(.int .i64 v1.W), (.int .i64 v1.H), (.slice a1 (List.length v1.C) n1)]) rfl rfl rfl rfl rfl rfl (in_varA (j := 2) rfl rfl)) ?_
  obtain ⟨v3, V3, H⟩ := bind_e H
  refine at_cons (at_cR (grid_New.R v3) [] [] rfl rfl rfl rfl has15 rfl rfl (grid_New.c v1 0 v3 _ V3 (own_of s1 (j := 1) rfl) s1.cap_le) ?_)
  rintro _ _ ⟨_, _, O4, rfl, rfl⟩
  rcases v3 with _ | yv3
  · replace H := optm_n rfl H
    obtain ⟨rfl, rfl⟩ := O4
    refine at_s T rfl ?_
    refine at_end ?_
    refine at_sub [(3, (.int .i64 cell)), (4, (.int .u8 x)), (11, (.pointer (some ⟨b2, 0, none⟩))), (12, (.pointer (some ⟨b4, 0, none⟩))), (13, (.pointer none))] ⟨rfl, rfl, rfl, rfl, rfl, trivial⟩ ?_
    refine at_then ?_
    refine at_seq ?_
    refine at_seq ?_
    refine at_region [0, 1] rfl ?_
    iterate 2 refine at_s T rfl ?_
    refine at_end ?_
    refine at_sub [(3, (.int .i64 cell)), (4, (.int .u8 x)), (11, (.pointer (some ⟨b2, 0, none⟩))), (12, (.pointer (some ⟨b4, 0, none⟩))), (13, (.pointer none)), (28, (.bool true))] ⟨rfl, rfl, rfl, rfl, rfl, rfl, trivial⟩ ?_
    refine at_then ?_
    refine at_cond_t rfl ?_
    refine at_seq ?_
    refine at_region [0] rfl ?_
    refine at_s T rfl ?_
    refine at_end ?_
    refine at_to [(10, (.bool false))] [0] [F] ⟨rfl, trivial⟩ rfl ?_
    refine at_then ?_
    refine at_ret ?_
    refine at_rt ?_
    obtain rfl := Option.some.inj H
    exact at_post (T := T) rfl (.tmp rfl .nil) (fun w o => ⟨(), rfl, own_to [0] rfl o⟩)
  · replace H := optm_s rfl H
    obtain ⟨b5, a6, n6, H6, a7, n7, H7, s6, s7, rfl, rfl⟩ := O4
    refine at_s T rfl ?_
    refine at_end ?_
    refine at_sub [(3, (.int .i64 cell)), (4, (.int .u8 x)), (11, (.pointer (some ⟨b2, 0, none⟩))), (12, (.pointer (some ⟨b4, 0, none⟩))), (13, (.pointer (some ⟨b5, 0, none⟩)))] ⟨rfl, rfl, rfl, rfl, rfl, trivial⟩ ?_
    refine at_then ?_
    refine at_seq ?_
    refine at_seq ?_
    refine at_region [0, 1] rfl ?_
    iterate 2 refine at_s T rfl ?_
    refine at_end ?_
    refine at_sub [(3, (.int .i64 cell)), (4, (.int .u8 x)), (11, (.pointer (some ⟨b2, 0, none⟩))), (12, (.pointer (some ⟨b4, 0, none⟩))), (13, (.pointer (some ⟨b5, 0, none⟩))), (28, (.bool false))] ⟨rfl, rfl, rfl, rfl, rfl, rfl, trivial⟩ ?_
    refine at_then ?_
    refine at_cond_f rfl ?_
    refine at_skip ?_
    refine at_then ?_
    refine at_seq ?_
    refine at_region [0, 1, 2, 3, 4, 5, 6] rfl ?_
    iterate 2 refine at_s T rfl ?_
    refine at_v rfl (g_load T rfl rfl rfl rfl (in_var (j := 2) rfl rfl)) ?_
    iterate 2 refine at_s T rfl ?_
    obtain ⟨v4, V5, H⟩ := bind_e H
    refine at_cons (at_c (B := fun _ => []) [] rfl rfl rfl rfl has17 rfl rfl (ref1_Within.c cell 0 (w64 ((List.length v1.C : Int) - 1)) v4 _ V5) (fun _ => ?_))
    refine at_s T rfl ?_
    refine at_end ?_
    refine at_sub [(4, (.int .u8 x)), (11, (.pointer (some ⟨b2, 0, none⟩))), (12, (.pointer (some ⟨b4, 0, none⟩))), (13, (.pointer (some ⟨b5, 0, none⟩))), (14, (.int .i64 v4))] ⟨rfl, rfl, rfl, rfl, rfl, trivial⟩ ?_
    refine at_then ?_
    refine at_seq ?_
    refine at_region [0, 1, 2, 3, 4, 5] rfl ?_
    refine at_s T rfl ?_
    refine at_v rfl (g_load T rfl rfl rfl rfl (in_var (j := 2) rfl rfl)) ?_
    iterate 2 refine at_s T rfl ?_
    obtain ⟨c6, H⟩ := chk_e H
    obtain ⟨q8, o8, e8⟩ := s1.r.addr c6.1 c6.2
    refine at_v rfl (g_index T rfl rfl rfl rfl rfl e8 c6.1 c6.2) ?_
    refine at_cons (at_se (k := (Fl.int .u8)) T 1 0 x rfl rfl rfl rfl rfl rfl s1 e8 c6 rfl rfl rfl (fun H9 s9 => ?_))
    refine at_to [(4, (.int .u8 x)), (11, (.pointer (some ⟨b2, 0, none⟩))), (12, (.pointer (some ⟨b4, 0, none⟩))), (13, (.pointer (some ⟨b5, 0, none⟩))), (14, (.int .i64 v4))] [0, 0, 0, 0, 0, 0, 0, 0] [F, H9, [(b2, Obj.cells #[(.int .i64 v1.W), (.int .i64 v1.H), (.slice a1 (List.length (List.set v1.C (Int.toNat v4) x)) n1)] 25 (0, 0))], H3, [(b4, Obj.cells #[(.int .i64 v2.W), (.int .i64 v2.H), (.slice a3 (List.length v2.C) n3)] 25 (0, 0))], [(b5, Obj.cells #[(.int .i64 yv3.m.W), (.int .i64 yv3.m.H), (.slice a6 (List.length yv3.m.C) n6), (.int .i64 yv3.epoch), (.slice a7 (List.length yv3.versions) n7)] 71 (0, 0))], H6, H7] ⟨rfl, rfl, rfl, rfl, rfl, trivial⟩ (by first | rfl | (simp only [List.length_set]; rfl)) ?_
    refine at_end ?_
    refine at_sub [(4, (.int .u8 x)), (11, (.pointer (some ⟨b2, 0, none⟩))), (12, (.pointer (some ⟨b4, 0, none⟩))), (13, (.pointer (some ⟨b5, 0, none⟩))), (14, (.int .i64 v4))] ⟨rfl, rfl, rfl, rfl, rfl, trivial⟩ ?_
    refine at_then ?_
    refine at_seq ?_
    refine at_region [0, 1, 2, 3] rfl ?_
    refine at_s T rfl ?_
    obtain ⟨v5, V7, H⟩ := bind_e H
    refine at_cons (at_cR (As := [[(b5, Obj.cells #[(.int .i64 yv3.m.W), (.int .i64 yv3.m.H), (.slice a6 (List.length yv3.m.C) n6), (.int .i64 yv3.epoch), (.slice a7 (List.length yv3.versions) n7)] 71 (0, 0))], H6, H7]) (R := [F, H9, [(b2, Obj.cells #[(.int .i64 v1.W), (.int .i64 v1.H), (.slice a1 (List.length (List.set v1.C (Int.toNat v4) x)) n1)] 25 (0, 0))], H3, [(b4, Obj.cells #[(.int .i64 v2.W), (.int .i64 v2.H), (.slice a3 (List.length v2.C) n3)] 25 (0, 0))]]) (grid_Grid_Map.R v5) [[(b5, Obj.cells #[(.int .i64 yv3.m.W), (.int .i64 yv3.m.H), (.slice a6 (List.length yv3.m.C) n6), (.int .i64 yv3.epoch), (.slice a7 (List.length yv3.versions) n7)] 71 (0, 0))], H6, H7] [5, 5, 5] rfl rfl rfl rfl has27 rfl rfl (grid_Grid_Map.c yv3 v5 _ V7 s6 s7) ?_)
    rintro _ _ ⟨a10, n10, H10, s10, rfl, rfl⟩
    refine at_cons (at_al T [(.int .i64 0), (.int .i64 0), (.slice none 0 0)] rfl rfl rfl rfl (fun b11 => ?_))
    refine at_cons (at_st T 9 [(.int .i64 v5.W), (.int .i64 v5.H), (.slice a10 (List.length v5.C) n10)] rfl rfl rfl rfl rfl rfl rfl rfl rfl rfl ?_)
    refine at_end ?_
    refine at_sub [(4, (.int .u8 x)), (11, (.pointer (some ⟨b2, 0, none⟩))), (12, (.pointer (some ⟨b4, 0, none⟩))), (13, (.pointer (some ⟨b5, 0, none⟩))), (14, (.int .i64 v4)), (15, (.pointer (some ⟨b11, 0, none⟩)))] ⟨rfl, rfl, rfl, rfl, rfl, rfl, trivial⟩ ?_
    refine at_then ?_
    refine at_seq ?_
    refine at_region [0, 1, 2, 3, 4, 5, 6, 7, 8, 9, 10, 11, 12, 13] rfl ?_
    iterate 2 refine at_s T rfl ?_
    refine at_v rfl (g_load T rfl rfl rfl rfl (in_var (j := 2) rfl rfl)) ?_
    refine at_s T rfl ?_
    refine at_v rfl (g_load T rfl rfl rfl rfl (in_var (j := 2) rfl rfl)) ?_
    refine at_s T rfl ?_
    obtain ⟨v6, V8, H⟩ := bind_e H
    refine at_cons (at_c (B := fun _ => []) [] rfl rfl rfl rfl has22 rfl rfl (ref1_Sector.c v1.W v1.H v4 v6 _ V8) (fun _ => ?_))
    obtain ⟨v7, V9, H⟩ := bind_e H
    refine at_cons (at_cR (As := [[(b5, Obj.cells #[(.int .i64 yv3.m.W), (.int .i64 yv3.m.H), (.slice a6 (List.length yv3.m.C) n6), (.int .i64 yv3.epoch), (.slice a7 (List.length yv3.versions) n7)] 71 (0, 0))], H6, H7]) (R := [F, H9, [(b2, Obj.cells #[(.int .i64 v1.W), (.int .i64 v1.H), (.slice a1 (List.length (List.set v1.C (Int.toNat v4) x)) n1)] 25 (0, 0))], H3, [(b4, Obj.cells #[(.int .i64 v2.W), (.int .i64 v2.H), (.slice a3 (List.length v2.C) n3)] 25 (0, 0))], H10, [(b11, Obj.cells #[(.int .i64 v5.W), (.int .i64 v5.H), (.slice a10 (List.length v5.C) n10)] 25 (0, 0))]]) (grid_Grid_Tile.R v7) [[(b5, Obj.cells #[(.int .i64 yv3.m.W), (.int .i64 yv3.m.H), (.slice a6 (List.length yv3.m.C) n6), (.int .i64 yv3.epoch), (.slice a7 (List.length yv3.versions) n7)] 71 (0, 0))], H6, H7] [6, 6, 6] rfl rfl rfl rfl has31 rfl rfl (grid_Grid_Tile.c yv3 v6 v7 _ V9 s6 s7) ?_)
    rintro _ _ ⟨a12, n12, H12, s12, rfl, rfl⟩
    iterate 3 refine at_s T rfl ?_
    refine at_cons (at_al T [(.int .i64 0), (.int .i64 0), (.slice none 0 0)] rfl rfl rfl rfl (fun b13 => ?_))
    refine at_cons (at_st T 11 [(.int .i64 v7.1.W), (.int .i64 v7.1.H), (.slice a12 (List.length v7.1.C) n12)] rfl rfl rfl rfl rfl rfl rfl rfl rfl rfl ?_)
    refine at_s T rfl ?_
    refine at_end ?_
    refine at_to [(4, (.int .u8 x)), (12, (.pointer (some ⟨b4, 0, none⟩))), (13, (.pointer (some ⟨b5, 0, none⟩))), (14, (.int .i64 v4)), (15, (.pointer (some ⟨b11, 0, none⟩))), (16, (.pointer (some ⟨b13, 0, none⟩))), (17, (.bool v7.2))] [0, 2, 2, 2, 2, 2, 2, 2, 2, 2] [F, H3, [(b4, Obj.cells #[(.int .i64 v2.W), (.int .i64 v2.H), (.slice a3 (List.length v2.C) n3)] 25 (0, 0))], H10, [(b11, Obj.cells #[(.int .i64 v5.W), (.int .i64 v5.H), (.slice a10 (List.length v5.C) n10)] 25 (0, 0))], H12, [(b5, Obj.cells #[(.int .i64 yv3.m.W), (.int .i64 yv3.m.H), (.slice a6 (List.length yv3.m.C) n6), (.int .i64 yv3.epoch), (.slice a7 (List.length yv3.versions) n7)] 71 (0, 0))], H6, H7, [(b13, Obj.cells #[(.int .i64 v7.1.W), (.int .i64 v7.1.H), (.slice a12 (List.length v7.1.C) n12)] 46 (0, 0))]] ⟨rfl, rfl, rfl, rfl, rfl, rfl, rfl, trivial⟩ rfl ?_
    refine at_then ?_
    refine at_seq ?_
    obtain ⟨z9, Z10, H⟩ := bind_e H
    refine at_seq_mid (σ := Bool) (fun x8 => x8 = z9) (fun x8 => [(4, (.int .u8 x)), (12, (.pointer (some ⟨b4, 0, none⟩))), (13, (.pointer (some ⟨b5, 0, none⟩))), (14, (.int .i64 v4)), (15, (.pointer (some ⟨b11, 0, none⟩))), (16, (.pointer (some ⟨b13, 0, none⟩))), (69, (.bool x8))]) (fun x8 => [F, [(b4, Obj.cells #[(.int .i64 v2.W), (.int .i64 v2.H), (.slice a3 (List.length v2.C) n3)] 25 (0, 0))], H3, [(b5, Obj.cells #[(.int .i64 yv3.m.W), (.int .i64 yv3.m.H), (.slice a6 (List.length yv3.m.C) n6), (.int .i64 yv3.epoch), (.slice a7 (List.length yv3.versions) n7)] 71 (0, 0))], H6, H7, [(b11, Obj.cells #[(.int .i64 v5.W), (.int .i64 v5.H), (.slice a10 (List.length v5.C) n10)] 25 (0, 0))], H10, [(b13, Obj.cells #[(.int .i64 v7.1.W), (.int .i64 v7.1.H), (.slice a12 (List.length v7.1.C) n12)] 46 (0, 0))], H12]) ?_ ?_
    · refine at_region [0, 1, 2, 3, 4, 5, 6, 7, 8, 9, 10, 11, 12, 13, 14, 15, 16] rfl ?_
      iterate 3 refine at_s T rfl ?_
      refine at_case (s := 55) rfl (fun c11 => ?_) (fun c11 => ?_)
      · replace Z10 := if_t c11 Z10
        iterate 14 refine at_s T rfl ?_
        refine at_end ?_
        refine at_sub [(4, (.int .u8 x)), (12, (.pointer (some ⟨b4, 0, none⟩))), (13, (.pointer (some ⟨b5, 0, none⟩))), (14, (.int .i64 v4)), (15, (.pointer (some ⟨b11, 0, none⟩))), (16, (.pointer (some ⟨b13, 0, none⟩))), (69, (.bool true))] ⟨rfl, rfl, rfl, rfl, rfl, rfl, rfl, trivial⟩ ?_
        refine at_then ?_
        obtain rfl := Option.some.inj Z10
        exact at_mid true [0, 1, 0, 3, 3, 3, 1, 0, 1, 0] rfl ⟨rfl, rfl, rfl, rfl, rfl, rfl, rfl, trivial⟩ rfl
      · replace Z10 := if_f (bf c11) Z10
        refine at_s T rfl ?_
        refine at_v rfl (g_load T rfl rfl rfl rfl (in_var (j := 4) rfl rfl)) ?_
        iterate 2 refine at_s T rfl ?_
        refine at_v rfl (g_load T rfl rfl rfl rfl (in_var (j := 2) rfl rfl)) ?_
        iterate 4 refine at_s T rfl ?_
        refine at_case (s := 64) rfl (fun c12 => ?_) (fun c12 => ?_)
        · replace Z10 := if_t c12 Z10
          iterate 5 refine at_s T rfl ?_
          refine at_end ?_
          refine at_sub [(4, (.int .u8 x)), (12, (.pointer (some ⟨b4, 0, none⟩))), (13, (.pointer (some ⟨b5, 0, none⟩))), (14, (.int .i64 v4)), (15, (.pointer (some ⟨b11, 0, none⟩))), (16, (.pointer (some ⟨b13, 0, none⟩))), (69, (.bool true))] ⟨rfl, rfl, rfl, rfl, rfl, rfl, rfl, trivial⟩ ?_
          refine at_then ?_
          obtain rfl := Option.some.inj Z10
          exact at_mid true [0, 1, 0, 3, 3, 3, 1, 0, 1, 0] rfl ⟨rfl, rfl, rfl, rfl, rfl, rfl, rfl, trivial⟩ rfl
        · replace Z10 := if_f (bf c12) Z10
          refine at_v rfl (g_loadA T (cs := [(.int .i64 v5.W), (.int .i64 v5.H), (.slice a10 (List.length v5.C) n10)]) rfl rfl rfl rfl rfl rfl (in_varA (j := 4) rfl rfl)) ?_
          refine at_v rfl (g_loadA T (cs := [(.int .i64 v2.W), (.int .i64 v2.H), (.slice a3 (List.length v2.C) n3)]) rfl rfl rfl rfl rfl rfl (in_varA (j := 2) rfl rfl)) ?_
          obtain ⟨v10, V13, Z10⟩ := bind_e Z10
          refine at_cons (at_c (B := fun _ => []) [] rfl rfl rfl rfl has26 rfl rfl (ref1_SameMap.c v5 v2 v10 _ V13 (own_of s10 (j := 3) rfl) s10.cap_le (own_of s3 (j := 1) rfl) s3.cap_le) (fun _ => ?_))
          iterate 2 refine at_s T rfl ?_
          refine at_end ?_
          refine at_sub [(4, (.int .u8 x)), (12, (.pointer (some ⟨b4, 0, none⟩))), (13, (.pointer (some ⟨b5, 0, none⟩))), (14, (.int .i64 v4)), (15, (.pointer (some ⟨b11, 0, none⟩))), (16, (.pointer (some ⟨b13, 0, none⟩))), (69, (.bool (!v10)))] ⟨rfl, rfl, rfl, rfl, rfl, rfl, rfl, trivial⟩ ?_
          refine at_then ?_
          obtain rfl := Option.some.inj Z10
          exact at_mid (!v10) [0, 1, 0, 3, 3, 3, 1, 0, 1, 0] rfl ⟨rfl, rfl, rfl, rfl, rfl, rfl, rfl, trivial⟩ rfl
    · rintro x8 rfl
      refine at_cond rfl (fun c14 => ?_) (fun c14 => ?_)
      · replace H := if_t c14 H
        refine at_seq ?_
        refine at_region [0] rfl ?_
        refine at_s T rfl ?_
        refine at_end ?_
        refine at_to [(10, (.bool false))] [0] [F] ⟨rfl, trivial⟩ rfl ?_
        refine at_then ?_
        refine at_ret ?_
        refine at_rt ?_
        obtain rfl := Option.some.inj H
        exact at_post (T := T) rfl (.tmp rfl .nil) (fun w o => ⟨(), rfl, own_to [0] rfl o⟩)
      · replace H := if_f (bf c14) H
        refine at_skip ?_
        refine at_then ?_
        refine at_seq ?_
        refine at_region [0, 1, 2, 3, 4, 5] rfl ?_
        refine at_s T rfl ?_
        refine at_v rfl (g_load T rfl rfl rfl rfl (in_var (j := 6) rfl rfl)) ?_
        iterate 2 refine at_s T rfl ?_
        obtain ⟨c15, H⟩ := chk_e H
        obtain ⟨q14, o14, e14⟩ := s10.r.addr c15.1 c15.2
        refine at_v rfl (g_index T rfl rfl rfl rfl rfl e14 c15.1 c15.2) ?_
        refine at_cons (at_se (k := (Fl.int .u8)) T 7 0 x rfl rfl rfl rfl rfl rfl s10 e14 c15 rfl rfl rfl (fun H15 s15 => ?_))
        refine at_to [(4, (.int .u8 x)), (12, (.pointer (some ⟨b4, 0, none⟩))), (13, (.pointer (some ⟨b5, 0, none⟩))), (14, (.int .i64 v4)), (16, (.pointer (some ⟨b13, 0, none⟩)))] [0, 0, 0, 0, 0, 0, 2, 2] [F, [(b4, Obj.cells #[(.int .i64 v2.W), (.int .i64 v2.H), (.slice a3 (List.length v2.C) n3)] 25 (0, 0))], H3, [(b5, Obj.cells #[(.int .i64 yv3.m.W), (.int .i64 yv3.m.H), (.slice a6 (List.length yv3.m.C) n6), (.int .i64 yv3.epoch), (.slice a7 (List.length yv3.versions) n7)] 71 (0, 0))], H6, H7, [(b13, Obj.cells #[(.int .i64 v7.1.W), (.int .i64 v7.1.H), (.slice a12 (List.length v7.1.C) n12)] 46 (0, 0))], H12] ⟨rfl, rfl, rfl, rfl, rfl, trivial⟩ (by first | rfl | (simp only [List.length_set]; rfl)) ?_
        refine at_end ?_
        refine at_sub [(4, (.int .u8 x)), (12, (.pointer (some ⟨b4, 0, none⟩))), (13, (.pointer (some ⟨b5, 0, none⟩))), (14, (.int .i64 v4)), (16, (.pointer (some ⟨b13, 0, none⟩)))] ⟨rfl, rfl, rfl, rfl, rfl, trivial⟩ ?_
        refine at_then ?_
        refine at_seq ?_
        refine at_seq ?_
        refine at_region [0] rfl ?_
        refine at_s T rfl ?_
        refine at_end ?_
        refine at_sub [(4, (.int .u8 x)), (12, (.pointer (some ⟨b4, 0, none⟩))), (13, (.pointer (some ⟨b5, 0, none⟩))), (14, (.int .i64 v4)), (16, (.pointer (some ⟨b13, 0, none⟩))), (18, (.int .i64 0))] ⟨rfl, rfl, rfl, rfl, rfl, rfl, trivial⟩ ?_
        refine at_then ?_
        refine at_block ?_
        refine at_loopL (σ := Nat × List Int × Int × Option Addr × Nat × Hp) (fun ⟨k15, x13, x14, a17, n17, H17⟩ => law5_GridKeeps.l0 k15 x v2 yv3 v4 x13 x14 = some r ∧ SliceO (Fl.int .u8) 5 x13 a17 n17 H17) (fun ⟨k15, x13, x14, a17, n17, H17⟩ => [(4, (.int .u8 x)), (12, (.pointer (some ⟨b4, 0, none⟩))), (13, (.pointer (some ⟨b5, 0, none⟩))), (14, (.int .i64 v4)), (16, (.pointer (some ⟨b13, 0, none⟩))), (18, (.int .i64 x14))]) (fun ⟨k15, x13, x14, a17, n17, H17⟩ => [F, [(b4, Obj.cells #[(.int .i64 v2.W), (.int .i64 v2.H), (.slice a3 (List.length v2.C) n3)] 25 (0, 0))], H3, [(b5, Obj.cells #[(.int .i64 yv3.m.W), (.int .i64 yv3.m.H), (.slice a6 (List.length yv3.m.C) n6), (.int .i64 yv3.epoch), (.slice a7 (List.length yv3.versions) n7)] 71 (0, 0))], H6, H7, [(b13, Obj.cells #[(.int .i64 v7.1.W), (.int .i64 v7.1.H), (.slice a17 (List.length x13) n17)] 46 (0, 0))], H17]) (fun s => s.1) (fuel, v7.1.C, 0, a12, n12, H12) [0, 0, 0, 0, 0, 0, 0, 0] ⟨H, s12⟩ ⟨rfl, rfl, rfl, rfl, rfl, rfl, trivial⟩ rfl ?_
        rintro ⟨k15, x13, x14, a17, n17, H17⟩ ⟨Z16, s17⟩
        replace Z16 : law5_GridKeeps.l0 k15 x v2 yv3 v4 x13 x14 = some r := Z16
        rcases k15 with _ | k15
        · rw [law5_GridKeeps.l0] at Z16; cases Z16
        · rw [law5_GridKeeps.l0] at Z16
          refine at_seq ?_
          refine at_seq ?_
          refine at_region [0, 1, 2, 3, 4] rfl ?_
          iterate 2 refine at_s T rfl ?_
          refine at_v rfl (g_load T rfl rfl rfl rfl (in_var (j := 6) rfl rfl)) ?_
          iterate 2 refine at_s T rfl ?_
          refine at_end ?_
          refine at_sub [(4, (.int .u8 x)), (12, (.pointer (some ⟨b4, 0, none⟩))), (13, (.pointer (some ⟨b5, 0, none⟩))), (14, (.int .i64 v4)), (16, (.pointer (some ⟨b13, 0, none⟩))), (18, (.int .i64 x14)), (79, (.bool (decide (x14 < (List.length x13 : Int)))))] ⟨rfl, rfl, rfl, rfl, rfl, rfl, rfl, trivial⟩ ?_
          refine at_then ?_
          refine at_cond rfl (fun c17 => ?_) (fun c17 => ?_)
          · replace Z16 := if_t (of_decide_eq_true c17) Z16
            refine at_skip ?_
            refine at_then ?_
            refine at_seq ?_
            refine at_block ?_
            refine at_region [0, 1, 2, 3, 4, 5] rfl ?_
            refine at_s T rfl ?_
            refine at_v rfl (g_load T rfl rfl rfl rfl (in_var (j := 6) rfl rfl)) ?_
            iterate 2 refine at_s T rfl ?_
            obtain ⟨c18, Z16⟩ := chk_e Z16
            obtain ⟨q18, o18, e18⟩ := s17.r.addr c18.1 c18.2
            refine at_v rfl (g_index T rfl rfl rfl rfl rfl e18 c18.1 c18.2) ?_
            refine at_cons (at_se (k := (Fl.int .u8)) T 7 0 x rfl rfl rfl rfl rfl rfl s17 e18 c18 rfl rfl rfl (fun H19 s19 => ?_))
            refine at_to [(4, (.int .u8 x)), (12, (.pointer (some ⟨b4, 0, none⟩))), (13, (.pointer (some ⟨b5, 0, none⟩))), (14, (.int .i64 v4)), (16, (.pointer (some ⟨b13, 0, none⟩))), (18, (.int .i64 x14))] [0, 0, 0, 0, 0, 0, 0, 0] [F, [(b4, Obj.cells #[(.int .i64 v2.W), (.int .i64 v2.H), (.slice a3 (List.length v2.C) n3)] 25 (0, 0))], H3, [(b5, Obj.cells #[(.int .i64 yv3.m.W), (.int .i64 yv3.m.H), (.slice a6 (List.length yv3.m.C) n6), (.int .i64 yv3.epoch), (.slice a7 (List.length yv3.versions) n7)] 71 (0, 0))], H6, H7, [(b13, Obj.cells #[(.int .i64 v7.1.W), (.int .i64 v7.1.H), (.slice a17 (List.length (List.set x13 (Int.toNat x14) x)) n17)] 46 (0, 0))], H19] ⟨rfl, rfl, rfl, rfl, rfl, rfl, trivial⟩ (by first | rfl | (simp only [List.length_set]; rfl)) ?_
            refine at_end ?_
            refine at_sub [(4, (.int .u8 x)), (12, (.pointer (some ⟨b4, 0, none⟩))), (13, (.pointer (some ⟨b5, 0, none⟩))), (14, (.int .i64 v4)), (16, (.pointer (some ⟨b13, 0, none⟩))), (18, (.int .i64 x14))] ⟨rfl, rfl, rfl, rfl, rfl, rfl, trivial⟩ ?_
            refine at_nb ?_
            refine at_then ?_
            refine at_region [0, 1, 2] rfl ?_
            iterate 3 refine at_s T rfl ?_
            refine at_end ?_
            refine at_sub [(4, (.int .u8 x)), (12, (.pointer (some ⟨b4, 0, none⟩))), (13, (.pointer (some ⟨b5, 0, none⟩))), (14, (.int .i64 v4)), (16, (.pointer (some ⟨b13, 0, none⟩))), (18, (.int .i64 (w64 (x14 + 1))))] ⟨rfl, rfl, rfl, rfl, rfl, rfl, trivial⟩ ?_
            refine at_then ?_
            exact at_roundL (k15, (List.set x13 (Int.toNat x14) x), (w64 (x14 + 1)), a17, n17, H19) [0, 0, 0, 0, 0, 0, 0, 0] ⟨Z16, s19⟩ (Nat.lt_succ_self _) ⟨rfl, rfl, rfl, rfl, rfl, rfl, trivial⟩ rfl
          · replace Z16 := if_f (of_decide_eq_false c17) Z16
            refine at_exit ?_
            refine at_xt ?_
            refine at_xt ?_
            refine at_xb ?_
            refine at_then ?_
            obtain ⟨z17, Z19, Z16⟩ := bind_e Z16
            refine at_seq_mid (σ := Bool) (fun x16 => x16 = z17) (fun x16 => [(10, (.bool x16))]) (fun x16 => [F]) ?_ ?_
            · refine at_region_m [[], [0], [0, 1], [0, 1, 2], [0, 1], [0, 1, 2, 3, 4], [0, 1, 2, 3, 4, 5], [0, 1, 2, 3, 4, 5, 6], [0, 1, 2, 3, 4, 5, 6, 7], [0, 1, 2, 3, 4, 5, 6, 7], [0, 1, 2, 3, 4, 5, 6, 7, 8, 9], [0, 1, 2, 3, 4, 5, 6, 7], [0, 1, 2, 3, 4, 5, 6, 7, 11], [0, 1, 2, 3, 4, 5, 6, 7], [0, 1, 2, 3, 4, 5, 6, 7, 11, 12, 13], [0, 1, 2, 3, 4, 5, 6, 7, 11, 12, 13, 14], [0, 1, 2, 3, 4, 5, 6, 7, 11, 12, 13, 14, 15], [0, 1, 2, 3, 4, 5, 6, 7, 8, 9, 10, 11, 12, 13, 14, 15, 16], [0, 1, 2, 3, 4, 5, 6, 7, 8, 9, 10, 11, 12, 13, 14, 15, 16, 17], [0, 1, 2, 3, 4, 5, 6, 7, 8, 9, 10, 11, 12, 13, 14, 15, 16, 17, 18], [0, 1, 2, 3, 4, 5, 6, 7, 8, 9, 10, 11, 12, 13, 14, 15, 16, 17, 18, 19], [0, 1, 2, 3, 4, 5, 6, 7, 8, 9, 10, 11, 12, 13, 14, 15, 16, 17, 18, 19, 20], [0, 1, 2, 3, 4, 5, 6, 7, 8, 9, 10, 11, 12, 13, 14, 15, 16, 17, 18, 19, 20, 21], [0, 1, 2, 3, 4, 5, 6, 7, 8, 9, 10, 11, 12, 13, 14, 15, 16, 17, 18, 19, 20, 21, 22], [0, 1, 2, 3, 4, 5, 6, 7, 8, 9, 10, 11, 12, 13, 14, 15, 16, 17, 18, 19, 20, 21, 22, 23]] [] [F, [(b4, Obj.cells #[(.int .i64 v2.W), (.int .i64 v2.H), (.slice a3 (List.length v2.C) n3)] 25 (0, 0))], H3, [(b5, Obj.cells #[(.int .i64 yv3.m.W), (.int .i64 yv3.m.H), (.slice a6 (List.length yv3.m.C) n6), (.int .i64 yv3.epoch), (.slice a7 (List.length yv3.versions) n7)] 71 (0, 0))], H6, H7, [(b13, Obj.cells #[(.int .i64 v7.1.W), (.int .i64 v7.1.H), (.slice a17 (List.length x13) n17)] 46 (0, 0))], H17] mix (by kernel_rfl) (by repeat first | exact pf_body | refine pf_then ?_ | refine pf_block ?_) (fun hg pf => ?_)
              refine atm_one 0 (by kernel_rfl) ?_
              obtain ⟨v18, V20, Z19⟩ := bind_e Z19
              refine at_c (B := fun _ => []) [] rfl rfl rfl rfl has23 rfl rfl (law5_told.c  v18 _ V20) (fun _ => ?_)
              refine atm_next (still_o [0, 0, 0, 0, 0, 0, 0, 0] rfl) ?_
              refine atm_s T 1 hg pf (by kernel_rfl) (still_o [0, 0, 0, 0, 0, 0, 0, 0] rfl) rfl ?_
              refine at_case (s := 88) rfl (fun c21 => ?_) (fun c21 => ?_)
              · replace Z19 := if_t c21 Z19
                refine atm_s T 2 hg pf (by kernel_rfl) (still_o [0, 0, 0, 0, 0, 0, 0, 0] rfl) rfl ?_
                refine atm_v 4 hg pf (by kernel_rfl) (still_o [0, 0, 0, 0, 0, 0, 0, 0] rfl) rfl rfl (g_loadA T (cs := [(.int .i64 v2.W), (.int .i64 v2.H), (.slice a3 (List.length v2.C) n3)]) rfl rfl rfl rfl rfl rfl (in_varA (j := 1) rfl rfl)) ?_
                refine atm_one 3 (by kernel_rfl) ?_
                obtain ⟨v19, V22, Z19⟩ := bind_e Z19
                refine at_cR (As := [[(b5, Obj.cells #[(.int .i64 yv3.m.W), (.int .i64 yv3.m.H), (.slice a6 (List.length yv3.m.C) n6), (.int .i64 yv3.epoch), (.slice a7 (List.length yv3.versions) n7)] 71 (0, 0))], H6, H7]) (R := [F, [(b4, Obj.cells #[(.int .i64 v2.W), (.int .i64 v2.H), (.slice a3 (List.length v2.C) n3)] 25 (0, 0))], H3, [(b13, Obj.cells #[(.int .i64 v7.1.W), (.int .i64 v7.1.H), (.slice a17 (List.length x13) n17)] 46 (0, 0))], H17]) (grid_Grid_Map.R v19) [[(b5, Obj.cells #[(.int .i64 yv3.m.W), (.int .i64 yv3.m.H), (.slice a6 (List.length yv3.m.C) n6), (.int .i64 yv3.epoch), (.slice a7 (List.length yv3.versions) n7)] 71 (0, 0))], H6, H7] [3, 3, 3] rfl rfl rfl rfl has27 rfl rfl (grid_Grid_Map.c yv3 v19 _ V22 s6 s7) ?_
                rintro _ _ ⟨a20, n20, H20, s20, rfl, rfl⟩
                refine atm_next (still_o [0, 0, 0, 3, 3, 3, 0, 0] rfl) ?_
                refine atm_one 5 (by kernel_rfl) ?_
                obtain ⟨v20, V23, Z19⟩ := bind_e Z19
                refine at_c (B := fun _ => []) [] rfl rfl rfl rfl has26 rfl rfl (ref1_SameMap.c v19 v2 v20 _ V23 (own_of s20 (j := 5) rfl) s20.cap_le (own_of s3 (j := 2) rfl) s3.cap_le) (fun _ => ?_)
                refine atm_next (still_o [0, 0, 0, 3, 3, 3, 0, 0] rfl) ?_
                refine atm_s T 6 hg pf (by kernel_rfl) (still_o [0, 0, 0, 3, 3, 3, 0, 0] rfl) rfl ?_
                refine atm_s T 7 hg pf (by kernel_rfl) (still_o [0, 0, 0, 3, 3, 3, 0, 0] rfl) rfl ?_
                refine at_case (s := 94) rfl (fun c24 => ?_) (fun c24 => ?_)
                · replace Z19 := if_t c24 Z19
                  refine atm_s T 8 hg pf (by kernel_rfl) (still_o [0, 0, 0, 3, 3, 3, 0, 0] rfl) rfl ?_
                  refine atm_s T 9 hg pf (by kernel_rfl) (still_o [0, 0, 0, 3, 3, 3, 0, 0] rfl) rfl ?_
                  refine atm_s T 11 hg pf (by kernel_rfl) (still_o [0, 0, 0, 3, 3, 3, 0, 0] rfl) rfl ?_
                  refine atm_v 12 hg pf (by kernel_rfl) (still_o [0, 0, 0, 3, 3, 3, 0, 0] rfl) rfl rfl (g_load T rfl rfl rfl rfl (in_var (j := 1) rfl rfl)) ?_
                  refine atm_s T 13 hg pf (by kernel_rfl) (still_o [0, 0, 0, 3, 3, 3, 0, 0] rfl) rfl ?_
                  obtain ⟨c25, Z19⟩ := chk_e Z19
                  obtain ⟨q21, o21, e21⟩ := s3.r.addr c25.1 c25.2
                  refine atm_v 14 hg pf (by kernel_rfl) (still_o [0, 0, 0, 3, 3, 3, 0, 0] rfl) rfl rfl (g_index T rfl rfl rfl rfl rfl e21 c25.1 c25.2) ?_
                  refine atm_v 15 hg pf (by kernel_rfl) (still_o [0, 0, 0, 3, 3, 3, 0, 0] rfl) rfl rfl (g_load T rfl rfl rfl rfl (in_elem1 (k := (Fl.int .u8)) (own_of s3 (j := 2) rfl) e21 c25 0 rfl)) ?_
                  refine atm_s T 16 hg pf (by kernel_rfl) (still_o [0, 0, 0, 3, 3, 3, 0, 0] rfl) rfl ?_
                  refine atm_one 10 (by kernel_rfl) ?_
                  obtain ⟨v21, V26, Z19⟩ := bind_e Z19
                  refine at_c (As := [[(b5, Obj.cells #[(.int .i64 yv3.m.W), (.int .i64 yv3.m.H), (.slice a6 (List.length yv3.m.C) n6), (.int .i64 yv3.epoch), (.slice a7 (List.length yv3.versions) n7)] 71 (0, 0))], H6, H7]) (R := [F, [(b4, Obj.cells #[(.int .i64 v2.W), (.int .i64 v2.H), (.slice a3 (List.length v2.C) n3)] 25 (0, 0))], H3, [(b13, Obj.cells #[(.int .i64 v7.1.W), (.int .i64 v7.1.H), (.slice a17 (List.length x13) n17)] 46 (0, 0))], H17, H20]) (B := fun _ => [[(b5, Obj.cells #[(.int .i64 yv3.m.W), (.int .i64 yv3.m.H), (.slice a6 (List.length yv3.m.C) n6), (.int .i64 yv3.epoch), (.slice a7 (List.length yv3.versions) n7)] 71 (0, 0))], H6, H7]) [6, 6, 6] rfl rfl rfl rfl has20 rfl rfl (grid_Grid_Cost.c yv3 v4 v21 _ V26 s6 s7) (fun _ => ?_)
                  refine atm_next (still_o [0, 0, 0, 3, 3, 3, 0, 0] rfl) ?_
                  refine atm_s T 17 hg pf (by kernel_rfl) (still_o [0, 0, 0, 3, 3, 3, 0, 0] rfl) rfl ?_
                  refine atm_s T 18 hg pf (by kernel_rfl) (still_o [0, 0, 0, 3, 3, 3, 0, 0] rfl) rfl ?_
                  refine atm_s T 19 hg pf (by kernel_rfl) (still_o [0, 0, 0, 3, 3, 3, 0, 0] rfl) rfl ?_
                  refine at_case (s := 106) rfl (fun c27 => ?_) (fun c27 => ?_)
                  · replace Z19 := if_t c27 Z19
                    refine atm_s T 20 hg pf (by kernel_rfl) (still_o [0, 0, 0, 3, 3, 3, 0, 0] rfl) rfl ?_
                    refine atm_one 21 (by kernel_rfl) ?_
                    obtain ⟨v22, V28, Z19⟩ := bind_e Z19
                    refine at_c (As := [[(b5, Obj.cells #[(.int .i64 yv3.m.W), (.int .i64 yv3.m.H), (.slice a6 (List.length yv3.m.C) n6), (.int .i64 yv3.epoch), (.slice a7 (List.length yv3.versions) n7)] 71 (0, 0))], H6, H7]) (R := [F, [(b4, Obj.cells #[(.int .i64 v2.W), (.int .i64 v2.H), (.slice a3 (List.length v2.C) n3)] 25 (0, 0))], H3, [(b13, Obj.cells #[(.int .i64 v7.1.W), (.int .i64 v7.1.H), (.slice a17 (List.length x13) n17)] 46 (0, 0))], H17, H20]) (B := fun _ => [[(b5, Obj.cells #[(.int .i64 yv3.m.W), (.int .i64 yv3.m.H), (.slice a6 (List.length yv3.m.C) n6), (.int .i64 yv3.epoch), (.slice a7 (List.length yv3.versions) n7)] 71 (0, 0))], H6, H7]) [6, 6, 6] rfl rfl rfl rfl has19 rfl rfl (grid_Grid_Epoch.c yv3 v22 _ V28 s6 s7) (fun _ => ?_)
                    refine atm_next (still_o [0, 0, 0, 3, 3, 3, 0, 0] rfl) ?_
                    refine atm_s T 22 hg pf (by kernel_rfl) (still_o [0, 0, 0, 3, 3, 3, 0, 0] rfl) rfl ?_
                    refine atm_s T 23 hg pf (by kernel_rfl) (still_o [0, 0, 0, 3, 3, 3, 0, 0] rfl) rfl ?_
                    refine atm_s T 24 hg pf (by kernel_rfl) (still_o [0, 0, 0, 3, 3, 3, 0, 0] rfl) rfl ?_
                    refine atm_end (by kernel_rfl) ?_
                    refine at_to [(10, (.bool (v22 == 1)))] [0] [F] ⟨rfl, trivial⟩ rfl ?_
                    refine at_then ?_
                    obtain rfl := Option.some.inj Z19
                    exact at_mid (v22 == 1) [0] rfl ⟨rfl, trivial⟩ rfl
                  · replace Z19 := if_f (bf c27) Z19
                    refine atm_s T 20 hg pf (by kernel_rfl) (still_o [0, 0, 0, 3, 3, 3, 0, 0] rfl) rfl ?_
                    refine atm_s T 21 hg pf (by kernel_rfl) (still_o [0, 0, 0, 3, 3, 3, 0, 0] rfl) rfl ?_
                    refine atm_s T 22 hg pf (by kernel_rfl) (still_o [0, 0, 0, 3, 3, 3, 0, 0] rfl) rfl ?_
                    refine atm_s T 23 hg pf (by kernel_rfl) (still_o [0, 0, 0, 3, 3, 3, 0, 0] rfl) rfl ?_
                    refine atm_s T 24 hg pf (by kernel_rfl) (still_o [0, 0, 0, 3, 3, 3, 0, 0] rfl) rfl ?_
                    refine atm_end (by kernel_rfl) ?_
                    refine at_to [(10, (.bool false))] [0] [F] ⟨rfl, trivial⟩ rfl ?_
                    refine at_then ?_
                    obtain rfl := Option.some.inj Z19
                    exact at_mid false [0] rfl ⟨rfl, trivial⟩ rfl
                · replace Z19 := if_f (bf c24) Z19
                  refine atm_s T 8 hg pf (by kernel_rfl) (still_o [0, 0, 0, 3, 3, 3, 0, 0] rfl) rfl ?_
                  refine atm_s T 9 hg pf (by kernel_rfl) (still_o [0, 0, 0, 3, 3, 3, 0, 0] rfl) rfl ?_
                  refine atm_s T 10 hg pf (by kernel_rfl) (still_o [0, 0, 0, 3, 3, 3, 0, 0] rfl) rfl ?_
                  refine atm_s T 11 hg pf (by kernel_rfl) (still_o [0, 0, 0, 3, 3, 3, 0, 0] rfl) rfl ?_
                  refine atm_s T 12 hg pf (by kernel_rfl) (still_o [0, 0, 0, 3, 3, 3, 0, 0] rfl) rfl ?_
                  refine atm_s T 13 hg pf (by kernel_rfl) (still_o [0, 0, 0, 3, 3, 3, 0, 0] rfl) rfl ?_
                  refine atm_s T 14 hg pf (by kernel_rfl) (still_o [0, 0, 0, 3, 3, 3, 0, 0] rfl) rfl ?_
                  refine atm_s T 15 hg pf (by kernel_rfl) (still_o [0, 0, 0, 3, 3, 3, 0, 0] rfl) rfl ?_
                  refine atm_s T 16 hg pf (by kernel_rfl) (still_o [0, 0, 0, 3, 3, 3, 0, 0] rfl) rfl ?_
                  refine atm_s T 17 hg pf (by kernel_rfl) (still_o [0, 0, 0, 3, 3, 3, 0, 0] rfl) rfl ?_
                  refine atm_s T 18 hg pf (by kernel_rfl) (still_o [0, 0, 0, 3, 3, 3, 0, 0] rfl) rfl ?_
                  refine atm_s T 19 hg pf (by kernel_rfl) (still_o [0, 0, 0, 3, 3, 3, 0, 0] rfl) rfl ?_
                  refine atm_s T 20 hg pf (by kernel_rfl) (still_o [0, 0, 0, 3, 3, 3, 0, 0] rfl) rfl ?_
                  refine atm_s T 21 hg pf (by kernel_rfl) (still_o [0, 0, 0, 3, 3, 3, 0, 0] rfl) rfl ?_
                  refine atm_s T 22 hg pf (by kernel_rfl) (still_o [0, 0, 0, 3, 3, 3, 0, 0] rfl) rfl ?_
                  refine atm_s T 23 hg pf (by kernel_rfl) (still_o [0, 0, 0, 3, 3, 3, 0, 0] rfl) rfl ?_
                  refine atm_s T 24 hg pf (by kernel_rfl) (still_o [0, 0, 0, 3, 3, 3, 0, 0] rfl) rfl ?_
                  refine atm_end (by kernel_rfl) ?_
                  refine at_to [(10, (.bool false))] [0] [F] ⟨rfl, trivial⟩ rfl ?_
                  refine at_then ?_
                  obtain rfl := Option.some.inj Z19
                  exact at_mid false [0] rfl ⟨rfl, trivial⟩ rfl
              · replace Z19 := if_f (bf c21) Z19
                refine atm_s T 2 hg pf (by kernel_rfl) (still_o [0, 0, 0, 0, 0, 0, 0, 0] rfl) rfl ?_
                refine atm_s T 3 hg pf (by kernel_rfl) (still_o [0, 0, 0, 0, 0, 0, 0, 0] rfl) rfl ?_
                refine atm_s T 4 hg pf (by kernel_rfl) (still_o [0, 0, 0, 0, 0, 0, 0, 0] rfl) rfl ?_
                refine atm_s T 5 hg pf (by kernel_rfl) (still_o [0, 0, 0, 0, 0, 0, 0, 0] rfl) rfl ?_
                refine atm_s T 6 hg pf (by kernel_rfl) (still_o [0, 0, 0, 0, 0, 0, 0, 0] rfl) rfl ?_
                refine atm_s T 7 hg pf (by kernel_rfl) (still_o [0, 0, 0, 0, 0, 0, 0, 0] rfl) rfl ?_
                refine atm_s T 8 hg pf (by kernel_rfl) (still_o [0, 0, 0, 0, 0, 0, 0, 0] rfl) rfl ?_
                refine atm_s T 9 hg pf (by kernel_rfl) (still_o [0, 0, 0, 0, 0, 0, 0, 0] rfl) rfl ?_
                refine atm_s T 10 hg pf (by kernel_rfl) (still_o [0, 0, 0, 0, 0, 0, 0, 0] rfl) rfl ?_
                refine atm_s T 11 hg pf (by kernel_rfl) (still_o [0, 0, 0, 0, 0, 0, 0, 0] rfl) rfl ?_
                refine atm_s T 12 hg pf (by kernel_rfl) (still_o [0, 0, 0, 0, 0, 0, 0, 0] rfl) rfl ?_
                refine atm_s T 13 hg pf (by kernel_rfl) (still_o [0, 0, 0, 0, 0, 0, 0, 0] rfl) rfl ?_
                refine atm_s T 14 hg pf (by kernel_rfl) (still_o [0, 0, 0, 0, 0, 0, 0, 0] rfl) rfl ?_
                refine atm_s T 15 hg pf (by kernel_rfl) (still_o [0, 0, 0, 0, 0, 0, 0, 0] rfl) rfl ?_
                refine atm_s T 16 hg pf (by kernel_rfl) (still_o [0, 0, 0, 0, 0, 0, 0, 0] rfl) rfl ?_
                refine atm_s T 17 hg pf (by kernel_rfl) (still_o [0, 0, 0, 0, 0, 0, 0, 0] rfl) rfl ?_
                refine atm_s T 18 hg pf (by kernel_rfl) (still_o [0, 0, 0, 0, 0, 0, 0, 0] rfl) rfl ?_
                refine atm_s T 19 hg pf (by kernel_rfl) (still_o [0, 0, 0, 0, 0, 0, 0, 0] rfl) rfl ?_
                refine atm_s T 20 hg pf (by kernel_rfl) (still_o [0, 0, 0, 0, 0, 0, 0, 0] rfl) rfl ?_
                refine atm_s T 21 hg pf (by kernel_rfl) (still_o [0, 0, 0, 0, 0, 0, 0, 0] rfl) rfl ?_
                refine atm_s T 22 hg pf (by kernel_rfl) (still_o [0, 0, 0, 0, 0, 0, 0, 0] rfl) rfl ?_
                refine atm_s T 23 hg pf (by kernel_rfl) (still_o [0, 0, 0, 0, 0, 0, 0, 0] rfl) rfl ?_
                refine atm_s T 24 hg pf (by kernel_rfl) (still_o [0, 0, 0, 0, 0, 0, 0, 0] rfl) rfl ?_
                refine atm_end (by kernel_rfl) ?_
                refine at_to [(10, (.bool false))] [0] [F] ⟨rfl, trivial⟩ rfl ?_
                refine at_then ?_
                obtain rfl := Option.some.inj Z19
                exact at_mid false [0] rfl ⟨rfl, trivial⟩ rfl
            · rintro x16 rfl
              refine at_ret ?_
              obtain rfl := Option.some.inj Z16
              exact at_post (T := T) rfl (.tmp rfl .nil) (fun w o => ⟨(), rfl, own_to [0] rfl o⟩)
def law5_GridKeeps.Pure : Prop := ∀ (w : Int) (h : Int) (c : (List Int)) (cell : Int) (x : Int), inI64 w → inI64 h → (∀ y ∈ c, inU8 y) → inI64 cell → inU8 x → List.length c ≤ 9223372036854775807 → law5_GridKeeps.f w h c cell x = some true
end Go.Proofs.Ytmjcmkimhkjdeaa
