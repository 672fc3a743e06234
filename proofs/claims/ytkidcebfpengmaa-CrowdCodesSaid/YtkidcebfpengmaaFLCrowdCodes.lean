import Derived.Test.YtkidcebfpengmaaT
import Derived.Test.YtkidcebfpengmaaFcrowd
import Derived.Test.YtkidcebfpengmaaFlaw25
import Derived.Test.YtkidcebfpengmaaFref1
import Derived.Test.YtkidcebfpengmaaFref21
import Derived.Test.YtkidcebfpengmaaFwhere
namespace Go.Proofs.Ytkidcebfpengmaa
open Go.Hx
set_option maxRecDepth 100000
set_option linter.unusedVariables false
/-! ### herdsman/herdsmanlaw25.CrowdCodes: function 7 -/
def law25_CrowdCodes.l0 : Nat → Int → Int → Bool → Int → Int → Int → Int → Int → Int → Int → Int → Int → Int → (List (Int × api_Unit)) → List Int → List Int → Int → Int → Option Bool
  | 0, _, _, _, _, _, _, _, _, _, _, _, _, _, _, _, _, _, _ => none
  | k40 + 1, w, h, full, v1, v2, v3, v4, x29, x30, x31, x32, x33, x34, x35, x36, x37, x38, x39 => if (((decide (x39 < (w64 (v1 * v2)))) && full) && (decide (x29 < 2))) = true then ((if (x39 != v3) = true then ((crowd_Crowd_Who.f (crowd_Crowd.mk x30 x31 x32 (units_Units.mk x33 x34 x35 x36) (floor_Floor.mk x37 x38)) x39).bind fun v43 => some (decide (v43 < 0))) else (some false)).bind fun x41 => if x41 = true then (if (¬ (w64 (v1 * v2)) = 0) then ((crowd_Crowd_Spawn.f (crowd_Crowd.mk x30 x31 x32 (units_Units.mk x33 x34 x35 x36) (floor_Floor.mk x37 x38)) x39 (Int.tmod (w64 (x39 + 1)) (w64 (v1 * v2)))).bind fun v44 => if (v44.2.1 != 0) = true then (some false) else (law25_CrowdCodes.l0 k40 w h full v1 v2 v3 v4 (w64 (x29 + 1)) v44.2.2.w v44.2.2.h v44.2.2.most v44.2.2.units.most v44.2.2.units.next v44.2.2.units.live v44.2.2.units.order v44.2.2.floor.words v44.2.2.floor.count (w64 (x39 + 1)))) else none) else (law25_CrowdCodes.l0 k40 w h full v1 v2 v3 v4 x29 x30 x31 x32 x33 x34 x35 x36 x37 x38 (w64 (x39 + 1)))) else ((if ((((decide (v3 < 0)) || (decide (v3 ≥ (w64 (v1 * v2))))) || (decide (v4 < 0))) || (decide (v4 ≥ (w64 (v1 * v2))))) = true then (some 7) else ((crowd_Crowd_Who.f (crowd_Crowd.mk x30 x31 x32 (units_Units.mk x33 x34 x35 x36) (floor_Floor.mk x37 x38)) v3).bind fun v47 => if v47 ≥ 0 then (some 10) else (if (x29 == 2) = true then (some 11) else (if (v3 == v4) = true then (some 13) else (some 0))))).bind fun x45 => (crowd_Crowd_Units.f (crowd_Crowd.mk x30 x31 x32 (units_Units.mk x33 x34 x35 x36) (floor_Floor.mk x37 x38))).bind fun v48 => (crowd_Crowd_Spawn.f (crowd_Crowd.mk x30 x31 x32 (units_Units.mk x33 x34 x35 x36) (floor_Floor.mk x37 x38)) v3 v4).bind fun v49 => if ((v49.2.1 != x45) || ((v49.1 == (-1)) == (x45 == 0))) = true then (some false) else (((law25_told.f).bind fun v52 => if v52 = true then (if (x45 == 0) = true then ((where_May.f v1 v2).bind fun v53 => some v53) else ((crowd_Crowd_Units.f v49.2.2).bind fun v54 => (ref21_Same.f v54 v48).bind fun v55 => if v55 = true then ((where_May.f v1 v2).bind fun v56 => some v56) else (some false))) else (some false)).bind fun x50 => some x50))
def law25_CrowdCodes.f (w : Int) (h : Int) (cell : Int) (goal : Int) (taken : Bool) (full : Bool) : Option Bool := (ref1_Within.f w 2 8).bind fun v1 => (ref1_Within.f h 1 8).bind fun v2 => (ref1_Within.f cell (-1) (w64 (v1 * v2))).bind fun v3 => (ref1_Within.f goal (-1) (w64 (v1 * v2))).bind fun v4 => (crowd_New.f v1 v2 2).bind fun v5 => optm v5 (some false) (fun yv5 => (if (taken && ((decide (v3 ≥ 0)) && (decide (v3 < (w64 (v1 * v2)))))) = true then (if (¬ (w64 (v1 * v2)) = 0) then ((crowd_Crowd_Spawn.f yv5 v3 (Int.tmod (w64 (v3 + 1)) (w64 (v1 * v2)))).bind fun v17 => if (v17.2.1 != 0) = true then (some (Sum.inl false)) else (some (Sum.inr ((w64 (0 + 1)), v17.2.2.w, v17.2.2.h, v17.2.2.most, v17.2.2.units.most, v17.2.2.units.next, v17.2.2.units.live, v17.2.2.units.order, v17.2.2.floor.words, v17.2.2.floor.count)))) else none) else (some (Sum.inr (0, yv5.w, yv5.h, yv5.most, yv5.units.most, yv5.units.next, yv5.units.live, yv5.units.order, yv5.floor.words, yv5.floor.count)))).bind fun zz => match zz with | Sum.inl q => some q | Sum.inr (x6, x7, x8, x9, x10, x11, x12, x13, x14, x15) => law25_CrowdCodes.l0 fuel w h full v1 v2 v3 v4 x6 x7 x8 x9 x10 x11 x12 x13 x14 x15 0)
set_option maxHeartbeats 4000000 in
theorem law25_CrowdCodes.c (w : Int) (h : Int) (cell : Int) (goal : Int) (taken : Bool) (full : Bool) (r : Bool) (F : Hp) (H : law25_CrowdCodes.f w h cell goal taken full = some r) :
    CallsL Try.prog 7 [(.int .i64 w), (.int .i64 h), (.int .i64 cell), (.int .i64 goal), (.bool taken), (.bool full)] [F] (fun _ : Unit => (.bool r)) (fun _ => [F]) := by
  unfold law25_CrowdCodes.f at H
  refine calls_atL [(0, (.int .i64 w)), (1, (.int .i64 h)), (2, (.int .i64 cell)), (3, (.int .i64 goal)), (4, (.bool taken)), (5, (.bool full))] Try.func7 rfl rfl ⟨rfl, rfl, rfl, rfl, rfl, rfl, trivial⟩ (fun W => ?_)
  refine at_seq ?_
  refine at_region [0] rfl ?_
  refine at_s T rfl ?_
  refine at_end ?_
  refine at_sub [(0, (.int .i64 w)), (1, (.int .i64 h)), (2, (.int .i64 cell)), (3, (.int .i64 goal)), (4, (.bool taken)), (5, (.bool full))] ⟨rfl, rfl, rfl, rfl, rfl, rfl, trivial⟩ ?_
  refine at_then ?_
  refine at_seq ?_
  refine at_region [0, 1, 2, 3, 4, 5] rfl ?_
  refine at_s T rfl ?_
  obtain ⟨v1, V1, H⟩ := bind_e H
  refine at_cons (at_c (B := fun _ => []) [] rfl rfl rfl rfl has12 rfl rfl (ref1_Within.c w 2 8 v1 _ V1) (fun _ => ?_))
  refine at_s T rfl ?_
  obtain ⟨v2, V2, H⟩ := bind_e H
  refine at_cons (at_c (B := fun _ => []) [] rfl rfl rfl rfl has12 rfl rfl (ref1_Within.c h 1 8 v2 _ V2) (fun _ => ?_))
  iterate 2 refine at_s T rfl ?_
  refine at_end ?_
  refine at_sub [(0, (.int .i64 v1)), (1, (.int .i64 v2)), (2, (.int .i64 cell)), (3, (.int .i64 goal)), (4, (.bool taken)), (5, (.bool full))] ⟨rfl, rfl, rfl, rfl, rfl, rfl, trivial⟩ ?_
  refine at_then ?_
  refine at_seq ?_
  refine at_region [0, 1, 2, 3, 4, 5, 6, 7, 8, 9, 10, 11] rfl ?_
  iterate 4 refine at_s T rfl ?_
  obtain ⟨v3, V3, H⟩ := bind_e H
  refine at_cons (at_c (B := fun _ => []) [] rfl rfl rfl rfl has12 rfl rfl (ref1_Within.c cell (-1) (w64 (v1 * v2)) v3 _ V3) (fun _ => ?_))
  iterate 4 refine at_s T rfl ?_
  obtain ⟨v4, V4, H⟩ := bind_e H
  refine at_cons (at_c (B := fun _ => []) [] rfl rfl rfl rfl has12 rfl rfl (ref1_Within.c goal (-1) (w64 (v1 * v2)) v4 _ V4) (fun _ => ?_))
  iterate 2 refine at_s T rfl ?_
  refine at_end ?_
  refine at_sub [(0, (.int .i64 v1)), (1, (.int .i64 v2)), (4, (.bool taken)), (5, (.bool full)), (13, (.int .i64 v3)), (14, (.int .i64 v4))] ⟨rfl, rfl, rfl, rfl, rfl, rfl, trivial⟩ ?_
  refine at_then ?_
  refine at_seq ?_
  refine at_region [0, 1] rfl ?_
  iterate 2 refine at_s T rfl ?_
  refine at_end ?_
  refine at_sub [(0, (.int .i64 v1)), (1, (.int .i64 v2)), (4, (.bool taken)), (5, (.bool full)), (13, (.int .i64 v3)), (14, (.int .i64 v4)), (15, (.int .i64 2)), (16, (.int .i64 0))] ⟨rfl, rfl, rfl, rfl, rfl, rfl, rfl, rfl, trivial⟩ ?_
  refine at_then ?_
  refine at_seq ?_
  refine at_region [0, 1, 2, 3, 4] rfl ?_
  iterate 3 refine at_s T rfl ?_
  obtain ⟨v5, V5, H⟩ := bind_e H
  refine at_cons (at_cR (crowd_New.R v5) [] [] rfl rfl rfl rfl has24 rfl rfl (crowd_New.c v1 v2 2 v5 _ V5) ?_)
  rintro _ _ ⟨_, _, O6, rfl, rfl⟩
  rcases v5 with _ | yv5
  · replace H := optm_n rfl H
    obtain ⟨rfl, rfl⟩ := O6
    refine at_s T rfl ?_
    refine at_end ?_
    refine at_sub [(0, (.int .i64 v1)), (1, (.int .i64 v2)), (4, (.bool taken)), (5, (.bool full)), (13, (.int .i64 v3)), (14, (.int .i64 v4)), (15, (.int .i64 2)), (16, (.int .i64 0)), (17, (.pointer none))] ⟨rfl, rfl, rfl, rfl, rfl, rfl, rfl, rfl, rfl, trivial⟩ ?_
    refine at_then ?_
    refine at_seq ?_
    refine at_seq ?_
    refine at_region [0, 1] rfl ?_
    iterate 2 refine at_s T rfl ?_
    refine at_end ?_
    refine at_sub [(0, (.int .i64 v1)), (1, (.int .i64 v2)), (4, (.bool taken)), (5, (.bool full)), (13, (.int .i64 v3)), (14, (.int .i64 v4)), (15, (.int .i64 2)), (16, (.int .i64 0)), (17, (.pointer none)), (47, (.bool true))] ⟨rfl, rfl, rfl, rfl, rfl, rfl, rfl, rfl, rfl, rfl, trivial⟩ ?_
    refine at_then ?_
    refine at_cond_t rfl ?_
    refine at_seq ?_
    refine at_region [0] rfl ?_
    refine at_s T rfl ?_
    refine at_end ?_
    refine at_sub [(12, (.bool false))] ⟨rfl, trivial⟩ ?_
    refine at_then ?_
    refine at_ret ?_
    refine at_rt ?_
    obtain rfl := Option.some.inj H
    exact at_post (T := T) rfl (.tmp rfl .nil) (fun w o => ⟨(), rfl, own_to [0] rfl o⟩)
  · replace H := optm_s rfl H
    obtain ⟨b1, b2, a3, H3, a4, n4, H4, b5, a6, n6, H6, s3, s4, s6, rfl, rfl⟩ := O6
    refine at_s T rfl ?_
    refine at_end ?_
    refine at_sub [(0, (.int .i64 v1)), (1, (.int .i64 v2)), (4, (.bool taken)), (5, (.bool full)), (13, (.int .i64 v3)), (14, (.int .i64 v4)), (15, (.int .i64 2)), (16, (.int .i64 0)), (17, (.pointer (some ⟨b1, 0, none⟩)))] ⟨rfl, rfl, rfl, rfl, rfl, rfl, rfl, rfl, rfl, trivial⟩ ?_
    refine at_then ?_
    refine at_seq ?_
    refine at_seq ?_
    refine at_region [0, 1] rfl ?_
    iterate 2 refine at_s T rfl ?_
    refine at_end ?_
    refine at_sub [(0, (.int .i64 v1)), (1, (.int .i64 v2)), (4, (.bool taken)), (5, (.bool full)), (13, (.int .i64 v3)), (14, (.int .i64 v4)), (15, (.int .i64 2)), (16, (.int .i64 0)), (17, (.pointer (some ⟨b1, 0, none⟩))), (47, (.bool false))] ⟨rfl, rfl, rfl, rfl, rfl, rfl, rfl, rfl, rfl, rfl, trivial⟩ ?_
    refine at_then ?_
    refine at_cond_f rfl ?_
    refine at_skip ?_
    refine at_then ?_
    obtain ⟨z16, Z7, H⟩ := bind_e H
    refine at_seq_mid (σ := Int × Int × Int × Int × Int × Int × (List (Int × api_Unit)) × List Int × List Int × Int × Nat × Nat × Hp × Option Addr × Nat × Hp × Nat × Option Addr × Nat × Hp) (fun ⟨x6, x7, x8, x9, x10, x11, x12, x13, x14, x15, b7, a8, H8, a9, n9, H9, b10, a11, n11, H11⟩ => (Sum.inr (x6, x7, x8, x9, x10, x11, x12, x13, x14, x15)) = z16 ∧ MapO (Ky.int .i64 u3) (fun x : api_Unit => Value.agg #[.int .i64 x.Id, .int .i64 x.Cell, .int .i64 x.Goal]) x12 a8 H8 ∧ SliceO (Fl.int .i64) 3 x13 a9 n9 H9 ∧ SliceO (Fl.int .u32) 74 x14 a11 n11 H11) (fun ⟨x6, x7, x8, x9, x10, x11, x12, x13, x14, x15, b7, a8, H8, a9, n9, H9, b10, a11, n11, H11⟩ => [(0, (.int .i64 v1)), (1, (.int .i64 v2)), (5, (.bool full)), (13, (.int .i64 v3)), (14, (.int .i64 v4)), (15, (.int .i64 2)), (16, (.int .i64 x6)), (17, (.pointer (some ⟨b1, 0, none⟩)))]) (fun ⟨x6, x7, x8, x9, x10, x11, x12, x13, x14, x15, b7, a8, H8, a9, n9, H9, b10, a11, n11, H11⟩ => [F, [(b1, Obj.cells #[(.int .i64 x7), (.int .i64 x8), (.int .i64 x9), (.pointer (some ⟨b7, 0, none⟩)), (.pointer (some ⟨b10, 0, none⟩))] 92 (0, 0))], [(b7, Obj.cells #[(.int .i64 x10), (.int .i64 x11), (.map (some a8)), (.slice a9 (List.length x13) n9)] 102 (0, 0))], H8, H9, [(b10, Obj.cells #[(.slice a11 (List.length x14) n11), (.int .i64 x15)] 104 (0, 0))], H11]) ?_ ?_
    · refine at_seq ?_
      refine at_region [0, 1, 2, 3, 4, 5, 6, 7, 8, 9] rfl ?_
      iterate 3 refine at_s T rfl ?_
      refine at_grp T [3, 4, 5, 6, 7, 8] (s := 50) (c := (decide (v3 ≥ 0))) [(0, (.int .i64 v1)), (1, (.int .i64 v2)), (4, (.bool taken)), (5, (.bool full)), (13, (.int .i64 v3)), (14, (.int .i64 v4)), (15, (.int .i64 2)), (16, (.int .i64 0)), (17, (.pointer (some ⟨b1, 0, none⟩))), (56, (.bool ((decide (v3 ≥ 0)) && (decide (v3 < (w64 (v1 * v2)))))))] rfl rfl rfl (fun c8 => ⟨rfl, rfl, rfl, rfl, rfl, rfl, rfl, rfl, rfl, (by rw [c8]; rfl), trivial⟩) (fun c8 => ⟨rfl, rfl, rfl, rfl, rfl, rfl, rfl, rfl, rfl, (by rw [c8]; rfl), trivial⟩) ?_
      refine at_s T rfl ?_
      refine at_end ?_
      refine at_sub [(0, (.int .i64 v1)), (1, (.int .i64 v2)), (4, (.bool taken)), (5, (.bool full)), (13, (.int .i64 v3)), (14, (.int .i64 v4)), (15, (.int .i64 2)), (16, (.int .i64 0)), (17, (.pointer (some ⟨b1, 0, none⟩))), (18, (.bool ((decide (v3 ≥ 0)) && (decide (v3 < (w64 (v1 * v2)))))))] ⟨rfl, rfl, rfl, rfl, rfl, rfl, rfl, rfl, rfl, rfl, trivial⟩ ?_
      refine at_then ?_
      refine at_seq ?_
      refine at_region [0, 1, 2, 3] rfl ?_
      iterate 2 refine at_s T rfl ?_
      refine at_grp T [2, 3] (s := 58) (c := taken) [(0, (.int .i64 v1)), (1, (.int .i64 v2)), (5, (.bool full)), (13, (.int .i64 v3)), (14, (.int .i64 v4)), (15, (.int .i64 2)), (16, (.int .i64 0)), (17, (.pointer (some ⟨b1, 0, none⟩))), (60, (.bool (taken && ((decide (v3 ≥ 0)) && (decide (v3 < (w64 (v1 * v2))))))))] rfl rfl rfl (fun c9 => ⟨rfl, rfl, rfl, rfl, rfl, rfl, rfl, rfl, (by rw [c9]; rfl), trivial⟩) (fun c9 => ⟨rfl, rfl, rfl, rfl, rfl, rfl, rfl, rfl, (by rw [c9]; rfl), trivial⟩) ?_
      refine at_end ?_
      refine at_sub [(0, (.int .i64 v1)), (1, (.int .i64 v2)), (5, (.bool full)), (13, (.int .i64 v3)), (14, (.int .i64 v4)), (15, (.int .i64 2)), (16, (.int .i64 0)), (17, (.pointer (some ⟨b1, 0, none⟩))), (60, (.bool (taken && ((decide (v3 ≥ 0)) && (decide (v3 < (w64 (v1 * v2))))))))] ⟨rfl, rfl, rfl, rfl, rfl, rfl, rfl, rfl, rfl, trivial⟩ ?_
      refine at_then ?_
      refine at_cond rfl (fun c10 => ?_) (fun c10 => ?_)
      · replace Z7 := if_t c10 Z7
        refine at_seq ?_
        refine at_seq ?_
        refine at_region [0, 1, 2, 3, 4, 5, 6, 7, 8, 9, 10, 11, 12, 13] rfl ?_
        iterate 7 refine at_s T rfl ?_
        obtain ⟨c11, Z7⟩ := chk_e Z7
        refine at_v rfl (g_rem rfl rfl rfl c11) ?_
        obtain ⟨v17, V12, Z7⟩ := bind_e Z7
        refine at_cons (at_cR (As := [[(b1, Obj.cells #[(.int .i64 yv5.w), (.int .i64 yv5.h), (.int .i64 yv5.most), (.pointer (some ⟨b2, 0, none⟩)), (.pointer (some ⟨b5, 0, none⟩))] 92 (0, 0))], [(b2, Obj.cells #[(.int .i64 yv5.units.most), (.int .i64 yv5.units.next), (.map (some a3)), (.slice a4 (List.length yv5.units.order) n4)] 102 (0, 0))], H3, H4, [(b5, Obj.cells #[(.slice a6 (List.length yv5.floor.words) n6), (.int .i64 yv5.floor.count)] 104 (0, 0))], H6]) (R := [F]) (crowd_Crowd_Spawn.R b1 v17) [] [1, 1, 1, 1, 1, 1] rfl rfl rfl rfl has25 rfl rfl (crowd_Crowd_Spawn.c yv5 v3 (Int.tmod (w64 (v3 + 1)) (w64 (v1 * v2))) v17 _ V12 s3 s4 s6) ?_)
        rintro _ _ ⟨b12, a13, H13, a14, n14, H14, b15, a16, n16, H16, s13, s14, s16, rfl, rfl⟩
        iterate 5 refine at_s T rfl ?_
        refine at_end ?_
        refine at_sub [(0, (.int .i64 v1)), (1, (.int .i64 v2)), (5, (.bool full)), (13, (.int .i64 v3)), (14, (.int .i64 v4)), (15, (.int .i64 2)), (16, (.int .i64 0)), (17, (.pointer (some ⟨b1, 0, none⟩))), (20, (.int .i64 v17.2.1))] ⟨rfl, rfl, rfl, rfl, rfl, rfl, rfl, rfl, rfl, trivial⟩ ?_
        refine at_then ?_
        refine at_seq ?_
        refine at_region [0, 1] rfl ?_
        iterate 2 refine at_s T rfl ?_
        refine at_end ?_
        refine at_sub [(0, (.int .i64 v1)), (1, (.int .i64 v2)), (5, (.bool full)), (13, (.int .i64 v3)), (14, (.int .i64 v4)), (15, (.int .i64 2)), (16, (.int .i64 0)), (17, (.pointer (some ⟨b1, 0, none⟩))), (74, (.bool (v17.2.1 != 0)))] ⟨rfl, rfl, rfl, rfl, rfl, rfl, rfl, rfl, rfl, trivial⟩ ?_
        refine at_then ?_
        refine at_cond rfl (fun c13 => ?_) (fun c13 => ?_)
        · replace Z7 := if_t c13 Z7
          refine at_seq ?_
          refine at_region [0] rfl ?_
          refine at_s T rfl ?_
          refine at_end ?_
          refine at_to [(12, (.bool false))] [0] [F] ⟨rfl, trivial⟩ rfl ?_
          refine at_then ?_
          refine at_ret ?_
          refine at_rt ?_
          refine at_rt ?_
          obtain rfl := Option.some.inj Z7
          obtain rfl := Option.some.inj (show some false = some r from H)
          exact at_post (T := T) rfl (.tmp rfl .nil) (fun w o => ⟨(), rfl, own_to [0] rfl o⟩)
        · replace Z7 := if_f (bf c13) Z7
          refine at_skip ?_
          refine at_then ?_
          refine at_region [0, 1, 2] rfl ?_
          iterate 3 refine at_s T rfl ?_
          refine at_end ?_
          refine at_sub [(0, (.int .i64 v1)), (1, (.int .i64 v2)), (5, (.bool full)), (13, (.int .i64 v3)), (14, (.int .i64 v4)), (15, (.int .i64 2)), (16, (.int .i64 (w64 (0 + 1)))), (17, (.pointer (some ⟨b1, 0, none⟩)))] ⟨rfl, rfl, rfl, rfl, rfl, rfl, rfl, rfl, trivial⟩ ?_
          refine at_then ?_
          obtain rfl := Option.some.inj Z7
          exact at_mid ((w64 (0 + 1)), v17.2.2.w, v17.2.2.h, v17.2.2.most, v17.2.2.units.most, v17.2.2.units.next, v17.2.2.units.live, v17.2.2.units.order, v17.2.2.floor.words, v17.2.2.floor.count, b12, a13, H13, a14, n14, H14, b15, a16, n16, H16) [0, 0, 0, 0, 0, 0, 0] ⟨rfl, s13, s14, s16⟩ ⟨rfl, rfl, rfl, rfl, rfl, rfl, rfl, rfl, trivial⟩ rfl
      · replace Z7 := if_f (bf c10) Z7
        refine at_skip ?_
        refine at_then ?_
        obtain rfl := Option.some.inj Z7
        exact at_mid (0, yv5.w, yv5.h, yv5.most, yv5.units.most, yv5.units.next, yv5.units.live, yv5.units.order, yv5.floor.words, yv5.floor.count, b2, a3, H3, a4, n4, H4, b5, a6, n6, H6) [0, 0, 0, 0, 0, 0, 0] ⟨rfl, s3, s4, s6⟩ ⟨rfl, rfl, rfl, rfl, rfl, rfl, rfl, rfl, trivial⟩ rfl
    · rintro ⟨x6, x7, x8, x9, x10, x11, x12, x13, x14, x15, b7, a8, H8, a9, n9, H9, b10, a11, n11, H11⟩ ⟨rfl, s8, s9, s11⟩
      refine at_seq ?_
      refine at_seq ?_
      refine at_region [0] rfl ?_
      refine at_s T rfl ?_
      refine at_end ?_
      refine at_sub [(0, (.int .i64 v1)), (1, (.int .i64 v2)), (5, (.bool full)), (13, (.int .i64 v3)), (14, (.int .i64 v4)), (15, (.int .i64 2)), (16, (.int .i64 x6)), (17, (.pointer (some ⟨b1, 0, none⟩))), (21, (.int .i64 0))] ⟨rfl, rfl, rfl, rfl, rfl, rfl, rfl, rfl, rfl, trivial⟩ ?_
      refine at_then ?_
      refine at_block ?_
      refine at_loopL (σ := Nat × Int × Int × Int × Int × Int × Int × (List (Int × api_Unit)) × List Int × List Int × Int × Int × Nat × Nat × Hp × Option Addr × Nat × Hp × Nat × Option Addr × Nat × Hp) (fun ⟨k40, x29, x30, x31, x32, x33, x34, x35, x36, x37, x38, x39, b22, a23, H23, a24, n24, H24, b25, a26, n26, H26⟩ => law25_CrowdCodes.l0 k40 w h full v1 v2 v3 v4 x29 x30 x31 x32 x33 x34 x35 x36 x37 x38 x39 = some r ∧ MapO (Ky.int .i64 u3) (fun x : api_Unit => Value.agg #[.int .i64 x.Id, .int .i64 x.Cell, .int .i64 x.Goal]) x35 a23 H23 ∧ SliceO (Fl.int .i64) 3 x36 a24 n24 H24 ∧ SliceO (Fl.int .u32) 74 x37 a26 n26 H26) (fun ⟨k40, x29, x30, x31, x32, x33, x34, x35, x36, x37, x38, x39, b22, a23, H23, a24, n24, H24, b25, a26, n26, H26⟩ => [(0, (.int .i64 v1)), (1, (.int .i64 v2)), (5, (.bool full)), (13, (.int .i64 v3)), (14, (.int .i64 v4)), (15, (.int .i64 2)), (16, (.int .i64 x29)), (17, (.pointer (some ⟨b1, 0, none⟩))), (21, (.int .i64 x39))]) (fun ⟨k40, x29, x30, x31, x32, x33, x34, x35, x36, x37, x38, x39, b22, a23, H23, a24, n24, H24, b25, a26, n26, H26⟩ => [F, [(b1, Obj.cells #[(.int .i64 x30), (.int .i64 x31), (.int .i64 x32), (.pointer (some ⟨b22, 0, none⟩)), (.pointer (some ⟨b25, 0, none⟩))] 92 (0, 0))], [(b22, Obj.cells #[(.int .i64 x33), (.int .i64 x34), (.map (some a23)), (.slice a24 (List.length x36) n24)] 102 (0, 0))], H23, H24, [(b25, Obj.cells #[(.slice a26 (List.length x37) n26), (.int .i64 x38)] 104 (0, 0))], H26]) (fun s => s.1) (fuel, x6, x7, x8, x9, x10, x11, x12, x13, x14, x15, 0, b7, a8, H8, a9, n9, H9, b10, a11, n11, H11) [0, 0, 0, 0, 0, 0, 0] ⟨H, s8, s9, s11⟩ ⟨rfl, rfl, rfl, rfl, rfl, rfl, rfl, rfl, rfl, trivial⟩ rfl ?_
      rintro ⟨k40, x29, x30, x31, x32, x33, x34, x35, x36, x37, x38, x39, b22, a23, H23, a24, n24, H24, b25, a26, n26, H26⟩ ⟨Z14, s23, s24, s26⟩
      replace Z14 : law25_CrowdCodes.l0 k40 w h full v1 v2 v3 v4 x29 x30 x31 x32 x33 x34 x35 x36 x37 x38 x39 = some r := Z14
      rcases k40 with _ | k40
      · rw [law25_CrowdCodes.l0] at Z14; cases Z14
      · rw [law25_CrowdCodes.l0] at Z14
        refine at_seq ?_
        refine at_seq ?_
        refine at_region [0, 1, 2, 3, 4, 5, 6, 7, 8, 9, 10, 11, 12] rfl ?_
        iterate 6 refine at_s T rfl ?_
        refine at_grp T [6, 7] (s := 82) (c := (decide (x39 < (w64 (v1 * v2))))) [(0, (.int .i64 v1)), (1, (.int .i64 v2)), (5, (.bool full)), (13, (.int .i64 v3)), (14, (.int .i64 v4)), (15, (.int .i64 2)), (16, (.int .i64 x29)), (17, (.pointer (some ⟨b1, 0, none⟩))), (21, (.int .i64 x39)), (84, (.bool ((decide (x39 < (w64 (v1 * v2)))) && full)))] rfl rfl rfl (fun c15 => ⟨rfl, rfl, rfl, rfl, rfl, rfl, rfl, rfl, rfl, (by rw [c15]; rfl), trivial⟩) (fun c15 => ⟨rfl, rfl, rfl, rfl, rfl, rfl, rfl, rfl, rfl, (by rw [c15]; rfl), trivial⟩) ?_
        refine at_s T rfl ?_
        refine at_grp T [9, 10, 11, 12] (s := 85) (c := ((decide (x39 < (w64 (v1 * v2)))) && full)) [(0, (.int .i64 v1)), (1, (.int .i64 v2)), (5, (.bool full)), (13, (.int .i64 v3)), (14, (.int .i64 v4)), (15, (.int .i64 2)), (16, (.int .i64 x29)), (17, (.pointer (some ⟨b1, 0, none⟩))), (21, (.int .i64 x39)), (89, (.bool (((decide (x39 < (w64 (v1 * v2)))) && full) && (decide (x29 < 2)))))] rfl rfl rfl (fun c16 => ⟨rfl, rfl, rfl, rfl, rfl, rfl, rfl, rfl, rfl, (by rw [c16]; rfl), trivial⟩) (fun c16 => ⟨rfl, rfl, rfl, rfl, rfl, rfl, rfl, rfl, rfl, (by rw [c16]; rfl), trivial⟩) ?_
        refine at_end ?_
        refine at_sub [(0, (.int .i64 v1)), (1, (.int .i64 v2)), (5, (.bool full)), (13, (.int .i64 v3)), (14, (.int .i64 v4)), (15, (.int .i64 2)), (16, (.int .i64 x29)), (17, (.pointer (some ⟨b1, 0, none⟩))), (21, (.int .i64 x39)), (89, (.bool (((decide (x39 < (w64 (v1 * v2)))) && full) && (decide (x29 < 2)))))] ⟨rfl, rfl, rfl, rfl, rfl, rfl, rfl, rfl, rfl, rfl, trivial⟩ ?_
        refine at_then ?_
        refine at_cond rfl (fun c17 => ?_) (fun c17 => ?_)
        · replace Z14 := if_t c17 Z14
          refine at_skip ?_
          refine at_then ?_
          refine at_seq ?_
          refine at_block ?_
          obtain ⟨z42, Z18, Z14⟩ := bind_e Z14
          refine at_seq_mid (σ := Bool) (fun x41 => x41 = z42) (fun x41 => [(0, (.int .i64 v1)), (1, (.int .i64 v2)), (5, (.bool full)), (13, (.int .i64 v3)), (14, (.int .i64 v4)), (15, (.int .i64 2)), (16, (.int .i64 x29)), (17, (.pointer (some ⟨b1, 0, none⟩))), (21, (.int .i64 x39)), (100, (.bool x41))]) (fun x41 => [F, [(b1, Obj.cells #[(.int .i64 x30), (.int .i64 x31), (.int .i64 x32), (.pointer (some ⟨b22, 0, none⟩)), (.pointer (some ⟨b25, 0, none⟩))] 92 (0, 0))], [(b22, Obj.cells #[(.int .i64 x33), (.int .i64 x34), (.map (some a23)), (.slice a24 (List.length x36) n24)] 102 (0, 0))], H23, H24, [(b25, Obj.cells #[(.slice a26 (List.length x37) n26), (.int .i64 x38)] 104 (0, 0))], H26]) ?_ ?_
          · refine at_region [0, 1, 2, 3, 4, 5, 6, 7, 8] rfl ?_
            iterate 4 refine at_s T rfl ?_
            refine at_case (s := 95) rfl (fun c19 => ?_) (fun c19 => ?_)
            · replace Z18 := if_t c19 Z18
              iterate 2 refine at_s T rfl ?_
              obtain ⟨v43, V20, Z18⟩ := bind_e Z18
              refine at_cons (at_c (As := [[(b1, Obj.cells #[(.int .i64 x30), (.int .i64 x31), (.int .i64 x32), (.pointer (some ⟨b22, 0, none⟩)), (.pointer (some ⟨b25, 0, none⟩))] 92 (0, 0))], [(b22, Obj.cells #[(.int .i64 x33), (.int .i64 x34), (.map (some a23)), (.slice a24 (List.length x36) n24)] 102 (0, 0))], H23, H24, [(b25, Obj.cells #[(.slice a26 (List.length x37) n26), (.int .i64 x38)] 104 (0, 0))], H26]) (R := [F]) (B := fun _ => [[(b1, Obj.cells #[(.int .i64 x30), (.int .i64 x31), (.int .i64 x32), (.pointer (some ⟨b22, 0, none⟩)), (.pointer (some ⟨b25, 0, none⟩))] 92 (0, 0))], [(b22, Obj.cells #[(.int .i64 x33), (.int .i64 x34), (.map (some a23)), (.slice a24 (List.length x36) n24)] 102 (0, 0))], H23, H24, [(b25, Obj.cells #[(.slice a26 (List.length x37) n26), (.int .i64 x38)] 104 (0, 0))], H26]) [1, 1, 1, 1, 1, 1] rfl rfl rfl rfl has26 rfl rfl (crowd_Crowd_Who.c (crowd_Crowd.mk x30 x31 x32 (units_Units.mk x33 x34 x35 x36) (floor_Floor.mk x37 x38)) x39 v43 _ V20 s23 s24 s26) (fun _ => ?_))
              iterate 2 refine at_s T rfl ?_
              refine at_end ?_
              refine at_sub [(0, (.int .i64 v1)), (1, (.int .i64 v2)), (5, (.bool full)), (13, (.int .i64 v3)), (14, (.int .i64 v4)), (15, (.int .i64 2)), (16, (.int .i64 x29)), (17, (.pointer (some ⟨b1, 0, none⟩))), (21, (.int .i64 x39)), (100, (.bool (decide (v43 < 0))))] ⟨rfl, rfl, rfl, rfl, rfl, rfl, rfl, rfl, rfl, rfl, trivial⟩ ?_
              refine at_then ?_
              obtain rfl := Option.some.inj Z18
              exact at_mid (decide (v43 < 0)) [0, 0, 0, 0, 0, 0, 0] rfl ⟨rfl, rfl, rfl, rfl, rfl, rfl, rfl, rfl, rfl, rfl, trivial⟩ rfl
            · replace Z18 := if_f (bf c19) Z18
              iterate 5 refine at_s T rfl ?_
              refine at_end ?_
              refine at_sub [(0, (.int .i64 v1)), (1, (.int .i64 v2)), (5, (.bool full)), (13, (.int .i64 v3)), (14, (.int .i64 v4)), (15, (.int .i64 2)), (16, (.int .i64 x29)), (17, (.pointer (some ⟨b1, 0, none⟩))), (21, (.int .i64 x39)), (100, (.bool false))] ⟨rfl, rfl, rfl, rfl, rfl, rfl, rfl, rfl, rfl, rfl, trivial⟩ ?_
              refine at_then ?_
              obtain rfl := Option.some.inj Z18
              exact at_mid false [0, 0, 0, 0, 0, 0, 0] rfl ⟨rfl, rfl, rfl, rfl, rfl, rfl, rfl, rfl, rfl, rfl, trivial⟩ rfl
          · rintro x41 rfl
            refine at_cond rfl (fun c21 => ?_) (fun c21 => ?_)
            · replace Z14 := if_t c21 Z14
              refine at_seq ?_
              refine at_seq ?_
              refine at_region [0, 1, 2, 3, 4, 5, 6, 7, 8, 9, 10, 11, 12, 13] rfl ?_
              iterate 7 refine at_s T rfl ?_
              obtain ⟨c22, Z14⟩ := chk_e Z14
              refine at_v rfl (g_rem rfl rfl rfl c22) ?_
              obtain ⟨v44, V23, Z14⟩ := bind_e Z14
              refine at_cons (at_cR (As := [[(b1, Obj.cells #[(.int .i64 x30), (.int .i64 x31), (.int .i64 x32), (.pointer (some ⟨b22, 0, none⟩)), (.pointer (some ⟨b25, 0, none⟩))] 92 (0, 0))], [(b22, Obj.cells #[(.int .i64 x33), (.int .i64 x34), (.map (some a23)), (.slice a24 (List.length x36) n24)] 102 (0, 0))], H23, H24, [(b25, Obj.cells #[(.slice a26 (List.length x37) n26), (.int .i64 x38)] 104 (0, 0))], H26]) (R := [F]) (crowd_Crowd_Spawn.R b1 v44) [] [1, 1, 1, 1, 1, 1] rfl rfl rfl rfl has25 rfl rfl (crowd_Crowd_Spawn.c (crowd_Crowd.mk x30 x31 x32 (units_Units.mk x33 x34 x35 x36) (floor_Floor.mk x37 x38)) x39 (Int.tmod (w64 (x39 + 1)) (w64 (v1 * v2))) v44 _ V23 s23 s24 s26) ?_)
              rintro _ _ ⟨b27, a28, H28, a29, n29, H29, b30, a31, n31, H31, s28, s29, s31, rfl, rfl⟩
              iterate 5 refine at_s T rfl ?_
              refine at_end ?_
              refine at_sub [(0, (.int .i64 v1)), (1, (.int .i64 v2)), (5, (.bool full)), (13, (.int .i64 v3)), (14, (.int .i64 v4)), (15, (.int .i64 2)), (16, (.int .i64 x29)), (17, (.pointer (some ⟨b1, 0, none⟩))), (21, (.int .i64 x39)), (23, (.int .i64 v44.2.1))] ⟨rfl, rfl, rfl, rfl, rfl, rfl, rfl, rfl, rfl, rfl, trivial⟩ ?_
              refine at_then ?_
              refine at_seq ?_
              refine at_region [0, 1] rfl ?_
              iterate 2 refine at_s T rfl ?_
              refine at_end ?_
              refine at_sub [(0, (.int .i64 v1)), (1, (.int .i64 v2)), (5, (.bool full)), (13, (.int .i64 v3)), (14, (.int .i64 v4)), (15, (.int .i64 2)), (16, (.int .i64 x29)), (17, (.pointer (some ⟨b1, 0, none⟩))), (21, (.int .i64 x39)), (114, (.bool (v44.2.1 != 0)))] ⟨rfl, rfl, rfl, rfl, rfl, rfl, rfl, rfl, rfl, rfl, trivial⟩ ?_
              refine at_then ?_
              refine at_cond rfl (fun c24 => ?_) (fun c24 => ?_)
              · replace Z14 := if_t c24 Z14
                refine at_seq ?_
                refine at_region [0] rfl ?_
                refine at_s T rfl ?_
                refine at_end ?_
                refine at_to [(12, (.bool false))] [0] [F] ⟨rfl, trivial⟩ rfl ?_
                refine at_then ?_
                refine at_ret ?_
                refine at_rt ?_
                refine at_rb ?_
                refine at_rt ?_
                refine at_rt ?_
                refine at_rb ?_
                refine at_rt ?_
                obtain rfl := Option.some.inj Z14
                exact at_post (T := T) rfl (.tmp rfl .nil) (fun w o => ⟨(), rfl, own_to [0] rfl o⟩)
              · replace Z14 := if_f (bf c24) Z14
                refine at_skip ?_
                refine at_then ?_
                refine at_region [0, 1, 2] rfl ?_
                iterate 3 refine at_s T rfl ?_
                refine at_end ?_
                refine at_sub [(0, (.int .i64 v1)), (1, (.int .i64 v2)), (5, (.bool full)), (13, (.int .i64 v3)), (14, (.int .i64 v4)), (15, (.int .i64 2)), (16, (.int .i64 (w64 (x29 + 1)))), (17, (.pointer (some ⟨b1, 0, none⟩))), (21, (.int .i64 x39))] ⟨rfl, rfl, rfl, rfl, rfl, rfl, rfl, rfl, rfl, trivial⟩ ?_
                refine at_nb ?_
                refine at_then ?_
                refine at_region [0, 1, 2] rfl ?_
                iterate 3 refine at_s T rfl ?_
                refine at_end ?_
                refine at_sub [(0, (.int .i64 v1)), (1, (.int .i64 v2)), (5, (.bool full)), (13, (.int .i64 v3)), (14, (.int .i64 v4)), (15, (.int .i64 2)), (16, (.int .i64 (w64 (x29 + 1)))), (17, (.pointer (some ⟨b1, 0, none⟩))), (21, (.int .i64 (w64 (x39 + 1))))] ⟨rfl, rfl, rfl, rfl, rfl, rfl, rfl, rfl, rfl, trivial⟩ ?_
                refine at_then ?_
                exact at_roundL (k40, (w64 (x29 + 1)), v44.2.2.w, v44.2.2.h, v44.2.2.most, v44.2.2.units.most, v44.2.2.units.next, v44.2.2.units.live, v44.2.2.units.order, v44.2.2.floor.words, v44.2.2.floor.count, (w64 (x39 + 1)), b27, a28, H28, a29, n29, H29, b30, a31, n31, H31) [0, 0, 0, 0, 0, 0, 0] ⟨Z14, s28, s29, s31⟩ (Nat.lt_succ_self _) ⟨rfl, rfl, rfl, rfl, rfl, rfl, rfl, rfl, rfl, trivial⟩ rfl
            · replace Z14 := if_f (bf c21) Z14
              refine at_skip ?_
              refine at_nb ?_
              refine at_then ?_
              refine at_region [0, 1, 2] rfl ?_
              iterate 3 refine at_s T rfl ?_
              refine at_end ?_
              refine at_sub [(0, (.int .i64 v1)), (1, (.int .i64 v2)), (5, (.bool full)), (13, (.int .i64 v3)), (14, (.int .i64 v4)), (15, (.int .i64 2)), (16, (.int .i64 x29)), (17, (.pointer (some ⟨b1, 0, none⟩))), (21, (.int .i64 (w64 (x39 + 1))))] ⟨rfl, rfl, rfl, rfl, rfl, rfl, rfl, rfl, rfl, trivial⟩ ?_
              refine at_then ?_
              exact at_roundL (k40, x29, x30, x31, x32, x33, x34, x35, x36, x37, x38, (w64 (x39 + 1)), b22, a23, H23, a24, n24, H24, b25, a26, n26, H26) [0, 0, 0, 0, 0, 0, 0] ⟨Z14, s23, s24, s26⟩ (Nat.lt_succ_self _) ⟨rfl, rfl, rfl, rfl, rfl, rfl, rfl, rfl, rfl, trivial⟩ rfl
        · replace Z14 := if_f (bf c17) Z14
          refine at_exit ?_
          refine at_xt ?_
          refine at_xt ?_
          refine at_xb ?_
          refine at_then ?_
          refine at_seq ?_
          refine at_region [0] rfl ?_
          refine at_s T rfl ?_
          refine at_end ?_
          refine at_sub [(0, (.int .i64 v1)), (1, (.int .i64 v2)), (13, (.int .i64 v3)), (14, (.int .i64 v4)), (15, (.int .i64 2)), (16, (.int .i64 x29)), (17, (.pointer (some ⟨b1, 0, none⟩))), (24, (.int .i64 0))] ⟨rfl, rfl, rfl, rfl, rfl, rfl, rfl, rfl, trivial⟩ ?_
          refine at_then ?_
          obtain ⟨z46, Z25, Z14⟩ := bind_e Z14
          refine at_seq_mid (σ := Int) (fun x45 => x45 = z46) (fun x45 => [(0, (.int .i64 v1)), (1, (.int .i64 v2)), (13, (.int .i64 v3)), (14, (.int .i64 v4)), (17, (.pointer (some ⟨b1, 0, none⟩))), (24, (.int .i64 x45))]) (fun x45 => [F, [(b1, Obj.cells #[(.int .i64 x30), (.int .i64 x31), (.int .i64 x32), (.pointer (some ⟨b22, 0, none⟩)), (.pointer (some ⟨b25, 0, none⟩))] 92 (0, 0))], [(b22, Obj.cells #[(.int .i64 x33), (.int .i64 x34), (.map (some a23)), (.slice a24 (List.length x36) n24)] 102 (0, 0))], H23, H24, [(b25, Obj.cells #[(.slice a26 (List.length x37) n26), (.int .i64 x38)] 104 (0, 0))], H26]) ?_ ?_
          · refine at_block ?_
            refine at_seq ?_
            refine at_region [0, 1, 2, 3, 4, 5, 6, 7, 8, 9, 10, 11, 12, 13, 14, 15, 16, 17, 18, 19, 20] rfl ?_
            iterate 3 refine at_s T rfl ?_
            refine at_grp T [3, 4, 5, 6, 7, 8] (s := 120) (c := (decide (v3 < 0))) [(0, (.int .i64 v1)), (1, (.int .i64 v2)), (13, (.int .i64 v3)), (14, (.int .i64 v4)), (15, (.int .i64 2)), (16, (.int .i64 x29)), (17, (.pointer (some ⟨b1, 0, none⟩))), (24, (.int .i64 0)), (126, (.bool ((decide (v3 < 0)) || (decide (v3 ≥ (w64 (v1 * v2)))))))] rfl rfl rfl (fun c26 => ⟨rfl, rfl, rfl, rfl, rfl, rfl, rfl, rfl, (by rw [c26]; rfl), trivial⟩) (fun c26 => ⟨rfl, rfl, rfl, rfl, rfl, rfl, rfl, rfl, (by rw [c26]; rfl), trivial⟩) ?_
            refine at_s T rfl ?_
            refine at_grp T [10, 11, 12] (s := 127) (c := ((decide (v3 < 0)) || (decide (v3 ≥ (w64 (v1 * v2)))))) [(0, (.int .i64 v1)), (1, (.int .i64 v2)), (13, (.int .i64 v3)), (14, (.int .i64 v4)), (15, (.int .i64 2)), (16, (.int .i64 x29)), (17, (.pointer (some ⟨b1, 0, none⟩))), (24, (.int .i64 0)), (130, (.bool (((decide (v3 < 0)) || (decide (v3 ≥ (w64 (v1 * v2))))) || (decide (v4 < 0)))))] rfl rfl rfl (fun c27 => ⟨rfl, rfl, rfl, rfl, rfl, rfl, rfl, rfl, (by rw [c27]; rfl), trivial⟩) (fun c27 => ⟨rfl, rfl, rfl, rfl, rfl, rfl, rfl, rfl, (by rw [c27]; rfl), trivial⟩) ?_
            refine at_s T rfl ?_
            refine at_grp T [14, 15, 16, 17, 18, 19] (s := 131) (c := (((decide (v3 < 0)) || (decide (v3 ≥ (w64 (v1 * v2))))) || (decide (v4 < 0)))) [(0, (.int .i64 v1)), (1, (.int .i64 v2)), (13, (.int .i64 v3)), (14, (.int .i64 v4)), (15, (.int .i64 2)), (16, (.int .i64 x29)), (17, (.pointer (some ⟨b1, 0, none⟩))), (24, (.int .i64 0)), (137, (.bool ((((decide (v3 < 0)) || (decide (v3 ≥ (w64 (v1 * v2))))) || (decide (v4 < 0))) || (decide (v4 ≥ (w64 (v1 * v2)))))))] rfl rfl rfl (fun c28 => ⟨rfl, rfl, rfl, rfl, rfl, rfl, rfl, rfl, (by rw [c28]; rfl), trivial⟩) (fun c28 => ⟨rfl, rfl, rfl, rfl, rfl, rfl, rfl, rfl, (by rw [c28]; rfl), trivial⟩) ?_
            refine at_s T rfl ?_
            refine at_end ?_
            refine at_sub [(0, (.int .i64 v1)), (1, (.int .i64 v2)), (13, (.int .i64 v3)), (14, (.int .i64 v4)), (15, (.int .i64 2)), (16, (.int .i64 x29)), (17, (.pointer (some ⟨b1, 0, none⟩))), (24, (.int .i64 0)), (117, (.bool ((((decide (v3 < 0)) || (decide (v3 ≥ (w64 (v1 * v2))))) || (decide (v4 < 0))) || (decide (v4 ≥ (w64 (v1 * v2)))))))] ⟨rfl, rfl, rfl, rfl, rfl, rfl, rfl, rfl, rfl, trivial⟩ ?_
            refine at_then ?_
            refine at_cond rfl (fun c29 => ?_) (fun c29 => ?_)
            · replace Z25 := if_t c29 Z25
              refine at_region [0] rfl ?_
              refine at_s T rfl ?_
              refine at_end ?_
              refine at_sub [(0, (.int .i64 v1)), (1, (.int .i64 v2)), (13, (.int .i64 v3)), (14, (.int .i64 v4)), (17, (.pointer (some ⟨b1, 0, none⟩))), (24, (.int .i64 7))] ⟨rfl, rfl, rfl, rfl, rfl, rfl, trivial⟩ ?_
              refine at_nb ?_
              refine at_then ?_
              obtain rfl := Option.some.inj Z25
              exact at_mid 7 [0, 0, 0, 0, 0, 0, 0] rfl ⟨rfl, rfl, rfl, rfl, rfl, rfl, trivial⟩ rfl
            · replace Z25 := if_f (bf c29) Z25
              refine at_seq ?_
              refine at_region [0, 1, 2, 3, 4] rfl ?_
              iterate 2 refine at_s T rfl ?_
              obtain ⟨v47, V30, Z25⟩ := bind_e Z25
              refine at_cons (at_c (As := [[(b1, Obj.cells #[(.int .i64 x30), (.int .i64 x31), (.int .i64 x32), (.pointer (some ⟨b22, 0, none⟩)), (.pointer (some ⟨b25, 0, none⟩))] 92 (0, 0))], [(b22, Obj.cells #[(.int .i64 x33), (.int .i64 x34), (.map (some a23)), (.slice a24 (List.length x36) n24)] 102 (0, 0))], H23, H24, [(b25, Obj.cells #[(.slice a26 (List.length x37) n26), (.int .i64 x38)] 104 (0, 0))], H26]) (R := [F]) (B := fun _ => [[(b1, Obj.cells #[(.int .i64 x30), (.int .i64 x31), (.int .i64 x32), (.pointer (some ⟨b22, 0, none⟩)), (.pointer (some ⟨b25, 0, none⟩))] 92 (0, 0))], [(b22, Obj.cells #[(.int .i64 x33), (.int .i64 x34), (.map (some a23)), (.slice a24 (List.length x36) n24)] 102 (0, 0))], H23, H24, [(b25, Obj.cells #[(.slice a26 (List.length x37) n26), (.int .i64 x38)] 104 (0, 0))], H26]) [1, 1, 1, 1, 1, 1] rfl rfl rfl rfl has26 rfl rfl (crowd_Crowd_Who.c (crowd_Crowd.mk x30 x31 x32 (units_Units.mk x33 x34 x35 x36) (floor_Floor.mk x37 x38)) v3 v47 _ V30 s23 s24 s26) (fun _ => ?_))
              iterate 2 refine at_s T rfl ?_
              refine at_end ?_
              refine at_sub [(0, (.int .i64 v1)), (1, (.int .i64 v2)), (13, (.int .i64 v3)), (14, (.int .i64 v4)), (15, (.int .i64 2)), (16, (.int .i64 x29)), (17, (.pointer (some ⟨b1, 0, none⟩))), (24, (.int .i64 0)), (138, (.bool (decide (v47 ≥ 0))))] ⟨rfl, rfl, rfl, rfl, rfl, rfl, rfl, rfl, rfl, trivial⟩ ?_
              refine at_then ?_
              refine at_cond rfl (fun c31 => ?_) (fun c31 => ?_)
              · replace Z25 := if_t (of_decide_eq_true c31) Z25
                refine at_region [0] rfl ?_
                refine at_s T rfl ?_
                refine at_end ?_
                refine at_sub [(0, (.int .i64 v1)), (1, (.int .i64 v2)), (13, (.int .i64 v3)), (14, (.int .i64 v4)), (17, (.pointer (some ⟨b1, 0, none⟩))), (24, (.int .i64 10))] ⟨rfl, rfl, rfl, rfl, rfl, rfl, trivial⟩ ?_
                refine at_nb ?_
                refine at_then ?_
                obtain rfl := Option.some.inj Z25
                exact at_mid 10 [0, 0, 0, 0, 0, 0, 0] rfl ⟨rfl, rfl, rfl, rfl, rfl, rfl, trivial⟩ rfl
              · replace Z25 := if_f (of_decide_eq_false c31) Z25
                refine at_seq ?_
                refine at_region [0, 1, 2, 3] rfl ?_
                iterate 4 refine at_s T rfl ?_
                refine at_end ?_
                refine at_sub [(0, (.int .i64 v1)), (1, (.int .i64 v2)), (13, (.int .i64 v3)), (14, (.int .i64 v4)), (17, (.pointer (some ⟨b1, 0, none⟩))), (24, (.int .i64 0)), (143, (.bool (x29 == 2)))] ⟨rfl, rfl, rfl, rfl, rfl, rfl, rfl, trivial⟩ ?_
                refine at_then ?_
                refine at_cond rfl (fun c32 => ?_) (fun c32 => ?_)
                · replace Z25 := if_t c32 Z25
                  refine at_region [0] rfl ?_
                  refine at_s T rfl ?_
                  refine at_end ?_
                  refine at_sub [(0, (.int .i64 v1)), (1, (.int .i64 v2)), (13, (.int .i64 v3)), (14, (.int .i64 v4)), (17, (.pointer (some ⟨b1, 0, none⟩))), (24, (.int .i64 11))] ⟨rfl, rfl, rfl, rfl, rfl, rfl, trivial⟩ ?_
                  refine at_nb ?_
                  refine at_then ?_
                  obtain rfl := Option.some.inj Z25
                  exact at_mid 11 [0, 0, 0, 0, 0, 0, 0] rfl ⟨rfl, rfl, rfl, rfl, rfl, rfl, trivial⟩ rfl
                · replace Z25 := if_f (bf c32) Z25
                  refine at_seq ?_
                  refine at_region [0, 1, 2, 3] rfl ?_
                  iterate 4 refine at_s T rfl ?_
                  refine at_end ?_
                  refine at_sub [(0, (.int .i64 v1)), (1, (.int .i64 v2)), (13, (.int .i64 v3)), (14, (.int .i64 v4)), (17, (.pointer (some ⟨b1, 0, none⟩))), (24, (.int .i64 0)), (147, (.bool (v3 == v4)))] ⟨rfl, rfl, rfl, rfl, rfl, rfl, rfl, trivial⟩ ?_
                  refine at_then ?_
                  refine at_cond rfl (fun c33 => ?_) (fun c33 => ?_)
                  · replace Z25 := if_t c33 Z25
                    refine at_region [0] rfl ?_
                    refine at_s T rfl ?_
                    refine at_end ?_
                    refine at_sub [(0, (.int .i64 v1)), (1, (.int .i64 v2)), (13, (.int .i64 v3)), (14, (.int .i64 v4)), (17, (.pointer (some ⟨b1, 0, none⟩))), (24, (.int .i64 13))] ⟨rfl, rfl, rfl, rfl, rfl, rfl, trivial⟩ ?_
                    refine at_nb ?_
                    refine at_then ?_
                    obtain rfl := Option.some.inj Z25
                    exact at_mid 13 [0, 0, 0, 0, 0, 0, 0] rfl ⟨rfl, rfl, rfl, rfl, rfl, rfl, trivial⟩ rfl
                  · replace Z25 := if_f (bf c33) Z25
                    refine at_skip ?_
                    refine at_nb ?_
                    refine at_then ?_
                    obtain rfl := Option.some.inj Z25
                    exact at_mid 0 [0, 0, 0, 0, 0, 0, 0] rfl ⟨rfl, rfl, rfl, rfl, rfl, rfl, trivial⟩ rfl
          · rintro x45 rfl
            refine at_seq ?_
            refine at_region [0, 1, 2] rfl ?_
            refine at_s T rfl ?_
            obtain ⟨v48, V34, Z14⟩ := bind_e Z14
            refine at_cons (at_cR (As := [[(b1, Obj.cells #[(.int .i64 x30), (.int .i64 x31), (.int .i64 x32), (.pointer (some ⟨b22, 0, none⟩)), (.pointer (some ⟨b25, 0, none⟩))] 92 (0, 0))], [(b22, Obj.cells #[(.int .i64 x33), (.int .i64 x34), (.map (some a23)), (.slice a24 (List.length x36) n24)] 102 (0, 0))], H23, H24, [(b25, Obj.cells #[(.slice a26 (List.length x37) n26), (.int .i64 x38)] 104 (0, 0))], H26]) (R := [F]) (crowd_Crowd_Units.R v48) [[(b1, Obj.cells #[(.int .i64 x30), (.int .i64 x31), (.int .i64 x32), (.pointer (some ⟨b22, 0, none⟩)), (.pointer (some ⟨b25, 0, none⟩))] 92 (0, 0))], [(b22, Obj.cells #[(.int .i64 x33), (.int .i64 x34), (.map (some a23)), (.slice a24 (List.length x36) n24)] 102 (0, 0))], H23, H24, [(b25, Obj.cells #[(.slice a26 (List.length x37) n26), (.int .i64 x38)] 104 (0, 0))], H26] [1, 1, 1, 1, 1, 1] rfl rfl rfl rfl has27 rfl rfl (crowd_Crowd_Units.c (crowd_Crowd.mk x30 x31 x32 (units_Units.mk x33 x34 x35 x36) (floor_Floor.mk x37 x38)) v48 _ V34 s23 s24 s26) ?_)
            rintro _ _ ⟨a32, n32, H32, s32, rfl, rfl⟩
            refine at_s T rfl ?_
            refine at_end ?_
            refine at_sub [(0, (.int .i64 v1)), (1, (.int .i64 v2)), (13, (.int .i64 v3)), (14, (.int .i64 v4)), (17, (.pointer (some ⟨b1, 0, none⟩))), (24, (.int .i64 x45)), (25, (.slice a32 (List.length v48) n32))] ⟨rfl, rfl, rfl, rfl, rfl, rfl, rfl, trivial⟩ ?_
            refine at_then ?_
            refine at_seq ?_
            refine at_region [0, 1, 2, 3, 4, 5, 6, 7, 8] rfl ?_
            iterate 3 refine at_s T rfl ?_
            obtain ⟨v49, V35, Z14⟩ := bind_e Z14
            refine at_cons (at_cR (As := [[(b1, Obj.cells #[(.int .i64 x30), (.int .i64 x31), (.int .i64 x32), (.pointer (some ⟨b22, 0, none⟩)), (.pointer (some ⟨b25, 0, none⟩))] 92 (0, 0))], [(b22, Obj.cells #[(.int .i64 x33), (.int .i64 x34), (.map (some a23)), (.slice a24 (List.length x36) n24)] 102 (0, 0))], H23, H24, [(b25, Obj.cells #[(.slice a26 (List.length x37) n26), (.int .i64 x38)] 104 (0, 0))], H26]) (R := [F, H32]) (crowd_Crowd_Spawn.R b1 v49) [] [2, 2, 2, 2, 2, 2] rfl rfl rfl rfl has25 rfl rfl (crowd_Crowd_Spawn.c (crowd_Crowd.mk x30 x31 x32 (units_Units.mk x33 x34 x35 x36) (floor_Floor.mk x37 x38)) v3 v4 v49 _ V35 s23 s24 s26) ?_)
            rintro _ _ ⟨b33, a34, H34, a35, n35, H35, b36, a37, n37, H37, s34, s35, s37, rfl, rfl⟩
            iterate 5 refine at_s T rfl ?_
            refine at_end ?_
            refine at_sub [(0, (.int .i64 v1)), (1, (.int .i64 v2)), (17, (.pointer (some ⟨b1, 0, none⟩))), (24, (.int .i64 x45)), (25, (.slice a32 (List.length v48) n32)), (26, (.int .i64 v49.1)), (27, (.int .i64 v49.2.1))] ⟨rfl, rfl, rfl, rfl, rfl, rfl, rfl, trivial⟩ ?_
            refine at_then ?_
            refine at_seq ?_
            refine at_seq ?_
            refine at_region [0, 1, 2, 3, 4, 5, 6, 7, 8, 9] rfl ?_
            iterate 4 refine at_s T rfl ?_
            refine at_grp T [4, 5, 6, 7, 8, 9] (s := 163) (c := (v49.2.1 != x45)) [(0, (.int .i64 v1)), (1, (.int .i64 v2)), (17, (.pointer (some ⟨b1, 0, none⟩))), (24, (.int .i64 x45)), (25, (.slice a32 (List.length v48) n32)), (169, (.bool ((v49.2.1 != x45) || ((v49.1 == (-1)) == (x45 == 0)))))] rfl rfl rfl (fun c36 => ⟨rfl, rfl, rfl, rfl, rfl, (by rw [c36]; rfl), trivial⟩) (fun c36 => ⟨rfl, rfl, rfl, rfl, rfl, (by rw [c36]; rfl), trivial⟩) ?_
            refine at_end ?_
            refine at_sub [(0, (.int .i64 v1)), (1, (.int .i64 v2)), (17, (.pointer (some ⟨b1, 0, none⟩))), (24, (.int .i64 x45)), (25, (.slice a32 (List.length v48) n32)), (169, (.bool ((v49.2.1 != x45) || ((v49.1 == (-1)) == (x45 == 0)))))] ⟨rfl, rfl, rfl, rfl, rfl, rfl, trivial⟩ ?_
            refine at_then ?_
            refine at_cond rfl (fun c37 => ?_) (fun c37 => ?_)
            · replace Z14 := if_t c37 Z14
              refine at_seq ?_
              refine at_region [0] rfl ?_
              refine at_s T rfl ?_
              refine at_end ?_
              refine at_to [(12, (.bool false))] [0] [F] ⟨rfl, trivial⟩ rfl ?_
              refine at_then ?_
              refine at_ret ?_
              refine at_rt ?_
              obtain rfl := Option.some.inj Z14
              exact at_post (T := T) rfl (.tmp rfl .nil) (fun w o => ⟨(), rfl, own_to [0] rfl o⟩)
            · replace Z14 := if_f (bf c37) Z14
              refine at_skip ?_
              refine at_then ?_
              obtain ⟨z51, Z38, Z14⟩ := bind_e Z14
              refine at_seq_mid (σ := Bool) (fun x50 => x50 = z51) (fun x50 => [(12, (.bool x50))]) (fun x50 => [F]) ?_ ?_
              · refine at_region [0, 1, 2, 3, 4, 5, 6, 7, 8, 9, 10, 11, 12, 13, 14, 15, 16] rfl ?_
                obtain ⟨v52, V39, Z38⟩ := bind_e Z38
                refine at_cons (at_c (B := fun _ => []) [] rfl rfl rfl rfl has28 rfl rfl (law25_told.c  v52 _ V39) (fun _ => ?_))
                refine at_s T rfl ?_
                refine at_case (s := 171) rfl (fun c40 => ?_) (fun c40 => ?_)
                · replace Z38 := if_t c40 Z38
                  iterate 3 refine at_s T rfl ?_
                  refine at_case (s := 174) rfl (fun c41 => ?_) (fun c41 => ?_)
                  · replace Z38 := if_t c41 Z38
                    iterate 9 refine at_s T rfl ?_
                    obtain ⟨v53, V42, Z38⟩ := bind_e Z38
                    refine at_cons (at_c (B := fun _ => []) [] rfl rfl rfl rfl has29 rfl rfl (where_May.c v1 v2 v53 _ V42) (fun _ => ?_))
                    iterate 2 refine at_s T rfl ?_
                    refine at_end ?_
                    refine at_to [(12, (.bool v53))] [0] [F] ⟨rfl, trivial⟩ rfl ?_
                    refine at_then ?_
                    obtain rfl := Option.some.inj Z38
                    exact at_mid v53 [0] rfl ⟨rfl, trivial⟩ rfl
                  · replace Z38 := if_f (bf c41) Z38
                    refine at_s T rfl ?_
                    obtain ⟨v54, V43, Z38⟩ := bind_e Z38
                    refine at_cons (at_cR (As := [[(b1, Obj.cells #[(.int .i64 v49.2.2.w), (.int .i64 v49.2.2.h), (.int .i64 v49.2.2.most), (.pointer (some ⟨b33, 0, none⟩)), (.pointer (some ⟨b36, 0, none⟩))] 92 (0, 0))], [(b33, Obj.cells #[(.int .i64 v49.2.2.units.most), (.int .i64 v49.2.2.units.next), (.map (some a34)), (.slice a35 (List.length v49.2.2.units.order) n35)] 102 (0, 0))], H34, H35, [(b36, Obj.cells #[(.slice a37 (List.length v49.2.2.floor.words) n37), (.int .i64 v49.2.2.floor.count)] 104 (0, 0))], H37]) (R := [F, H32]) (crowd_Crowd_Units.R v54) [[(b1, Obj.cells #[(.int .i64 v49.2.2.w), (.int .i64 v49.2.2.h), (.int .i64 v49.2.2.most), (.pointer (some ⟨b33, 0, none⟩)), (.pointer (some ⟨b36, 0, none⟩))] 92 (0, 0))], [(b33, Obj.cells #[(.int .i64 v49.2.2.units.most), (.int .i64 v49.2.2.units.next), (.map (some a34)), (.slice a35 (List.length v49.2.2.units.order) n35)] 102 (0, 0))], H34, H35, [(b36, Obj.cells #[(.slice a37 (List.length v49.2.2.floor.words) n37), (.int .i64 v49.2.2.floor.count)] 104 (0, 0))], H37] [2, 2, 2, 2, 2, 2] rfl rfl rfl rfl has27 rfl rfl (crowd_Crowd_Units.c v49.2.2 v54 _ V43 s34 s35 s37) ?_)
                    rintro _ _ ⟨a38, n38, H38, s38, rfl, rfl⟩
                    refine at_s T rfl ?_
                    obtain ⟨v55, V44, Z38⟩ := bind_e Z38
                    refine at_cons (at_c (B := fun _ => []) [] rfl rfl rfl rfl has16 rfl rfl (ref21_Same.c v54 v48 v55 _ V44 (own_of s38 (j := 2) rfl) s38.cap_le (own_of s32 (j := 1) rfl) s32.cap_le) (fun _ => ?_))
                    iterate 3 refine at_s T rfl ?_
                    refine at_case (s := 181) rfl (fun c45 => ?_) (fun c45 => ?_)
                    · replace Z38 := if_t c45 Z38
                      iterate 2 refine at_s T rfl ?_
                      obtain ⟨v56, V46, Z38⟩ := bind_e Z38
                      refine at_cons (at_c (B := fun _ => []) [] rfl rfl rfl rfl has29 rfl rfl (where_May.c v1 v2 v56 _ V46) (fun _ => ?_))
                      iterate 2 refine at_s T rfl ?_
                      refine at_end ?_
                      refine at_to [(12, (.bool v56))] [0] [F] ⟨rfl, trivial⟩ rfl ?_
                      refine at_then ?_
                      obtain rfl := Option.some.inj Z38
                      exact at_mid v56 [0] rfl ⟨rfl, trivial⟩ rfl
                    · replace Z38 := if_f (bf c45) Z38
                      iterate 5 refine at_s T rfl ?_
                      refine at_end ?_
                      refine at_to [(12, (.bool false))] [0] [F] ⟨rfl, trivial⟩ rfl ?_
                      refine at_then ?_
                      obtain rfl := Option.some.inj Z38
                      exact at_mid false [0] rfl ⟨rfl, trivial⟩ rfl
                · replace Z38 := if_f (bf c40) Z38
                  iterate 15 refine at_s T rfl ?_
                  refine at_end ?_
                  refine at_to [(12, (.bool false))] [0] [F] ⟨rfl, trivial⟩ rfl ?_
                  refine at_then ?_
                  obtain rfl := Option.some.inj Z38
                  exact at_mid false [0] rfl ⟨rfl, trivial⟩ rfl
              · rintro x50 rfl
                refine at_ret ?_
                obtain rfl := Option.some.inj Z14
                exact at_post (T := T) rfl (.tmp rfl .nil) (fun w o => ⟨(), rfl, own_to [0] rfl o⟩)
def law25_CrowdCodes.Pure : Prop := ∀ (w : Int) (h : Int) (cell : Int) (goal : Int) (taken : Bool) (full : Bool), inI64 w → inI64 h → inI64 cell → inI64 goal → law25_CrowdCodes.f w h cell goal taken full = some true
end Go.Proofs.Ytkidcebfpengmaa
