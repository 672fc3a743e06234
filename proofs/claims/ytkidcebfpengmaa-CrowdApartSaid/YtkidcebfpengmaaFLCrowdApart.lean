import Derived.Test.YtkidcebfpengmaaT
import Derived.Test.YtkidcebfpengmaaFcrowd
import Derived.Test.YtkidcebfpengmaaFlaw25
import Derived.Test.YtkidcebfpengmaaFref1
namespace Go.Proofs.Ytkidcebfpengmaa
open Go.Hx
set_option maxRecDepth 100000
set_option linter.unusedVariables false
/-! ### herdsman/herdsmanlaw25.CrowdApart: function 10 -/
def law25_CrowdApart.l2 : Nat → Int → Int → Int → Int → Int → Int → List Int → Int → (List (Int × api_Unit)) → Int → List Int → (List api_Unit) → (List Int) → Int → Int → Option (Sum Bool (Int × Int × Int × Int × Int × (List (Int × api_Unit)) × (List Int) × (List Int) × Int))
  | 0, _, _, _, _, _, _, _, _, _, _, _, _, _, _, _ => none
  | k68 + 1, v1, v2, x38, x37, x40, x41, x43, x39, x42, x45, x44, v56, v57, x60, x67 => if x67 < (List.length v56 : Int) then ((if (0 ≤ x67 ∧ x67 < (List.length v56 : Int)) then (if (rd v56 x67).Cell < 0 then (some true) else (if (rd v56 x67).Cell ≥ (w64 (v1 * v2)) then (some true) else (if (0 ≤ (rd v56 x67).Cell ∧ (rd v56 x67).Cell < (List.length v57 : Int)) then (if ((rd v57 ((rd v56 x67).Cell)) != (wu32 (w64 ((rd v56 x67).Id + 1)))) = true then (some true) else (if ((rd v56 x67).Cell == (rd v56 x67).Goal) = true then (some true) else (if (rd v56 x67).Goal < 0 then (some true) else (if (rd v56 x67).Goal ≥ (w64 (v1 * v2)) then (some true) else (if x67 > 0 then (if (0 ≤ (w64 (x67 - 1)) ∧ (w64 (x67 - 1)) < (List.length v56 : Int)) then (some (decide ((rd v56 (w64 (x67 - 1))).Id ≥ (rd v56 x67).Id))) else none) else (some false)))))) else none))) else none).bind fun x69 => if x69 = true then (some (Sum.inl false)) else (law25_CrowdApart.l2 k68 v1 v2 x38 x37 x40 x41 x43 x39 x42 x45 x44 v56 v57 x60 (w64 (x67 + 1)))) else (if (x60 != (List.length v56 : Int)) = true then (some (Sum.inl false)) else (some (Sum.inr (x37, x38, x39, x40, x41, x42, x43, x44, x45))))
def law25_CrowdApart.l1 : Nat → Int → Int → Int → Int → Int → Int → List Int → Int → (List (Int × api_Unit)) → Int → List Int → (List api_Unit) → (List Int) → Int → Int → Option (Sum Bool (Int × Int × Int × Int × Int × (List (Int × api_Unit)) × (List Int) × (List Int) × Int))
  | 0, _, _, _, _, _, _, _, _, _, _, _, _, _, _, _ => none
  | k62 + 1, v1, v2, x38, x37, x40, x41, x43, x39, x42, x45, x44, v56, v57, x60, x61 => if x61 < (List.length v57 : Int) then ((if (0 ≤ x61 ∧ x61 < (List.length v57 : Int)) then (if ((rd v57 x61) != 0) = true then (some (w64 (x60 + 1))) else (some x60)) else none).bind fun x63 => (crowd_Crowd_Who.f (crowd_Crowd.mk x37 x38 x39 (units_Units.mk x40 x41 x42 x43) (floor_Floor.mk x44 x45)) x61).bind fun v65 => if (0 ≤ x61 ∧ x61 < (List.length v57 : Int)) then (if (v65 != (w64 ((w64 (rd v57 x61)) - 1))) = true then (some (Sum.inl false)) else (law25_CrowdApart.l1 k62 v1 v2 x38 x37 x40 x41 x43 x39 x42 x45 x44 v56 v57 x63 (w64 (x61 + 1)))) else none) else (law25_CrowdApart.l2 fuel v1 v2 x38 x37 x40 x41 x43 x39 x42 x45 x44 v56 v57 x60 0)
def law25_CrowdApart.l0 : Nat → Int → Int → Int → (List herdsmanlaw25_Ask) → Int → Int → Int → Int → Int → Int → Int → Int → (List (Int × api_Unit)) → List Int → List Int → Int → Int → Option Bool
  | 0, _, _, _, _, _, _, _, _, _, _, _, _, _, _, _, _, _ => none
  | k25 + 1, w, h, most, l, v1, v2, v3, x15, x16, x17, x18, x19, x20, x21, x22, x23, x24 => if ((decide (x24 < (List.length l : Int))) && (decide (x24 < 50))) = true then ((if (0 ≤ x24 ∧ x24 < (List.length l : Int)) then ((law25_near.f (rd l x24) v1 v2 12).bind fun v36 => ((ref1_Within.f v36.Kind 0 9).bind fun v47 => if (v47 == 5) = true then ((crowd_Crowd_Retarget.f (crowd_Crowd.mk x15 x16 x17 (units_Units.mk x18 x19 x20 x21) (floor_Floor.mk x22 x23)) v36.A v36.B).bind fun v48 => some (Sum.inr (v48.2.w, v48.2.h, v48.2.most, v48.2.units.most, v48.2.units.next, v48.2.units.live, v48.2.units.order, v48.2.floor.words, v48.2.floor.count))) else (if (v47 == 6) = true then ((crowd_Crowd_Despawn.f (crowd_Crowd.mk x15 x16 x17 (units_Units.mk x18 x19 x20 x21) (floor_Floor.mk x22 x23)) v36.A).bind fun v49 => some (Sum.inr (v49.2.w, v49.2.h, v49.2.most, v49.2.units.most, v49.2.units.next, v49.2.units.live, v49.2.units.order, v49.2.floor.words, v49.2.floor.count))) else ((if (v47 == 7) = true then (some (v47 == 7)) else (if (v47 == 8) = true then (some (v47 == 8)) else (some (v47 == 9)))).bind fun x50 => if x50 = true then ((crowd_Crowd_Units.f (crowd_Crowd.mk x15 x16 x17 (units_Units.mk x18 x19 x20 x21) (floor_Floor.mk x22 x23))).bind fun v52 => (law25_dirs.f (List.length v52 : Int) v36.A v36.B).bind fun v53 => (crowd_Crowd_Tick.f (crowd_Crowd.mk x15 x16 x17 (units_Units.mk x18 x19 x20 x21) (floor_Floor.mk x22 x23)) v53).bind fun v54 => if (v54.2.2.1 != 0) = true then (some (Sum.inl false)) else (some (Sum.inr (v54.2.2.2.w, v54.2.2.2.h, v54.2.2.2.most, v54.2.2.2.units.most, v54.2.2.2.units.next, v54.2.2.2.units.live, v54.2.2.2.units.order, v54.2.2.2.floor.words, v54.2.2.2.floor.count)))) else ((crowd_Crowd_Spawn.f (crowd_Crowd.mk x15 x16 x17 (units_Units.mk x18 x19 x20 x21) (floor_Floor.mk x22 x23)) v36.A v36.B).bind fun v55 => some (Sum.inr (v55.2.2.w, v55.2.2.h, v55.2.2.most, v55.2.2.units.most, v55.2.2.units.next, v55.2.2.units.live, v55.2.2.units.order, v55.2.2.floor.words, v55.2.2.floor.count)))))).bind fun zz => match zz with | Sum.inl q => some (Sum.inl q) | Sum.inr (x37, x38, x39, x40, x41, x42, x43, x44, x45) => (crowd_Crowd_Units.f (crowd_Crowd.mk x37 x38 x39 (units_Units.mk x40 x41 x42 x43) (floor_Floor.mk x44 x45))).bind fun v56 => (crowd_Crowd_Words.f (crowd_Crowd.mk x37 x38 x39 (units_Units.mk x40 x41 x42 x43) (floor_Floor.mk x44 x45))).bind fun v57 => if ((decide ((List.length v56 : Int) > v3)) || ((List.length v57 : Int) != (w64 (v1 * v2)))) = true then (some (Sum.inl false)) else (law25_CrowdApart.l1 fuel v1 v2 x38 x37 x40 x41 x43 x39 x42 x45 x44 v56 v57 0 0)) else none).bind fun zz => match zz with | Sum.inl q => some q | Sum.inr (x26, x27, x28, x29, x30, x31, x32, x33, x34) => law25_CrowdApart.l0 k25 w h most l v1 v2 v3 x26 x27 x28 x29 x30 x31 x32 x33 x34 (w64 (x24 + 1))) else ((law25_told.f).bind fun v71 => some v71)
def law25_CrowdApart.f (w : Int) (h : Int) (most : Int) (l : (List herdsmanlaw25_Ask)) : Option Bool := (ref1_Within.f w 1 8).bind fun v1 => (ref1_Within.f h 1 8).bind fun v2 => (ref1_Within.f most 1 9).bind fun v3 => (crowd_New.f v1 v2 v3).bind fun v4 => optm v4 (some false) (fun yv4 => law25_CrowdApart.l0 fuel w h most l v1 v2 v3 yv4.w yv4.h yv4.most yv4.units.most yv4.units.next yv4.units.live yv4.units.order yv4.floor.words yv4.floor.count 0)
set_option maxHeartbeats 4000000 in
theorem law25_CrowdApart.c {a_l : Option Addr} {n_l : Nat} (w : Int) (h : Int) (most : Int) (l : (List herdsmanlaw25_Ask)) (r : Bool) (F : Hp) (H : law25_CrowdApart.f w h most l = some r) (h_l : SliceR k_herdsmanlaw25_Ask l a_l F) (c_l : List.length l ≤ n_l) :
    CallsL Try.prog 10 [(.int .i64 w), (.int .i64 h), (.int .i64 most), (.slice a_l (List.length l) n_l)] [F] (fun _ : Unit => (.bool r)) (fun _ => [F]) := by
  unfold law25_CrowdApart.f at H
  refine calls_atL [(0, (.int .i64 w)), (1, (.int .i64 h)), (2, (.int .i64 most)), (3, (.slice a_l (List.length l) n_l))] Try.func10 rfl rfl ⟨rfl, rfl, rfl, rfl, trivial⟩ (fun W => ?_)
  refine at_seq ?_
  refine at_region [0] rfl ?_
  refine at_s T rfl ?_
  refine at_end ?_
  refine at_sub [(0, (.int .i64 w)), (1, (.int .i64 h)), (2, (.int .i64 most)), (3, (.slice a_l (List.length l) n_l))] ⟨rfl, rfl, rfl, rfl, trivial⟩ ?_
  refine at_then ?_
  refine at_seq ?_
  refine at_region [0, 1, 2, 3, 4, 5, 6, 7, 8] rfl ?_
  refine at_s T rfl ?_
  obtain ⟨v1, V1, H⟩ := bind_e H
  refine at_cons (at_c (B := fun _ => []) [] rfl rfl rfl rfl has12 rfl rfl (ref1_Within.c w 1 8 v1 _ V1) (fun _ => ?_))
  refine at_s T rfl ?_
  obtain ⟨v2, V2, H⟩ := bind_e H
  refine at_cons (at_c (B := fun _ => []) [] rfl rfl rfl rfl has12 rfl rfl (ref1_Within.c h 1 8 v2 _ V2) (fun _ => ?_))
  refine at_s T rfl ?_
  obtain ⟨v3, V3, H⟩ := bind_e H
  refine at_cons (at_c (B := fun _ => []) [] rfl rfl rfl rfl has12 rfl rfl (ref1_Within.c most 1 9 v3 _ V3) (fun _ => ?_))
  iterate 3 refine at_s T rfl ?_
  refine at_end ?_
  refine at_sub [(0, (.int .i64 v1)), (1, (.int .i64 v2)), (2, (.int .i64 v3)), (3, (.slice a_l (List.length l) n_l))] ⟨rfl, rfl, rfl, rfl, trivial⟩ ?_
  refine at_then ?_
  refine at_seq ?_
  refine at_region [0, 1, 2, 3, 4] rfl ?_
  iterate 3 refine at_s T rfl ?_
  obtain ⟨v4, V4, H⟩ := bind_e H
  refine at_cons (at_cR (crowd_New.R v4) [] [] rfl rfl rfl rfl has24 rfl rfl (crowd_New.c v1 v2 v3 v4 _ V4) ?_)
  rintro _ _ ⟨_, _, O5, rfl, rfl⟩
  rcases v4 with _ | yv4
  · replace H := optm_n rfl H
    obtain ⟨rfl, rfl⟩ := O5
    refine at_s T rfl ?_
    refine at_end ?_
    refine at_sub [(0, (.int .i64 v1)), (1, (.int .i64 v2)), (2, (.int .i64 v3)), (3, (.slice a_l (List.length l) n_l)), (9, (.pointer none))] ⟨rfl, rfl, rfl, rfl, rfl, trivial⟩ ?_
    refine at_then ?_
    refine at_seq ?_
    refine at_seq ?_
    refine at_region [0, 1] rfl ?_
    iterate 2 refine at_s T rfl ?_
    refine at_end ?_
    refine at_sub [(0, (.int .i64 v1)), (1, (.int .i64 v2)), (2, (.int .i64 v3)), (3, (.slice a_l (List.length l) n_l)), (9, (.pointer none)), (31, (.bool true))] ⟨rfl, rfl, rfl, rfl, rfl, rfl, trivial⟩ ?_
    refine at_then ?_
    refine at_cond_t rfl ?_
    refine at_seq ?_
    refine at_region [0] rfl ?_
    refine at_s T rfl ?_
    refine at_end ?_
    refine at_sub [(8, (.bool false))] ⟨rfl, trivial⟩ ?_
    refine at_then ?_
    refine at_ret ?_
    refine at_rt ?_
    obtain rfl := Option.some.inj H
    exact at_post (T := T) rfl (.tmp rfl .nil) (fun w o => ⟨(), rfl, own_to [0] rfl o⟩)
  · replace H := optm_s rfl H
    obtain ⟨b1, b2, a3, H3, a4, n4, H4, b5, a6, n6, H6, s3, s4, s6, rfl, rfl⟩ := O5
    refine at_s T rfl ?_
    refine at_end ?_
    refine at_sub [(0, (.int .i64 v1)), (1, (.int .i64 v2)), (2, (.int .i64 v3)), (3, (.slice a_l (List.length l) n_l)), (9, (.pointer (some ⟨b1, 0, none⟩)))] ⟨rfl, rfl, rfl, rfl, rfl, trivial⟩ ?_
    refine at_then ?_
    refine at_seq ?_
    refine at_seq ?_
    refine at_region [0, 1] rfl ?_
    iterate 2 refine at_s T rfl ?_
    refine at_end ?_
    refine at_sub [(0, (.int .i64 v1)), (1, (.int .i64 v2)), (2, (.int .i64 v3)), (3, (.slice a_l (List.length l) n_l)), (9, (.pointer (some ⟨b1, 0, none⟩))), (31, (.bool false))] ⟨rfl, rfl, rfl, rfl, rfl, rfl, trivial⟩ ?_
    refine at_then ?_
    refine at_cond_f rfl ?_
    refine at_skip ?_
    refine at_then ?_
    refine at_seq ?_
    refine at_seq ?_
    refine at_region [0] rfl ?_
    refine at_s T rfl ?_
    refine at_end ?_
    refine at_sub [(0, (.int .i64 v1)), (1, (.int .i64 v2)), (2, (.int .i64 v3)), (3, (.slice a_l (List.length l) n_l)), (9, (.pointer (some ⟨b1, 0, none⟩))), (10, (.int .i64 0))] ⟨rfl, rfl, rfl, rfl, rfl, rfl, trivial⟩ ?_
    refine at_then ?_
    refine at_block ?_
    refine at_loopL (σ := Nat × Int × Int × Int × Int × Int × (List (Int × api_Unit)) × List Int × List Int × Int × Int × Nat × Nat × Hp × Option Addr × Nat × Hp × Nat × Option Addr × Nat × Hp) (fun ⟨k25, x15, x16, x17, x18, x19, x20, x21, x22, x23, x24, b12, a13, H13, a14, n14, H14, b15, a16, n16, H16⟩ => law25_CrowdApart.l0 k25 w h most l v1 v2 v3 x15 x16 x17 x18 x19 x20 x21 x22 x23 x24 = some r ∧ MapO (Ky.int .i64 u3) (fun x : api_Unit => Value.agg #[.int .i64 x.Id, .int .i64 x.Cell, .int .i64 x.Goal]) x20 a13 H13 ∧ SliceO (Fl.int .i64) 3 x21 a14 n14 H14 ∧ SliceO (Fl.int .u32) 74 x22 a16 n16 H16) (fun ⟨k25, x15, x16, x17, x18, x19, x20, x21, x22, x23, x24, b12, a13, H13, a14, n14, H14, b15, a16, n16, H16⟩ => [(0, (.int .i64 v1)), (1, (.int .i64 v2)), (2, (.int .i64 v3)), (3, (.slice a_l (List.length l) n_l)), (9, (.pointer (some ⟨b1, 0, none⟩))), (10, (.int .i64 x24))]) (fun ⟨k25, x15, x16, x17, x18, x19, x20, x21, x22, x23, x24, b12, a13, H13, a14, n14, H14, b15, a16, n16, H16⟩ => [F, [(b1, Obj.cells #[(.int .i64 x15), (.int .i64 x16), (.int .i64 x17), (.pointer (some ⟨b12, 0, none⟩)), (.pointer (some ⟨b15, 0, none⟩))] 92 (0, 0))], [(b12, Obj.cells #[(.int .i64 x18), (.int .i64 x19), (.map (some a13)), (.slice a14 (List.length x21) n14)] 102 (0, 0))], H13, H14, [(b15, Obj.cells #[(.slice a16 (List.length x22) n16), (.int .i64 x23)] 104 (0, 0))], H16]) (fun s => s.1) (fuel, yv4.w, yv4.h, yv4.most, yv4.units.most, yv4.units.next, yv4.units.live, yv4.units.order, yv4.floor.words, yv4.floor.count, 0, b2, a3, H3, a4, n4, H4, b5, a6, n6, H6) [0, 0, 0, 0, 0, 0, 0] ⟨H, s3, s4, s6⟩ ⟨rfl, rfl, rfl, rfl, rfl, rfl, trivial⟩ rfl ?_
    rintro ⟨k25, x15, x16, x17, x18, x19, x20, x21, x22, x23, x24, b12, a13, H13, a14, n14, H14, b15, a16, n16, H16⟩ ⟨Z6, s13, s14, s16⟩
    replace Z6 : law25_CrowdApart.l0 k25 w h most l v1 v2 v3 x15 x16 x17 x18 x19 x20 x21 x22 x23 x24 = some r := Z6
    rcases k25 with _ | k25
    · rw [law25_CrowdApart.l0] at Z6; cases Z6
    · rw [law25_CrowdApart.l0] at Z6
      refine at_seq ?_
      refine at_seq ?_
      refine at_region [0, 1, 2, 3, 4, 5, 6, 7] rfl ?_
      iterate 5 refine at_s T rfl ?_
      refine at_grp T [5, 6, 7] (s := 36) (c := (decide (x24 < (List.length l : Int)))) [(0, (.int .i64 v1)), (1, (.int .i64 v2)), (2, (.int .i64 v3)), (3, (.slice a_l (List.length l) n_l)), (9, (.pointer (some ⟨b1, 0, none⟩))), (10, (.int .i64 x24)), (39, (.bool ((decide (x24 < (List.length l : Int))) && (decide (x24 < 50)))))] rfl rfl rfl (fun c7 => ⟨rfl, rfl, rfl, rfl, rfl, rfl, (by rw [c7]; rfl), trivial⟩) (fun c7 => ⟨rfl, rfl, rfl, rfl, rfl, rfl, (by rw [c7]; rfl), trivial⟩) ?_
      refine at_end ?_
      refine at_sub [(0, (.int .i64 v1)), (1, (.int .i64 v2)), (2, (.int .i64 v3)), (3, (.slice a_l (List.length l) n_l)), (9, (.pointer (some ⟨b1, 0, none⟩))), (10, (.int .i64 x24)), (39, (.bool ((decide (x24 < (List.length l : Int))) && (decide (x24 < 50)))))] ⟨rfl, rfl, rfl, rfl, rfl, rfl, rfl, trivial⟩ ?_
      refine at_then ?_
      refine at_cond rfl (fun c8 => ?_) (fun c8 => ?_)
      · replace Z6 := if_t c8 Z6
        refine at_skip ?_
        refine at_then ?_
        obtain ⟨z35, Z9, Z6⟩ := bind_e Z6
        refine at_seq_mid (σ := Int × Int × Int × Int × Int × (List (Int × api_Unit)) × List Int × List Int × Int × Nat × Nat × Hp × Option Addr × Nat × Hp × Nat × Option Addr × Nat × Hp) (fun ⟨x26, x27, x28, x29, x30, x31, x32, x33, x34, b17, a18, H18, a19, n19, H19, b20, a21, n21, H21⟩ => (Sum.inr (x26, x27, x28, x29, x30, x31, x32, x33, x34)) = z35 ∧ MapO (Ky.int .i64 u3) (fun x : api_Unit => Value.agg #[.int .i64 x.Id, .int .i64 x.Cell, .int .i64 x.Goal]) x31 a18 H18 ∧ SliceO (Fl.int .i64) 3 x32 a19 n19 H19 ∧ SliceO (Fl.int .u32) 74 x33 a21 n21 H21) (fun ⟨x26, x27, x28, x29, x30, x31, x32, x33, x34, b17, a18, H18, a19, n19, H19, b20, a21, n21, H21⟩ => [(0, (.int .i64 v1)), (1, (.int .i64 v2)), (2, (.int .i64 v3)), (3, (.slice a_l (List.length l) n_l)), (9, (.pointer (some ⟨b1, 0, none⟩))), (10, (.int .i64 x24))]) (fun ⟨x26, x27, x28, x29, x30, x31, x32, x33, x34, b17, a18, H18, a19, n19, H19, b20, a21, n21, H21⟩ => [F, [(b1, Obj.cells #[(.int .i64 x26), (.int .i64 x27), (.int .i64 x28), (.pointer (some ⟨b17, 0, none⟩)), (.pointer (some ⟨b20, 0, none⟩))] 92 (0, 0))], [(b17, Obj.cells #[(.int .i64 x29), (.int .i64 x30), (.map (some a18)), (.slice a19 (List.length x32) n19)] 102 (0, 0))], H18, H19, [(b20, Obj.cells #[(.slice a21 (List.length x33) n21), (.int .i64 x34)] 104 (0, 0))], H21]) ?_ ?_
        · refine at_block ?_
          refine at_seq ?_
          refine at_region [0, 1, 2, 3, 4, 5, 6, 7, 8] rfl ?_
          iterate 2 refine at_s T rfl ?_
          obtain ⟨c10, Z9⟩ := chk_e Z9
          obtain ⟨q22, o22, e22⟩ := h_l.addr c10.1 c10.2
          refine at_v rfl (g_index T rfl rfl rfl rfl rfl e22 c10.1 c10.2) ?_
          refine at_v rfl (g_loadA T (cs := [(.int .i64 (rd l x24).Kind), (.int .i64 (rd l x24).A), (.int .i64 (rd l x24).B)]) rfl rfl rfl rfl rfl rfl (in_elemA (k := k_herdsmanlaw25_Ask) (ro_of h_l (j := 0) rfl) e22 c10 rfl)) ?_
          iterate 2 refine at_s T rfl ?_
          obtain ⟨v36, V11, Z9⟩ := bind_e Z9
          refine at_cons (at_c (B := fun _ => []) [] rfl rfl rfl rfl has30 rfl rfl (law25_near.c (rd l x24) v1 v2 12 v36 _ V11) (fun _ => ?_))
          refine at_cons (at_al T [(.int .i64 0), (.int .i64 0), (.int .i64 0)] rfl rfl rfl rfl (fun b23 => ?_))
          refine at_cons (at_st T 7 [(.int .i64 v36.Kind), (.int .i64 v36.A), (.int .i64 v36.B)] rfl rfl rfl rfl rfl rfl rfl rfl rfl rfl ?_)
          refine at_end ?_
          refine at_sub [(0, (.int .i64 v1)), (1, (.int .i64 v2)), (2, (.int .i64 v3)), (3, (.slice a_l (List.length l) n_l)), (9, (.pointer (some ⟨b1, 0, none⟩))), (10, (.int .i64 x24)), (11, (.pointer (some ⟨b23, 0, none⟩)))] ⟨rfl, rfl, rfl, rfl, rfl, rfl, rfl, trivial⟩ ?_
          refine at_then ?_
          obtain ⟨z46, Z12, Z9⟩ := bind_e Z9
          refine at_seq_mid (σ := Int × Int × Int × Int × Int × (List (Int × api_Unit)) × List Int × List Int × Int × Nat × Nat × Hp × Option Addr × Nat × Hp × Nat × Option Addr × Nat × Hp) (fun ⟨x37, x38, x39, x40, x41, x42, x43, x44, x45, b24, a25, H25, a26, n26, H26, b27, a28, n28, H28⟩ => (Sum.inr (x37, x38, x39, x40, x41, x42, x43, x44, x45)) = z46 ∧ MapO (Ky.int .i64 u3) (fun x : api_Unit => Value.agg #[.int .i64 x.Id, .int .i64 x.Cell, .int .i64 x.Goal]) x42 a25 H25 ∧ SliceO (Fl.int .i64) 3 x43 a26 n26 H26 ∧ SliceO (Fl.int .u32) 74 x44 a28 n28 H28) (fun ⟨x37, x38, x39, x40, x41, x42, x43, x44, x45, b24, a25, H25, a26, n26, H26, b27, a28, n28, H28⟩ => [(0, (.int .i64 v1)), (1, (.int .i64 v2)), (2, (.int .i64 v3)), (3, (.slice a_l (List.length l) n_l)), (9, (.pointer (some ⟨b1, 0, none⟩))), (10, (.int .i64 x24))]) (fun ⟨x37, x38, x39, x40, x41, x42, x43, x44, x45, b24, a25, H25, a26, n26, H26, b27, a28, n28, H28⟩ => [F, [(b1, Obj.cells #[(.int .i64 x37), (.int .i64 x38), (.int .i64 x39), (.pointer (some ⟨b24, 0, none⟩)), (.pointer (some ⟨b27, 0, none⟩))] 92 (0, 0))], [(b24, Obj.cells #[(.int .i64 x40), (.int .i64 x41), (.map (some a25)), (.slice a26 (List.length x43) n26)] 102 (0, 0))], H25, H26, [(b27, Obj.cells #[(.slice a28 (List.length x44) n28), (.int .i64 x45)] 104 (0, 0))], H28]) ?_ ?_
          · refine at_seq ?_
            refine at_region [0, 1, 2] rfl ?_
            refine at_s T rfl ?_
            refine at_v rfl (g_load T rfl rfl rfl rfl (in_var (j := 7) rfl rfl)) ?_
            obtain ⟨v47, V13, Z12⟩ := bind_e Z12
            refine at_cons (at_c (B := fun _ => []) [] rfl rfl rfl rfl has12 rfl rfl (ref1_Within.c v36.Kind 0 9 v47 _ V13) (fun _ => ?_))
            refine at_end ?_
            refine at_sub [(0, (.int .i64 v1)), (1, (.int .i64 v2)), (2, (.int .i64 v3)), (3, (.slice a_l (List.length l) n_l)), (9, (.pointer (some ⟨b1, 0, none⟩))), (10, (.int .i64 x24)), (11, (.pointer (some ⟨b23, 0, none⟩))), (51, (.int .i64 v47))] ⟨rfl, rfl, rfl, rfl, rfl, rfl, rfl, rfl, trivial⟩ ?_
            refine at_then ?_
            refine at_block ?_
            refine at_seq ?_
            refine at_region [0, 1] rfl ?_
            iterate 2 refine at_s T rfl ?_
            refine at_end ?_
            refine at_sub [(0, (.int .i64 v1)), (1, (.int .i64 v2)), (2, (.int .i64 v3)), (3, (.slice a_l (List.length l) n_l)), (9, (.pointer (some ⟨b1, 0, none⟩))), (10, (.int .i64 x24)), (11, (.pointer (some ⟨b23, 0, none⟩))), (51, (.int .i64 v47)), (58, (.bool (v47 == 5)))] ⟨rfl, rfl, rfl, rfl, rfl, rfl, rfl, rfl, rfl, trivial⟩ ?_
            refine at_then ?_
            refine at_cond rfl (fun c14 => ?_) (fun c14 => ?_)
            · replace Z12 := if_t c14 Z12
              refine at_region [0, 1, 2, 3, 4, 5] rfl ?_
              iterate 2 refine at_s T rfl ?_
              refine at_v rfl (g_load T rfl rfl rfl rfl (in_var (j := 7) rfl rfl)) ?_
              refine at_s T rfl ?_
              refine at_v rfl (g_load T rfl rfl rfl rfl (in_var (j := 7) rfl rfl)) ?_
              obtain ⟨v48, V15, Z12⟩ := bind_e Z12
              refine at_cons (at_cR (As := [[(b1, Obj.cells #[(.int .i64 x15), (.int .i64 x16), (.int .i64 x17), (.pointer (some ⟨b12, 0, none⟩)), (.pointer (some ⟨b15, 0, none⟩))] 92 (0, 0))], [(b12, Obj.cells #[(.int .i64 x18), (.int .i64 x19), (.map (some a13)), (.slice a14 (List.length x21) n14)] 102 (0, 0))], H13, H14, [(b15, Obj.cells #[(.slice a16 (List.length x22) n16), (.int .i64 x23)] 104 (0, 0))], H16]) (R := [F, [(b23, Obj.cells #[(.int .i64 v36.Kind), (.int .i64 v36.A), (.int .i64 v36.B)] 57 (0, 0))]]) (crowd_Crowd_Retarget.R b1 v48) [] [1, 1, 1, 1, 1, 1] rfl rfl rfl rfl has31 rfl rfl (crowd_Crowd_Retarget.c (crowd_Crowd.mk x15 x16 x17 (units_Units.mk x18 x19 x20 x21) (floor_Floor.mk x22 x23)) v36.A v36.B v48 _ V15 s13 s14 s16) ?_)
              rintro _ _ ⟨b29, a30, H30, a31, n31, H31, b32, a33, n33, H33, s30, s31, s33, rfl, rfl⟩
              refine at_end ?_
              refine at_to [(0, (.int .i64 v1)), (1, (.int .i64 v2)), (2, (.int .i64 v3)), (3, (.slice a_l (List.length l) n_l)), (9, (.pointer (some ⟨b1, 0, none⟩))), (10, (.int .i64 x24))] [0, 1, 1, 1, 1, 1, 1] [F, [(b1, Obj.cells #[(.int .i64 v48.2.w), (.int .i64 v48.2.h), (.int .i64 v48.2.most), (.pointer (some ⟨b29, 0, none⟩)), (.pointer (some ⟨b32, 0, none⟩))] 92 (0, 0))], [(b29, Obj.cells #[(.int .i64 v48.2.units.most), (.int .i64 v48.2.units.next), (.map (some a30)), (.slice a31 (List.length v48.2.units.order) n31)] 102 (0, 0))], H30, H31, [(b32, Obj.cells #[(.slice a33 (List.length v48.2.floor.words) n33), (.int .i64 v48.2.floor.count)] 104 (0, 0))], H33] ⟨rfl, rfl, rfl, rfl, rfl, rfl, trivial⟩ rfl ?_
              refine at_nb ?_
              refine at_then ?_
              obtain rfl := Option.some.inj Z12
              exact at_mid (v48.2.w, v48.2.h, v48.2.most, v48.2.units.most, v48.2.units.next, v48.2.units.live, v48.2.units.order, v48.2.floor.words, v48.2.floor.count, b29, a30, H30, a31, n31, H31, b32, a33, n33, H33) [0, 0, 0, 0, 0, 0, 0] ⟨rfl, s30, s31, s33⟩ ⟨rfl, rfl, rfl, rfl, rfl, rfl, trivial⟩ rfl
            · replace Z12 := if_f (bf c14) Z12
              refine at_seq ?_
              refine at_region [0, 1] rfl ?_
              iterate 2 refine at_s T rfl ?_
              refine at_end ?_
              refine at_sub [(0, (.int .i64 v1)), (1, (.int .i64 v2)), (2, (.int .i64 v3)), (3, (.slice a_l (List.length l) n_l)), (9, (.pointer (some ⟨b1, 0, none⟩))), (10, (.int .i64 x24)), (11, (.pointer (some ⟨b23, 0, none⟩))), (51, (.int .i64 v47)), (66, (.bool (v47 == 6)))] ⟨rfl, rfl, rfl, rfl, rfl, rfl, rfl, rfl, rfl, trivial⟩ ?_
              refine at_then ?_
              refine at_cond rfl (fun c16 => ?_) (fun c16 => ?_)
              · replace Z12 := if_t c16 Z12
                refine at_region [0, 1, 2, 3] rfl ?_
                iterate 2 refine at_s T rfl ?_
                refine at_v rfl (g_load T rfl rfl rfl rfl (in_var (j := 7) rfl rfl)) ?_
                obtain ⟨v49, V17, Z12⟩ := bind_e Z12
                refine at_cons (at_cR (As := [[(b1, Obj.cells #[(.int .i64 x15), (.int .i64 x16), (.int .i64 x17), (.pointer (some ⟨b12, 0, none⟩)), (.pointer (some ⟨b15, 0, none⟩))] 92 (0, 0))], [(b12, Obj.cells #[(.int .i64 x18), (.int .i64 x19), (.map (some a13)), (.slice a14 (List.length x21) n14)] 102 (0, 0))], H13, H14, [(b15, Obj.cells #[(.slice a16 (List.length x22) n16), (.int .i64 x23)] 104 (0, 0))], H16]) (R := [F, [(b23, Obj.cells #[(.int .i64 v36.Kind), (.int .i64 v36.A), (.int .i64 v36.B)] 57 (0, 0))]]) (crowd_Crowd_Despawn.R b1 v49) [] [1, 1, 1, 1, 1, 1] rfl rfl rfl rfl has32 rfl rfl (crowd_Crowd_Despawn.c (crowd_Crowd.mk x15 x16 x17 (units_Units.mk x18 x19 x20 x21) (floor_Floor.mk x22 x23)) v36.A v49 _ V17 s13 s14 s16) ?_)
                rintro _ _ ⟨b34, a35, H35, a36, n36, H36, b37, a38, n38, H38, s35, s36, s38, rfl, rfl⟩
                refine at_end ?_
                refine at_to [(0, (.int .i64 v1)), (1, (.int .i64 v2)), (2, (.int .i64 v3)), (3, (.slice a_l (List.length l) n_l)), (9, (.pointer (some ⟨b1, 0, none⟩))), (10, (.int .i64 x24))] [0, 1, 1, 1, 1, 1, 1] [F, [(b1, Obj.cells #[(.int .i64 v49.2.w), (.int .i64 v49.2.h), (.int .i64 v49.2.most), (.pointer (some ⟨b34, 0, none⟩)), (.pointer (some ⟨b37, 0, none⟩))] 92 (0, 0))], [(b34, Obj.cells #[(.int .i64 v49.2.units.most), (.int .i64 v49.2.units.next), (.map (some a35)), (.slice a36 (List.length v49.2.units.order) n36)] 102 (0, 0))], H35, H36, [(b37, Obj.cells #[(.slice a38 (List.length v49.2.floor.words) n38), (.int .i64 v49.2.floor.count)] 104 (0, 0))], H38] ⟨rfl, rfl, rfl, rfl, rfl, rfl, trivial⟩ rfl ?_
                refine at_nb ?_
                refine at_then ?_
                obtain rfl := Option.some.inj Z12
                exact at_mid (v49.2.w, v49.2.h, v49.2.most, v49.2.units.most, v49.2.units.next, v49.2.units.live, v49.2.units.order, v49.2.floor.words, v49.2.floor.count, b34, a35, H35, a36, n36, H36, b37, a38, n38, H38) [0, 0, 0, 0, 0, 0, 0] ⟨rfl, s35, s36, s38⟩ ⟨rfl, rfl, rfl, rfl, rfl, rfl, trivial⟩ rfl
              · replace Z12 := if_f (bf c16) Z12
                obtain ⟨z51, Z18, Z12⟩ := bind_e Z12
                refine at_seq_mid (σ := Bool) (fun x50 => x50 = z51) (fun x50 => [(0, (.int .i64 v1)), (1, (.int .i64 v2)), (2, (.int .i64 v3)), (3, (.slice a_l (List.length l) n_l)), (9, (.pointer (some ⟨b1, 0, none⟩))), (10, (.int .i64 x24)), (11, (.pointer (some ⟨b23, 0, none⟩))), (72, (.bool x50))]) (fun x50 => [F, [(b1, Obj.cells #[(.int .i64 x15), (.int .i64 x16), (.int .i64 x17), (.pointer (some ⟨b12, 0, none⟩)), (.pointer (some ⟨b15, 0, none⟩))] 92 (0, 0))], [(b12, Obj.cells #[(.int .i64 x18), (.int .i64 x19), (.map (some a13)), (.slice a14 (List.length x21) n14)] 102 (0, 0))], H13, H14, [(b15, Obj.cells #[(.slice a16 (List.length x22) n16), (.int .i64 x23)] 104 (0, 0))], H16, [(b23, Obj.cells #[(.int .i64 v36.Kind), (.int .i64 v36.A), (.int .i64 v36.B)] 57 (0, 0))]]) ?_ ?_
                · refine at_seq ?_
                  refine at_region [0, 1] rfl ?_
                  iterate 2 refine at_s T rfl ?_
                  refine at_end ?_
                  refine at_sub [(0, (.int .i64 v1)), (1, (.int .i64 v2)), (2, (.int .i64 v3)), (3, (.slice a_l (List.length l) n_l)), (9, (.pointer (some ⟨b1, 0, none⟩))), (10, (.int .i64 x24)), (11, (.pointer (some ⟨b23, 0, none⟩))), (51, (.int .i64 v47)), (72, (.bool (v47 == 7)))] ⟨rfl, rfl, rfl, rfl, rfl, rfl, rfl, rfl, rfl, trivial⟩ ?_
                  refine at_then ?_
                  refine at_cond rfl (fun c19 => ?_) (fun c19 => ?_)
                  · replace Z18 := if_t c19 Z18
                    refine at_skip ?_
                    refine at_then ?_
                    obtain rfl := Option.some.inj Z18
                    exact at_mid (v47 == 7) [0, 0, 0, 0, 0, 0, 0, 0] rfl ⟨rfl, rfl, rfl, rfl, rfl, rfl, rfl, rfl, trivial⟩ rfl
                  · replace Z18 := if_f (bf c19) Z18
                    refine at_seq ?_
                    refine at_region [0, 1] rfl ?_
                    iterate 2 refine at_s T rfl ?_
                    refine at_end ?_
                    refine at_sub [(0, (.int .i64 v1)), (1, (.int .i64 v2)), (2, (.int .i64 v3)), (3, (.slice a_l (List.length l) n_l)), (9, (.pointer (some ⟨b1, 0, none⟩))), (10, (.int .i64 x24)), (11, (.pointer (some ⟨b23, 0, none⟩))), (51, (.int .i64 v47)), (72, (.bool (v47 == 8)))] ⟨rfl, rfl, rfl, rfl, rfl, rfl, rfl, rfl, rfl, trivial⟩ ?_
                    refine at_then ?_
                    refine at_cond rfl (fun c20 => ?_) (fun c20 => ?_)
                    · replace Z18 := if_t c20 Z18
                      refine at_skip ?_
                      refine at_then ?_
                      obtain rfl := Option.some.inj Z18
                      exact at_mid (v47 == 8) [0, 0, 0, 0, 0, 0, 0, 0] rfl ⟨rfl, rfl, rfl, rfl, rfl, rfl, rfl, rfl, trivial⟩ rfl
                    · replace Z18 := if_f (bf c20) Z18
                      refine at_region [0, 1] rfl ?_
                      iterate 2 refine at_s T rfl ?_
                      refine at_end ?_
                      refine at_sub [(0, (.int .i64 v1)), (1, (.int .i64 v2)), (2, (.int .i64 v3)), (3, (.slice a_l (List.length l) n_l)), (9, (.pointer (some ⟨b1, 0, none⟩))), (10, (.int .i64 x24)), (11, (.pointer (some ⟨b23, 0, none⟩))), (72, (.bool (v47 == 9)))] ⟨rfl, rfl, rfl, rfl, rfl, rfl, rfl, rfl, trivial⟩ ?_
                      refine at_then ?_
                      obtain rfl := Option.some.inj Z18
                      exact at_mid (v47 == 9) [0, 0, 0, 0, 0, 0, 0, 0] rfl ⟨rfl, rfl, rfl, rfl, rfl, rfl, rfl, rfl, trivial⟩ rfl
                · rintro x50 rfl
                  refine at_cond rfl (fun c21 => ?_) (fun c21 => ?_)
                  · replace Z12 := if_t c21 Z12
                    refine at_seq ?_
                    refine at_region_m [[], [], [1], [1, 2], [], [4], [], [6], [1, 2, 3, 4, 5, 6, 7], [0, 1, 2, 3, 4, 5, 6, 7, 8], [0, 1, 2, 3, 4, 5, 6, 7, 8, 9], [0, 1, 2, 3, 4, 5, 6, 7, 8, 9, 10], [0, 1, 2, 3, 4, 5, 6, 7, 8, 9, 10], [0, 1, 2, 3, 4, 5, 6, 7, 8, 9, 10], [0, 1, 2, 3, 4, 5, 6, 7, 8, 9, 10, 11], [0, 1, 2, 3, 4, 5, 6, 7, 8, 9, 10, 11, 12, 14], [0, 1, 2, 3, 4, 5, 6, 7, 8, 9, 10, 11, 12, 13, 14, 15]] [9] [F, [(b1, Obj.cells #[(.int .i64 x15), (.int .i64 x16), (.int .i64 x17), (.pointer (some ⟨b12, 0, none⟩)), (.pointer (some ⟨b15, 0, none⟩))] 92 (0, 0))], [(b12, Obj.cells #[(.int .i64 x18), (.int .i64 x19), (.map (some a13)), (.slice a14 (List.length x21) n14)] 102 (0, 0))], H13, H14, [(b15, Obj.cells #[(.slice a16 (List.length x22) n16), (.int .i64 x23)] 104 (0, 0))], H16, [(b23, Obj.cells #[(.int .i64 v36.Kind), (.int .i64 v36.A), (.int .i64 v36.B)] 57 (0, 0))]] mix (by kernel_rfl) (by repeat first | exact pf_body | refine pf_then ?_ | refine pf_block ?_) (fun hg pf => ?_)
                    refine atm_s T 0 hg pf (by kernel_rfl) (still_o [0, 0, 0, 0, 0, 0, 0, 0] rfl) rfl ?_
                    refine atm_s T 1 hg pf (by kernel_rfl) (still_o [0, 0, 0, 0, 0, 0, 0, 0] rfl) rfl ?_
                    refine atm_s T 4 hg pf (by kernel_rfl) (still_o [0, 0, 0, 0, 0, 0, 0, 0] rfl) rfl ?_
                    refine atm_v 5 hg pf (by kernel_rfl) (still_o [0, 0, 0, 0, 0, 0, 0, 0] rfl) rfl rfl (g_load T rfl rfl rfl rfl (in_var (j := 7) rfl rfl)) ?_
                    refine atm_s T 6 hg pf (by kernel_rfl) (still_o [0, 0, 0, 0, 0, 0, 0, 0] rfl) rfl ?_
                    refine atm_v 7 hg pf (by kernel_rfl) (still_o [0, 0, 0, 0, 0, 0, 0, 0] rfl) rfl rfl (g_load T rfl rfl rfl rfl (in_var (j := 7) rfl rfl)) ?_
                    refine atm_one 2 (by kernel_rfl) ?_
                    obtain ⟨v52, V22, Z12⟩ := bind_e Z12
                    refine at_cR (As := [[(b1, Obj.cells #[(.int .i64 x15), (.int .i64 x16), (.int .i64 x17), (.pointer (some ⟨b12, 0, none⟩)), (.pointer (some ⟨b15, 0, none⟩))] 92 (0, 0))], [(b12, Obj.cells #[(.int .i64 x18), (.int .i64 x19), (.map (some a13)), (.slice a14 (List.length x21) n14)] 102 (0, 0))], H13, H14, [(b15, Obj.cells #[(.slice a16 (List.length x22) n16), (.int .i64 x23)] 104 (0, 0))], H16]) (R := [F, [(b23, Obj.cells #[(.int .i64 v36.Kind), (.int .i64 v36.A), (.int .i64 v36.B)] 57 (0, 0))]]) (crowd_Crowd_Units.R v52) [[(b1, Obj.cells #[(.int .i64 x15), (.int .i64 x16), (.int .i64 x17), (.pointer (some ⟨b12, 0, none⟩)), (.pointer (some ⟨b15, 0, none⟩))] 92 (0, 0))], [(b12, Obj.cells #[(.int .i64 x18), (.int .i64 x19), (.map (some a13)), (.slice a14 (List.length x21) n14)] 102 (0, 0))], H13, H14, [(b15, Obj.cells #[(.slice a16 (List.length x22) n16), (.int .i64 x23)] 104 (0, 0))], H16] [1, 1, 1, 1, 1, 1] rfl rfl rfl rfl has27 rfl rfl (crowd_Crowd_Units.c (crowd_Crowd.mk x15 x16 x17 (units_Units.mk x18 x19 x20 x21) (floor_Floor.mk x22 x23)) v52 _ V22 s13 s14 s16) ?_
                    rintro _ _ ⟨a39, n39, H39, s39, rfl, rfl⟩
                    refine atm_next (still_o [0, 2, 2, 2, 2, 2, 2, 0] rfl) ?_
                    refine atm_s T 3 hg pf (by kernel_rfl) (still_o [0, 2, 2, 2, 2, 2, 2, 0] rfl) rfl ?_
                    refine atm_one 8 (by kernel_rfl) ?_
                    obtain ⟨v53, V23, Z12⟩ := bind_e Z12
                    refine at_cR (law25_dirs.R v53) [] [] rfl rfl rfl rfl has34 rfl rfl (law25_dirs.c (List.length v52 : Int) v36.A v36.B v53 _ V23) ?_
                    rintro _ _ ⟨a40, n40, H40, s40, rfl, rfl⟩
                    refine atm_next (still_o [0, 2, 2, 2, 2, 2, 2, 0] rfl) ?_
                    refine atm_one 9 (by kernel_rfl) ?_
                    obtain ⟨v54, V24, Z12⟩ := bind_e Z12
                    refine at_cR (As := [[(b1, Obj.cells #[(.int .i64 x15), (.int .i64 x16), (.int .i64 x17), (.pointer (some ⟨b12, 0, none⟩)), (.pointer (some ⟨b15, 0, none⟩))] 92 (0, 0))], [(b12, Obj.cells #[(.int .i64 x18), (.int .i64 x19), (.map (some a13)), (.slice a14 (List.length x21) n14)] 102 (0, 0))], H13, H14, [(b15, Obj.cells #[(.slice a16 (List.length x22) n16), (.int .i64 x23)] 104 (0, 0))], H16]) (R := [F, [(b23, Obj.cells #[(.int .i64 v36.Kind), (.int .i64 v36.A), (.int .i64 v36.B)] 57 (0, 0))], H39, H40]) (crowd_Crowd_Tick.R b1 v54) [] [3, 3, 3, 3, 3, 3] rfl rfl rfl rfl has33 rfl rfl (crowd_Crowd_Tick.c (crowd_Crowd.mk x15 x16 x17 (units_Units.mk x18 x19 x20 x21) (floor_Floor.mk x22 x23)) v53 v54 _ V24 s13 s14 s16 (own_of s40 (j := 3) rfl) s40.cap_le) ?_
                    rintro _ _ ⟨a41, n41, H41, a42, n42, H42, b43, a44, H44, a45, n45, H45, b46, a47, n47, H47, s41, s42, s44, s45, s47, rfl, rfl⟩
                    refine atm_next (still_l (by kernel_rfl)) ?_
                    refine atm_s T 10 hg pf (by kernel_rfl) (still_l (by kernel_rfl)) rfl ?_
                    refine atm_s T 11 hg pf (by kernel_rfl) (still_l (by kernel_rfl)) rfl ?_
                    refine atm_s T 12 hg pf (by kernel_rfl) (still_l (by kernel_rfl)) rfl ?_
                    refine atm_s T 13 hg pf (by kernel_rfl) (still_l (by kernel_rfl)) rfl ?_
                    refine atm_s T 14 hg pf (by kernel_rfl) (still_l (by kernel_rfl)) rfl ?_
                    refine atm_s T 15 hg pf (by kernel_rfl) (still_l (by kernel_rfl)) rfl ?_
                    refine atm_s T 16 hg pf (by kernel_rfl) (still_l (by kernel_rfl)) rfl ?_
                    refine atm_end (by kernel_rfl) ?_
                    refine at_to [(0, (.int .i64 v1)), (1, (.int .i64 v2)), (2, (.int .i64 v3)), (3, (.slice a_l (List.length l) n_l)), (9, (.pointer (some ⟨b1, 0, none⟩))), (10, (.int .i64 x24)), (14, (.int .i64 v54.2.2.1))] [0, 5, 5, 5, 5, 5, 5] [F, [(b1, Obj.cells #[(.int .i64 v54.2.2.2.w), (.int .i64 v54.2.2.2.h), (.int .i64 v54.2.2.2.most), (.pointer (some ⟨b43, 0, none⟩)), (.pointer (some ⟨b46, 0, none⟩))] 92 (0, 0))], [(b43, Obj.cells #[(.int .i64 v54.2.2.2.units.most), (.int .i64 v54.2.2.2.units.next), (.map (some a44)), (.slice a45 (List.length v54.2.2.2.units.order) n45)] 102 (0, 0))], H44, H45, [(b46, Obj.cells #[(.slice a47 (List.length v54.2.2.2.floor.words) n47), (.int .i64 v54.2.2.2.floor.count)] 104 (0, 0))], H47] ⟨rfl, rfl, rfl, rfl, rfl, rfl, rfl, trivial⟩ rfl ?_
                    refine at_then ?_
                    refine at_seq ?_
                    refine at_region [0, 1] rfl ?_
                    iterate 2 refine at_s T rfl ?_
                    refine at_end ?_
                    refine at_sub [(0, (.int .i64 v1)), (1, (.int .i64 v2)), (2, (.int .i64 v3)), (3, (.slice a_l (List.length l) n_l)), (9, (.pointer (some ⟨b1, 0, none⟩))), (10, (.int .i64 x24)), (91, (.bool (v54.2.2.1 != 0)))] ⟨rfl, rfl, rfl, rfl, rfl, rfl, rfl, trivial⟩ ?_
                    refine at_then ?_
                    refine at_cond rfl (fun c25 => ?_) (fun c25 => ?_)
                    · replace Z12 := if_t c25 Z12
                      refine at_seq ?_
                      refine at_region [0] rfl ?_
                      refine at_s T rfl ?_
                      refine at_end ?_
                      refine at_to [(8, (.bool false))] [0] [F] ⟨rfl, trivial⟩ rfl ?_
                      refine at_then ?_
                      refine at_ret ?_
                      refine at_rb ?_
                      refine at_rt ?_
                      refine at_rb ?_
                      refine at_rt ?_
                      refine at_rt ?_
                      refine at_rb ?_
                      refine at_rt ?_
                      obtain rfl := Option.some.inj Z12
                      obtain rfl := Option.some.inj (show some (Sum.inl false) = some z35 from Z9)
                      obtain rfl := Option.some.inj (show some false = some r from Z6)
                      exact at_post (T := T) rfl (.tmp rfl .nil) (fun w o => ⟨(), rfl, own_to [0] rfl o⟩)
                    · replace Z12 := if_f (bf c25) Z12
                      refine at_skip ?_
                      refine at_nb ?_
                      refine at_then ?_
                      obtain rfl := Option.some.inj Z12
                      exact at_mid (v54.2.2.2.w, v54.2.2.2.h, v54.2.2.2.most, v54.2.2.2.units.most, v54.2.2.2.units.next, v54.2.2.2.units.live, v54.2.2.2.units.order, v54.2.2.2.floor.words, v54.2.2.2.floor.count, b43, a44, H44, a45, n45, H45, b46, a47, n47, H47) [0, 0, 0, 0, 0, 0, 0] ⟨rfl, s44, s45, s47⟩ ⟨rfl, rfl, rfl, rfl, rfl, rfl, trivial⟩ rfl
                  · replace Z12 := if_f (bf c21) Z12
                    refine at_region [0, 1, 2, 3, 4, 5] rfl ?_
                    iterate 2 refine at_s T rfl ?_
                    refine at_v rfl (g_load T rfl rfl rfl rfl (in_var (j := 7) rfl rfl)) ?_
                    refine at_s T rfl ?_
                    refine at_v rfl (g_load T rfl rfl rfl rfl (in_var (j := 7) rfl rfl)) ?_
                    obtain ⟨v55, V26, Z12⟩ := bind_e Z12
                    refine at_cons (at_cR (As := [[(b1, Obj.cells #[(.int .i64 x15), (.int .i64 x16), (.int .i64 x17), (.pointer (some ⟨b12, 0, none⟩)), (.pointer (some ⟨b15, 0, none⟩))] 92 (0, 0))], [(b12, Obj.cells #[(.int .i64 x18), (.int .i64 x19), (.map (some a13)), (.slice a14 (List.length x21) n14)] 102 (0, 0))], H13, H14, [(b15, Obj.cells #[(.slice a16 (List.length x22) n16), (.int .i64 x23)] 104 (0, 0))], H16]) (R := [F, [(b23, Obj.cells #[(.int .i64 v36.Kind), (.int .i64 v36.A), (.int .i64 v36.B)] 57 (0, 0))]]) (crowd_Crowd_Spawn.R b1 v55) [] [1, 1, 1, 1, 1, 1] rfl rfl rfl rfl has25 rfl rfl (crowd_Crowd_Spawn.c (crowd_Crowd.mk x15 x16 x17 (units_Units.mk x18 x19 x20 x21) (floor_Floor.mk x22 x23)) v36.A v36.B v55 _ V26 s13 s14 s16) ?_)
                    rintro _ _ ⟨b48, a49, H49, a50, n50, H50, b51, a52, n52, H52, s49, s50, s52, rfl, rfl⟩
                    refine at_end ?_
                    refine at_to [(0, (.int .i64 v1)), (1, (.int .i64 v2)), (2, (.int .i64 v3)), (3, (.slice a_l (List.length l) n_l)), (9, (.pointer (some ⟨b1, 0, none⟩))), (10, (.int .i64 x24))] [0, 1, 1, 1, 1, 1, 1] [F, [(b1, Obj.cells #[(.int .i64 v55.2.2.w), (.int .i64 v55.2.2.h), (.int .i64 v55.2.2.most), (.pointer (some ⟨b48, 0, none⟩)), (.pointer (some ⟨b51, 0, none⟩))] 92 (0, 0))], [(b48, Obj.cells #[(.int .i64 v55.2.2.units.most), (.int .i64 v55.2.2.units.next), (.map (some a49)), (.slice a50 (List.length v55.2.2.units.order) n50)] 102 (0, 0))], H49, H50, [(b51, Obj.cells #[(.slice a52 (List.length v55.2.2.floor.words) n52), (.int .i64 v55.2.2.floor.count)] 104 (0, 0))], H52] ⟨rfl, rfl, rfl, rfl, rfl, rfl, trivial⟩ rfl ?_
                    refine at_nb ?_
                    refine at_then ?_
                    obtain rfl := Option.some.inj Z12
                    exact at_mid (v55.2.2.w, v55.2.2.h, v55.2.2.most, v55.2.2.units.most, v55.2.2.units.next, v55.2.2.units.live, v55.2.2.units.order, v55.2.2.floor.words, v55.2.2.floor.count, b48, a49, H49, a50, n50, H50, b51, a52, n52, H52) [0, 0, 0, 0, 0, 0, 0] ⟨rfl, s49, s50, s52⟩ ⟨rfl, rfl, rfl, rfl, rfl, rfl, trivial⟩ rfl
          · rintro ⟨x37, x38, x39, x40, x41, x42, x43, x44, x45, b24, a25, H25, a26, n26, H26, b27, a28, n28, H28⟩ ⟨rfl, s25, s26, s28⟩
            refine at_seq ?_
            refine at_region [0, 1, 2, 3, 4, 5] rfl ?_
            refine at_s T rfl ?_
            obtain ⟨v56, V27, Z9⟩ := bind_e Z9
            refine at_cons (at_cR (As := [[(b1, Obj.cells #[(.int .i64 x37), (.int .i64 x38), (.int .i64 x39), (.pointer (some ⟨b24, 0, none⟩)), (.pointer (some ⟨b27, 0, none⟩))] 92 (0, 0))], [(b24, Obj.cells #[(.int .i64 x40), (.int .i64 x41), (.map (some a25)), (.slice a26 (List.length x43) n26)] 102 (0, 0))], H25, H26, [(b27, Obj.cells #[(.slice a28 (List.length x44) n28), (.int .i64 x45)] 104 (0, 0))], H28]) (R := [F]) (crowd_Crowd_Units.R v56) [[(b1, Obj.cells #[(.int .i64 x37), (.int .i64 x38), (.int .i64 x39), (.pointer (some ⟨b24, 0, none⟩)), (.pointer (some ⟨b27, 0, none⟩))] 92 (0, 0))], [(b24, Obj.cells #[(.int .i64 x40), (.int .i64 x41), (.map (some a25)), (.slice a26 (List.length x43) n26)] 102 (0, 0))], H25, H26, [(b27, Obj.cells #[(.slice a28 (List.length x44) n28), (.int .i64 x45)] 104 (0, 0))], H28] [1, 1, 1, 1, 1, 1] rfl rfl rfl rfl has27 rfl rfl (crowd_Crowd_Units.c (crowd_Crowd.mk x37 x38 x39 (units_Units.mk x40 x41 x42 x43) (floor_Floor.mk x44 x45)) v56 _ V27 s25 s26 s28) ?_)
            rintro _ _ ⟨a53, n53, H53, s53, rfl, rfl⟩
            refine at_s T rfl ?_
            obtain ⟨v57, V28, Z9⟩ := bind_e Z9
            refine at_cons (at_cR (As := [[(b1, Obj.cells #[(.int .i64 x37), (.int .i64 x38), (.int .i64 x39), (.pointer (some ⟨b24, 0, none⟩)), (.pointer (some ⟨b27, 0, none⟩))] 92 (0, 0))], [(b24, Obj.cells #[(.int .i64 x40), (.int .i64 x41), (.map (some a25)), (.slice a26 (List.length x43) n26)] 102 (0, 0))], H25, H26, [(b27, Obj.cells #[(.slice a28 (List.length x44) n28), (.int .i64 x45)] 104 (0, 0))], H28]) (R := [F, H53]) (crowd_Crowd_Words.R v57) [[(b1, Obj.cells #[(.int .i64 x37), (.int .i64 x38), (.int .i64 x39), (.pointer (some ⟨b24, 0, none⟩)), (.pointer (some ⟨b27, 0, none⟩))] 92 (0, 0))], [(b24, Obj.cells #[(.int .i64 x40), (.int .i64 x41), (.map (some a25)), (.slice a26 (List.length x43) n26)] 102 (0, 0))], H25, H26, [(b27, Obj.cells #[(.slice a28 (List.length x44) n28), (.int .i64 x45)] 104 (0, 0))], H28] [2, 2, 2, 2, 2, 2] rfl rfl rfl rfl has41 rfl rfl (crowd_Crowd_Words.c (crowd_Crowd.mk x37 x38 x39 (units_Units.mk x40 x41 x42 x43) (floor_Floor.mk x44 x45)) v57 _ V28 s25 s26 s28) ?_)
            rintro _ _ ⟨a54, n54, H54, s54, rfl, rfl⟩
            iterate 2 refine at_s T rfl ?_
            refine at_end ?_
            refine at_sub [(0, (.int .i64 v1)), (1, (.int .i64 v2)), (2, (.int .i64 v3)), (3, (.slice a_l (List.length l) n_l)), (9, (.pointer (some ⟨b1, 0, none⟩))), (10, (.int .i64 x24)), (15, (.slice a53 (List.length v56) n53)), (16, (.slice a54 (List.length v57) n54))] ⟨rfl, rfl, rfl, rfl, rfl, rfl, rfl, rfl, trivial⟩ ?_
            refine at_then ?_
            refine at_seq ?_
            refine at_seq ?_
            refine at_region [0, 1, 2, 3, 4, 5, 6, 7, 8, 9, 10, 11] rfl ?_
            iterate 5 refine at_s T rfl ?_
            refine at_grp T [5, 6, 7, 8, 9, 10, 11] (s := 100) (c := (decide ((List.length v56 : Int) > v3))) [(0, (.int .i64 v1)), (1, (.int .i64 v2)), (2, (.int .i64 v3)), (3, (.slice a_l (List.length l) n_l)), (9, (.pointer (some ⟨b1, 0, none⟩))), (10, (.int .i64 x24)), (15, (.slice a53 (List.length v56) n53)), (16, (.slice a54 (List.length v57) n54)), (107, (.bool ((decide ((List.length v56 : Int) > v3)) || ((List.length v57 : Int) != (w64 (v1 * v2))))))] rfl rfl rfl (fun c29 => ⟨rfl, rfl, rfl, rfl, rfl, rfl, rfl, rfl, (by rw [c29]; rfl), trivial⟩) (fun c29 => ⟨rfl, rfl, rfl, rfl, rfl, rfl, rfl, rfl, (by rw [c29]; rfl), trivial⟩) ?_
            refine at_end ?_
            refine at_sub [(0, (.int .i64 v1)), (1, (.int .i64 v2)), (2, (.int .i64 v3)), (3, (.slice a_l (List.length l) n_l)), (9, (.pointer (some ⟨b1, 0, none⟩))), (10, (.int .i64 x24)), (15, (.slice a53 (List.length v56) n53)), (16, (.slice a54 (List.length v57) n54)), (107, (.bool ((decide ((List.length v56 : Int) > v3)) || ((List.length v57 : Int) != (w64 (v1 * v2))))))] ⟨rfl, rfl, rfl, rfl, rfl, rfl, rfl, rfl, rfl, trivial⟩ ?_
            refine at_then ?_
            refine at_cond rfl (fun c30 => ?_) (fun c30 => ?_)
            · replace Z9 := if_t c30 Z9
              refine at_seq ?_
              refine at_region [0] rfl ?_
              refine at_s T rfl ?_
              refine at_end ?_
              refine at_to [(8, (.bool false))] [0] [F] ⟨rfl, trivial⟩ rfl ?_
              refine at_then ?_
              refine at_ret ?_
              refine at_rt ?_
              refine at_rb ?_
              refine at_rt ?_
              refine at_rt ?_
              refine at_rb ?_
              refine at_rt ?_
              obtain rfl := Option.some.inj Z9
              obtain rfl := Option.some.inj (show some false = some r from Z6)
              exact at_post (T := T) rfl (.tmp rfl .nil) (fun w o => ⟨(), rfl, own_to [0] rfl o⟩)
            · replace Z9 := if_f (bf c30) Z9
              refine at_skip ?_
              refine at_then ?_
              refine at_seq ?_
              refine at_region [0] rfl ?_
              refine at_s T rfl ?_
              refine at_end ?_
              refine at_sub [(0, (.int .i64 v1)), (1, (.int .i64 v2)), (2, (.int .i64 v3)), (3, (.slice a_l (List.length l) n_l)), (9, (.pointer (some ⟨b1, 0, none⟩))), (10, (.int .i64 x24)), (15, (.slice a53 (List.length v56) n53)), (16, (.slice a54 (List.length v57) n54)), (17, (.int .i64 0))] ⟨rfl, rfl, rfl, rfl, rfl, rfl, rfl, rfl, rfl, trivial⟩ ?_
              refine at_then ?_
              refine at_seq ?_
              refine at_seq ?_
              refine at_region [0] rfl ?_
              refine at_s T rfl ?_
              refine at_end ?_
              refine at_sub [(0, (.int .i64 v1)), (1, (.int .i64 v2)), (2, (.int .i64 v3)), (3, (.slice a_l (List.length l) n_l)), (9, (.pointer (some ⟨b1, 0, none⟩))), (10, (.int .i64 x24)), (15, (.slice a53 (List.length v56) n53)), (16, (.slice a54 (List.length v57) n54)), (17, (.int .i64 0)), (18, (.int .i64 0))] ⟨rfl, rfl, rfl, rfl, rfl, rfl, rfl, rfl, rfl, rfl, trivial⟩ ?_
              refine at_then ?_
              refine at_block ?_
              refine at_loopL (σ := Nat × Int × Int) (fun ⟨k62, x60, x61⟩ => law25_CrowdApart.l1 k62 v1 v2 x38 x37 x40 x41 x43 x39 x42 x45 x44 v56 v57 x60 x61 = some z35) (fun ⟨k62, x60, x61⟩ => [(0, (.int .i64 v1)), (1, (.int .i64 v2)), (2, (.int .i64 v3)), (3, (.slice a_l (List.length l) n_l)), (9, (.pointer (some ⟨b1, 0, none⟩))), (10, (.int .i64 x24)), (15, (.slice a53 (List.length v56) n53)), (16, (.slice a54 (List.length v57) n54)), (17, (.int .i64 x60)), (18, (.int .i64 x61))]) (fun ⟨k62, x60, x61⟩ => [F, [(b1, Obj.cells #[(.int .i64 x37), (.int .i64 x38), (.int .i64 x39), (.pointer (some ⟨b24, 0, none⟩)), (.pointer (some ⟨b27, 0, none⟩))] 92 (0, 0))], [(b24, Obj.cells #[(.int .i64 x40), (.int .i64 x41), (.map (some a25)), (.slice a26 (List.length x43) n26)] 102 (0, 0))], H25, H26, [(b27, Obj.cells #[(.slice a28 (List.length x44) n28), (.int .i64 x45)] 104 (0, 0))], H28, H53, H54]) (fun s => s.1) (fuel, 0, 0) [0, 2, 2, 2, 2, 2, 2, 0, 0] Z9 ⟨rfl, rfl, rfl, rfl, rfl, rfl, rfl, rfl, rfl, rfl, trivial⟩ rfl ?_
              rintro ⟨k62, x60, x61⟩ Z31
              replace Z31 : law25_CrowdApart.l1 k62 v1 v2 x38 x37 x40 x41 x43 x39 x42 x45 x44 v56 v57 x60 x61 = some z35 := Z31
              rcases k62 with _ | k62
              · rw [law25_CrowdApart.l1] at Z31; cases Z31
              · rw [law25_CrowdApart.l1] at Z31
                refine at_seq ?_
                refine at_seq ?_
                refine at_region [0, 1, 2, 3] rfl ?_
                iterate 4 refine at_s T rfl ?_
                refine at_end ?_
                refine at_sub [(0, (.int .i64 v1)), (1, (.int .i64 v2)), (2, (.int .i64 v3)), (3, (.slice a_l (List.length l) n_l)), (9, (.pointer (some ⟨b1, 0, none⟩))), (10, (.int .i64 x24)), (15, (.slice a53 (List.length v56) n53)), (16, (.slice a54 (List.length v57) n54)), (17, (.int .i64 x60)), (18, (.int .i64 x61)), (111, (.bool (decide (x61 < (List.length v57 : Int)))))] ⟨rfl, rfl, rfl, rfl, rfl, rfl, rfl, rfl, rfl, rfl, rfl, trivial⟩ ?_
                refine at_then ?_
                refine at_cond rfl (fun c32 => ?_) (fun c32 => ?_)
                · replace Z31 := if_t (of_decide_eq_true c32) Z31
                  refine at_skip ?_
                  refine at_then ?_
                  refine at_seq ?_
                  refine at_block ?_
                  obtain ⟨z64, Z33, Z31⟩ := bind_e Z31
                  refine at_seq_mid (σ := Int) (fun x63 => x63 = z64) (fun x63 => [(0, (.int .i64 v1)), (1, (.int .i64 v2)), (2, (.int .i64 v3)), (3, (.slice a_l (List.length l) n_l)), (9, (.pointer (some ⟨b1, 0, none⟩))), (10, (.int .i64 x24)), (15, (.slice a53 (List.length v56) n53)), (16, (.slice a54 (List.length v57) n54)), (17, (.int .i64 x63)), (18, (.int .i64 x61))]) (fun x63 => [F, [(b1, Obj.cells #[(.int .i64 x37), (.int .i64 x38), (.int .i64 x39), (.pointer (some ⟨b24, 0, none⟩)), (.pointer (some ⟨b27, 0, none⟩))] 92 (0, 0))], [(b24, Obj.cells #[(.int .i64 x40), (.int .i64 x41), (.map (some a25)), (.slice a26 (List.length x43) n26)] 102 (0, 0))], H25, H26, [(b27, Obj.cells #[(.slice a28 (List.length x44) n28), (.int .i64 x45)] 104 (0, 0))], H28, H53, H54]) ?_ ?_
                  · refine at_seq ?_
                    refine at_region [0, 1, 2, 3, 4] rfl ?_
                    iterate 2 refine at_s T rfl ?_
                    obtain ⟨c34, Z33⟩ := chk_e Z33
                    obtain ⟨q55, o55, e55⟩ := s54.r.addr c34.1 c34.2
                    refine at_v rfl (g_index T rfl rfl rfl rfl rfl e55 c34.1 c34.2) ?_
                    refine at_v rfl (g_load T rfl rfl rfl rfl (in_elem1 (k := (Fl.int .u32)) (own_of s54 (j := 8) rfl) e55 c34 0 rfl)) ?_
                    refine at_s T rfl ?_
                    refine at_end ?_
                    refine at_sub [(0, (.int .i64 v1)), (1, (.int .i64 v2)), (2, (.int .i64 v3)), (3, (.slice a_l (List.length l) n_l)), (9, (.pointer (some ⟨b1, 0, none⟩))), (10, (.int .i64 x24)), (15, (.slice a53 (List.length v56) n53)), (16, (.slice a54 (List.length v57) n54)), (17, (.int .i64 x60)), (18, (.int .i64 x61)), (118, (.bool ((rd v57 x61) != 0)))] ⟨rfl, rfl, rfl, rfl, rfl, rfl, rfl, rfl, rfl, rfl, rfl, trivial⟩ ?_
                    refine at_then ?_
                    refine at_cond rfl (fun c35 => ?_) (fun c35 => ?_)
                    · replace Z33 := if_t c35 Z33
                      refine at_region [0, 1, 2] rfl ?_
                      iterate 3 refine at_s T rfl ?_
                      refine at_end ?_
                      refine at_sub [(0, (.int .i64 v1)), (1, (.int .i64 v2)), (2, (.int .i64 v3)), (3, (.slice a_l (List.length l) n_l)), (9, (.pointer (some ⟨b1, 0, none⟩))), (10, (.int .i64 x24)), (15, (.slice a53 (List.length v56) n53)), (16, (.slice a54 (List.length v57) n54)), (17, (.int .i64 (w64 (x60 + 1)))), (18, (.int .i64 x61))] ⟨rfl, rfl, rfl, rfl, rfl, rfl, rfl, rfl, rfl, rfl, trivial⟩ ?_
                      refine at_then ?_
                      obtain rfl := Option.some.inj Z33
                      exact at_mid (w64 (x60 + 1)) [0, 0, 0, 0, 0, 0, 0, 0, 0] rfl ⟨rfl, rfl, rfl, rfl, rfl, rfl, rfl, rfl, rfl, rfl, trivial⟩ rfl
                    · replace Z33 := if_f (bf c35) Z33
                      refine at_skip ?_
                      refine at_then ?_
                      obtain rfl := Option.some.inj Z33
                      exact at_mid x60 [0, 0, 0, 0, 0, 0, 0, 0, 0] rfl ⟨rfl, rfl, rfl, rfl, rfl, rfl, rfl, rfl, rfl, rfl, trivial⟩ rfl
                  · rintro x63 rfl
                    refine at_seq ?_
                    refine at_region_q mix (by kernel_rfl) ?_
                    iterate 2 refine atq_s T rfl ?_
                    obtain ⟨v65, V36, Z31⟩ := bind_e Z31
                    refine atq_cr (As := [[(b1, Obj.cells #[(.int .i64 x37), (.int .i64 x38), (.int .i64 x39), (.pointer (some ⟨b24, 0, none⟩)), (.pointer (some ⟨b27, 0, none⟩))] 92 (0, 0))], [(b24, Obj.cells #[(.int .i64 x40), (.int .i64 x41), (.map (some a25)), (.slice a26 (List.length x43) n26)] 102 (0, 0))], H25, H26, [(b27, Obj.cells #[(.slice a28 (List.length x44) n28), (.int .i64 x45)] 104 (0, 0))], H28]) (R := [F, H53, H54]) [1, 1, 1, 1, 1, 1] rfl rfl rfl rfl rfl rfl has26 rfl rfl (crowd_Crowd_Who.c (crowd_Crowd.mk x37 x38 x39 (units_Units.mk x40 x41 x42 x43) (floor_Floor.mk x44 x45)) x61 v65 _ V36 s25 s26 s28) ?_
                    iterate 2 refine atq_s T rfl ?_
                    obtain ⟨c37, Z31⟩ := chk_e Z31
                    obtain ⟨q56, o56, e56⟩ := s54.r.addr c37.1 c37.2
                    refine atq_v rfl rfl rfl (g_index T rfl rfl rfl rfl rfl e56 c37.1 c37.2) ?_
                    refine atq_v rfl rfl rfl (g_load T rfl rfl rfl rfl (in_elem1 (k := (Fl.int .u32)) (own_of s54 (j := 8) rfl) e56 c37 0 rfl)) ?_
                    iterate 3 refine atq_s T rfl ?_
                    refine atq_end ?_
                    refine at_sub [(0, (.int .i64 v1)), (1, (.int .i64 v2)), (2, (.int .i64 v3)), (3, (.slice a_l (List.length l) n_l)), (9, (.pointer (some ⟨b1, 0, none⟩))), (10, (.int .i64 x24)), (15, (.slice a53 (List.length v56) n53)), (16, (.slice a54 (List.length v57) n54)), (17, (.int .i64 x63)), (18, (.int .i64 x61)), (130, (.bool (v65 != (w64 ((w64 (rd v57 x61)) - 1)))))] ⟨rfl, rfl, rfl, rfl, rfl, rfl, rfl, rfl, rfl, rfl, rfl, trivial⟩ ?_
                    refine at_then ?_
                    refine at_cond rfl (fun c38 => ?_) (fun c38 => ?_)
                    · replace Z31 := if_t c38 Z31
                      refine at_seq ?_
                      refine at_region [0] rfl ?_
                      refine at_s T rfl ?_
                      refine at_end ?_
                      refine at_to [(8, (.bool false))] [0] [F] ⟨rfl, trivial⟩ rfl ?_
                      refine at_then ?_
                      refine at_ret ?_
                      refine at_rb ?_
                      refine at_rt ?_
                      refine at_rt ?_
                      refine at_rb ?_
                      refine at_rt ?_
                      refine at_rb ?_
                      refine at_rt ?_
                      refine at_rt ?_
                      refine at_rb ?_
                      refine at_rt ?_
                      obtain rfl := Option.some.inj Z31
                      obtain rfl := Option.some.inj (show some false = some r from Z6)
                      exact at_post (T := T) rfl (.tmp rfl .nil) (fun w o => ⟨(), rfl, own_to [0] rfl o⟩)
                    · replace Z31 := if_f (bf c38) Z31
                      refine at_skip ?_
                      refine at_nb ?_
                      refine at_then ?_
                      refine at_region [0, 1, 2] rfl ?_
                      iterate 3 refine at_s T rfl ?_
                      refine at_end ?_
                      refine at_sub [(0, (.int .i64 v1)), (1, (.int .i64 v2)), (2, (.int .i64 v3)), (3, (.slice a_l (List.length l) n_l)), (9, (.pointer (some ⟨b1, 0, none⟩))), (10, (.int .i64 x24)), (15, (.slice a53 (List.length v56) n53)), (16, (.slice a54 (List.length v57) n54)), (17, (.int .i64 x63)), (18, (.int .i64 (w64 (x61 + 1))))] ⟨rfl, rfl, rfl, rfl, rfl, rfl, rfl, rfl, rfl, rfl, trivial⟩ ?_
                      refine at_then ?_
                      exact at_roundL (k62, x63, (w64 (x61 + 1))) [0, 0, 0, 0, 0, 0, 0, 0, 0] Z31 (Nat.lt_succ_self _) ⟨rfl, rfl, rfl, rfl, rfl, rfl, rfl, rfl, rfl, rfl, trivial⟩ rfl
                · replace Z31 := if_f (of_decide_eq_false c32) Z31
                  refine at_exit ?_
                  refine at_xt ?_
                  refine at_xt ?_
                  refine at_xb ?_
                  refine at_then ?_
                  refine at_seq ?_
                  refine at_seq ?_
                  refine at_region [0] rfl ?_
                  refine at_s T rfl ?_
                  refine at_end ?_
                  refine at_sub [(0, (.int .i64 v1)), (1, (.int .i64 v2)), (2, (.int .i64 v3)), (3, (.slice a_l (List.length l) n_l)), (9, (.pointer (some ⟨b1, 0, none⟩))), (10, (.int .i64 x24)), (15, (.slice a53 (List.length v56) n53)), (16, (.slice a54 (List.length v57) n54)), (17, (.int .i64 x60)), (19, (.int .i64 0))] ⟨rfl, rfl, rfl, rfl, rfl, rfl, rfl, rfl, rfl, rfl, trivial⟩ ?_
                  refine at_then ?_
                  refine at_block ?_
                  refine at_loopL (σ := Nat × Int) (fun ⟨k68, x67⟩ => law25_CrowdApart.l2 k68 v1 v2 x38 x37 x40 x41 x43 x39 x42 x45 x44 v56 v57 x60 x67 = some z35) (fun ⟨k68, x67⟩ => [(0, (.int .i64 v1)), (1, (.int .i64 v2)), (2, (.int .i64 v3)), (3, (.slice a_l (List.length l) n_l)), (9, (.pointer (some ⟨b1, 0, none⟩))), (10, (.int .i64 x24)), (15, (.slice a53 (List.length v56) n53)), (16, (.slice a54 (List.length v57) n54)), (17, (.int .i64 x60)), (19, (.int .i64 x67))]) (fun ⟨k68, x67⟩ => [F, [(b1, Obj.cells #[(.int .i64 x37), (.int .i64 x38), (.int .i64 x39), (.pointer (some ⟨b24, 0, none⟩)), (.pointer (some ⟨b27, 0, none⟩))] 92 (0, 0))], [(b24, Obj.cells #[(.int .i64 x40), (.int .i64 x41), (.map (some a25)), (.slice a26 (List.length x43) n26)] 102 (0, 0))], H25, H26, [(b27, Obj.cells #[(.slice a28 (List.length x44) n28), (.int .i64 x45)] 104 (0, 0))], H28, H53, H54]) (fun s => s.1) (fuel, 0) [0, 0, 0, 0, 0, 0, 0, 0, 0] Z31 ⟨rfl, rfl, rfl, rfl, rfl, rfl, rfl, rfl, rfl, rfl, trivial⟩ rfl ?_
                  rintro ⟨k68, x67⟩ Z39
                  replace Z39 : law25_CrowdApart.l2 k68 v1 v2 x38 x37 x40 x41 x43 x39 x42 x45 x44 v56 v57 x60 x67 = some z35 := Z39
                  rcases k68 with _ | k68
                  · rw [law25_CrowdApart.l2] at Z39; cases Z39
                  · rw [law25_CrowdApart.l2] at Z39
                    refine at_seq ?_
                    refine at_seq ?_
                    refine at_region [0, 1, 2, 3] rfl ?_
                    iterate 4 refine at_s T rfl ?_
                    refine at_end ?_
                    refine at_sub [(0, (.int .i64 v1)), (1, (.int .i64 v2)), (2, (.int .i64 v3)), (3, (.slice a_l (List.length l) n_l)), (9, (.pointer (some ⟨b1, 0, none⟩))), (10, (.int .i64 x24)), (15, (.slice a53 (List.length v56) n53)), (16, (.slice a54 (List.length v57) n54)), (17, (.int .i64 x60)), (19, (.int .i64 x67)), (134, (.bool (decide (x67 < (List.length v56 : Int)))))] ⟨rfl, rfl, rfl, rfl, rfl, rfl, rfl, rfl, rfl, rfl, rfl, trivial⟩ ?_
                    refine at_then ?_
                    refine at_cond rfl (fun c40 => ?_) (fun c40 => ?_)
                    · replace Z39 := if_t (of_decide_eq_true c40) Z39
                      refine at_skip ?_
                      refine at_then ?_
                      refine at_seq ?_
                      refine at_block ?_
                      obtain ⟨z70, Z41, Z39⟩ := bind_e Z39
                      refine at_seq_mid (σ := Bool) (fun x69 => x69 = z70) (fun x69 => [(0, (.int .i64 v1)), (1, (.int .i64 v2)), (2, (.int .i64 v3)), (3, (.slice a_l (List.length l) n_l)), (9, (.pointer (some ⟨b1, 0, none⟩))), (10, (.int .i64 x24)), (15, (.slice a53 (List.length v56) n53)), (16, (.slice a54 (List.length v57) n54)), (17, (.int .i64 x60)), (19, (.int .i64 x67)), (221, (.bool x69))]) (fun x69 => [F, [(b1, Obj.cells #[(.int .i64 x37), (.int .i64 x38), (.int .i64 x39), (.pointer (some ⟨b24, 0, none⟩)), (.pointer (some ⟨b27, 0, none⟩))] 92 (0, 0))], [(b24, Obj.cells #[(.int .i64 x40), (.int .i64 x41), (.map (some a25)), (.slice a26 (List.length x43) n26)] 102 (0, 0))], H25, H26, [(b27, Obj.cells #[(.slice a28 (List.length x44) n28), (.int .i64 x45)] 104 (0, 0))], H28, H53, H54]) ?_ ?_
                      · refine at_region_q mix (by kernel_rfl) ?_
                        iterate 2 refine atq_s T rfl ?_
                        obtain ⟨c42, Z41⟩ := chk_e Z41
                        obtain ⟨q57, o57, e57⟩ := s53.r.addr c42.1 c42.2
                        refine atq_v rfl rfl rfl (g_index T rfl rfl rfl rfl rfl e57 c42.1 c42.2) ?_
                        refine atq_s T rfl ?_
                        refine atq_v rfl rfl rfl (g_load T rfl rfl rfl rfl (in_elem1 (k := k_api_Unit) (own_of s53 (j := 7) rfl) e57 c42 1 rfl)) ?_
                        iterate 2 refine atq_s T rfl ?_
                        refine atq_case (s := 143) rfl (fun c43 => ?_) (fun c43 => ?_)
                        · replace Z41 := if_t (of_decide_eq_true c43) Z41
                          iterate 78 refine atq_s T rfl ?_
                          refine atq_end ?_
                          refine at_sub [(0, (.int .i64 v1)), (1, (.int .i64 v2)), (2, (.int .i64 v3)), (3, (.slice a_l (List.length l) n_l)), (9, (.pointer (some ⟨b1, 0, none⟩))), (10, (.int .i64 x24)), (15, (.slice a53 (List.length v56) n53)), (16, (.slice a54 (List.length v57) n54)), (17, (.int .i64 x60)), (19, (.int .i64 x67)), (221, (.bool true))] ⟨rfl, rfl, rfl, rfl, rfl, rfl, rfl, rfl, rfl, rfl, rfl, trivial⟩ ?_
                          refine at_then ?_
                          obtain rfl := Option.some.inj Z41
                          exact at_mid true [0, 0, 0, 0, 0, 0, 0, 0, 0] rfl ⟨rfl, rfl, rfl, rfl, rfl, rfl, rfl, rfl, rfl, rfl, rfl, trivial⟩ rfl
                        · replace Z41 := if_f (of_decide_eq_false c43) Z41
                          iterate 2 refine atq_s T rfl ?_
                          refine atq_v rfl rfl rfl (g_index T rfl rfl rfl rfl rfl e57 c42.1 c42.2) ?_
                          refine atq_s T rfl ?_
                          refine atq_v rfl rfl rfl (g_load T rfl rfl rfl rfl (in_elem1 (k := k_api_Unit) (own_of s53 (j := 7) rfl) e57 c42 1 rfl)) ?_
                          iterate 6 refine atq_s T rfl ?_
                          refine atq_case (s := 154) rfl (fun c44 => ?_) (fun c44 => ?_)
                          · replace Z41 := if_t (of_decide_eq_true c44) Z41
                            iterate 67 refine atq_s T rfl ?_
                            refine atq_end ?_
                            refine at_sub [(0, (.int .i64 v1)), (1, (.int .i64 v2)), (2, (.int .i64 v3)), (3, (.slice a_l (List.length l) n_l)), (9, (.pointer (some ⟨b1, 0, none⟩))), (10, (.int .i64 x24)), (15, (.slice a53 (List.length v56) n53)), (16, (.slice a54 (List.length v57) n54)), (17, (.int .i64 x60)), (19, (.int .i64 x67)), (221, (.bool true))] ⟨rfl, rfl, rfl, rfl, rfl, rfl, rfl, rfl, rfl, rfl, rfl, trivial⟩ ?_
                            refine at_then ?_
                            obtain rfl := Option.some.inj Z41
                            exact at_mid true [0, 0, 0, 0, 0, 0, 0, 0, 0] rfl ⟨rfl, rfl, rfl, rfl, rfl, rfl, rfl, rfl, rfl, rfl, rfl, trivial⟩ rfl
                          · replace Z41 := if_f (of_decide_eq_false c44) Z41
                            iterate 3 refine atq_s T rfl ?_
                            refine atq_v rfl rfl rfl (g_index T rfl rfl rfl rfl rfl e57 c42.1 c42.2) ?_
                            refine atq_s T rfl ?_
                            refine atq_v rfl rfl rfl (g_load T rfl rfl rfl rfl (in_elem1 (k := k_api_Unit) (own_of s53 (j := 7) rfl) e57 c42 1 rfl)) ?_
                            obtain ⟨c45, Z41⟩ := chk_e Z41
                            obtain ⟨q58, o58, e58⟩ := s54.r.addr c45.1 c45.2
                            refine atq_v rfl rfl rfl (g_index T rfl rfl rfl rfl rfl e58 c45.1 c45.2) ?_
                            refine atq_v rfl rfl rfl (g_load T rfl rfl rfl rfl (in_elem1 (k := (Fl.int .u32)) (own_of s54 (j := 8) rfl) e58 c45 0 rfl)) ?_
                            iterate 2 refine atq_s T rfl ?_
                            refine atq_v rfl rfl rfl (g_index T rfl rfl rfl rfl rfl e57 c42.1 c42.2) ?_
                            refine atq_s T rfl ?_
                            refine atq_v rfl rfl rfl (g_load T rfl rfl rfl rfl (in_elem1 (k := k_api_Unit) (own_of s53 (j := 7) rfl) e57 c42 0 rfl)) ?_
                            iterate 5 refine atq_s T rfl ?_
                            refine atq_case (s := 172) rfl (fun c46 => ?_) (fun c46 => ?_)
                            · replace Z41 := if_t c46 Z41
                              iterate 49 refine atq_s T rfl ?_
                              refine atq_end ?_
                              refine at_sub [(0, (.int .i64 v1)), (1, (.int .i64 v2)), (2, (.int .i64 v3)), (3, (.slice a_l (List.length l) n_l)), (9, (.pointer (some ⟨b1, 0, none⟩))), (10, (.int .i64 x24)), (15, (.slice a53 (List.length v56) n53)), (16, (.slice a54 (List.length v57) n54)), (17, (.int .i64 x60)), (19, (.int .i64 x67)), (221, (.bool true))] ⟨rfl, rfl, rfl, rfl, rfl, rfl, rfl, rfl, rfl, rfl, rfl, trivial⟩ ?_
                              refine at_then ?_
                              obtain rfl := Option.some.inj Z41
                              exact at_mid true [0, 0, 0, 0, 0, 0, 0, 0, 0] rfl ⟨rfl, rfl, rfl, rfl, rfl, rfl, rfl, rfl, rfl, rfl, rfl, trivial⟩ rfl
                            · replace Z41 := if_f (bf c46) Z41
                              iterate 2 refine atq_s T rfl ?_
                              refine atq_v rfl rfl rfl (g_index T rfl rfl rfl rfl rfl e57 c42.1 c42.2) ?_
                              refine atq_s T rfl ?_
                              refine atq_v rfl rfl rfl (g_load T rfl rfl rfl rfl (in_elem1 (k := k_api_Unit) (own_of s53 (j := 7) rfl) e57 c42 1 rfl)) ?_
                              iterate 2 refine atq_s T rfl ?_
                              refine atq_v rfl rfl rfl (g_index T rfl rfl rfl rfl rfl e57 c42.1 c42.2) ?_
                              refine atq_s T rfl ?_
                              refine atq_v rfl rfl rfl (g_load T rfl rfl rfl rfl (in_elem1 (k := k_api_Unit) (own_of s53 (j := 7) rfl) e57 c42 2 rfl)) ?_
                              iterate 3 refine atq_s T rfl ?_
                              refine atq_case (s := 185) rfl (fun c47 => ?_) (fun c47 => ?_)
                              · replace Z41 := if_t c47 Z41
                                iterate 36 refine atq_s T rfl ?_
                                refine atq_end ?_
                                refine at_sub [(0, (.int .i64 v1)), (1, (.int .i64 v2)), (2, (.int .i64 v3)), (3, (.slice a_l (List.length l) n_l)), (9, (.pointer (some ⟨b1, 0, none⟩))), (10, (.int .i64 x24)), (15, (.slice a53 (List.length v56) n53)), (16, (.slice a54 (List.length v57) n54)), (17, (.int .i64 x60)), (19, (.int .i64 x67)), (221, (.bool true))] ⟨rfl, rfl, rfl, rfl, rfl, rfl, rfl, rfl, rfl, rfl, rfl, trivial⟩ ?_
                                refine at_then ?_
                                obtain rfl := Option.some.inj Z41
                                exact at_mid true [0, 0, 0, 0, 0, 0, 0, 0, 0] rfl ⟨rfl, rfl, rfl, rfl, rfl, rfl, rfl, rfl, rfl, rfl, rfl, trivial⟩ rfl
                              · replace Z41 := if_f (bf c47) Z41
                                iterate 2 refine atq_s T rfl ?_
                                refine atq_v rfl rfl rfl (g_index T rfl rfl rfl rfl rfl e57 c42.1 c42.2) ?_
                                refine atq_s T rfl ?_
                                refine atq_v rfl rfl rfl (g_load T rfl rfl rfl rfl (in_elem1 (k := k_api_Unit) (own_of s53 (j := 7) rfl) e57 c42 2 rfl)) ?_
                                iterate 3 refine atq_s T rfl ?_
                                refine atq_case (s := 193) rfl (fun c48 => ?_) (fun c48 => ?_)
                                · replace Z41 := if_t (of_decide_eq_true c48) Z41
                                  iterate 28 refine atq_s T rfl ?_
                                  refine atq_end ?_
                                  refine at_sub [(0, (.int .i64 v1)), (1, (.int .i64 v2)), (2, (.int .i64 v3)), (3, (.slice a_l (List.length l) n_l)), (9, (.pointer (some ⟨b1, 0, none⟩))), (10, (.int .i64 x24)), (15, (.slice a53 (List.length v56) n53)), (16, (.slice a54 (List.length v57) n54)), (17, (.int .i64 x60)), (19, (.int .i64 x67)), (221, (.bool true))] ⟨rfl, rfl, rfl, rfl, rfl, rfl, rfl, rfl, rfl, rfl, rfl, trivial⟩ ?_
                                  refine at_then ?_
                                  obtain rfl := Option.some.inj Z41
                                  exact at_mid true [0, 0, 0, 0, 0, 0, 0, 0, 0] rfl ⟨rfl, rfl, rfl, rfl, rfl, rfl, rfl, rfl, rfl, rfl, rfl, trivial⟩ rfl
                                · replace Z41 := if_f (of_decide_eq_false c48) Z41
                                  iterate 2 refine atq_s T rfl ?_
                                  refine atq_v rfl rfl rfl (g_index T rfl rfl rfl rfl rfl e57 c42.1 c42.2) ?_
                                  refine atq_s T rfl ?_
                                  refine atq_v rfl rfl rfl (g_load T rfl rfl rfl rfl (in_elem1 (k := k_api_Unit) (own_of s53 (j := 7) rfl) e57 c42 2 rfl)) ?_
                                  iterate 6 refine atq_s T rfl ?_
                                  refine atq_case (s := 204) rfl (fun c49 => ?_) (fun c49 => ?_)
                                  · replace Z41 := if_t (of_decide_eq_true c49) Z41
                                    iterate 17 refine atq_s T rfl ?_
                                    refine atq_end ?_
                                    refine at_sub [(0, (.int .i64 v1)), (1, (.int .i64 v2)), (2, (.int .i64 v3)), (3, (.slice a_l (List.length l) n_l)), (9, (.pointer (some ⟨b1, 0, none⟩))), (10, (.int .i64 x24)), (15, (.slice a53 (List.length v56) n53)), (16, (.slice a54 (List.length v57) n54)), (17, (.int .i64 x60)), (19, (.int .i64 x67)), (221, (.bool true))] ⟨rfl, rfl, rfl, rfl, rfl, rfl, rfl, rfl, rfl, rfl, rfl, trivial⟩ ?_
                                    refine at_then ?_
                                    obtain rfl := Option.some.inj Z41
                                    exact at_mid true [0, 0, 0, 0, 0, 0, 0, 0, 0] rfl ⟨rfl, rfl, rfl, rfl, rfl, rfl, rfl, rfl, rfl, rfl, rfl, trivial⟩ rfl
                                  · replace Z41 := if_f (of_decide_eq_false c49) Z41
                                    iterate 3 refine atq_s T rfl ?_
                                    refine atq_case (s := 207) rfl (fun c50 => ?_) (fun c50 => ?_)
                                    · replace Z41 := if_t (of_decide_eq_true c50) Z41
                                      iterate 3 refine atq_s T rfl ?_
                                      obtain ⟨c51, Z41⟩ := chk_e Z41
                                      refine atq_v rfl rfl rfl (g_index T rfl rfl rfl rfl rfl e57 c51.1 c51.2) ?_
                                      refine atq_s T rfl ?_
                                      refine atq_v rfl rfl rfl (g_load T rfl rfl rfl rfl (in_elem1 (k := k_api_Unit) (own_of s53 (j := 7) rfl) e57 c51 0 rfl)) ?_
                                      iterate 2 refine atq_s T rfl ?_
                                      refine atq_v rfl rfl rfl (g_index T rfl rfl rfl rfl rfl e57 c42.1 c42.2) ?_
                                      refine atq_s T rfl ?_
                                      refine atq_v rfl rfl rfl (g_load T rfl rfl rfl rfl (in_elem1 (k := k_api_Unit) (own_of s53 (j := 7) rfl) e57 c42 0 rfl)) ?_
                                      iterate 3 refine atq_s T rfl ?_
                                      refine atq_end ?_
                                      refine at_sub [(0, (.int .i64 v1)), (1, (.int .i64 v2)), (2, (.int .i64 v3)), (3, (.slice a_l (List.length l) n_l)), (9, (.pointer (some ⟨b1, 0, none⟩))), (10, (.int .i64 x24)), (15, (.slice a53 (List.length v56) n53)), (16, (.slice a54 (List.length v57) n54)), (17, (.int .i64 x60)), (19, (.int .i64 x67)), (221, (.bool (decide ((rd v56 (w64 (x67 - 1))).Id ≥ (rd v56 x67).Id))))] ⟨rfl, rfl, rfl, rfl, rfl, rfl, rfl, rfl, rfl, rfl, rfl, trivial⟩ ?_
                                      refine at_then ?_
                                      obtain rfl := Option.some.inj Z41
                                      exact at_mid (decide ((rd v56 (w64 (x67 - 1))).Id ≥ (rd v56 x67).Id)) [0, 0, 0, 0, 0, 0, 0, 0, 0] rfl ⟨rfl, rfl, rfl, rfl, rfl, rfl, rfl, rfl, rfl, rfl, rfl, trivial⟩ rfl
                                    · replace Z41 := if_f (of_decide_eq_false c50) Z41
                                      iterate 14 refine atq_s T rfl ?_
                                      refine atq_end ?_
                                      refine at_sub [(0, (.int .i64 v1)), (1, (.int .i64 v2)), (2, (.int .i64 v3)), (3, (.slice a_l (List.length l) n_l)), (9, (.pointer (some ⟨b1, 0, none⟩))), (10, (.int .i64 x24)), (15, (.slice a53 (List.length v56) n53)), (16, (.slice a54 (List.length v57) n54)), (17, (.int .i64 x60)), (19, (.int .i64 x67)), (221, (.bool false))] ⟨rfl, rfl, rfl, rfl, rfl, rfl, rfl, rfl, rfl, rfl, rfl, trivial⟩ ?_
                                      refine at_then ?_
                                      obtain rfl := Option.some.inj Z41
                                      exact at_mid false [0, 0, 0, 0, 0, 0, 0, 0, 0] rfl ⟨rfl, rfl, rfl, rfl, rfl, rfl, rfl, rfl, rfl, rfl, rfl, trivial⟩ rfl
                      · rintro x69 rfl
                        refine at_cond rfl (fun c52 => ?_) (fun c52 => ?_)
                        · replace Z39 := if_t c52 Z39
                          refine at_seq ?_
                          refine at_region [0] rfl ?_
                          refine at_s T rfl ?_
                          refine at_end ?_
                          refine at_to [(8, (.bool false))] [0] [F] ⟨rfl, trivial⟩ rfl ?_
                          refine at_then ?_
                          refine at_ret ?_
                          refine at_rb ?_
                          refine at_rt ?_
                          refine at_rt ?_
                          refine at_rb ?_
                          refine at_rt ?_
                          refine at_rb ?_
                          refine at_rt ?_
                          refine at_rt ?_
                          refine at_rb ?_
                          refine at_rt ?_
                          obtain rfl := Option.some.inj Z39
                          obtain rfl := Option.some.inj (show some false = some r from Z6)
                          exact at_post (T := T) rfl (.tmp rfl .nil) (fun w o => ⟨(), rfl, own_to [0] rfl o⟩)
                        · replace Z39 := if_f (bf c52) Z39
                          refine at_skip ?_
                          refine at_nb ?_
                          refine at_then ?_
                          refine at_region [0, 1, 2] rfl ?_
                          iterate 3 refine at_s T rfl ?_
                          refine at_end ?_
                          refine at_sub [(0, (.int .i64 v1)), (1, (.int .i64 v2)), (2, (.int .i64 v3)), (3, (.slice a_l (List.length l) n_l)), (9, (.pointer (some ⟨b1, 0, none⟩))), (10, (.int .i64 x24)), (15, (.slice a53 (List.length v56) n53)), (16, (.slice a54 (List.length v57) n54)), (17, (.int .i64 x60)), (19, (.int .i64 (w64 (x67 + 1))))] ⟨rfl, rfl, rfl, rfl, rfl, rfl, rfl, rfl, rfl, rfl, trivial⟩ ?_
                          refine at_then ?_
                          exact at_roundL (k68, (w64 (x67 + 1))) [0, 0, 0, 0, 0, 0, 0, 0, 0] Z39 (Nat.lt_succ_self _) ⟨rfl, rfl, rfl, rfl, rfl, rfl, rfl, rfl, rfl, rfl, trivial⟩ rfl
                    · replace Z39 := if_f (of_decide_eq_false c40) Z39
                      refine at_exit ?_
                      refine at_xt ?_
                      refine at_xt ?_
                      refine at_xb ?_
                      refine at_then ?_
                      refine at_seq ?_
                      refine at_region [0, 1, 2, 3] rfl ?_
                      iterate 4 refine at_s T rfl ?_
                      refine at_end ?_
                      refine at_to [(0, (.int .i64 v1)), (1, (.int .i64 v2)), (2, (.int .i64 v3)), (3, (.slice a_l (List.length l) n_l)), (9, (.pointer (some ⟨b1, 0, none⟩))), (10, (.int .i64 x24)), (225, (.bool (x60 != (List.length v56 : Int))))] [0, 0, 0, 0, 0, 0, 0] [F, [(b1, Obj.cells #[(.int .i64 x37), (.int .i64 x38), (.int .i64 x39), (.pointer (some ⟨b24, 0, none⟩)), (.pointer (some ⟨b27, 0, none⟩))] 92 (0, 0))], [(b24, Obj.cells #[(.int .i64 x40), (.int .i64 x41), (.map (some a25)), (.slice a26 (List.length x43) n26)] 102 (0, 0))], H25, H26, [(b27, Obj.cells #[(.slice a28 (List.length x44) n28), (.int .i64 x45)] 104 (0, 0))], H28] ⟨rfl, rfl, rfl, rfl, rfl, rfl, rfl, trivial⟩ rfl ?_
                      refine at_then ?_
                      refine at_cond rfl (fun c53 => ?_) (fun c53 => ?_)
                      · replace Z39 := if_t c53 Z39
                        refine at_seq ?_
                        refine at_region [0] rfl ?_
                        refine at_s T rfl ?_
                        refine at_end ?_
                        refine at_to [(8, (.bool false))] [0] [F] ⟨rfl, trivial⟩ rfl ?_
                        refine at_then ?_
                        refine at_ret ?_
                        refine at_rb ?_
                        refine at_rt ?_
                        refine at_rt ?_
                        refine at_rb ?_
                        refine at_rt ?_
                        obtain rfl := Option.some.inj Z39
                        obtain rfl := Option.some.inj (show some false = some r from Z6)
                        exact at_post (T := T) rfl (.tmp rfl .nil) (fun w o => ⟨(), rfl, own_to [0] rfl o⟩)
                      · replace Z39 := if_f (bf c53) Z39
                        refine at_skip ?_
                        refine at_nb ?_
                        refine at_then ?_
                        obtain rfl := Option.some.inj Z39
                        exact at_mid (x37, x38, x39, x40, x41, x42, x43, x44, x45, b24, a25, H25, a26, n26, H26, b27, a28, n28, H28) [0, 0, 0, 0, 0, 0, 0] ⟨rfl, s25, s26, s28⟩ ⟨rfl, rfl, rfl, rfl, rfl, rfl, trivial⟩ rfl
        · rintro ⟨x26, x27, x28, x29, x30, x31, x32, x33, x34, b17, a18, H18, a19, n19, H19, b20, a21, n21, H21⟩ ⟨rfl, s18, s19, s21⟩
          refine at_region [0, 1, 2] rfl ?_
          iterate 3 refine at_s T rfl ?_
          refine at_end ?_
          refine at_sub [(0, (.int .i64 v1)), (1, (.int .i64 v2)), (2, (.int .i64 v3)), (3, (.slice a_l (List.length l) n_l)), (9, (.pointer (some ⟨b1, 0, none⟩))), (10, (.int .i64 (w64 (x24 + 1))))] ⟨rfl, rfl, rfl, rfl, rfl, rfl, trivial⟩ ?_
          refine at_then ?_
          exact at_roundL (k25, x26, x27, x28, x29, x30, x31, x32, x33, x34, (w64 (x24 + 1)), b17, a18, H18, a19, n19, H19, b20, a21, n21, H21) [0, 0, 0, 0, 0, 0, 0] ⟨Z6, s18, s19, s21⟩ (Nat.lt_succ_self _) ⟨rfl, rfl, rfl, rfl, rfl, rfl, trivial⟩ rfl
      · replace Z6 := if_f (bf c8) Z6
        refine at_exit ?_
        refine at_xt ?_
        refine at_xt ?_
        refine at_xb ?_
        refine at_then ?_
        refine at_seq ?_
        refine at_region [0, 1] rfl ?_
        obtain ⟨v71, V54, Z6⟩ := bind_e Z6
        refine at_cons (at_c (B := fun _ => []) [] rfl rfl rfl rfl has28 rfl rfl (law25_told.c  v71 _ V54) (fun _ => ?_))
        refine at_s T rfl ?_
        refine at_end ?_
        refine at_to [(8, (.bool v71))] [0] [F] ⟨rfl, trivial⟩ rfl ?_
        refine at_then ?_
        refine at_ret ?_
        obtain rfl := Option.some.inj Z6
        exact at_post (T := T) rfl (.tmp rfl .nil) (fun w o => ⟨(), rfl, own_to [0] rfl o⟩)
def law25_CrowdApart.Pure : Prop := ∀ (w : Int) (h : Int) (most : Int) (l : (List herdsmanlaw25_Ask)), inI64 w → inI64 h → inI64 most → (∀ y ∈ l, (inI64 y.Kind ∧ inI64 y.A ∧ inI64 y.B)) → List.length l ≤ 9223372036854775807 → law25_CrowdApart.f w h most l = some true
end Go.Proofs.Ytkidcebfpengmaa
