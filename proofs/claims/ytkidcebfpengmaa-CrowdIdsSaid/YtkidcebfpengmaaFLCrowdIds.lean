import Derived.Test.YtkidcebfpengmaaT
import Derived.Test.YtkidcebfpengmaaFcrowd
import Derived.Test.YtkidcebfpengmaaFlaw25
import Derived.Test.YtkidcebfpengmaaFref1
namespace Go.Proofs.Ytkidcebfpengmaa
open Go.Hx
set_option maxRecDepth 100000
set_option linter.unusedVariables false
/-! ### herdsman/herdsmanlaw25.CrowdIds: function 8 -/
def law25_CrowdIds.l3 : Nat → Int → Int → Int → (List (Int × api_Unit)) → List Int → List Int → Int → Int → Int → (List (Int × Int)) → Int → Int → Int → Option (Sum Bool (Int × Int × Int × Int × Int × (List (Int × api_Unit)) × (List Int) × (List Int) × Int × Int × (List (Int × Int))))
  | 0, _, _, _, _, _, _, _, _, _, _, _, _, _ => none
  | k75 + 1, x42, x43, x46, x47, x48, x49, x44, x50, x51, x52, x45, x73, x74 => if x74 < x51 then (law25_CrowdIds.l3 k75 x42 x43 x46 x47 x48 x49 x44 x50 x51 x52 x45 (w64 (x73 + (mval x52 x74))) (w64 (x74 + 1))) else ((crowd_Crowd_Units.f (crowd_Crowd.mk x42 x43 x44 (units_Units.mk x45 x46 x47 x48) (floor_Floor.mk x49 x50))).bind fun v76 => if (x73 != (List.length v76 : Int)) = true then (some (Sum.inl false)) else (some (Sum.inr (x42, x43, x44, x45, x46, x47, x48, x49, x50, x51, x52))))
def law25_CrowdIds.l2 : Nat → Int → Int → Int → ((List api_Move) × (List Int) × Int × crowd_Crowd) → (List (Int × Int)) → Int → Option (Sum Bool (Int × Int × Int × Int × Int × (List (Int × api_Unit)) × (List Int) × (List Int) × Int × Int × (List (Int × Int))))
  | 0, _, _, _, _, _, _ => none
  | k69 + 1, w, h, x25, v61, x67, x68 => if x68 < (List.length v61.2.1 : Int) then (if (0 ≤ x68 ∧ x68 < (List.length v61.2.1 : Int)) then (if ((mval x67 (rd v61.2.1 x68)) != 1) = true then (some (Sum.inl false)) else (law25_CrowdIds.l2 k69 w h x25 v61 (mset x67 (rd v61.2.1 x68) 0) (w64 (x68 + 1)))) else none) else (some (Sum.inr (v61.2.2.2.w, v61.2.2.2.h, v61.2.2.2.most, v61.2.2.2.units.most, v61.2.2.2.units.next, v61.2.2.2.units.live, v61.2.2.2.units.order, v61.2.2.2.floor.words, v61.2.2.2.floor.count, x25, x67)))
def law25_CrowdIds.l1 : Nat → Int → Int → Int → (List (Int × Int)) → ((List api_Move) × (List Int) × Int × crowd_Crowd) → Int → Option (Sum Bool (Int × Int × Int × Int × Int × (List (Int × api_Unit)) × (List Int) × (List Int) × Int × Int × (List (Int × Int))))
  | 0, _, _, _, _, _, _ => none
  | k64 + 1, w, h, x25, x26, v61, x63 => if x63 < (List.length v61.1 : Int) then (if (0 ≤ x63 ∧ x63 < (List.length v61.1 : Int)) then (if ((mval x26 ((rd v61.1 x63).Id)) != 1) = true then (some (Sum.inl false)) else (law25_CrowdIds.l1 k64 w h x25 x26 v61 (w64 (x63 + 1)))) else none) else (law25_CrowdIds.l2 fuel w h x25 v61 x26 0)
def law25_CrowdIds.l0 : Nat → Int → Int → (List herdsmanlaw25_Ask) → Int → Int → Int → Int → Int → Int → Int → (List (Int × api_Unit)) → List Int → List Int → Int → Int → (List (Int × Int)) → Int → Option Bool
  | 0, _, _, _, _, _, _, _, _, _, _, _, _, _, _, _, _, _ => none
  | k28 + 1, w, h, l, v1, v2, x16, x17, x18, x19, x20, x21, x22, x23, x24, x25, x26, x27 => if ((decide (x27 < (List.length l : Int))) && (decide (x27 < 50))) = true then ((if (0 ≤ x27 ∧ x27 < (List.length l : Int)) then ((law25_near.f (rd l x27) v1 v2 x25).bind fun v41 => ((ref1_Within.f v41.Kind 0 9).bind fun v54 => if (v54 == 5) = true then ((crowd_Crowd_Retarget.f (crowd_Crowd.mk x16 x17 x18 (units_Units.mk x19 x20 x21 x22) (floor_Floor.mk x23 x24)) v41.A v41.B).bind fun v55 => if (!((v55.1 == 12) == ((mval x26 v41.A) == 0))) = true then (some (Sum.inl false)) else (if (v55.1 == 13) = true then (some (Sum.inr (v55.2.w, v55.2.h, v55.2.most, v55.2.units.most, v55.2.units.next, v55.2.units.live, v55.2.units.order, v55.2.floor.words, v55.2.floor.count, x25, (mset x26 v41.A 0)))) else (some (Sum.inr (v55.2.w, v55.2.h, v55.2.most, v55.2.units.most, v55.2.units.next, v55.2.units.live, v55.2.units.order, v55.2.floor.words, v55.2.floor.count, x25, x26))))) else (if (v54 == 6) = true then ((crowd_Crowd_Despawn.f (crowd_Crowd.mk x16 x17 x18 (units_Units.mk x19 x20 x21 x22) (floor_Floor.mk x23 x24)) v41.A).bind fun v56 => if (!((v56.1 == 0) == ((mval x26 v41.A) == 1))) = true then (some (Sum.inl false)) else (some (Sum.inr (v56.2.w, v56.2.h, v56.2.most, v56.2.units.most, v56.2.units.next, v56.2.units.live, v56.2.units.order, v56.2.floor.words, v56.2.floor.count, x25, (mset x26 v41.A 0))))) else ((if (v54 == 7) = true then (some (v54 == 7)) else (if (v54 == 8) = true then (some (v54 == 8)) else (some (v54 == 9)))).bind fun x57 => if x57 = true then ((crowd_Crowd_Units.f (crowd_Crowd.mk x16 x17 x18 (units_Units.mk x19 x20 x21 x22) (floor_Floor.mk x23 x24))).bind fun v59 => (law25_dirs.f (List.length v59 : Int) v41.A v41.B).bind fun v60 => (crowd_Crowd_Tick.f (crowd_Crowd.mk x16 x17 x18 (units_Units.mk x19 x20 x21 x22) (floor_Floor.mk x23 x24)) v60).bind fun v61 => if (v61.2.2.1 != 0) = true then (some (Sum.inl false)) else (law25_CrowdIds.l1 fuel w h x25 x26 v61 0)) else ((crowd_Crowd_Spawn.f (crowd_Crowd.mk x16 x17 x18 (units_Units.mk x19 x20 x21 x22) (floor_Floor.mk x23 x24)) v41.A v41.B).bind fun v70 => if (v70.2.1 == 0) = true then (if (v70.1 != x25) = true then (some (Sum.inl false)) else (some (Sum.inr (v70.2.2.w, v70.2.2.h, v70.2.2.most, v70.2.2.units.most, v70.2.2.units.next, v70.2.2.units.live, v70.2.2.units.order, v70.2.2.floor.words, v70.2.2.floor.count, (w64 (x25 + 1)), (mset x26 v70.1 1))))) else (if (v70.1 != (-1)) = true then (some (Sum.inl false)) else (some (Sum.inr (v70.2.2.w, v70.2.2.h, v70.2.2.most, v70.2.2.units.most, v70.2.2.units.next, v70.2.2.units.live, v70.2.2.units.order, v70.2.2.floor.words, v70.2.2.floor.count, x25, x26)))))))).bind fun zz => match zz with | Sum.inl q => some (Sum.inl q) | Sum.inr (x42, x43, x44, x45, x46, x47, x48, x49, x50, x51, x52) => law25_CrowdIds.l3 fuel x42 x43 x46 x47 x48 x49 x44 x50 x51 x52 x45 0 0) else none).bind fun zz => match zz with | Sum.inl q => some q | Sum.inr (x29, x30, x31, x32, x33, x34, x35, x36, x37, x38, x39) => law25_CrowdIds.l0 k28 w h l v1 v2 x29 x30 x31 x32 x33 x34 x35 x36 x37 x38 x39 (w64 (x27 + 1))) else ((law25_told.f).bind fun v77 => some v77)
def law25_CrowdIds.f (w : Int) (h : Int) (l : (List herdsmanlaw25_Ask)) : Option Bool := (ref1_Within.f w 1 8).bind fun v1 => (ref1_Within.f h 1 8).bind fun v2 => (crowd_New.f v1 v2 6).bind fun v3 => optm v3 (some false) (fun yv3 => law25_CrowdIds.l0 fuel w h l v1 v2 yv3.w yv3.h yv3.most yv3.units.most yv3.units.next yv3.units.live yv3.units.order yv3.floor.words yv3.floor.count 0 ([] : (List (Int × Int))) 0)
set_option maxHeartbeats 4000000 in
theorem law25_CrowdIds.c {a_l : Option Addr} {n_l : Nat} (w : Int) (h : Int) (l : (List herdsmanlaw25_Ask)) (r : Bool) (F : Hp) (H : law25_CrowdIds.f w h l = some r) (h_l : SliceR k_herdsmanlaw25_Ask l a_l F) (c_l : List.length l ≤ n_l) :
    CallsL Try.prog 8 [(.int .i64 w), (.int .i64 h), (.slice a_l (List.length l) n_l)] [F] (fun _ : Unit => (.bool r)) (fun _ => [F]) := by
  unfold law25_CrowdIds.f at H
  refine calls_atL [(0, (.int .i64 w)), (1, (.int .i64 h)), (2, (.slice a_l (List.length l) n_l))] Try.func8 rfl rfl ⟨rfl, rfl, rfl, trivial⟩ (fun W => ?_)
  refine at_seq ?_
  refine at_region [0] rfl ?_
  refine at_s T rfl ?_
  refine at_end ?_
  refine at_sub [(0, (.int .i64 w)), (1, (.int .i64 h)), (2, (.slice a_l (List.length l) n_l))] ⟨rfl, rfl, rfl, trivial⟩ ?_
  refine at_then ?_
  refine at_seq ?_
  refine at_region [0, 1, 2, 3, 4, 5] rfl ?_
  refine at_s T rfl ?_
  obtain ⟨v1, V1, H⟩ := bind_e H
  refine at_cons (at_c (B := fun _ => []) [] rfl rfl rfl rfl has12 rfl rfl (ref1_Within.c w 1 8 v1 _ V1) (fun _ => ?_))
  refine at_s T rfl ?_
  obtain ⟨v2, V2, H⟩ := bind_e H
  refine at_cons (at_c (B := fun _ => []) [] rfl rfl rfl rfl has12 rfl rfl (ref1_Within.c h 1 8 v2 _ V2) (fun _ => ?_))
  iterate 2 refine at_s T rfl ?_
  refine at_end ?_
  refine at_sub [(0, (.int .i64 v1)), (1, (.int .i64 v2)), (2, (.slice a_l (List.length l) n_l))] ⟨rfl, rfl, rfl, trivial⟩ ?_
  refine at_then ?_
  refine at_seq ?_
  refine at_region [0, 1, 2, 3] rfl ?_
  iterate 2 refine at_s T rfl ?_
  obtain ⟨v3, V3, H⟩ := bind_e H
  refine at_cons (at_cR (crowd_New.R v3) [] [] rfl rfl rfl rfl has24 rfl rfl (crowd_New.c v1 v2 6 v3 _ V3) ?_)
  rintro _ _ ⟨_, _, O4, rfl, rfl⟩
  rcases v3 with _ | yv3
  · replace H := optm_n rfl H
    obtain ⟨rfl, rfl⟩ := O4
    refine at_s T rfl ?_
    refine at_end ?_
    refine at_sub [(0, (.int .i64 v1)), (1, (.int .i64 v2)), (2, (.slice a_l (List.length l) n_l)), (7, (.pointer none))] ⟨rfl, rfl, rfl, rfl, trivial⟩ ?_
    refine at_then ?_
    refine at_seq ?_
    refine at_seq ?_
    refine at_region [0, 1] rfl ?_
    iterate 2 refine at_s T rfl ?_
    refine at_end ?_
    refine at_sub [(0, (.int .i64 v1)), (1, (.int .i64 v2)), (2, (.slice a_l (List.length l) n_l)), (7, (.pointer none)), (30, (.bool true))] ⟨rfl, rfl, rfl, rfl, rfl, trivial⟩ ?_
    refine at_then ?_
    refine at_cond_t rfl ?_
    refine at_seq ?_
    refine at_region [0] rfl ?_
    refine at_s T rfl ?_
    refine at_end ?_
    refine at_sub [(6, (.bool false))] ⟨rfl, trivial⟩ ?_
    refine at_then ?_
    refine at_ret ?_
    refine at_rt ?_
    obtain rfl := Option.some.inj H
    exact at_post (T := T) rfl (.tmp rfl .nil) (fun w o => ⟨(), rfl, own_to [0] rfl o⟩)
  · replace H := optm_s rfl H
    obtain ⟨b1, b2, a3, H3, a4, n4, H4, b5, a6, n6, H6, s3, s4, s6, rfl, rfl⟩ := O4
    refine at_s T rfl ?_
    refine at_end ?_
    refine at_sub [(0, (.int .i64 v1)), (1, (.int .i64 v2)), (2, (.slice a_l (List.length l) n_l)), (7, (.pointer (some ⟨b1, 0, none⟩)))] ⟨rfl, rfl, rfl, rfl, trivial⟩ ?_
    refine at_then ?_
    refine at_seq ?_
    refine at_seq ?_
    refine at_region [0, 1] rfl ?_
    iterate 2 refine at_s T rfl ?_
    refine at_end ?_
    refine at_sub [(0, (.int .i64 v1)), (1, (.int .i64 v2)), (2, (.slice a_l (List.length l) n_l)), (7, (.pointer (some ⟨b1, 0, none⟩))), (30, (.bool false))] ⟨rfl, rfl, rfl, rfl, rfl, trivial⟩ ?_
    refine at_then ?_
    refine at_cond_f rfl ?_
    refine at_skip ?_
    refine at_then ?_
    refine at_seq ?_
    refine at_region [0] rfl ?_
    refine at_s T rfl ?_
    refine at_end ?_
    refine at_sub [(0, (.int .i64 v1)), (1, (.int .i64 v2)), (2, (.slice a_l (List.length l) n_l)), (7, (.pointer (some ⟨b1, 0, none⟩))), (8, (.int .i64 0))] ⟨rfl, rfl, rfl, rfl, rfl, trivial⟩ ?_
    refine at_then ?_
    refine at_seq ?_
    refine at_region [0, 1] rfl ?_
    refine at_cons (at_mm T (Ky.int .i64 u3) (fun x : Int => Value.int .i64 x) rfl rfl rfl trivial (fun a7 H7 s7 => ?_))
    refine at_s T rfl ?_
    refine at_end ?_
    refine at_sub [(0, (.int .i64 v1)), (1, (.int .i64 v2)), (2, (.slice a_l (List.length l) n_l)), (7, (.pointer (some ⟨b1, 0, none⟩))), (8, (.int .i64 0)), (9, (.map (some a7)))] ⟨rfl, rfl, rfl, rfl, rfl, rfl, trivial⟩ ?_
    refine at_then ?_
    refine at_seq ?_
    refine at_seq ?_
    refine at_region [0] rfl ?_
    refine at_s T rfl ?_
    refine at_end ?_
    refine at_sub [(0, (.int .i64 v1)), (1, (.int .i64 v2)), (2, (.slice a_l (List.length l) n_l)), (7, (.pointer (some ⟨b1, 0, none⟩))), (8, (.int .i64 0)), (9, (.map (some a7))), (10, (.int .i64 0))] ⟨rfl, rfl, rfl, rfl, rfl, rfl, rfl, trivial⟩ ?_
    refine at_then ?_
    refine at_block ?_
    refine at_loopL (σ := Nat × Int × Int × Int × Int × Int × (List (Int × api_Unit)) × List Int × List Int × Int × Int × (List (Int × Int)) × Int × Nat × Nat × Hp × Option Addr × Nat × Hp × Nat × Option Addr × Nat × Hp × Nat × Hp) (fun ⟨k28, x16, x17, x18, x19, x20, x21, x22, x23, x24, x25, x26, x27, b14, a15, H15, a16, n16, H16, b17, a18, n18, H18, a19, H19⟩ => law25_CrowdIds.l0 k28 w h l v1 v2 x16 x17 x18 x19 x20 x21 x22 x23 x24 x25 x26 x27 = some r ∧ MapO (Ky.int .i64 u3) (fun x : api_Unit => Value.agg #[.int .i64 x.Id, .int .i64 x.Cell, .int .i64 x.Goal]) x21 a15 H15 ∧ SliceO (Fl.int .i64) 3 x22 a16 n16 H16 ∧ SliceO (Fl.int .u32) 74 x23 a18 n18 H18 ∧ MapO (Ky.int .i64 u3) (fun x : Int => Value.int .i64 x) x26 a19 H19) (fun ⟨k28, x16, x17, x18, x19, x20, x21, x22, x23, x24, x25, x26, x27, b14, a15, H15, a16, n16, H16, b17, a18, n18, H18, a19, H19⟩ => [(0, (.int .i64 v1)), (1, (.int .i64 v2)), (2, (.slice a_l (List.length l) n_l)), (7, (.pointer (some ⟨b1, 0, none⟩))), (8, (.int .i64 x25)), (9, (.map (some a19))), (10, (.int .i64 x27))]) (fun ⟨k28, x16, x17, x18, x19, x20, x21, x22, x23, x24, x25, x26, x27, b14, a15, H15, a16, n16, H16, b17, a18, n18, H18, a19, H19⟩ => [F, [(b1, Obj.cells #[(.int .i64 x16), (.int .i64 x17), (.int .i64 x18), (.pointer (some ⟨b14, 0, none⟩)), (.pointer (some ⟨b17, 0, none⟩))] 92 (0, 0))], [(b14, Obj.cells #[(.int .i64 x19), (.int .i64 x20), (.map (some a15)), (.slice a16 (List.length x22) n16)] 102 (0, 0))], H15, H16, [(b17, Obj.cells #[(.slice a18 (List.length x23) n18), (.int .i64 x24)] 104 (0, 0))], H18, H19]) (fun s => s.1) (fuel, yv3.w, yv3.h, yv3.most, yv3.units.most, yv3.units.next, yv3.units.live, yv3.units.order, yv3.floor.words, yv3.floor.count, 0, ([] : (List (Int × Int))), 0, b2, a3, H3, a4, n4, H4, b5, a6, n6, H6, a7, H7) [0, 0, 0, 0, 0, 0, 0, 0] ⟨H, s3, s4, s6, s7⟩ ⟨rfl, rfl, rfl, rfl, rfl, rfl, rfl, trivial⟩ rfl ?_
    rintro ⟨k28, x16, x17, x18, x19, x20, x21, x22, x23, x24, x25, x26, x27, b14, a15, H15, a16, n16, H16, b17, a18, n18, H18, a19, H19⟩ ⟨Z5, s15, s16, s18, s19⟩
    replace Z5 : law25_CrowdIds.l0 k28 w h l v1 v2 x16 x17 x18 x19 x20 x21 x22 x23 x24 x25 x26 x27 = some r := Z5
    rcases k28 with _ | k28
    · rw [law25_CrowdIds.l0] at Z5; cases Z5
    · rw [law25_CrowdIds.l0] at Z5
      refine at_seq ?_
      refine at_seq ?_
      refine at_region [0, 1, 2, 3, 4, 5, 6, 7] rfl ?_
      iterate 5 refine at_s T rfl ?_
      refine at_grp T [5, 6, 7] (s := 36) (c := (decide (x27 < (List.length l : Int)))) [(0, (.int .i64 v1)), (1, (.int .i64 v2)), (2, (.slice a_l (List.length l) n_l)), (7, (.pointer (some ⟨b1, 0, none⟩))), (8, (.int .i64 x25)), (9, (.map (some a19))), (10, (.int .i64 x27)), (39, (.bool ((decide (x27 < (List.length l : Int))) && (decide (x27 < 50)))))] rfl rfl rfl (fun c6 => ⟨rfl, rfl, rfl, rfl, rfl, rfl, rfl, (by rw [c6]; rfl), trivial⟩) (fun c6 => ⟨rfl, rfl, rfl, rfl, rfl, rfl, rfl, (by rw [c6]; rfl), trivial⟩) ?_
      refine at_end ?_
      refine at_sub [(0, (.int .i64 v1)), (1, (.int .i64 v2)), (2, (.slice a_l (List.length l) n_l)), (7, (.pointer (some ⟨b1, 0, none⟩))), (8, (.int .i64 x25)), (9, (.map (some a19))), (10, (.int .i64 x27)), (39, (.bool ((decide (x27 < (List.length l : Int))) && (decide (x27 < 50)))))] ⟨rfl, rfl, rfl, rfl, rfl, rfl, rfl, rfl, trivial⟩ ?_
      refine at_then ?_
      refine at_cond rfl (fun c7 => ?_) (fun c7 => ?_)
      · replace Z5 := if_t c7 Z5
        refine at_skip ?_
        refine at_then ?_
        obtain ⟨z40, Z8, Z5⟩ := bind_e Z5
        refine at_seq_mid (σ := Int × Int × Int × Int × Int × (List (Int × api_Unit)) × List Int × List Int × Int × Int × (List (Int × Int)) × Nat × Nat × Hp × Option Addr × Nat × Hp × Nat × Option Addr × Nat × Hp × Nat × Hp) (fun ⟨x29, x30, x31, x32, x33, x34, x35, x36, x37, x38, x39, b20, a21, H21, a22, n22, H22, b23, a24, n24, H24, a25, H25⟩ => (Sum.inr (x29, x30, x31, x32, x33, x34, x35, x36, x37, x38, x39)) = z40 ∧ MapO (Ky.int .i64 u3) (fun x : api_Unit => Value.agg #[.int .i64 x.Id, .int .i64 x.Cell, .int .i64 x.Goal]) x34 a21 H21 ∧ SliceO (Fl.int .i64) 3 x35 a22 n22 H22 ∧ SliceO (Fl.int .u32) 74 x36 a24 n24 H24 ∧ MapO (Ky.int .i64 u3) (fun x : Int => Value.int .i64 x) x39 a25 H25) (fun ⟨x29, x30, x31, x32, x33, x34, x35, x36, x37, x38, x39, b20, a21, H21, a22, n22, H22, b23, a24, n24, H24, a25, H25⟩ => [(0, (.int .i64 v1)), (1, (.int .i64 v2)), (2, (.slice a_l (List.length l) n_l)), (7, (.pointer (some ⟨b1, 0, none⟩))), (8, (.int .i64 x38)), (9, (.map (some a25))), (10, (.int .i64 x27))]) (fun ⟨x29, x30, x31, x32, x33, x34, x35, x36, x37, x38, x39, b20, a21, H21, a22, n22, H22, b23, a24, n24, H24, a25, H25⟩ => [F, [(b1, Obj.cells #[(.int .i64 x29), (.int .i64 x30), (.int .i64 x31), (.pointer (some ⟨b20, 0, none⟩)), (.pointer (some ⟨b23, 0, none⟩))] 92 (0, 0))], [(b20, Obj.cells #[(.int .i64 x32), (.int .i64 x33), (.map (some a21)), (.slice a22 (List.length x35) n22)] 102 (0, 0))], H21, H22, [(b23, Obj.cells #[(.slice a24 (List.length x36) n24), (.int .i64 x37)] 104 (0, 0))], H24, H25]) ?_ ?_
        · refine at_block ?_
          refine at_seq ?_
          refine at_region [0, 1, 2, 3, 4, 5, 6, 7, 8, 9] rfl ?_
          iterate 2 refine at_s T rfl ?_
          obtain ⟨c9, Z8⟩ := chk_e Z8
          obtain ⟨q26, o26, e26⟩ := h_l.addr c9.1 c9.2
          refine at_v rfl (g_index T rfl rfl rfl rfl rfl e26 c9.1 c9.2) ?_
          refine at_v rfl (g_loadA T (cs := [(.int .i64 (rd l x27).Kind), (.int .i64 (rd l x27).A), (.int .i64 (rd l x27).B)]) rfl rfl rfl rfl rfl rfl (in_elemA (k := k_herdsmanlaw25_Ask) (ro_of h_l (j := 0) rfl) e26 c9 rfl)) ?_
          iterate 3 refine at_s T rfl ?_
          obtain ⟨v41, V10, Z8⟩ := bind_e Z8
          refine at_cons (at_c (B := fun _ => []) [] rfl rfl rfl rfl has30 rfl rfl (law25_near.c (rd l x27) v1 v2 x25 v41 _ V10) (fun _ => ?_))
          refine at_cons (at_al T [(.int .i64 0), (.int .i64 0), (.int .i64 0)] rfl rfl rfl rfl (fun b27 => ?_))
          refine at_cons (at_st T 8 [(.int .i64 v41.Kind), (.int .i64 v41.A), (.int .i64 v41.B)] rfl rfl rfl rfl rfl rfl rfl rfl rfl rfl ?_)
          refine at_end ?_
          refine at_sub [(0, (.int .i64 v1)), (1, (.int .i64 v2)), (2, (.slice a_l (List.length l) n_l)), (7, (.pointer (some ⟨b1, 0, none⟩))), (8, (.int .i64 x25)), (9, (.map (some a19))), (10, (.int .i64 x27)), (11, (.pointer (some ⟨b27, 0, none⟩)))] ⟨rfl, rfl, rfl, rfl, rfl, rfl, rfl, rfl, trivial⟩ ?_
          refine at_then ?_
          obtain ⟨z53, Z11, Z8⟩ := bind_e Z8
          refine at_seq_mid (σ := Int × Int × Int × Int × Int × (List (Int × api_Unit)) × List Int × List Int × Int × Int × (List (Int × Int)) × Nat × Nat × Hp × Option Addr × Nat × Hp × Nat × Option Addr × Nat × Hp × Nat × Hp) (fun ⟨x42, x43, x44, x45, x46, x47, x48, x49, x50, x51, x52, b28, a29, H29, a30, n30, H30, b31, a32, n32, H32, a33, H33⟩ => (Sum.inr (x42, x43, x44, x45, x46, x47, x48, x49, x50, x51, x52)) = z53 ∧ MapO (Ky.int .i64 u3) (fun x : api_Unit => Value.agg #[.int .i64 x.Id, .int .i64 x.Cell, .int .i64 x.Goal]) x47 a29 H29 ∧ SliceO (Fl.int .i64) 3 x48 a30 n30 H30 ∧ SliceO (Fl.int .u32) 74 x49 a32 n32 H32 ∧ MapO (Ky.int .i64 u3) (fun x : Int => Value.int .i64 x) x52 a33 H33) (fun ⟨x42, x43, x44, x45, x46, x47, x48, x49, x50, x51, x52, b28, a29, H29, a30, n30, H30, b31, a32, n32, H32, a33, H33⟩ => [(0, (.int .i64 v1)), (1, (.int .i64 v2)), (2, (.slice a_l (List.length l) n_l)), (7, (.pointer (some ⟨b1, 0, none⟩))), (8, (.int .i64 x51)), (9, (.map (some a33))), (10, (.int .i64 x27))]) (fun ⟨x42, x43, x44, x45, x46, x47, x48, x49, x50, x51, x52, b28, a29, H29, a30, n30, H30, b31, a32, n32, H32, a33, H33⟩ => [F, [(b1, Obj.cells #[(.int .i64 x42), (.int .i64 x43), (.int .i64 x44), (.pointer (some ⟨b28, 0, none⟩)), (.pointer (some ⟨b31, 0, none⟩))] 92 (0, 0))], [(b28, Obj.cells #[(.int .i64 x45), (.int .i64 x46), (.map (some a29)), (.slice a30 (List.length x48) n30)] 102 (0, 0))], H29, H30, [(b31, Obj.cells #[(.slice a32 (List.length x49) n32), (.int .i64 x50)] 104 (0, 0))], H32, H33]) ?_ ?_
          · refine at_seq ?_
            refine at_region [0, 1, 2] rfl ?_
            refine at_s T rfl ?_
            refine at_v rfl (g_load T rfl rfl rfl rfl (in_var (j := 8) rfl rfl)) ?_
            obtain ⟨v54, V12, Z11⟩ := bind_e Z11
            refine at_cons (at_c (B := fun _ => []) [] rfl rfl rfl rfl has12 rfl rfl (ref1_Within.c v41.Kind 0 9 v54 _ V12) (fun _ => ?_))
            refine at_end ?_
            refine at_sub [(0, (.int .i64 v1)), (1, (.int .i64 v2)), (2, (.slice a_l (List.length l) n_l)), (7, (.pointer (some ⟨b1, 0, none⟩))), (8, (.int .i64 x25)), (9, (.map (some a19))), (10, (.int .i64 x27)), (11, (.pointer (some ⟨b27, 0, none⟩))), (52, (.int .i64 v54))] ⟨rfl, rfl, rfl, rfl, rfl, rfl, rfl, rfl, rfl, trivial⟩ ?_
            refine at_then ?_
            refine at_block ?_
            refine at_seq ?_
            refine at_region [0, 1] rfl ?_
            iterate 2 refine at_s T rfl ?_
            refine at_end ?_
            refine at_sub [(0, (.int .i64 v1)), (1, (.int .i64 v2)), (2, (.slice a_l (List.length l) n_l)), (7, (.pointer (some ⟨b1, 0, none⟩))), (8, (.int .i64 x25)), (9, (.map (some a19))), (10, (.int .i64 x27)), (11, (.pointer (some ⟨b27, 0, none⟩))), (52, (.int .i64 v54)), (73, (.bool (v54 == 5)))] ⟨rfl, rfl, rfl, rfl, rfl, rfl, rfl, rfl, rfl, rfl, trivial⟩ ?_
            refine at_then ?_
            refine at_cond rfl (fun c13 => ?_) (fun c13 => ?_)
            · replace Z11 := if_t c13 Z11
              refine at_seq ?_
              refine at_region [0, 1, 2, 3, 4, 5, 6] rfl ?_
              iterate 2 refine at_s T rfl ?_
              refine at_v rfl (g_load T rfl rfl rfl rfl (in_var (j := 8) rfl rfl)) ?_
              refine at_s T rfl ?_
              refine at_v rfl (g_load T rfl rfl rfl rfl (in_var (j := 8) rfl rfl)) ?_
              obtain ⟨v55, V14, Z11⟩ := bind_e Z11
              refine at_cons (at_cR (As := [[(b1, Obj.cells #[(.int .i64 x16), (.int .i64 x17), (.int .i64 x18), (.pointer (some ⟨b14, 0, none⟩)), (.pointer (some ⟨b17, 0, none⟩))] 92 (0, 0))], [(b14, Obj.cells #[(.int .i64 x19), (.int .i64 x20), (.map (some a15)), (.slice a16 (List.length x22) n16)] 102 (0, 0))], H15, H16, [(b17, Obj.cells #[(.slice a18 (List.length x23) n18), (.int .i64 x24)] 104 (0, 0))], H18]) (R := [F, H19, [(b27, Obj.cells #[(.int .i64 v41.Kind), (.int .i64 v41.A), (.int .i64 v41.B)] 57 (0, 0))]]) (crowd_Crowd_Retarget.R b1 v55) [] [1, 1, 1, 1, 1, 1] rfl rfl rfl rfl has31 rfl rfl (crowd_Crowd_Retarget.c (crowd_Crowd.mk x16 x17 x18 (units_Units.mk x19 x20 x21 x22) (floor_Floor.mk x23 x24)) v41.A v41.B v55 _ V14 s15 s16 s18) ?_)
              rintro _ _ ⟨b34, a35, H35, a36, n36, H36, b37, a38, n38, H38, s35, s36, s38, rfl, rfl⟩
              refine at_s T rfl ?_
              refine at_end ?_
              refine at_sub [(0, (.int .i64 v1)), (1, (.int .i64 v2)), (2, (.slice a_l (List.length l) n_l)), (7, (.pointer (some ⟨b1, 0, none⟩))), (8, (.int .i64 x25)), (9, (.map (some a19))), (10, (.int .i64 x27)), (11, (.pointer (some ⟨b27, 0, none⟩))), (12, (.int .i64 v55.1))] ⟨rfl, rfl, rfl, rfl, rfl, rfl, rfl, rfl, rfl, trivial⟩ ?_
              refine at_then ?_
              refine at_seq ?_
              refine at_seq ?_
              refine at_region [0, 1, 2, 3, 4, 5, 6, 7] rfl ?_
              iterate 4 refine at_s T rfl ?_
              refine at_v rfl (g_load T rfl rfl rfl rfl (in_var (j := 2) rfl rfl)) ?_
              refine at_v rfl (g_look T (Ky.int .i64 u3) (fun x : Int => Value.int .i64 x) rfl rfl rfl rfl rfl (mown_of s19 (j := 1) rfl)) ?_
              iterate 2 refine at_s T rfl ?_
              refine at_end ?_
              refine at_sub [(0, (.int .i64 v1)), (1, (.int .i64 v2)), (2, (.slice a_l (List.length l) n_l)), (7, (.pointer (some ⟨b1, 0, none⟩))), (8, (.int .i64 x25)), (9, (.map (some a19))), (10, (.int .i64 x27)), (11, (.pointer (some ⟨b27, 0, none⟩))), (12, (.int .i64 v55.1)), (88, (.bool (!((v55.1 == 12) == ((mval x26 v41.A) == 0)))))] ⟨rfl, rfl, rfl, rfl, rfl, rfl, rfl, rfl, rfl, rfl, trivial⟩ ?_
              refine at_then ?_
              refine at_cond rfl (fun c15 => ?_) (fun c15 => ?_)
              · replace Z11 := if_t c15 Z11
                refine at_seq ?_
                refine at_region [0] rfl ?_
                refine at_s T rfl ?_
                refine at_end ?_
                refine at_to [(6, (.bool false))] [0] [F] ⟨rfl, trivial⟩ rfl ?_
                refine at_then ?_
                refine at_ret ?_
                refine at_rt ?_
                refine at_rb ?_
                refine at_rt ?_
                refine at_rb ?_
                refine at_rt ?_
                refine at_rt ?_
                refine at_rb ?_
                refine at_rt ?_
                obtain rfl := Option.some.inj Z11
                obtain rfl := Option.some.inj (show some (Sum.inl false) = some z40 from Z8)
                obtain rfl := Option.some.inj (show some false = some r from Z5)
                exact at_post (T := T) rfl (.tmp rfl .nil) (fun w o => ⟨(), rfl, own_to [0] rfl o⟩)
              · replace Z11 := if_f (bf c15) Z11
                refine at_skip ?_
                refine at_then ?_
                refine at_seq ?_
                refine at_region [0, 1] rfl ?_
                iterate 2 refine at_s T rfl ?_
                refine at_end ?_
                refine at_sub [(0, (.int .i64 v1)), (1, (.int .i64 v2)), (2, (.slice a_l (List.length l) n_l)), (7, (.pointer (some ⟨b1, 0, none⟩))), (8, (.int .i64 x25)), (9, (.map (some a19))), (10, (.int .i64 x27)), (11, (.pointer (some ⟨b27, 0, none⟩))), (90, (.bool (v55.1 == 13)))] ⟨rfl, rfl, rfl, rfl, rfl, rfl, rfl, rfl, rfl, trivial⟩ ?_
                refine at_then ?_
                refine at_cond rfl (fun c16 => ?_) (fun c16 => ?_)
                · replace Z11 := if_t c16 Z11
                  refine at_region [0, 1, 2, 3] rfl ?_
                  iterate 2 refine at_s T rfl ?_
                  refine at_v rfl (g_load T rfl rfl rfl rfl (in_var (j := 2) rfl rfl)) ?_
                  refine at_cons (at_mu (g := 1) (m := x26) (k := v41.A) (v := 0) T (Ky.int .i64 u3) (fun x : Int => Value.int .i64 x) rfl rfl rfl rfl rfl rfl rfl s19 (fun H39 s39 => ?_))
                  refine at_end ?_
                  refine at_to [(0, (.int .i64 v1)), (1, (.int .i64 v2)), (2, (.slice a_l (List.length l) n_l)), (7, (.pointer (some ⟨b1, 0, none⟩))), (8, (.int .i64 x25)), (9, (.map (some a19))), (10, (.int .i64 x27))] [0, 0, 1, 1, 1, 1, 1, 1] [F, H39, [(b1, Obj.cells #[(.int .i64 v55.2.w), (.int .i64 v55.2.h), (.int .i64 v55.2.most), (.pointer (some ⟨b34, 0, none⟩)), (.pointer (some ⟨b37, 0, none⟩))] 92 (0, 0))], [(b34, Obj.cells #[(.int .i64 v55.2.units.most), (.int .i64 v55.2.units.next), (.map (some a35)), (.slice a36 (List.length v55.2.units.order) n36)] 102 (0, 0))], H35, H36, [(b37, Obj.cells #[(.slice a38 (List.length v55.2.floor.words) n38), (.int .i64 v55.2.floor.count)] 104 (0, 0))], H38] ⟨rfl, rfl, rfl, rfl, rfl, rfl, rfl, trivial⟩ rfl ?_
                  refine at_nb ?_
                  refine at_then ?_
                  obtain rfl := Option.some.inj Z11
                  exact at_mid (v55.2.w, v55.2.h, v55.2.most, v55.2.units.most, v55.2.units.next, v55.2.units.live, v55.2.units.order, v55.2.floor.words, v55.2.floor.count, x25, (mset x26 v41.A 0), b34, a35, H35, a36, n36, H36, b37, a38, n38, H38, a19, H39) [0, 1, 1, 1, 1, 1, 1, 0] ⟨rfl, s35, s36, s38, s39⟩ ⟨rfl, rfl, rfl, rfl, rfl, rfl, rfl, trivial⟩ rfl
                · replace Z11 := if_f (bf c16) Z11
                  refine at_skip ?_
                  refine at_nb ?_
                  refine at_then ?_
                  obtain rfl := Option.some.inj Z11
                  exact at_mid (v55.2.w, v55.2.h, v55.2.most, v55.2.units.most, v55.2.units.next, v55.2.units.live, v55.2.units.order, v55.2.floor.words, v55.2.floor.count, x25, x26, b34, a35, H35, a36, n36, H36, b37, a38, n38, H38, a19, H19) [0, 2, 2, 2, 2, 2, 2, 0] ⟨rfl, s35, s36, s38, s19⟩ ⟨rfl, rfl, rfl, rfl, rfl, rfl, rfl, trivial⟩ rfl
            · replace Z11 := if_f (bf c13) Z11
              refine at_seq ?_
              refine at_region [0, 1] rfl ?_
              iterate 2 refine at_s T rfl ?_
              refine at_end ?_
              refine at_sub [(0, (.int .i64 v1)), (1, (.int .i64 v2)), (2, (.slice a_l (List.length l) n_l)), (7, (.pointer (some ⟨b1, 0, none⟩))), (8, (.int .i64 x25)), (9, (.map (some a19))), (10, (.int .i64 x27)), (11, (.pointer (some ⟨b27, 0, none⟩))), (52, (.int .i64 v54)), (94, (.bool (v54 == 6)))] ⟨rfl, rfl, rfl, rfl, rfl, rfl, rfl, rfl, rfl, rfl, trivial⟩ ?_
              refine at_then ?_
              refine at_cond rfl (fun c17 => ?_) (fun c17 => ?_)
              · replace Z11 := if_t c17 Z11
                refine at_seq ?_
                refine at_seq ?_
                refine at_region_m [[], [], [1], [0, 1, 2], [0, 1, 2, 3], [], [], [6], [5, 6, 7], [5, 6, 7, 8], [0, 1, 2, 3, 4, 5, 6, 7, 8, 9]] [] [F, H19, [(b27, Obj.cells #[(.int .i64 v41.Kind), (.int .i64 v41.A), (.int .i64 v41.B)] 57 (0, 0))]] mix (by kernel_rfl) (by repeat first | exact pf_body | refine pf_then ?_ | refine pf_block ?_) (fun hg pf => ?_)
                refine atm_s T 0 hg pf (by kernel_rfl) (still_o [0, 6, 6] rfl) rfl ?_
                refine atm_s T 1 hg pf (by kernel_rfl) (still_o [0, 6, 6] rfl) rfl ?_
                refine atm_v 2 hg pf (by kernel_rfl) (still_o [0, 6, 6] rfl) rfl rfl (g_load T rfl rfl rfl rfl (in_var (j := 2) rfl rfl)) ?_
                refine atm_s T 5 hg pf (by kernel_rfl) (still_o [0, 6, 6] rfl) rfl ?_
                refine atm_s T 6 hg pf (by kernel_rfl) (still_o [0, 6, 6] rfl) rfl ?_
                refine atm_v 7 hg pf (by kernel_rfl) (still_o [0, 6, 6] rfl) rfl rfl (g_load T rfl rfl rfl rfl (in_var (j := 2) rfl rfl)) ?_
                refine atm_v 8 hg pf (by kernel_rfl) (still_o [0, 6, 6] rfl) rfl rfl (g_look T (Ky.int .i64 u3) (fun x : Int => Value.int .i64 x) rfl rfl rfl rfl rfl (mown_of s19 (j := 1) rfl)) ?_
                refine atm_s T 9 hg pf (by kernel_rfl) (still_o [0, 6, 6] rfl) rfl ?_
                refine atm_one 3 (by kernel_rfl) ?_
                obtain ⟨v56, V18, Z11⟩ := bind_e Z11
                refine at_cR (As := [[(b1, Obj.cells #[(.int .i64 x16), (.int .i64 x17), (.int .i64 x18), (.pointer (some ⟨b14, 0, none⟩)), (.pointer (some ⟨b17, 0, none⟩))] 92 (0, 0))], [(b14, Obj.cells #[(.int .i64 x19), (.int .i64 x20), (.map (some a15)), (.slice a16 (List.length x22) n16)] 102 (0, 0))], H15, H16, [(b17, Obj.cells #[(.slice a18 (List.length x23) n18), (.int .i64 x24)] 104 (0, 0))], H18]) (R := [F, H19, [(b27, Obj.cells #[(.int .i64 v41.Kind), (.int .i64 v41.A), (.int .i64 v41.B)] 57 (0, 0))]]) (crowd_Crowd_Despawn.R b1 v56) [] [1, 1, 1, 1, 1, 1] rfl rfl rfl rfl has32 rfl rfl (crowd_Crowd_Despawn.c (crowd_Crowd.mk x16 x17 x18 (units_Units.mk x19 x20 x21 x22) (floor_Floor.mk x23 x24)) v41.A v56 _ V18 s15 s16 s18) ?_
                rintro _ _ ⟨b40, a41, H41, a42, n42, H42, b43, a44, n44, H44, s41, s42, s44, rfl, rfl⟩
                refine atm_next (still_o [0, 0, 0] rfl) ?_
                refine atm_s T 4 hg pf (by kernel_rfl) (still_o [0, 0, 0] rfl) rfl ?_
                refine atm_s T 10 hg pf (by kernel_rfl) (still_o [0, 0, 0] rfl) rfl ?_
                refine atm_end (by kernel_rfl) ?_
                refine at_sub [(0, (.int .i64 v1)), (1, (.int .i64 v2)), (2, (.slice a_l (List.length l) n_l)), (7, (.pointer (some ⟨b1, 0, none⟩))), (8, (.int .i64 x25)), (9, (.map (some a19))), (10, (.int .i64 x27)), (11, (.pointer (some ⟨b27, 0, none⟩))), (106, (.bool (!((v56.1 == 0) == ((mval x26 v41.A) == 1)))))] ⟨rfl, rfl, rfl, rfl, rfl, rfl, rfl, rfl, rfl, trivial⟩ ?_
                refine at_then ?_
                refine at_cond rfl (fun c19 => ?_) (fun c19 => ?_)
                · replace Z11 := if_t c19 Z11
                  refine at_seq ?_
                  refine at_region [0] rfl ?_
                  refine at_s T rfl ?_
                  refine at_end ?_
                  refine at_to [(6, (.bool false))] [0] [F] ⟨rfl, trivial⟩ rfl ?_
                  refine at_then ?_
                  refine at_ret ?_
                  refine at_rt ?_
                  refine at_rb ?_
                  refine at_rt ?_
                  refine at_rb ?_
                  refine at_rt ?_
                  refine at_rt ?_
                  refine at_rb ?_
                  refine at_rt ?_
                  obtain rfl := Option.some.inj Z11
                  obtain rfl := Option.some.inj (show some (Sum.inl false) = some z40 from Z8)
                  obtain rfl := Option.some.inj (show some false = some r from Z5)
                  exact at_post (T := T) rfl (.tmp rfl .nil) (fun w o => ⟨(), rfl, own_to [0] rfl o⟩)
                · replace Z11 := if_f (bf c19) Z11
                  refine at_skip ?_
                  refine at_then ?_
                  refine at_region [0, 1, 2, 3] rfl ?_
                  iterate 2 refine at_s T rfl ?_
                  refine at_v rfl (g_load T rfl rfl rfl rfl (in_var (j := 2) rfl rfl)) ?_
                  refine at_cons (at_mu (g := 1) (m := x26) (k := v41.A) (v := 0) T (Ky.int .i64 u3) (fun x : Int => Value.int .i64 x) rfl rfl rfl rfl rfl rfl rfl s19 (fun H45 s45 => ?_))
                  refine at_end ?_
                  refine at_to [(0, (.int .i64 v1)), (1, (.int .i64 v2)), (2, (.slice a_l (List.length l) n_l)), (7, (.pointer (some ⟨b1, 0, none⟩))), (8, (.int .i64 x25)), (9, (.map (some a19))), (10, (.int .i64 x27))] [0, 0, 1, 1, 1, 1, 1, 1] [F, H45, [(b1, Obj.cells #[(.int .i64 v56.2.w), (.int .i64 v56.2.h), (.int .i64 v56.2.most), (.pointer (some ⟨b40, 0, none⟩)), (.pointer (some ⟨b43, 0, none⟩))] 92 (0, 0))], [(b40, Obj.cells #[(.int .i64 v56.2.units.most), (.int .i64 v56.2.units.next), (.map (some a41)), (.slice a42 (List.length v56.2.units.order) n42)] 102 (0, 0))], H41, H42, [(b43, Obj.cells #[(.slice a44 (List.length v56.2.floor.words) n44), (.int .i64 v56.2.floor.count)] 104 (0, 0))], H44] ⟨rfl, rfl, rfl, rfl, rfl, rfl, rfl, trivial⟩ rfl ?_
                  refine at_nb ?_
                  refine at_then ?_
                  obtain rfl := Option.some.inj Z11
                  exact at_mid (v56.2.w, v56.2.h, v56.2.most, v56.2.units.most, v56.2.units.next, v56.2.units.live, v56.2.units.order, v56.2.floor.words, v56.2.floor.count, x25, (mset x26 v41.A 0), b40, a41, H41, a42, n42, H42, b43, a44, n44, H44, a19, H45) [0, 1, 1, 1, 1, 1, 1, 0] ⟨rfl, s41, s42, s44, s45⟩ ⟨rfl, rfl, rfl, rfl, rfl, rfl, rfl, trivial⟩ rfl
              · replace Z11 := if_f (bf c17) Z11
                obtain ⟨z58, Z20, Z11⟩ := bind_e Z11
                refine at_seq_mid (σ := Bool) (fun x57 => x57 = z58) (fun x57 => [(0, (.int .i64 v1)), (1, (.int .i64 v2)), (2, (.slice a_l (List.length l) n_l)), (7, (.pointer (some ⟨b1, 0, none⟩))), (8, (.int .i64 x25)), (9, (.map (some a19))), (10, (.int .i64 x27)), (11, (.pointer (some ⟨b27, 0, none⟩))), (110, (.bool x57))]) (fun x57 => [F, [(b1, Obj.cells #[(.int .i64 x16), (.int .i64 x17), (.int .i64 x18), (.pointer (some ⟨b14, 0, none⟩)), (.pointer (some ⟨b17, 0, none⟩))] 92 (0, 0))], [(b14, Obj.cells #[(.int .i64 x19), (.int .i64 x20), (.map (some a15)), (.slice a16 (List.length x22) n16)] 102 (0, 0))], H15, H16, [(b17, Obj.cells #[(.slice a18 (List.length x23) n18), (.int .i64 x24)] 104 (0, 0))], H18, H19, [(b27, Obj.cells #[(.int .i64 v41.Kind), (.int .i64 v41.A), (.int .i64 v41.B)] 57 (0, 0))]]) ?_ ?_
                · refine at_seq ?_
                  refine at_region [0, 1] rfl ?_
                  iterate 2 refine at_s T rfl ?_
                  refine at_end ?_
                  refine at_sub [(0, (.int .i64 v1)), (1, (.int .i64 v2)), (2, (.slice a_l (List.length l) n_l)), (7, (.pointer (some ⟨b1, 0, none⟩))), (8, (.int .i64 x25)), (9, (.map (some a19))), (10, (.int .i64 x27)), (11, (.pointer (some ⟨b27, 0, none⟩))), (52, (.int .i64 v54)), (110, (.bool (v54 == 7)))] ⟨rfl, rfl, rfl, rfl, rfl, rfl, rfl, rfl, rfl, rfl, trivial⟩ ?_
                  refine at_then ?_
                  refine at_cond rfl (fun c21 => ?_) (fun c21 => ?_)
                  · replace Z20 := if_t c21 Z20
                    refine at_skip ?_
                    refine at_then ?_
                    obtain rfl := Option.some.inj Z20
                    exact at_mid (v54 == 7) [0, 0, 0, 0, 0, 0, 0, 0, 0] rfl ⟨rfl, rfl, rfl, rfl, rfl, rfl, rfl, rfl, rfl, trivial⟩ rfl
                  · replace Z20 := if_f (bf c21) Z20
                    refine at_seq ?_
                    refine at_region [0, 1] rfl ?_
                    iterate 2 refine at_s T rfl ?_
                    refine at_end ?_
                    refine at_sub [(0, (.int .i64 v1)), (1, (.int .i64 v2)), (2, (.slice a_l (List.length l) n_l)), (7, (.pointer (some ⟨b1, 0, none⟩))), (8, (.int .i64 x25)), (9, (.map (some a19))), (10, (.int .i64 x27)), (11, (.pointer (some ⟨b27, 0, none⟩))), (52, (.int .i64 v54)), (110, (.bool (v54 == 8)))] ⟨rfl, rfl, rfl, rfl, rfl, rfl, rfl, rfl, rfl, rfl, trivial⟩ ?_
                    refine at_then ?_
                    refine at_cond rfl (fun c22 => ?_) (fun c22 => ?_)
                    · replace Z20 := if_t c22 Z20
                      refine at_skip ?_
                      refine at_then ?_
                      obtain rfl := Option.some.inj Z20
                      exact at_mid (v54 == 8) [0, 0, 0, 0, 0, 0, 0, 0, 0] rfl ⟨rfl, rfl, rfl, rfl, rfl, rfl, rfl, rfl, rfl, trivial⟩ rfl
                    · replace Z20 := if_f (bf c22) Z20
                      refine at_region [0, 1] rfl ?_
                      iterate 2 refine at_s T rfl ?_
                      refine at_end ?_
                      refine at_sub [(0, (.int .i64 v1)), (1, (.int .i64 v2)), (2, (.slice a_l (List.length l) n_l)), (7, (.pointer (some ⟨b1, 0, none⟩))), (8, (.int .i64 x25)), (9, (.map (some a19))), (10, (.int .i64 x27)), (11, (.pointer (some ⟨b27, 0, none⟩))), (110, (.bool (v54 == 9)))] ⟨rfl, rfl, rfl, rfl, rfl, rfl, rfl, rfl, rfl, trivial⟩ ?_
                      refine at_then ?_
                      obtain rfl := Option.some.inj Z20
                      exact at_mid (v54 == 9) [0, 0, 0, 0, 0, 0, 0, 0, 0] rfl ⟨rfl, rfl, rfl, rfl, rfl, rfl, rfl, rfl, rfl, trivial⟩ rfl
                · rintro x57 rfl
                  refine at_cond rfl (fun c23 => ?_) (fun c23 => ?_)
                  · replace Z11 := if_t c23 Z11
                    refine at_seq ?_
                    refine at_region_m [[], [], [1], [1, 2], [], [4], [], [6], [1, 2, 3, 4, 5, 6, 7], [0, 1, 2, 3, 4, 5, 6, 7, 8], [0, 1, 2, 3, 4, 5, 6, 7, 8, 9], [0, 1, 2, 3, 4, 5, 6, 7, 8, 9, 10], [0, 1, 2, 3, 4, 5, 6, 7, 8, 9, 10], [0, 1, 2, 3, 4, 5, 6, 7, 8, 9, 10], [0, 1, 2, 3, 4, 5, 6, 7, 8, 9, 10, 11], [0, 1, 2, 3, 4, 5, 6, 7, 8, 9, 10, 11, 12, 14], [0, 1, 2, 3, 4, 5, 6, 7, 8, 9, 10, 11, 12, 13, 14, 15]] [9] [F, [(b1, Obj.cells #[(.int .i64 x16), (.int .i64 x17), (.int .i64 x18), (.pointer (some ⟨b14, 0, none⟩)), (.pointer (some ⟨b17, 0, none⟩))] 92 (0, 0))], [(b14, Obj.cells #[(.int .i64 x19), (.int .i64 x20), (.map (some a15)), (.slice a16 (List.length x22) n16)] 102 (0, 0))], H15, H16, [(b17, Obj.cells #[(.slice a18 (List.length x23) n18), (.int .i64 x24)] 104 (0, 0))], H18, H19, [(b27, Obj.cells #[(.int .i64 v41.Kind), (.int .i64 v41.A), (.int .i64 v41.B)] 57 (0, 0))]] mix (by kernel_rfl) (by repeat first | exact pf_body | refine pf_then ?_ | refine pf_block ?_) (fun hg pf => ?_)
                    refine atm_s T 0 hg pf (by kernel_rfl) (still_o [0, 0, 0, 0, 0, 0, 0, 0, 0] rfl) rfl ?_
                    refine atm_s T 1 hg pf (by kernel_rfl) (still_o [0, 0, 0, 0, 0, 0, 0, 0, 0] rfl) rfl ?_
                    refine atm_s T 4 hg pf (by kernel_rfl) (still_o [0, 0, 0, 0, 0, 0, 0, 0, 0] rfl) rfl ?_
                    refine atm_v 5 hg pf (by kernel_rfl) (still_o [0, 0, 0, 0, 0, 0, 0, 0, 0] rfl) rfl rfl (g_load T rfl rfl rfl rfl (in_var (j := 8) rfl rfl)) ?_
                    refine atm_s T 6 hg pf (by kernel_rfl) (still_o [0, 0, 0, 0, 0, 0, 0, 0, 0] rfl) rfl ?_
                    refine atm_v 7 hg pf (by kernel_rfl) (still_o [0, 0, 0, 0, 0, 0, 0, 0, 0] rfl) rfl rfl (g_load T rfl rfl rfl rfl (in_var (j := 8) rfl rfl)) ?_
                    refine atm_one 2 (by kernel_rfl) ?_
                    obtain ⟨v59, V24, Z11⟩ := bind_e Z11
                    refine at_cR (As := [[(b1, Obj.cells #[(.int .i64 x16), (.int .i64 x17), (.int .i64 x18), (.pointer (some ⟨b14, 0, none⟩)), (.pointer (some ⟨b17, 0, none⟩))] 92 (0, 0))], [(b14, Obj.cells #[(.int .i64 x19), (.int .i64 x20), (.map (some a15)), (.slice a16 (List.length x22) n16)] 102 (0, 0))], H15, H16, [(b17, Obj.cells #[(.slice a18 (List.length x23) n18), (.int .i64 x24)] 104 (0, 0))], H18]) (R := [F, H19, [(b27, Obj.cells #[(.int .i64 v41.Kind), (.int .i64 v41.A), (.int .i64 v41.B)] 57 (0, 0))]]) (crowd_Crowd_Units.R v59) [[(b1, Obj.cells #[(.int .i64 x16), (.int .i64 x17), (.int .i64 x18), (.pointer (some ⟨b14, 0, none⟩)), (.pointer (some ⟨b17, 0, none⟩))] 92 (0, 0))], [(b14, Obj.cells #[(.int .i64 x19), (.int .i64 x20), (.map (some a15)), (.slice a16 (List.length x22) n16)] 102 (0, 0))], H15, H16, [(b17, Obj.cells #[(.slice a18 (List.length x23) n18), (.int .i64 x24)] 104 (0, 0))], H18] [1, 1, 1, 1, 1, 1] rfl rfl rfl rfl has27 rfl rfl (crowd_Crowd_Units.c (crowd_Crowd.mk x16 x17 x18 (units_Units.mk x19 x20 x21 x22) (floor_Floor.mk x23 x24)) v59 _ V24 s15 s16 s18) ?_
                    rintro _ _ ⟨a46, n46, H46, s46, rfl, rfl⟩
                    refine atm_next (still_o [0, 3, 3, 3, 3, 3, 3, 0, 0] rfl) ?_
                    refine atm_s T 3 hg pf (by kernel_rfl) (still_o [0, 3, 3, 3, 3, 3, 3, 0, 0] rfl) rfl ?_
                    refine atm_one 8 (by kernel_rfl) ?_
                    obtain ⟨v60, V25, Z11⟩ := bind_e Z11
                    refine at_cR (law25_dirs.R v60) [] [] rfl rfl rfl rfl has34 rfl rfl (law25_dirs.c (List.length v59 : Int) v41.A v41.B v60 _ V25) ?_
                    rintro _ _ ⟨a47, n47, H47, s47, rfl, rfl⟩
                    refine atm_next (still_o [0, 3, 3, 3, 3, 3, 3, 0, 0] rfl) ?_
                    refine atm_one 9 (by kernel_rfl) ?_
                    obtain ⟨v61, V26, Z11⟩ := bind_e Z11
                    refine at_cR (As := [[(b1, Obj.cells #[(.int .i64 x16), (.int .i64 x17), (.int .i64 x18), (.pointer (some ⟨b14, 0, none⟩)), (.pointer (some ⟨b17, 0, none⟩))] 92 (0, 0))], [(b14, Obj.cells #[(.int .i64 x19), (.int .i64 x20), (.map (some a15)), (.slice a16 (List.length x22) n16)] 102 (0, 0))], H15, H16, [(b17, Obj.cells #[(.slice a18 (List.length x23) n18), (.int .i64 x24)] 104 (0, 0))], H18]) (R := [F, H19, [(b27, Obj.cells #[(.int .i64 v41.Kind), (.int .i64 v41.A), (.int .i64 v41.B)] 57 (0, 0))], H46, H47]) (crowd_Crowd_Tick.R b1 v61) [] [4, 4, 4, 4, 4, 4] rfl rfl rfl rfl has33 rfl rfl (crowd_Crowd_Tick.c (crowd_Crowd.mk x16 x17 x18 (units_Units.mk x19 x20 x21 x22) (floor_Floor.mk x23 x24)) v60 v61 _ V26 s15 s16 s18 (own_of s47 (j := 4) rfl) s47.cap_le) ?_
                    rintro _ _ ⟨a48, n48, H48, a49, n49, H49, b50, a51, H51, a52, n52, H52, b53, a54, n54, H54, s48, s49, s51, s52, s54, rfl, rfl⟩
                    refine atm_next (still_l (by kernel_rfl)) ?_
                    refine atm_s T 10 hg pf (by kernel_rfl) (still_l (by kernel_rfl)) rfl ?_
                    refine atm_s T 11 hg pf (by kernel_rfl) (still_l (by kernel_rfl)) rfl ?_
                    refine atm_s T 12 hg pf (by kernel_rfl) (still_l (by kernel_rfl)) rfl ?_
                    refine atm_s T 13 hg pf (by kernel_rfl) (still_l (by kernel_rfl)) rfl ?_
                    refine atm_s T 14 hg pf (by kernel_rfl) (still_l (by kernel_rfl)) rfl ?_
                    refine atm_s T 15 hg pf (by kernel_rfl) (still_l (by kernel_rfl)) rfl ?_
                    refine atm_s T 16 hg pf (by kernel_rfl) (still_l (by kernel_rfl)) rfl ?_
                    refine atm_end (by kernel_rfl) ?_
                    refine at_to [(0, (.int .i64 v1)), (1, (.int .i64 v2)), (2, (.slice a_l (List.length l) n_l)), (7, (.pointer (some ⟨b1, 0, none⟩))), (8, (.int .i64 x25)), (9, (.map (some a19))), (10, (.int .i64 x27)), (13, (.slice a48 (List.length v61.1) n48)), (14, (.slice a49 (List.length v61.2.1) n49)), (15, (.int .i64 v61.2.2.1))] [0, 0, 3, 3, 3, 3, 3, 3, 3, 3] [F, H19, H48, H49, [(b1, Obj.cells #[(.int .i64 v61.2.2.2.w), (.int .i64 v61.2.2.2.h), (.int .i64 v61.2.2.2.most), (.pointer (some ⟨b50, 0, none⟩)), (.pointer (some ⟨b53, 0, none⟩))] 92 (0, 0))], [(b50, Obj.cells #[(.int .i64 v61.2.2.2.units.most), (.int .i64 v61.2.2.2.units.next), (.map (some a51)), (.slice a52 (List.length v61.2.2.2.units.order) n52)] 102 (0, 0))], H51, H52, [(b53, Obj.cells #[(.slice a54 (List.length v61.2.2.2.floor.words) n54), (.int .i64 v61.2.2.2.floor.count)] 104 (0, 0))], H54] ⟨rfl, rfl, rfl, rfl, rfl, rfl, rfl, rfl, rfl, rfl, trivial⟩ rfl ?_
                    refine at_then ?_
                    refine at_seq ?_
                    refine at_seq ?_
                    refine at_region [0, 1] rfl ?_
                    iterate 2 refine at_s T rfl ?_
                    refine at_end ?_
                    refine at_sub [(0, (.int .i64 v1)), (1, (.int .i64 v2)), (2, (.slice a_l (List.length l) n_l)), (7, (.pointer (some ⟨b1, 0, none⟩))), (8, (.int .i64 x25)), (9, (.map (some a19))), (10, (.int .i64 x27)), (13, (.slice a48 (List.length v61.1) n48)), (14, (.slice a49 (List.length v61.2.1) n49)), (129, (.bool (v61.2.2.1 != 0)))] ⟨rfl, rfl, rfl, rfl, rfl, rfl, rfl, rfl, rfl, rfl, trivial⟩ ?_
                    refine at_then ?_
                    refine at_cond rfl (fun c27 => ?_) (fun c27 => ?_)
                    · replace Z11 := if_t c27 Z11
                      refine at_seq ?_
                      refine at_region [0] rfl ?_
                      refine at_s T rfl ?_
                      refine at_end ?_
                      refine at_to [(6, (.bool false))] [0] [F] ⟨rfl, trivial⟩ rfl ?_
                      refine at_then ?_
                      refine at_ret ?_
                      refine at_rt ?_
                      refine at_rb ?_
                      refine at_rt ?_
                      refine at_rb ?_
                      refine at_rt ?_
                      refine at_rt ?_
                      refine at_rb ?_
                      refine at_rt ?_
                      obtain rfl := Option.some.inj Z11
                      obtain rfl := Option.some.inj (show some (Sum.inl false) = some z40 from Z8)
                      obtain rfl := Option.some.inj (show some false = some r from Z5)
                      exact at_post (T := T) rfl (.tmp rfl .nil) (fun w o => ⟨(), rfl, own_to [0] rfl o⟩)
                    · replace Z11 := if_f (bf c27) Z11
                      refine at_skip ?_
                      refine at_then ?_
                      refine at_seq ?_
                      refine at_seq ?_
                      refine at_region [0] rfl ?_
                      refine at_s T rfl ?_
                      refine at_end ?_
                      refine at_sub [(0, (.int .i64 v1)), (1, (.int .i64 v2)), (2, (.slice a_l (List.length l) n_l)), (7, (.pointer (some ⟨b1, 0, none⟩))), (8, (.int .i64 x25)), (9, (.map (some a19))), (10, (.int .i64 x27)), (13, (.slice a48 (List.length v61.1) n48)), (14, (.slice a49 (List.length v61.2.1) n49)), (16, (.int .i64 0))] ⟨rfl, rfl, rfl, rfl, rfl, rfl, rfl, rfl, rfl, rfl, trivial⟩ ?_
                      refine at_then ?_
                      refine at_block ?_
                      refine at_loopL (σ := Nat × Int) (fun ⟨k64, x63⟩ => law25_CrowdIds.l1 k64 w h x25 x26 v61 x63 = some z53) (fun ⟨k64, x63⟩ => [(0, (.int .i64 v1)), (1, (.int .i64 v2)), (2, (.slice a_l (List.length l) n_l)), (7, (.pointer (some ⟨b1, 0, none⟩))), (8, (.int .i64 x25)), (9, (.map (some a19))), (10, (.int .i64 x27)), (13, (.slice a48 (List.length v61.1) n48)), (14, (.slice a49 (List.length v61.2.1) n49)), (16, (.int .i64 x63))]) (fun ⟨k64, x63⟩ => [F, [(b1, Obj.cells #[(.int .i64 v61.2.2.2.w), (.int .i64 v61.2.2.2.h), (.int .i64 v61.2.2.2.most), (.pointer (some ⟨b50, 0, none⟩)), (.pointer (some ⟨b53, 0, none⟩))] 92 (0, 0))], [(b50, Obj.cells #[(.int .i64 v61.2.2.2.units.most), (.int .i64 v61.2.2.2.units.next), (.map (some a51)), (.slice a52 (List.length v61.2.2.2.units.order) n52)] 102 (0, 0))], H51, H52, [(b53, Obj.cells #[(.slice a54 (List.length v61.2.2.2.floor.words) n54), (.int .i64 v61.2.2.2.floor.count)] 104 (0, 0))], H54, H19, H48, H49]) (fun s => s.1) (fuel, 0) [0, 3, 3, 3, 3, 3, 3, 0, 0, 0] Z11 ⟨rfl, rfl, rfl, rfl, rfl, rfl, rfl, rfl, rfl, rfl, trivial⟩ rfl ?_
                      rintro ⟨k64, x63⟩ Z28
                      replace Z28 : law25_CrowdIds.l1 k64 w h x25 x26 v61 x63 = some z53 := Z28
                      rcases k64 with _ | k64
                      · rw [law25_CrowdIds.l1] at Z28; cases Z28
                      · rw [law25_CrowdIds.l1] at Z28
                        refine at_seq ?_
                        refine at_seq ?_
                        refine at_region [0, 1, 2, 3] rfl ?_
                        iterate 4 refine at_s T rfl ?_
                        refine at_end ?_
                        refine at_sub [(0, (.int .i64 v1)), (1, (.int .i64 v2)), (2, (.slice a_l (List.length l) n_l)), (7, (.pointer (some ⟨b1, 0, none⟩))), (8, (.int .i64 x25)), (9, (.map (some a19))), (10, (.int .i64 x27)), (13, (.slice a48 (List.length v61.1) n48)), (14, (.slice a49 (List.length v61.2.1) n49)), (16, (.int .i64 x63)), (133, (.bool (decide (x63 < (List.length v61.1 : Int)))))] ⟨rfl, rfl, rfl, rfl, rfl, rfl, rfl, rfl, rfl, rfl, rfl, trivial⟩ ?_
                        refine at_then ?_
                        refine at_cond rfl (fun c29 => ?_) (fun c29 => ?_)
                        · replace Z28 := if_t (of_decide_eq_true c29) Z28
                          refine at_skip ?_
                          refine at_then ?_
                          refine at_seq ?_
                          refine at_block ?_
                          refine at_seq ?_
                          refine at_region [0, 1, 2, 3, 4, 5, 6, 7] rfl ?_
                          iterate 3 refine at_s T rfl ?_
                          obtain ⟨c30, Z28⟩ := chk_e Z28
                          obtain ⟨q55, o55, e55⟩ := s48.r.addr c30.1 c30.2
                          refine at_v rfl (g_index T rfl rfl rfl rfl rfl e55 c30.1 c30.2) ?_
                          refine at_s T rfl ?_
                          refine at_v rfl (g_load T rfl rfl rfl rfl (in_elem1 (k := k_api_Move) (own_of s48 (j := 8) rfl) e55 c30 0 rfl)) ?_
                          refine at_v rfl (g_look T (Ky.int .i64 u3) (fun x : Int => Value.int .i64 x) rfl rfl rfl rfl rfl (mown_of s19 (j := 7) rfl)) ?_
                          refine at_s T rfl ?_
                          refine at_end ?_
                          refine at_sub [(0, (.int .i64 v1)), (1, (.int .i64 v2)), (2, (.slice a_l (List.length l) n_l)), (7, (.pointer (some ⟨b1, 0, none⟩))), (8, (.int .i64 x25)), (9, (.map (some a19))), (10, (.int .i64 x27)), (13, (.slice a48 (List.length v61.1) n48)), (14, (.slice a49 (List.length v61.2.1) n49)), (16, (.int .i64 x63)), (143, (.bool ((mval x26 ((rd v61.1 x63).Id)) != 1)))] ⟨rfl, rfl, rfl, rfl, rfl, rfl, rfl, rfl, rfl, rfl, rfl, trivial⟩ ?_
                          refine at_then ?_
                          refine at_cond rfl (fun c31 => ?_) (fun c31 => ?_)
                          · replace Z28 := if_t c31 Z28
                            refine at_seq ?_
                            refine at_region [0] rfl ?_
                            refine at_s T rfl ?_
                            refine at_end ?_
                            refine at_to [(6, (.bool false))] [0] [F] ⟨rfl, trivial⟩ rfl ?_
                            refine at_then ?_
                            refine at_ret ?_
                            refine at_rb ?_
                            refine at_rt ?_
                            refine at_rt ?_
                            refine at_rb ?_
                            refine at_rt ?_
                            refine at_rb ?_
                            refine at_rt ?_
                            refine at_rb ?_
                            refine at_rt ?_
                            refine at_rt ?_
                            refine at_rb ?_
                            refine at_rt ?_
                            obtain rfl := Option.some.inj Z28
                            obtain rfl := Option.some.inj (show some (Sum.inl false) = some z40 from Z8)
                            obtain rfl := Option.some.inj (show some false = some r from Z5)
                            exact at_post (T := T) rfl (.tmp rfl .nil) (fun w o => ⟨(), rfl, own_to [0] rfl o⟩)
                          · replace Z28 := if_f (bf c31) Z28
                            refine at_skip ?_
                            refine at_nb ?_
                            refine at_then ?_
                            refine at_region [0, 1, 2] rfl ?_
                            iterate 3 refine at_s T rfl ?_
                            refine at_end ?_
                            refine at_sub [(0, (.int .i64 v1)), (1, (.int .i64 v2)), (2, (.slice a_l (List.length l) n_l)), (7, (.pointer (some ⟨b1, 0, none⟩))), (8, (.int .i64 x25)), (9, (.map (some a19))), (10, (.int .i64 x27)), (13, (.slice a48 (List.length v61.1) n48)), (14, (.slice a49 (List.length v61.2.1) n49)), (16, (.int .i64 (w64 (x63 + 1))))] ⟨rfl, rfl, rfl, rfl, rfl, rfl, rfl, rfl, rfl, rfl, trivial⟩ ?_
                            refine at_then ?_
                            exact at_roundL (k64, (w64 (x63 + 1))) [0, 0, 0, 0, 0, 0, 0, 0, 0, 0] Z28 (Nat.lt_succ_self _) ⟨rfl, rfl, rfl, rfl, rfl, rfl, rfl, rfl, rfl, rfl, trivial⟩ rfl
                        · replace Z28 := if_f (of_decide_eq_false c29) Z28
                          refine at_exit ?_
                          refine at_xt ?_
                          refine at_xt ?_
                          refine at_xb ?_
                          refine at_then ?_
                          refine at_seq ?_
                          refine at_region [0] rfl ?_
                          refine at_s T rfl ?_
                          refine at_end ?_
                          refine at_to [(0, (.int .i64 v1)), (1, (.int .i64 v2)), (2, (.slice a_l (List.length l) n_l)), (7, (.pointer (some ⟨b1, 0, none⟩))), (8, (.int .i64 x25)), (9, (.map (some a19))), (10, (.int .i64 x27)), (14, (.slice a49 (List.length v61.2.1) n49)), (17, (.int .i64 0))] [0, 0, 0, 0, 0, 0, 0, 0, 1] [F, [(b1, Obj.cells #[(.int .i64 v61.2.2.2.w), (.int .i64 v61.2.2.2.h), (.int .i64 v61.2.2.2.most), (.pointer (some ⟨b50, 0, none⟩)), (.pointer (some ⟨b53, 0, none⟩))] 92 (0, 0))], [(b50, Obj.cells #[(.int .i64 v61.2.2.2.units.most), (.int .i64 v61.2.2.2.units.next), (.map (some a51)), (.slice a52 (List.length v61.2.2.2.units.order) n52)] 102 (0, 0))], H51, H52, [(b53, Obj.cells #[(.slice a54 (List.length v61.2.2.2.floor.words) n54), (.int .i64 v61.2.2.2.floor.count)] 104 (0, 0))], H54, H19, H49] ⟨rfl, rfl, rfl, rfl, rfl, rfl, rfl, rfl, rfl, trivial⟩ rfl ?_
                          refine at_then ?_
                          refine at_block ?_
                          refine at_loopL (σ := Nat × (List (Int × Int)) × Int × Nat × Hp) (fun ⟨k69, x67, x68, a57, H57⟩ => law25_CrowdIds.l2 k69 w h x25 v61 x67 x68 = some z53 ∧ MapO (Ky.int .i64 u3) (fun x : Int => Value.int .i64 x) x67 a57 H57) (fun ⟨k69, x67, x68, a57, H57⟩ => [(0, (.int .i64 v1)), (1, (.int .i64 v2)), (2, (.slice a_l (List.length l) n_l)), (7, (.pointer (some ⟨b1, 0, none⟩))), (8, (.int .i64 x25)), (9, (.map (some a57))), (10, (.int .i64 x27)), (14, (.slice a49 (List.length v61.2.1) n49)), (17, (.int .i64 x68))]) (fun ⟨k69, x67, x68, a57, H57⟩ => [F, [(b1, Obj.cells #[(.int .i64 v61.2.2.2.w), (.int .i64 v61.2.2.2.h), (.int .i64 v61.2.2.2.most), (.pointer (some ⟨b50, 0, none⟩)), (.pointer (some ⟨b53, 0, none⟩))] 92 (0, 0))], [(b50, Obj.cells #[(.int .i64 v61.2.2.2.units.most), (.int .i64 v61.2.2.2.units.next), (.map (some a51)), (.slice a52 (List.length v61.2.2.2.units.order) n52)] 102 (0, 0))], H51, H52, [(b53, Obj.cells #[(.slice a54 (List.length v61.2.2.2.floor.words) n54), (.int .i64 v61.2.2.2.floor.count)] 104 (0, 0))], H54, H57, H49]) (fun s => s.1) (fuel, x26, 0, a19, H19) [0, 0, 0, 0, 0, 0, 0, 0, 0] ⟨Z28, s19⟩ ⟨rfl, rfl, rfl, rfl, rfl, rfl, rfl, rfl, rfl, trivial⟩ rfl ?_
                          rintro ⟨k69, x67, x68, a57, H57⟩ ⟨Z32, s57⟩
                          replace Z32 : law25_CrowdIds.l2 k69 w h x25 v61 x67 x68 = some z53 := Z32
                          rcases k69 with _ | k69
                          · rw [law25_CrowdIds.l2] at Z32; cases Z32
                          · rw [law25_CrowdIds.l2] at Z32
                            refine at_seq ?_
                            refine at_seq ?_
                            refine at_region [0, 1, 2, 3] rfl ?_
                            iterate 4 refine at_s T rfl ?_
                            refine at_end ?_
                            refine at_sub [(0, (.int .i64 v1)), (1, (.int .i64 v2)), (2, (.slice a_l (List.length l) n_l)), (7, (.pointer (some ⟨b1, 0, none⟩))), (8, (.int .i64 x25)), (9, (.map (some a57))), (10, (.int .i64 x27)), (14, (.slice a49 (List.length v61.2.1) n49)), (17, (.int .i64 x68)), (147, (.bool (decide (x68 < (List.length v61.2.1 : Int)))))] ⟨rfl, rfl, rfl, rfl, rfl, rfl, rfl, rfl, rfl, rfl, trivial⟩ ?_
                            refine at_then ?_
                            refine at_cond rfl (fun c33 => ?_) (fun c33 => ?_)
                            · replace Z32 := if_t (of_decide_eq_true c33) Z32
                              refine at_skip ?_
                              refine at_then ?_
                              refine at_seq ?_
                              refine at_block ?_
                              refine at_seq ?_
                              refine at_seq ?_
                              refine at_region [0, 1, 2, 3, 4, 5, 6] rfl ?_
                              iterate 3 refine at_s T rfl ?_
                              obtain ⟨c34, Z32⟩ := chk_e Z32
                              obtain ⟨q58, o58, e58⟩ := s49.r.addr c34.1 c34.2
                              refine at_v rfl (g_index T rfl rfl rfl rfl rfl e58 c34.1 c34.2) ?_
                              refine at_v rfl (g_load T rfl rfl rfl rfl (in_elem1 (k := (Fl.int .i64)) (own_of s49 (j := 8) rfl) e58 c34 0 rfl)) ?_
                              refine at_v rfl (g_look T (Ky.int .i64 u3) (fun x : Int => Value.int .i64 x) rfl rfl rfl rfl rfl (mown_of s57 (j := 7) rfl)) ?_
                              refine at_s T rfl ?_
                              refine at_end ?_
                              refine at_sub [(0, (.int .i64 v1)), (1, (.int .i64 v2)), (2, (.slice a_l (List.length l) n_l)), (7, (.pointer (some ⟨b1, 0, none⟩))), (8, (.int .i64 x25)), (9, (.map (some a57))), (10, (.int .i64 x27)), (14, (.slice a49 (List.length v61.2.1) n49)), (17, (.int .i64 x68)), (156, (.bool ((mval x67 (rd v61.2.1 x68)) != 1)))] ⟨rfl, rfl, rfl, rfl, rfl, rfl, rfl, rfl, rfl, rfl, trivial⟩ ?_
                              refine at_then ?_
                              refine at_cond rfl (fun c35 => ?_) (fun c35 => ?_)
                              · replace Z32 := if_t c35 Z32
                                refine at_seq ?_
                                refine at_region [0] rfl ?_
                                refine at_s T rfl ?_
                                refine at_end ?_
                                refine at_to [(6, (.bool false))] [0] [F] ⟨rfl, trivial⟩ rfl ?_
                                refine at_then ?_
                                refine at_ret ?_
                                refine at_rt ?_
                                refine at_rb ?_
                                refine at_rt ?_
                                refine at_rt ?_
                                refine at_rb ?_
                                refine at_rb ?_
                                refine at_rt ?_
                                refine at_rb ?_
                                refine at_rt ?_
                                refine at_rt ?_
                                refine at_rb ?_
                                refine at_rt ?_
                                obtain rfl := Option.some.inj Z32
                                obtain rfl := Option.some.inj (show some (Sum.inl false) = some z40 from Z8)
                                obtain rfl := Option.some.inj (show some false = some r from Z5)
                                exact at_post (T := T) rfl (.tmp rfl .nil) (fun w o => ⟨(), rfl, own_to [0] rfl o⟩)
                              · replace Z32 := if_f (bf c35) Z32
                                refine at_skip ?_
                                refine at_then ?_
                                refine at_region [0, 1, 2, 3, 4, 5] rfl ?_
                                iterate 3 refine at_s T rfl ?_
                                refine at_v rfl (g_index T rfl rfl rfl rfl rfl e58 c34.1 c34.2) ?_
                                refine at_v rfl (g_load T rfl rfl rfl rfl (in_elem1 (k := (Fl.int .i64)) (own_of s49 (j := 8) rfl) e58 c34 0 rfl)) ?_
                                refine at_cons (at_mu (g := 7) (m := x67) (k := (rd v61.2.1 x68)) (v := 0) T (Ky.int .i64 u3) (fun x : Int => Value.int .i64 x) rfl rfl rfl rfl rfl rfl rfl s57 (fun H59 s59 => ?_))
                                refine at_end ?_
                                refine at_sub [(0, (.int .i64 v1)), (1, (.int .i64 v2)), (2, (.slice a_l (List.length l) n_l)), (7, (.pointer (some ⟨b1, 0, none⟩))), (8, (.int .i64 x25)), (9, (.map (some a57))), (10, (.int .i64 x27)), (14, (.slice a49 (List.length v61.2.1) n49)), (17, (.int .i64 x68))] ⟨rfl, rfl, rfl, rfl, rfl, rfl, rfl, rfl, rfl, trivial⟩ ?_
                                refine at_nb ?_
                                refine at_then ?_
                                refine at_region [0, 1, 2] rfl ?_
                                iterate 3 refine at_s T rfl ?_
                                refine at_end ?_
                                refine at_sub [(0, (.int .i64 v1)), (1, (.int .i64 v2)), (2, (.slice a_l (List.length l) n_l)), (7, (.pointer (some ⟨b1, 0, none⟩))), (8, (.int .i64 x25)), (9, (.map (some a57))), (10, (.int .i64 x27)), (14, (.slice a49 (List.length v61.2.1) n49)), (17, (.int .i64 (w64 (x68 + 1))))] ⟨rfl, rfl, rfl, rfl, rfl, rfl, rfl, rfl, rfl, trivial⟩ ?_
                                refine at_then ?_
                                exact at_roundL (k69, (mset x67 (rd v61.2.1 x68) 0), (w64 (x68 + 1)), a57, H59) [0, 0, 0, 0, 0, 0, 0, 0, 0] ⟨Z32, s59⟩ (Nat.lt_succ_self _) ⟨rfl, rfl, rfl, rfl, rfl, rfl, rfl, rfl, rfl, trivial⟩ rfl
                            · replace Z32 := if_f (of_decide_eq_false c33) Z32
                              refine at_exit ?_
                              refine at_xt ?_
                              refine at_xt ?_
                              refine at_xb ?_
                              refine at_nb ?_
                              refine at_then ?_
                              obtain rfl := Option.some.inj Z32
                              exact at_mid (v61.2.2.2.w, v61.2.2.2.h, v61.2.2.2.most, v61.2.2.2.units.most, v61.2.2.2.units.next, v61.2.2.2.units.live, v61.2.2.2.units.order, v61.2.2.2.floor.words, v61.2.2.2.floor.count, x25, x67, b50, a51, H51, a52, n52, H52, b53, a54, n54, H54, a57, H57) [0, 0, 0, 0, 0, 0, 0, 0] ⟨rfl, s51, s52, s54, s57⟩ ⟨rfl, rfl, rfl, rfl, rfl, rfl, rfl, trivial⟩ rfl
                  · replace Z11 := if_f (bf c23) Z11
                    refine at_seq ?_
                    refine at_region [0, 1, 2, 3, 4, 5, 6, 7, 8, 9, 10] rfl ?_
                    iterate 2 refine at_s T rfl ?_
                    refine at_v rfl (g_load T rfl rfl rfl rfl (in_var (j := 8) rfl rfl)) ?_
                    refine at_s T rfl ?_
                    refine at_v rfl (g_load T rfl rfl rfl rfl (in_var (j := 8) rfl rfl)) ?_
                    obtain ⟨v70, V36, Z11⟩ := bind_e Z11
                    refine at_cons (at_cR (As := [[(b1, Obj.cells #[(.int .i64 x16), (.int .i64 x17), (.int .i64 x18), (.pointer (some ⟨b14, 0, none⟩)), (.pointer (some ⟨b17, 0, none⟩))] 92 (0, 0))], [(b14, Obj.cells #[(.int .i64 x19), (.int .i64 x20), (.map (some a15)), (.slice a16 (List.length x22) n16)] 102 (0, 0))], H15, H16, [(b17, Obj.cells #[(.slice a18 (List.length x23) n18), (.int .i64 x24)] 104 (0, 0))], H18]) (R := [F, H19, [(b27, Obj.cells #[(.int .i64 v41.Kind), (.int .i64 v41.A), (.int .i64 v41.B)] 57 (0, 0))]]) (crowd_Crowd_Spawn.R b1 v70) [] [1, 1, 1, 1, 1, 1] rfl rfl rfl rfl has25 rfl rfl (crowd_Crowd_Spawn.c (crowd_Crowd.mk x16 x17 x18 (units_Units.mk x19 x20 x21 x22) (floor_Floor.mk x23 x24)) v41.A v41.B v70 _ V36 s15 s16 s18) ?_)
                    rintro _ _ ⟨b60, a61, H61, a62, n62, H62, b63, a64, n64, H64, s61, s62, s64, rfl, rfl⟩
                    iterate 5 refine at_s T rfl ?_
                    refine at_end ?_
                    refine at_to [(0, (.int .i64 v1)), (1, (.int .i64 v2)), (2, (.slice a_l (List.length l) n_l)), (7, (.pointer (some ⟨b1, 0, none⟩))), (8, (.int .i64 x25)), (9, (.map (some a19))), (10, (.int .i64 x27)), (18, (.int .i64 v70.1)), (19, (.int .i64 v70.2.1))] [0, 0, 1, 1, 1, 1, 1, 1] [F, H19, [(b1, Obj.cells #[(.int .i64 v70.2.2.w), (.int .i64 v70.2.2.h), (.int .i64 v70.2.2.most), (.pointer (some ⟨b60, 0, none⟩)), (.pointer (some ⟨b63, 0, none⟩))] 92 (0, 0))], [(b60, Obj.cells #[(.int .i64 v70.2.2.units.most), (.int .i64 v70.2.2.units.next), (.map (some a61)), (.slice a62 (List.length v70.2.2.units.order) n62)] 102 (0, 0))], H61, H62, [(b63, Obj.cells #[(.slice a64 (List.length v70.2.2.floor.words) n64), (.int .i64 v70.2.2.floor.count)] 104 (0, 0))], H64] ⟨rfl, rfl, rfl, rfl, rfl, rfl, rfl, rfl, rfl, trivial⟩ rfl ?_
                    refine at_then ?_
                    refine at_seq ?_
                    refine at_region [0, 1] rfl ?_
                    iterate 2 refine at_s T rfl ?_
                    refine at_end ?_
                    refine at_sub [(0, (.int .i64 v1)), (1, (.int .i64 v2)), (2, (.slice a_l (List.length l) n_l)), (7, (.pointer (some ⟨b1, 0, none⟩))), (8, (.int .i64 x25)), (9, (.map (some a19))), (10, (.int .i64 x27)), (18, (.int .i64 v70.1)), (63, (.bool (v70.2.1 == 0)))] ⟨rfl, rfl, rfl, rfl, rfl, rfl, rfl, rfl, rfl, trivial⟩ ?_
                    refine at_then ?_
                    refine at_cond rfl (fun c37 => ?_) (fun c37 => ?_)
                    · replace Z11 := if_t c37 Z11
                      refine at_seq ?_
                      refine at_seq ?_
                      refine at_region [0, 1, 2] rfl ?_
                      iterate 3 refine at_s T rfl ?_
                      refine at_end ?_
                      refine at_sub [(0, (.int .i64 v1)), (1, (.int .i64 v2)), (2, (.slice a_l (List.length l) n_l)), (7, (.pointer (some ⟨b1, 0, none⟩))), (8, (.int .i64 x25)), (9, (.map (some a19))), (10, (.int .i64 x27)), (18, (.int .i64 v70.1)), (66, (.bool (v70.1 != x25)))] ⟨rfl, rfl, rfl, rfl, rfl, rfl, rfl, rfl, rfl, trivial⟩ ?_
                      refine at_then ?_
                      refine at_cond rfl (fun c38 => ?_) (fun c38 => ?_)
                      · replace Z11 := if_t c38 Z11
                        refine at_seq ?_
                        refine at_region [0] rfl ?_
                        refine at_s T rfl ?_
                        refine at_end ?_
                        refine at_to [(6, (.bool false))] [0] [F] ⟨rfl, trivial⟩ rfl ?_
                        refine at_then ?_
                        refine at_ret ?_
                        refine at_rt ?_
                        refine at_rb ?_
                        refine at_rt ?_
                        refine at_rb ?_
                        refine at_rt ?_
                        refine at_rt ?_
                        refine at_rb ?_
                        refine at_rt ?_
                        obtain rfl := Option.some.inj Z11
                        obtain rfl := Option.some.inj (show some (Sum.inl false) = some z40 from Z8)
                        obtain rfl := Option.some.inj (show some false = some r from Z5)
                        exact at_post (T := T) rfl (.tmp rfl .nil) (fun w o => ⟨(), rfl, own_to [0] rfl o⟩)
                      · replace Z11 := if_f (bf c38) Z11
                        refine at_skip ?_
                        refine at_then ?_
                        refine at_seq ?_
                        refine at_region [0, 1, 2] rfl ?_
                        iterate 2 refine at_s T rfl ?_
                        refine at_cons (at_mu (g := 1) (m := x26) (k := v70.1) (v := 1) T (Ky.int .i64 u3) (fun x : Int => Value.int .i64 x) rfl rfl rfl rfl rfl rfl rfl s19 (fun H65 s65 => ?_))
                        refine at_end ?_
                        refine at_sub [(0, (.int .i64 v1)), (1, (.int .i64 v2)), (2, (.slice a_l (List.length l) n_l)), (7, (.pointer (some ⟨b1, 0, none⟩))), (8, (.int .i64 x25)), (9, (.map (some a19))), (10, (.int .i64 x27))] ⟨rfl, rfl, rfl, rfl, rfl, rfl, rfl, trivial⟩ ?_
                        refine at_then ?_
                        refine at_region [0, 1, 2] rfl ?_
                        iterate 3 refine at_s T rfl ?_
                        refine at_end ?_
                        refine at_sub [(0, (.int .i64 v1)), (1, (.int .i64 v2)), (2, (.slice a_l (List.length l) n_l)), (7, (.pointer (some ⟨b1, 0, none⟩))), (8, (.int .i64 (w64 (x25 + 1)))), (9, (.map (some a19))), (10, (.int .i64 x27))] ⟨rfl, rfl, rfl, rfl, rfl, rfl, rfl, trivial⟩ ?_
                        refine at_nb ?_
                        refine at_then ?_
                        obtain rfl := Option.some.inj Z11
                        exact at_mid (v70.2.2.w, v70.2.2.h, v70.2.2.most, v70.2.2.units.most, v70.2.2.units.next, v70.2.2.units.live, v70.2.2.units.order, v70.2.2.floor.words, v70.2.2.floor.count, (w64 (x25 + 1)), (mset x26 v70.1 1), b60, a61, H61, a62, n62, H62, b63, a64, n64, H64, a19, H65) [0, 1, 1, 1, 1, 1, 1, 0] ⟨rfl, s61, s62, s64, s65⟩ ⟨rfl, rfl, rfl, rfl, rfl, rfl, rfl, trivial⟩ rfl
                    · replace Z11 := if_f (bf c37) Z11
                      refine at_seq ?_
                      refine at_region [0, 1] rfl ?_
                      iterate 2 refine at_s T rfl ?_
                      refine at_end ?_
                      refine at_sub [(0, (.int .i64 v1)), (1, (.int .i64 v2)), (2, (.slice a_l (List.length l) n_l)), (7, (.pointer (some ⟨b1, 0, none⟩))), (8, (.int .i64 x25)), (9, (.map (some a19))), (10, (.int .i64 x27)), (72, (.bool (v70.1 != (-1))))] ⟨rfl, rfl, rfl, rfl, rfl, rfl, rfl, rfl, trivial⟩ ?_
                      refine at_then ?_
                      refine at_cond rfl (fun c39 => ?_) (fun c39 => ?_)
                      · replace Z11 := if_t c39 Z11
                        refine at_seq ?_
                        refine at_region [0] rfl ?_
                        refine at_s T rfl ?_
                        refine at_end ?_
                        refine at_to [(6, (.bool false))] [0] [F] ⟨rfl, trivial⟩ rfl ?_
                        refine at_then ?_
                        refine at_ret ?_
                        refine at_rb ?_
                        refine at_rt ?_
                        refine at_rb ?_
                        refine at_rt ?_
                        refine at_rt ?_
                        refine at_rb ?_
                        refine at_rt ?_
                        obtain rfl := Option.some.inj Z11
                        obtain rfl := Option.some.inj (show some (Sum.inl false) = some z40 from Z8)
                        obtain rfl := Option.some.inj (show some false = some r from Z5)
                        exact at_post (T := T) rfl (.tmp rfl .nil) (fun w o => ⟨(), rfl, own_to [0] rfl o⟩)
                      · replace Z11 := if_f (bf c39) Z11
                        refine at_skip ?_
                        refine at_nb ?_
                        refine at_then ?_
                        obtain rfl := Option.some.inj Z11
                        exact at_mid (v70.2.2.w, v70.2.2.h, v70.2.2.most, v70.2.2.units.most, v70.2.2.units.next, v70.2.2.units.live, v70.2.2.units.order, v70.2.2.floor.words, v70.2.2.floor.count, x25, x26, b60, a61, H61, a62, n62, H62, b63, a64, n64, H64, a19, H19) [0, 1, 1, 1, 1, 1, 1, 0] ⟨rfl, s61, s62, s64, s19⟩ ⟨rfl, rfl, rfl, rfl, rfl, rfl, rfl, trivial⟩ rfl
          · rintro ⟨x42, x43, x44, x45, x46, x47, x48, x49, x50, x51, x52, b28, a29, H29, a30, n30, H30, b31, a32, n32, H32, a33, H33⟩ ⟨rfl, s29, s30, s32, s33⟩
            refine at_seq ?_
            refine at_region [0] rfl ?_
            refine at_s T rfl ?_
            refine at_end ?_
            refine at_sub [(0, (.int .i64 v1)), (1, (.int .i64 v2)), (2, (.slice a_l (List.length l) n_l)), (7, (.pointer (some ⟨b1, 0, none⟩))), (8, (.int .i64 x51)), (9, (.map (some a33))), (10, (.int .i64 x27)), (20, (.int .i64 0))] ⟨rfl, rfl, rfl, rfl, rfl, rfl, rfl, rfl, trivial⟩ ?_
            refine at_then ?_
            refine at_seq ?_
            refine at_seq ?_
            refine at_region [0] rfl ?_
            refine at_s T rfl ?_
            refine at_end ?_
            refine at_sub [(0, (.int .i64 v1)), (1, (.int .i64 v2)), (2, (.slice a_l (List.length l) n_l)), (7, (.pointer (some ⟨b1, 0, none⟩))), (8, (.int .i64 x51)), (9, (.map (some a33))), (10, (.int .i64 x27)), (20, (.int .i64 0)), (21, (.int .i64 0))] ⟨rfl, rfl, rfl, rfl, rfl, rfl, rfl, rfl, rfl, trivial⟩ ?_
            refine at_then ?_
            refine at_block ?_
            refine at_loopL (σ := Nat × Int × Int) (fun ⟨k75, x73, x74⟩ => law25_CrowdIds.l3 k75 x42 x43 x46 x47 x48 x49 x44 x50 x51 x52 x45 x73 x74 = some z40) (fun ⟨k75, x73, x74⟩ => [(0, (.int .i64 v1)), (1, (.int .i64 v2)), (2, (.slice a_l (List.length l) n_l)), (7, (.pointer (some ⟨b1, 0, none⟩))), (8, (.int .i64 x51)), (9, (.map (some a33))), (10, (.int .i64 x27)), (20, (.int .i64 x73)), (21, (.int .i64 x74))]) (fun ⟨k75, x73, x74⟩ => [F, [(b1, Obj.cells #[(.int .i64 x42), (.int .i64 x43), (.int .i64 x44), (.pointer (some ⟨b28, 0, none⟩)), (.pointer (some ⟨b31, 0, none⟩))] 92 (0, 0))], [(b28, Obj.cells #[(.int .i64 x45), (.int .i64 x46), (.map (some a29)), (.slice a30 (List.length x48) n30)] 102 (0, 0))], H29, H30, [(b31, Obj.cells #[(.slice a32 (List.length x49) n32), (.int .i64 x50)] 104 (0, 0))], H32, H33]) (fun s => s.1) (fuel, 0, 0) [0, 0, 0, 0, 0, 0, 0, 0] Z8 ⟨rfl, rfl, rfl, rfl, rfl, rfl, rfl, rfl, rfl, trivial⟩ rfl ?_
            rintro ⟨k75, x73, x74⟩ Z40
            replace Z40 : law25_CrowdIds.l3 k75 x42 x43 x46 x47 x48 x49 x44 x50 x51 x52 x45 x73 x74 = some z40 := Z40
            rcases k75 with _ | k75
            · rw [law25_CrowdIds.l3] at Z40; cases Z40
            · rw [law25_CrowdIds.l3] at Z40
              refine at_seq ?_
              refine at_seq ?_
              refine at_region [0, 1, 2] rfl ?_
              iterate 3 refine at_s T rfl ?_
              refine at_end ?_
              refine at_sub [(0, (.int .i64 v1)), (1, (.int .i64 v2)), (2, (.slice a_l (List.length l) n_l)), (7, (.pointer (some ⟨b1, 0, none⟩))), (8, (.int .i64 x51)), (9, (.map (some a33))), (10, (.int .i64 x27)), (20, (.int .i64 x73)), (21, (.int .i64 x74)), (164, (.bool (decide (x74 < x51))))] ⟨rfl, rfl, rfl, rfl, rfl, rfl, rfl, rfl, rfl, rfl, trivial⟩ ?_
              refine at_then ?_
              refine at_cond rfl (fun c41 => ?_) (fun c41 => ?_)
              · replace Z40 := if_t (of_decide_eq_true c41) Z40
                refine at_skip ?_
                refine at_then ?_
                refine at_seq ?_
                refine at_block ?_
                refine at_region [0, 1, 2, 3, 4, 5] rfl ?_
                iterate 3 refine at_s T rfl ?_
                refine at_v rfl (g_look T (Ky.int .i64 u3) (fun x : Int => Value.int .i64 x) rfl rfl rfl rfl rfl (mown_of s33 (j := 7) rfl)) ?_
                iterate 2 refine at_s T rfl ?_
                refine at_end ?_
                refine at_sub [(0, (.int .i64 v1)), (1, (.int .i64 v2)), (2, (.slice a_l (List.length l) n_l)), (7, (.pointer (some ⟨b1, 0, none⟩))), (8, (.int .i64 x51)), (9, (.map (some a33))), (10, (.int .i64 x27)), (20, (.int .i64 (w64 (x73 + (mval x52 x74))))), (21, (.int .i64 x74))] ⟨rfl, rfl, rfl, rfl, rfl, rfl, rfl, rfl, rfl, trivial⟩ ?_
                refine at_nb ?_
                refine at_then ?_
                refine at_region [0, 1, 2] rfl ?_
                iterate 3 refine at_s T rfl ?_
                refine at_end ?_
                refine at_sub [(0, (.int .i64 v1)), (1, (.int .i64 v2)), (2, (.slice a_l (List.length l) n_l)), (7, (.pointer (some ⟨b1, 0, none⟩))), (8, (.int .i64 x51)), (9, (.map (some a33))), (10, (.int .i64 x27)), (20, (.int .i64 (w64 (x73 + (mval x52 x74))))), (21, (.int .i64 (w64 (x74 + 1))))] ⟨rfl, rfl, rfl, rfl, rfl, rfl, rfl, rfl, rfl, trivial⟩ ?_
                refine at_then ?_
                exact at_roundL (k75, (w64 (x73 + (mval x52 x74))), (w64 (x74 + 1))) [0, 0, 0, 0, 0, 0, 0, 0] Z40 (Nat.lt_succ_self _) ⟨rfl, rfl, rfl, rfl, rfl, rfl, rfl, rfl, rfl, trivial⟩ rfl
              · replace Z40 := if_f (of_decide_eq_false c41) Z40
                refine at_exit ?_
                refine at_xt ?_
                refine at_xt ?_
                refine at_xb ?_
                refine at_then ?_
                refine at_seq ?_
                refine at_region [0, 1, 2, 3, 4] rfl ?_
                iterate 2 refine at_s T rfl ?_
                obtain ⟨v76, V42, Z40⟩ := bind_e Z40
                refine at_cons (at_cR (As := [[(b1, Obj.cells #[(.int .i64 x42), (.int .i64 x43), (.int .i64 x44), (.pointer (some ⟨b28, 0, none⟩)), (.pointer (some ⟨b31, 0, none⟩))] 92 (0, 0))], [(b28, Obj.cells #[(.int .i64 x45), (.int .i64 x46), (.map (some a29)), (.slice a30 (List.length x48) n30)] 102 (0, 0))], H29, H30, [(b31, Obj.cells #[(.slice a32 (List.length x49) n32), (.int .i64 x50)] 104 (0, 0))], H32]) (R := [F, H33]) (crowd_Crowd_Units.R v76) [[(b1, Obj.cells #[(.int .i64 x42), (.int .i64 x43), (.int .i64 x44), (.pointer (some ⟨b28, 0, none⟩)), (.pointer (some ⟨b31, 0, none⟩))] 92 (0, 0))], [(b28, Obj.cells #[(.int .i64 x45), (.int .i64 x46), (.map (some a29)), (.slice a30 (List.length x48) n30)] 102 (0, 0))], H29, H30, [(b31, Obj.cells #[(.slice a32 (List.length x49) n32), (.int .i64 x50)] 104 (0, 0))], H32] [1, 1, 1, 1, 1, 1] rfl rfl rfl rfl has27 rfl rfl (crowd_Crowd_Units.c (crowd_Crowd.mk x42 x43 x44 (units_Units.mk x45 x46 x47 x48) (floor_Floor.mk x49 x50)) v76 _ V42 s29 s30 s32) ?_)
                rintro _ _ ⟨a66, n66, H66, s66, rfl, rfl⟩
                iterate 2 refine at_s T rfl ?_
                refine at_end ?_
                refine at_to [(0, (.int .i64 v1)), (1, (.int .i64 v2)), (2, (.slice a_l (List.length l) n_l)), (7, (.pointer (some ⟨b1, 0, none⟩))), (8, (.int .i64 x51)), (9, (.map (some a33))), (10, (.int .i64 x27)), (176, (.bool (x73 != (List.length v76 : Int))))] [0, 0, 1, 1, 1, 1, 1, 1] [F, H33, [(b1, Obj.cells #[(.int .i64 x42), (.int .i64 x43), (.int .i64 x44), (.pointer (some ⟨b28, 0, none⟩)), (.pointer (some ⟨b31, 0, none⟩))] 92 (0, 0))], [(b28, Obj.cells #[(.int .i64 x45), (.int .i64 x46), (.map (some a29)), (.slice a30 (List.length x48) n30)] 102 (0, 0))], H29, H30, [(b31, Obj.cells #[(.slice a32 (List.length x49) n32), (.int .i64 x50)] 104 (0, 0))], H32] ⟨rfl, rfl, rfl, rfl, rfl, rfl, rfl, rfl, trivial⟩ rfl ?_
                refine at_then ?_
                refine at_cond rfl (fun c43 => ?_) (fun c43 => ?_)
                · replace Z40 := if_t c43 Z40
                  refine at_seq ?_
                  refine at_region [0] rfl ?_
                  refine at_s T rfl ?_
                  refine at_end ?_
                  refine at_to [(6, (.bool false))] [0] [F] ⟨rfl, trivial⟩ rfl ?_
                  refine at_then ?_
                  refine at_ret ?_
                  refine at_rb ?_
                  refine at_rt ?_
                  refine at_rt ?_
                  refine at_rb ?_
                  refine at_rt ?_
                  obtain rfl := Option.some.inj Z40
                  obtain rfl := Option.some.inj (show some false = some r from Z5)
                  exact at_post (T := T) rfl (.tmp rfl .nil) (fun w o => ⟨(), rfl, own_to [0] rfl o⟩)
                · replace Z40 := if_f (bf c43) Z40
                  refine at_skip ?_
                  refine at_nb ?_
                  refine at_then ?_
                  obtain rfl := Option.some.inj Z40
                  exact at_mid (x42, x43, x44, x45, x46, x47, x48, x49, x50, x51, x52, b28, a29, H29, a30, n30, H30, b31, a32, n32, H32, a33, H33) [0, 1, 1, 1, 1, 1, 1, 0] ⟨rfl, s29, s30, s32, s33⟩ ⟨rfl, rfl, rfl, rfl, rfl, rfl, rfl, trivial⟩ rfl
        · rintro ⟨x29, x30, x31, x32, x33, x34, x35, x36, x37, x38, x39, b20, a21, H21, a22, n22, H22, b23, a24, n24, H24, a25, H25⟩ ⟨rfl, s21, s22, s24, s25⟩
          refine at_region [0, 1, 2] rfl ?_
          iterate 3 refine at_s T rfl ?_
          refine at_end ?_
          refine at_sub [(0, (.int .i64 v1)), (1, (.int .i64 v2)), (2, (.slice a_l (List.length l) n_l)), (7, (.pointer (some ⟨b1, 0, none⟩))), (8, (.int .i64 x38)), (9, (.map (some a25))), (10, (.int .i64 (w64 (x27 + 1))))] ⟨rfl, rfl, rfl, rfl, rfl, rfl, rfl, trivial⟩ ?_
          refine at_then ?_
          exact at_roundL (k28, x29, x30, x31, x32, x33, x34, x35, x36, x37, x38, x39, (w64 (x27 + 1)), b20, a21, H21, a22, n22, H22, b23, a24, n24, H24, a25, H25) [0, 0, 0, 0, 0, 0, 0, 0] ⟨Z5, s21, s22, s24, s25⟩ (Nat.lt_succ_self _) ⟨rfl, rfl, rfl, rfl, rfl, rfl, rfl, trivial⟩ rfl
      · replace Z5 := if_f (bf c7) Z5
        refine at_exit ?_
        refine at_xt ?_
        refine at_xt ?_
        refine at_xb ?_
        refine at_then ?_
        refine at_seq ?_
        refine at_region [0, 1] rfl ?_
        obtain ⟨v77, V44, Z5⟩ := bind_e Z5
        refine at_cons (at_c (B := fun _ => []) [] rfl rfl rfl rfl has28 rfl rfl (law25_told.c  v77 _ V44) (fun _ => ?_))
        refine at_s T rfl ?_
        refine at_end ?_
        refine at_to [(6, (.bool v77))] [0] [F] ⟨rfl, trivial⟩ rfl ?_
        refine at_then ?_
        refine at_ret ?_
        obtain rfl := Option.some.inj Z5
        exact at_post (T := T) rfl (.tmp rfl .nil) (fun w o => ⟨(), rfl, own_to [0] rfl o⟩)
def law25_CrowdIds.Pure : Prop := ∀ (w : Int) (h : Int) (l : (List herdsmanlaw25_Ask)), inI64 w → inI64 h → (∀ y ∈ l, (inI64 y.Kind ∧ inI64 y.A ∧ inI64 y.B)) → List.length l ≤ 9223372036854775807 → law25_CrowdIds.f w h l = some true
end Go.Proofs.Ytkidcebfpengmaa
