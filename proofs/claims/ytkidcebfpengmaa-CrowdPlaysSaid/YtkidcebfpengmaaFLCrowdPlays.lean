import Derived.Test.YtkidcebfpengmaaT
import Derived.Test.YtkidcebfpengmaaFcrowd
import Derived.Test.YtkidcebfpengmaaFlaw25
import Derived.Test.YtkidcebfpengmaaFref1
import Derived.Test.YtkidcebfpengmaaFref21
namespace Go.Proofs.Ytkidcebfpengmaa
open Go.Hx
set_option maxRecDepth 100000
set_option linter.unusedVariables false
/-! ### herdsman/herdsmanlaw25.CrowdPlays: function 9 -/
def law25_CrowdPlays.l0 : Nat → Int → Int → Int → (List herdsmanlaw25_Ask) → Bool → Int → Int → Int → Int → Int → Int → Int → (List (Int × api_Unit)) → List Int → List Int → Int → Int → Int → Int → Int → List api_Unit → Int → Option Bool
  | 0, _, _, _, _, _, _, _, _, _, _, _, _, _, _, _, _, _, _, _, _, _, _ => none
  | k35 + 1, w, h, most, l, raw, v1, v2, x20, x21, x22, x23, x24, x25, x26, x27, x28, x29, x30, x31, x32, x33, x34 => if ((decide (x34 < (List.length l : Int))) && (decide (x34 < 50))) = true then (if (0 ≤ x34 ∧ x34 < (List.length l : Int)) then ((if (!raw) = true then ((law25_near.f (rd l x34) v1 v2 x32).bind fun v40 => some (v40.Kind, v40.A, v40.B)) else (some ((rd l x34).Kind, (rd l x34).A, (rd l x34).B))).bind fun (x36, x37, x38) => ((ref1_Within.f x36 0 9).bind fun v56 => if (v56 == 5) = true then ((crowd_Crowd_Retarget.f (crowd_Crowd.mk x20 x21 x22 (units_Units.mk x23 x24 x25 x26) (floor_Floor.mk x27 x28)) x37 x38).bind fun v57 => (ref21_Crowd_Retarget.f (herdsmanref21_Crowd.mk x29 x30 (herdsmanref21_Units.mk x31 x32 x33)) x37 x38).bind fun v58 => if (v57.1 != v58.1) = true then (some (Sum.inl false)) else (some (Sum.inr (v57.2.w, v57.2.h, v57.2.most, v57.2.units.most, v57.2.units.next, v57.2.units.live, v57.2.units.order, v57.2.floor.words, v57.2.floor.count, v58.2.W, v58.2.H, v58.2.U.Most, v58.2.U.Next, v58.2.U.L)))) else (if (v56 == 6) = true then ((crowd_Crowd_Despawn.f (crowd_Crowd.mk x20 x21 x22 (units_Units.mk x23 x24 x25 x26) (floor_Floor.mk x27 x28)) x37).bind fun v59 => (ref21_Crowd_Despawn.f (herdsmanref21_Crowd.mk x29 x30 (herdsmanref21_Units.mk x31 x32 x33)) x37).bind fun v60 => if (v59.1 != v60.1) = true then (some (Sum.inl false)) else (some (Sum.inr (v59.2.w, v59.2.h, v59.2.most, v59.2.units.most, v59.2.units.next, v59.2.units.live, v59.2.units.order, v59.2.floor.words, v59.2.floor.count, v60.2.W, v60.2.H, v60.2.U.Most, v60.2.U.Next, v60.2.U.L)))) else ((if (v56 == 7) = true then (some (v56 == 7)) else (if (v56 == 8) = true then (some (v56 == 8)) else (some (v56 == 9)))).bind fun x61 => if x61 = true then ((law25_dirs.f (List.length x33 : Int) x37 x38).bind fun v63 => (if raw = true then (if (List.length v63 + 1 ≤ 1099511627776) then (if (0 ≤ (0 : Int) ∧ (0 : Int) ≤ (if (w64 (BitVec.toNat (BitVec.ofInt (IntKind.bits .i64) x38 &&& BitVec.ofInt (IntKind.bits .i64) 1))) > (List.length v63 : Int) then (w64 (BitVec.toNat (BitVec.ofInt (IntKind.bits .i64) x38 &&& BitVec.ofInt (IntKind.bits .i64) 1))) else (List.length v63 : Int)) ∧ (if (w64 (BitVec.toNat (BitVec.ofInt (IntKind.bits .i64) x38 &&& BitVec.ofInt (IntKind.bits .i64) 1))) > (List.length v63 : Int) then (w64 (BitVec.toNat (BitVec.ofInt (IntKind.bits .i64) x38 &&& BitVec.ofInt (IntKind.bits .i64) 1))) else (List.length v63 : Int)) ≤ (List.length (v63 ++ [x37]) : Int)) then (some (sub' (v63 ++ [x37]) 0 (if (w64 (BitVec.toNat (BitVec.ofInt (IntKind.bits .i64) x38 &&& BitVec.ofInt (IntKind.bits .i64) 1))) > (List.length v63 : Int) then (w64 (BitVec.toNat (BitVec.ofInt (IntKind.bits .i64) x38 &&& BitVec.ofInt (IntKind.bits .i64) 1))) else (List.length v63 : Int)))) else none) else none) else (some v63)).bind fun x64 => (crowd_Crowd_Tick.f (crowd_Crowd.mk x20 x21 x22 (units_Units.mk x23 x24 x25 x26) (floor_Floor.mk x27 x28)) x64).bind fun v66 => (ref21_Crowd_Tick.f (herdsmanref21_Crowd.mk x29 x30 (herdsmanref21_Units.mk x31 x32 x33)) x64).bind fun v67 => (if (v66.2.2.1 != v67.2.2.1) = true then (some true) else ((ref21_Moves.f v66.1 v67.1).bind fun v70 => if (!v70) = true then (some true) else ((ref1_Ints.f v66.2.1 v67.2.1).bind fun v71 => some (!v71)))).bind fun x68 => if x68 = true then (some (Sum.inl false)) else (some (Sum.inr (v66.2.2.2.w, v66.2.2.2.h, v66.2.2.2.most, v66.2.2.2.units.most, v66.2.2.2.units.next, v66.2.2.2.units.live, v66.2.2.2.units.order, v66.2.2.2.floor.words, v66.2.2.2.floor.count, v67.2.2.2.W, v67.2.2.2.H, v67.2.2.2.U.Most, v67.2.2.2.U.Next, v67.2.2.2.U.L)))) else ((crowd_Crowd_Spawn.f (crowd_Crowd.mk x20 x21 x22 (units_Units.mk x23 x24 x25 x26) (floor_Floor.mk x27 x28)) x37 x38).bind fun v72 => (ref21_Crowd_Spawn.f (herdsmanref21_Crowd.mk x29 x30 (herdsmanref21_Units.mk x31 x32 x33)) x37 x38).bind fun v73 => if ((v72.1 != v73.1) || (v72.2.1 != v73.2.1)) = true then (some (Sum.inl false)) else (some (Sum.inr (v72.2.2.w, v72.2.2.h, v72.2.2.most, v72.2.2.units.most, v72.2.2.units.next, v72.2.2.units.live, v72.2.2.units.order, v72.2.2.floor.words, v72.2.2.floor.count, v73.2.2.W, v73.2.2.H, v73.2.2.U.Most, v73.2.2.U.Next, v73.2.2.U.L))))))).bind fun zz => match zz with | Sum.inl q => some q | Sum.inr (x41, x42, x43, x44, x45, x46, x47, x48, x49, x50, x51, x52, x53, x54) => ((crowd_Crowd_Units.f (crowd_Crowd.mk x41 x42 x43 (units_Units.mk x44 x45 x46 x47) (floor_Floor.mk x48 x49))).bind fun v76 => (ref21_Same.f v76 x54).bind fun v77 => if (!v77) = true then (some true) else ((crowd_Crowd_Who.f (crowd_Crowd.mk x41 x42 x43 (units_Units.mk x44 x45 x46 x47) (floor_Floor.mk x48 x49)) x37).bind fun v78 => (ref21_Crowd_Who.f (herdsmanref21_Crowd.mk x50 x51 (herdsmanref21_Units.mk x52 x53 x54)) x37).bind fun v79 => some (v78 != v79))).bind fun x74 => if x74 = true then (some false) else (law25_CrowdPlays.l0 k35 w h most l raw v1 v2 x41 x42 x43 x44 x45 x46 x47 x48 x49 x50 x51 x52 x53 x54 (w64 (x34 + 1)))) else none) else (((law25_told.f).bind fun v82 => if v82 = true then ((crowd_Crowd_Words.f (crowd_Crowd.mk x20 x21 x22 (units_Units.mk x23 x24 x25 x26) (floor_Floor.mk x27 x28))).bind fun v83 => (ref21_Words.f (w64 (v1 * v2)) x33).bind fun v84 => (ref21_SameWords.f v83 v84).bind fun v85 => some v85) else (some false)).bind fun x80 => some x80)
def law25_CrowdPlays.f (w : Int) (h : Int) (most : Int) (l : (List herdsmanlaw25_Ask)) (raw : Bool) : Option Bool := (ref1_Within.f w 1 8).bind fun v1 => (ref1_Within.f h 1 8).bind fun v2 => (ref1_Within.f most 1 9).bind fun v3 => (crowd_New.f v1 v2 v3).bind fun v4 => optm v4 (some false) (fun yv4 => law25_CrowdPlays.l0 fuel w h most l raw v1 v2 yv4.w yv4.h yv4.most yv4.units.most yv4.units.next yv4.units.live yv4.units.order yv4.floor.words yv4.floor.count v1 v2 v3 0 [] 0)
set_option maxHeartbeats 4000000 in
theorem law25_CrowdPlays.c {a_l : Option Addr} {n_l : Nat} (w : Int) (h : Int) (most : Int) (l : (List herdsmanlaw25_Ask)) (raw : Bool) (r : Bool) (F : Hp) (H : law25_CrowdPlays.f w h most l raw = some r) (h_l : SliceR k_herdsmanlaw25_Ask l a_l F) (c_l : List.length l ≤ n_l) :
    CallsL Try.prog 9 [(.int .i64 w), (.int .i64 h), (.int .i64 most), (.slice a_l (List.length l) n_l), (.bool raw)] [F] (fun _ : Unit => (.bool r)) (fun _ => [F]) := by
  unfold law25_CrowdPlays.f at H
  refine calls_atL [(0, (.int .i64 w)), (1, (.int .i64 h)), (2, (.int .i64 most)), (3, (.slice a_l (List.length l) n_l)), (4, (.bool raw))] Try.func9 rfl rfl ⟨rfl, rfl, rfl, rfl, rfl, trivial⟩ (fun W => ?_)
  refine at_seq ?_
  refine at_region [0] rfl ?_
  refine at_s T rfl ?_
  refine at_end ?_
  refine at_sub [(0, (.int .i64 w)), (1, (.int .i64 h)), (2, (.int .i64 most)), (3, (.slice a_l (List.length l) n_l)), (4, (.bool raw))] ⟨rfl, rfl, rfl, rfl, rfl, trivial⟩ ?_
  refine at_then ?_
  refine at_seq ?_
  refine at_region [0, 1, 2, 3, 4, 5, 6, 7, 8] rfl ?_
  refine at_s T rfl ?_
  obtain ⟨v1, V1, H⟩ := bind_e H
  refine at_cons (at_c (B := fun _ => []) [] rfl rfl rfl rfl has12 rfl rfl (ref1_Within.c w 1 8 v1 _ V1) (fun _ => ?_))
  refine at_s T rfl ?_
  obtain ⟨v2, V2, H⟩ := bind_e H
  refine at_cons (at_c (B := fun _ => []) [] rfl rfl rfl rfl has12 rfl rfl (ref1_Within.c h 1 8 v2 _ V2) (fun _ => ?_))
  refine at_s T rfl ?_
  obtain ⟨v3, V3, H⟩ := bind_e H
  refine at_cons (at_c (B := fun _ => []) [] rfl rfl rfl rfl has12 rfl rfl (ref1_Within.c most 1 9 v3 _ V3) (fun _ => ?_))
  iterate 3 refine at_s T rfl ?_
  refine at_end ?_
  refine at_sub [(0, (.int .i64 v1)), (1, (.int .i64 v2)), (2, (.int .i64 v3)), (3, (.slice a_l (List.length l) n_l)), (4, (.bool raw))] ⟨rfl, rfl, rfl, rfl, rfl, trivial⟩ ?_
  refine at_then ?_
  refine at_seq ?_
  refine at_region [0, 1, 2, 3, 4] rfl ?_
  iterate 3 refine at_s T rfl ?_
  obtain ⟨v4, V4, H⟩ := bind_e H
  refine at_cons (at_cR (crowd_New.R v4) [] [] rfl rfl rfl rfl has24 rfl rfl (crowd_New.c v1 v2 v3 v4 _ V4) ?_)
  rintro _ _ ⟨_, _, O5, rfl, rfl⟩
  rcases v4 with _ | yv4
  · replace H := optm_n rfl H
    obtain ⟨rfl, rfl⟩ := O5
    refine at_s T rfl ?_
    refine at_end ?_
    refine at_sub [(0, (.int .i64 v1)), (1, (.int .i64 v2)), (2, (.int .i64 v3)), (3, (.slice a_l (List.length l) n_l)), (4, (.bool raw)), (11, (.pointer none))] ⟨rfl, rfl, rfl, rfl, rfl, rfl, trivial⟩ ?_
    refine at_then ?_
    refine at_seq ?_
    refine at_seq ?_
    refine at_region [0, 1] rfl ?_
    iterate 2 refine at_s T rfl ?_
    refine at_end ?_
    refine at_sub [(0, (.int .i64 v1)), (1, (.int .i64 v2)), (2, (.int .i64 v3)), (3, (.slice a_l (List.length l) n_l)), (4, (.bool raw)), (11, (.pointer none)), (37, (.bool true))] ⟨rfl, rfl, rfl, rfl, rfl, rfl, rfl, trivial⟩ ?_
    refine at_then ?_
    refine at_cond_t rfl ?_
    refine at_seq ?_
    refine at_region [0] rfl ?_
    refine at_s T rfl ?_
    refine at_end ?_
    refine at_sub [(10, (.bool false))] ⟨rfl, trivial⟩ ?_
    refine at_then ?_
    refine at_ret ?_
    refine at_rt ?_
    obtain rfl := Option.some.inj H
    exact at_post (T := T) rfl (.tmp rfl .nil) (fun w o => ⟨(), rfl, own_to [0] rfl o⟩)
  · replace H := optm_s rfl H
    obtain ⟨b1, b2, a3, H3, a4, n4, H4, b5, a6, n6, H6, s3, s4, s6, rfl, rfl⟩ := O5
    refine at_s T rfl ?_
    refine at_end ?_
    refine at_sub [(0, (.int .i64 v1)), (1, (.int .i64 v2)), (2, (.int .i64 v3)), (3, (.slice a_l (List.length l) n_l)), (4, (.bool raw)), (11, (.pointer (some ⟨b1, 0, none⟩)))] ⟨rfl, rfl, rfl, rfl, rfl, rfl, trivial⟩ ?_
    refine at_then ?_
    refine at_seq ?_
    refine at_seq ?_
    refine at_region [0, 1] rfl ?_
    iterate 2 refine at_s T rfl ?_
    refine at_end ?_
    refine at_sub [(0, (.int .i64 v1)), (1, (.int .i64 v2)), (2, (.int .i64 v3)), (3, (.slice a_l (List.length l) n_l)), (4, (.bool raw)), (11, (.pointer (some ⟨b1, 0, none⟩))), (37, (.bool false))] ⟨rfl, rfl, rfl, rfl, rfl, rfl, rfl, trivial⟩ ?_
    refine at_then ?_
    refine at_cond_f rfl ?_
    refine at_skip ?_
    refine at_then ?_
    refine at_seq ?_
    refine at_region [0, 1, 2, 3, 4, 5, 6] rfl ?_
    iterate 5 refine at_s T rfl ?_
    refine at_cons (at_bx T [(.int .i64 v1), (.int .i64 v2), (.int .i64 v3), (.int .i64 0), (.slice none 0 0)] rfl rfl rfl rfl (fun b7 => ?_))
    refine at_s T rfl ?_
    refine at_end ?_
    refine at_sub [(0, (.int .i64 v1)), (1, (.int .i64 v2)), (3, (.slice a_l (List.length l) n_l)), (4, (.bool raw)), (11, (.pointer (some ⟨b1, 0, none⟩))), (12, (.pointer (some ⟨b7, 0, none⟩)))] ⟨rfl, rfl, rfl, rfl, rfl, rfl, trivial⟩ ?_
    refine at_then ?_
    refine at_seq ?_
    refine at_seq ?_
    refine at_region [0] rfl ?_
    refine at_s T rfl ?_
    refine at_end ?_
    refine at_sub [(0, (.int .i64 v1)), (1, (.int .i64 v2)), (3, (.slice a_l (List.length l) n_l)), (4, (.bool raw)), (11, (.pointer (some ⟨b1, 0, none⟩))), (12, (.pointer (some ⟨b7, 0, none⟩))), (13, (.int .i64 0))] ⟨rfl, rfl, rfl, rfl, rfl, rfl, rfl, trivial⟩ ?_
    refine at_then ?_
    refine at_block ?_
    refine at_addnil ?_
    refine at_loopL (σ := Nat × Int × Int × Int × Int × Int × (List (Int × api_Unit)) × List Int × List Int × Int × Int × Int × Int × Int × List api_Unit × Int × Nat × Nat × Hp × Option Addr × Nat × Hp × Nat × Option Addr × Nat × Hp × Option Addr × Nat × Hp) (fun ⟨k35, x20, x21, x22, x23, x24, x25, x26, x27, x28, x29, x30, x31, x32, x33, x34, b14, a15, H15, a16, n16, H16, b17, a18, n18, H18, a19, n19, H19⟩ => law25_CrowdPlays.l0 k35 w h most l raw v1 v2 x20 x21 x22 x23 x24 x25 x26 x27 x28 x29 x30 x31 x32 x33 x34 = some r ∧ MapO (Ky.int .i64 u3) (fun x : api_Unit => Value.agg #[.int .i64 x.Id, .int .i64 x.Cell, .int .i64 x.Goal]) x25 a15 H15 ∧ SliceO (Fl.int .i64) 3 x26 a16 n16 H16 ∧ SliceO (Fl.int .u32) 74 x27 a18 n18 H18 ∧ SliceO k_api_Unit 40 x33 a19 n19 H19) (fun ⟨k35, x20, x21, x22, x23, x24, x25, x26, x27, x28, x29, x30, x31, x32, x33, x34, b14, a15, H15, a16, n16, H16, b17, a18, n18, H18, a19, n19, H19⟩ => [(0, (.int .i64 v1)), (1, (.int .i64 v2)), (3, (.slice a_l (List.length l) n_l)), (4, (.bool raw)), (11, (.pointer (some ⟨b1, 0, none⟩))), (12, (.pointer (some ⟨b7, 0, none⟩))), (13, (.int .i64 x34))]) (fun ⟨k35, x20, x21, x22, x23, x24, x25, x26, x27, x28, x29, x30, x31, x32, x33, x34, b14, a15, H15, a16, n16, H16, b17, a18, n18, H18, a19, n19, H19⟩ => [F, [(b1, Obj.cells #[(.int .i64 x20), (.int .i64 x21), (.int .i64 x22), (.pointer (some ⟨b14, 0, none⟩)), (.pointer (some ⟨b17, 0, none⟩))] 92 (0, 0))], [(b14, Obj.cells #[(.int .i64 x23), (.int .i64 x24), (.map (some a15)), (.slice a16 (List.length x26) n16)] 102 (0, 0))], H15, H16, [(b17, Obj.cells #[(.slice a18 (List.length x27) n18), (.int .i64 x28)] 104 (0, 0))], H18, [(b7, Obj.cells #[(.int .i64 x29), (.int .i64 x30), (.int .i64 x31), (.int .i64 x32), (.slice a19 (List.length x33) n19)] 68 (0, 0))], H19]) (fun s => s.1) (fuel, yv4.w, yv4.h, yv4.most, yv4.units.most, yv4.units.next, yv4.units.live, yv4.units.order, yv4.floor.words, yv4.floor.count, v1, v2, v3, 0, [], 0, b2, a3, H3, a4, n4, H4, b5, a6, n6, H6, none, 0, []) [0, 0, 0, 0, 0, 0, 0, 0, 0] ⟨H, s3, s4, s6, SliceO.nil⟩ ⟨rfl, rfl, rfl, rfl, rfl, rfl, rfl, trivial⟩ rfl ?_
    rintro ⟨k35, x20, x21, x22, x23, x24, x25, x26, x27, x28, x29, x30, x31, x32, x33, x34, b14, a15, H15, a16, n16, H16, b17, a18, n18, H18, a19, n19, H19⟩ ⟨Z6, s15, s16, s18, s19⟩
    replace Z6 : law25_CrowdPlays.l0 k35 w h most l raw v1 v2 x20 x21 x22 x23 x24 x25 x26 x27 x28 x29 x30 x31 x32 x33 x34 = some r := Z6
    rcases k35 with _ | k35
    · rw [law25_CrowdPlays.l0] at Z6; cases Z6
    · rw [law25_CrowdPlays.l0] at Z6
      refine at_seq ?_
      refine at_seq ?_
      refine at_region [0, 1, 2, 3, 4, 5, 6, 7] rfl ?_
      iterate 5 refine at_s T rfl ?_
      refine at_grp T [5, 6, 7] (s := 48) (c := (decide (x34 < (List.length l : Int)))) [(0, (.int .i64 v1)), (1, (.int .i64 v2)), (3, (.slice a_l (List.length l) n_l)), (4, (.bool raw)), (11, (.pointer (some ⟨b1, 0, none⟩))), (12, (.pointer (some ⟨b7, 0, none⟩))), (13, (.int .i64 x34)), (51, (.bool ((decide (x34 < (List.length l : Int))) && (decide (x34 < 50)))))] rfl rfl rfl (fun c7 => ⟨rfl, rfl, rfl, rfl, rfl, rfl, rfl, (by rw [c7]; rfl), trivial⟩) (fun c7 => ⟨rfl, rfl, rfl, rfl, rfl, rfl, rfl, (by rw [c7]; rfl), trivial⟩) ?_
      refine at_end ?_
      refine at_sub [(0, (.int .i64 v1)), (1, (.int .i64 v2)), (3, (.slice a_l (List.length l) n_l)), (4, (.bool raw)), (11, (.pointer (some ⟨b1, 0, none⟩))), (12, (.pointer (some ⟨b7, 0, none⟩))), (13, (.int .i64 x34)), (51, (.bool ((decide (x34 < (List.length l : Int))) && (decide (x34 < 50)))))] ⟨rfl, rfl, rfl, rfl, rfl, rfl, rfl, rfl, trivial⟩ ?_
      refine at_then ?_
      refine at_cond rfl (fun c8 => ?_) (fun c8 => ?_)
      · replace Z6 := if_t c8 Z6
        refine at_skip ?_
        refine at_then ?_
        refine at_seq ?_
        refine at_block ?_
        refine at_seq ?_
        refine at_region [0, 1, 2, 3, 4, 5] rfl ?_
        iterate 2 refine at_s T rfl ?_
        obtain ⟨c9, Z6⟩ := chk_e Z6
        obtain ⟨q20, o20, e20⟩ := h_l.addr c9.1 c9.2
        refine at_v rfl (g_index T rfl rfl rfl rfl rfl e20 c9.1 c9.2) ?_
        refine at_v rfl (g_loadA T (cs := [(.int .i64 (rd l x34).Kind), (.int .i64 (rd l x34).A), (.int .i64 (rd l x34).B)]) rfl rfl rfl rfl rfl rfl (in_elemA (k := k_herdsmanlaw25_Ask) (ro_of h_l (j := 0) rfl) e20 c9 rfl)) ?_
        refine at_cons (at_al T [(.int .i64 0), (.int .i64 0), (.int .i64 0)] rfl rfl rfl rfl (fun b21 => ?_))
        refine at_cons (at_st T 9 [(.int .i64 (rd l x34).Kind), (.int .i64 (rd l x34).A), (.int .i64 (rd l x34).B)] rfl rfl rfl rfl rfl rfl rfl rfl rfl rfl ?_)
        refine at_end ?_
        refine at_sub [(0, (.int .i64 v1)), (1, (.int .i64 v2)), (3, (.slice a_l (List.length l) n_l)), (4, (.bool raw)), (11, (.pointer (some ⟨b1, 0, none⟩))), (12, (.pointer (some ⟨b7, 0, none⟩))), (13, (.int .i64 x34)), (14, (.pointer (some ⟨b21, 0, none⟩)))] ⟨rfl, rfl, rfl, rfl, rfl, rfl, rfl, rfl, trivial⟩ ?_
        refine at_then ?_
        obtain ⟨z39, Z10, Z6⟩ := bind_e Z6
        refine at_seq_mid (σ := Int × Int × Int) (fun ⟨x36, x37, x38⟩ => (x36, x37, x38) = z39) (fun ⟨x36, x37, x38⟩ => [(0, (.int .i64 v1)), (1, (.int .i64 v2)), (3, (.slice a_l (List.length l) n_l)), (4, (.bool raw)), (11, (.pointer (some ⟨b1, 0, none⟩))), (12, (.pointer (some ⟨b7, 0, none⟩))), (13, (.int .i64 x34)), (14, (.pointer (some ⟨b21, 0, none⟩)))]) (fun ⟨x36, x37, x38⟩ => [F, [(b1, Obj.cells #[(.int .i64 x20), (.int .i64 x21), (.int .i64 x22), (.pointer (some ⟨b14, 0, none⟩)), (.pointer (some ⟨b17, 0, none⟩))] 92 (0, 0))], [(b14, Obj.cells #[(.int .i64 x23), (.int .i64 x24), (.map (some a15)), (.slice a16 (List.length x26) n16)] 102 (0, 0))], H15, H16, [(b17, Obj.cells #[(.slice a18 (List.length x27) n18), (.int .i64 x28)] 104 (0, 0))], H18, [(b7, Obj.cells #[(.int .i64 x29), (.int .i64 x30), (.int .i64 x31), (.int .i64 x32), (.slice a19 (List.length x33) n19)] 68 (0, 0))], H19, [(b21, Obj.cells #[(.int .i64 x36), (.int .i64 x37), (.int .i64 x38)] 57 (0, 0))]]) ?_ ?_
        · refine at_seq ?_
          refine at_region [0, 1] rfl ?_
          iterate 2 refine at_s T rfl ?_
          refine at_end ?_
          refine at_sub [(0, (.int .i64 v1)), (1, (.int .i64 v2)), (3, (.slice a_l (List.length l) n_l)), (4, (.bool raw)), (11, (.pointer (some ⟨b1, 0, none⟩))), (12, (.pointer (some ⟨b7, 0, none⟩))), (13, (.int .i64 x34)), (14, (.pointer (some ⟨b21, 0, none⟩))), (59, (.bool (!raw)))] ⟨rfl, rfl, rfl, rfl, rfl, rfl, rfl, rfl, rfl, trivial⟩ ?_
          refine at_then ?_
          refine at_cond rfl (fun c11 => ?_) (fun c11 => ?_)
          · replace Z10 := if_t c11 Z10
            refine at_region_m [[], [], [], [], [3], [3, 4], [3, 4, 5], [3, 4, 5, 6], [0, 1, 2, 3, 4, 5, 6, 7], [0, 1, 2, 3, 4, 5, 6, 7, 8]] [9] [F, [(b1, Obj.cells #[(.int .i64 x20), (.int .i64 x21), (.int .i64 x22), (.pointer (some ⟨b14, 0, none⟩)), (.pointer (some ⟨b17, 0, none⟩))] 92 (0, 0))], [(b14, Obj.cells #[(.int .i64 x23), (.int .i64 x24), (.map (some a15)), (.slice a16 (List.length x26) n16)] 102 (0, 0))], H15, H16, [(b17, Obj.cells #[(.slice a18 (List.length x27) n18), (.int .i64 x28)] 104 (0, 0))], H18, [(b7, Obj.cells #[(.int .i64 x29), (.int .i64 x30), (.int .i64 x31), (.int .i64 x32), (.slice a19 (List.length x33) n19)] 68 (0, 0))], H19, [(b21, Obj.cells #[(.int .i64 (rd l x34).Kind), (.int .i64 (rd l x34).A), (.int .i64 (rd l x34).B)] 57 (0, 0))]] mix (by kernel_rfl) (by repeat first | exact pf_body | refine pf_then ?_ | refine pf_block ?_) (fun hg pf => ?_)
            refine atm_v 0 hg pf (by kernel_rfl) (still_o [0, 0, 0, 0, 0, 0, 0, 0, 0, 0] rfl) rfl rfl (g_loadA T (cs := [(.int .i64 (rd l x34).Kind), (.int .i64 (rd l x34).A), (.int .i64 (rd l x34).B)]) rfl rfl rfl rfl rfl rfl (in_varA (j := 9) rfl rfl)) ?_
            refine atm_s T 1 hg pf (by kernel_rfl) (still_o [0, 0, 0, 0, 0, 0, 0, 0, 0, 0] rfl) rfl ?_
            refine atm_s T 2 hg pf (by kernel_rfl) (still_o [0, 0, 0, 0, 0, 0, 0, 0, 0, 0] rfl) rfl ?_
            refine atm_s T 3 hg pf (by kernel_rfl) (still_o [0, 0, 0, 0, 0, 0, 0, 0, 0, 0] rfl) rfl ?_
            refine atm_s T 4 hg pf (by kernel_rfl) (still_o [0, 0, 0, 0, 0, 0, 0, 0, 0, 0] rfl) rfl ?_
            refine atm_s T 5 hg pf (by kernel_rfl) (still_o [0, 0, 0, 0, 0, 0, 0, 0, 0, 0] rfl) rfl ?_
            refine atm_s T 6 hg pf (by kernel_rfl) (still_o [0, 0, 0, 0, 0, 0, 0, 0, 0, 0] rfl) rfl ?_
            refine atm_v 7 hg pf (by kernel_rfl) (still_o [0, 0, 0, 0, 0, 0, 0, 0, 0, 0] rfl) rfl rfl (g_load T rfl rfl rfl rfl (in_var (j := 7) rfl rfl)) ?_
            refine atm_one 8 (by kernel_rfl) ?_
            obtain ⟨v40, V12, Z10⟩ := bind_e Z10
            refine at_c (B := fun _ => []) [] rfl rfl rfl rfl has30 rfl rfl (law25_near.c (rd l x34) v1 v2 x32 v40 _ V12) (fun _ => ?_)
            refine atm_next (still_o [0, 0, 0, 0, 0, 0, 0, 0, 0, 0] rfl) ?_
            refine atm_one 9 (by kernel_rfl) ?_
            refine at_st T 9 [(.int .i64 v40.Kind), (.int .i64 v40.A), (.int .i64 v40.B)] rfl rfl rfl rfl rfl rfl rfl rfl rfl rfl ?_
            refine atm_next (still_l (by kernel_rfl)) ?_
            refine atm_end (by kernel_rfl) ?_
            refine at_sub [(0, (.int .i64 v1)), (1, (.int .i64 v2)), (3, (.slice a_l (List.length l) n_l)), (4, (.bool raw)), (11, (.pointer (some ⟨b1, 0, none⟩))), (12, (.pointer (some ⟨b7, 0, none⟩))), (13, (.int .i64 x34)), (14, (.pointer (some ⟨b21, 0, none⟩)))] ⟨rfl, rfl, rfl, rfl, rfl, rfl, rfl, rfl, trivial⟩ ?_
            refine at_then ?_
            obtain rfl := Option.some.inj Z10
            exact at_mid (v40.Kind, v40.A, v40.B) [0, 0, 0, 0, 0, 0, 0, 0, 0, 0] rfl ⟨rfl, rfl, rfl, rfl, rfl, rfl, rfl, rfl, trivial⟩ rfl
          · replace Z10 := if_f (bf c11) Z10
            refine at_skip ?_
            refine at_then ?_
            obtain rfl := Option.some.inj Z10
            exact at_mid ((rd l x34).Kind, (rd l x34).A, (rd l x34).B) [0, 0, 0, 0, 0, 0, 0, 0, 0, 0] rfl ⟨rfl, rfl, rfl, rfl, rfl, rfl, rfl, rfl, trivial⟩ rfl
        · rintro ⟨x36, x37, x38⟩ rfl
          obtain ⟨z55, Z13, Z6⟩ := bind_e Z6
          refine at_seq_mid (σ := Int × Int × Int × Int × Int × (List (Int × api_Unit)) × List Int × List Int × Int × Int × Int × Int × Int × List api_Unit × Nat × Nat × Hp × Option Addr × Nat × Hp × Nat × Option Addr × Nat × Hp × Option Addr × Nat × Hp) (fun ⟨x41, x42, x43, x44, x45, x46, x47, x48, x49, x50, x51, x52, x53, x54, b22, a23, H23, a24, n24, H24, b25, a26, n26, H26, a27, n27, H27⟩ => (Sum.inr (x41, x42, x43, x44, x45, x46, x47, x48, x49, x50, x51, x52, x53, x54)) = z55 ∧ MapO (Ky.int .i64 u3) (fun x : api_Unit => Value.agg #[.int .i64 x.Id, .int .i64 x.Cell, .int .i64 x.Goal]) x46 a23 H23 ∧ SliceO (Fl.int .i64) 3 x47 a24 n24 H24 ∧ SliceO (Fl.int .u32) 74 x48 a26 n26 H26 ∧ SliceO k_api_Unit 40 x54 a27 n27 H27) (fun ⟨x41, x42, x43, x44, x45, x46, x47, x48, x49, x50, x51, x52, x53, x54, b22, a23, H23, a24, n24, H24, b25, a26, n26, H26, a27, n27, H27⟩ => [(0, (.int .i64 v1)), (1, (.int .i64 v2)), (3, (.slice a_l (List.length l) n_l)), (4, (.bool raw)), (11, (.pointer (some ⟨b1, 0, none⟩))), (12, (.pointer (some ⟨b7, 0, none⟩))), (13, (.int .i64 x34)), (14, (.pointer (some ⟨b21, 0, none⟩)))]) (fun ⟨x41, x42, x43, x44, x45, x46, x47, x48, x49, x50, x51, x52, x53, x54, b22, a23, H23, a24, n24, H24, b25, a26, n26, H26, a27, n27, H27⟩ => [F, [(b1, Obj.cells #[(.int .i64 x41), (.int .i64 x42), (.int .i64 x43), (.pointer (some ⟨b22, 0, none⟩)), (.pointer (some ⟨b25, 0, none⟩))] 92 (0, 0))], [(b22, Obj.cells #[(.int .i64 x44), (.int .i64 x45), (.map (some a23)), (.slice a24 (List.length x47) n24)] 102 (0, 0))], H23, H24, [(b25, Obj.cells #[(.slice a26 (List.length x48) n26), (.int .i64 x49)] 104 (0, 0))], H26, [(b7, Obj.cells #[(.int .i64 x50), (.int .i64 x51), (.int .i64 x52), (.int .i64 x53), (.slice a27 (List.length x54) n27)] 68 (0, 0))], H27, [(b21, Obj.cells #[(.int .i64 x36), (.int .i64 x37), (.int .i64 x38)] 57 (0, 0))]]) ?_ ?_
          · refine at_seq ?_
            refine at_region [0, 1, 2] rfl ?_
            refine at_s T rfl ?_
            refine at_v rfl (g_load T rfl rfl rfl rfl (in_var (j := 9) rfl rfl)) ?_
            obtain ⟨v56, V14, Z13⟩ := bind_e Z13
            refine at_cons (at_c (B := fun _ => []) [] rfl rfl rfl rfl has12 rfl rfl (ref1_Within.c x36 0 9 v56 _ V14) (fun _ => ?_))
            refine at_end ?_
            refine at_sub [(0, (.int .i64 v1)), (1, (.int .i64 v2)), (3, (.slice a_l (List.length l) n_l)), (4, (.bool raw)), (11, (.pointer (some ⟨b1, 0, none⟩))), (12, (.pointer (some ⟨b7, 0, none⟩))), (13, (.int .i64 x34)), (14, (.pointer (some ⟨b21, 0, none⟩))), (71, (.int .i64 v56))] ⟨rfl, rfl, rfl, rfl, rfl, rfl, rfl, rfl, rfl, trivial⟩ ?_
            refine at_then ?_
            refine at_block ?_
            refine at_seq ?_
            refine at_region [0, 1] rfl ?_
            iterate 2 refine at_s T rfl ?_
            refine at_end ?_
            refine at_sub [(0, (.int .i64 v1)), (1, (.int .i64 v2)), (3, (.slice a_l (List.length l) n_l)), (4, (.bool raw)), (11, (.pointer (some ⟨b1, 0, none⟩))), (12, (.pointer (some ⟨b7, 0, none⟩))), (13, (.int .i64 x34)), (14, (.pointer (some ⟨b21, 0, none⟩))), (71, (.int .i64 v56)), (98, (.bool (v56 == 5)))] ⟨rfl, rfl, rfl, rfl, rfl, rfl, rfl, rfl, rfl, rfl, trivial⟩ ?_
            refine at_then ?_
            refine at_cond rfl (fun c15 => ?_) (fun c15 => ?_)
            · replace Z13 := if_t c15 Z13
              refine at_seq ?_
              refine at_region_m [[], [], [1], [], [3], [0, 1, 2, 3, 4], [], [], [7], [], [9], [0, 1, 2, 3, 4, 5, 6, 7, 8, 9, 10], [0, 1, 2, 3, 4, 5, 6, 7, 8, 9, 10, 11]] [11] [F, [(b7, Obj.cells #[(.int .i64 x29), (.int .i64 x30), (.int .i64 x31), (.int .i64 x32), (.slice a19 (List.length x33) n19)] 68 (0, 0))], H19, [(b21, Obj.cells #[(.int .i64 x36), (.int .i64 x37), (.int .i64 x38)] 57 (0, 0))]] mix (by kernel_rfl) (by repeat first | exact pf_body | refine pf_then ?_ | refine pf_block ?_) (fun hg pf => ?_)
              refine atm_s T 0 hg pf (by kernel_rfl) (still_o [0, 6, 6, 6] rfl) rfl ?_
              refine atm_s T 1 hg pf (by kernel_rfl) (still_o [0, 6, 6, 6] rfl) rfl ?_
              refine atm_v 2 hg pf (by kernel_rfl) (still_o [0, 6, 6, 6] rfl) rfl rfl (g_load T rfl rfl rfl rfl (in_var (j := 3) rfl rfl)) ?_
              refine atm_s T 3 hg pf (by kernel_rfl) (still_o [0, 6, 6, 6] rfl) rfl ?_
              refine atm_v 4 hg pf (by kernel_rfl) (still_o [0, 6, 6, 6] rfl) rfl rfl (g_load T rfl rfl rfl rfl (in_var (j := 3) rfl rfl)) ?_
              refine atm_s T 6 hg pf (by kernel_rfl) (still_o [0, 6, 6, 6] rfl) rfl ?_
              refine atm_s T 7 hg pf (by kernel_rfl) (still_o [0, 6, 6, 6] rfl) rfl ?_
              refine atm_v 8 hg pf (by kernel_rfl) (still_o [0, 6, 6, 6] rfl) rfl rfl (g_load T rfl rfl rfl rfl (in_var (j := 3) rfl rfl)) ?_
              refine atm_s T 9 hg pf (by kernel_rfl) (still_o [0, 6, 6, 6] rfl) rfl ?_
              refine atm_v 10 hg pf (by kernel_rfl) (still_o [0, 6, 6, 6] rfl) rfl rfl (g_load T rfl rfl rfl rfl (in_var (j := 3) rfl rfl)) ?_
              refine atm_one 5 (by kernel_rfl) ?_
              obtain ⟨v57, V16, Z13⟩ := bind_e Z13
              refine at_cR (As := [[(b1, Obj.cells #[(.int .i64 x20), (.int .i64 x21), (.int .i64 x22), (.pointer (some ⟨b14, 0, none⟩)), (.pointer (some ⟨b17, 0, none⟩))] 92 (0, 0))], [(b14, Obj.cells #[(.int .i64 x23), (.int .i64 x24), (.map (some a15)), (.slice a16 (List.length x26) n16)] 102 (0, 0))], H15, H16, [(b17, Obj.cells #[(.slice a18 (List.length x27) n18), (.int .i64 x28)] 104 (0, 0))], H18]) (R := [F, [(b7, Obj.cells #[(.int .i64 x29), (.int .i64 x30), (.int .i64 x31), (.int .i64 x32), (.slice a19 (List.length x33) n19)] 68 (0, 0))], H19, [(b21, Obj.cells #[(.int .i64 x36), (.int .i64 x37), (.int .i64 x38)] 57 (0, 0))]]) (crowd_Crowd_Retarget.R b1 v57) [] [1, 1, 1, 1, 1, 1] rfl rfl rfl rfl has31 rfl rfl (crowd_Crowd_Retarget.c (crowd_Crowd.mk x20 x21 x22 (units_Units.mk x23 x24 x25 x26) (floor_Floor.mk x27 x28)) x37 x38 v57 _ V16 s15 s16 s18) ?_
              rintro _ _ ⟨b28, a29, H29, a30, n30, H30, b31, a32, n32, H32, s29, s30, s32, rfl, rfl⟩
              refine atm_next (still_o [0, 0, 0, 0] rfl) ?_
              refine atm_one 11 (by kernel_rfl) ?_
              obtain ⟨v58, V17, Z13⟩ := bind_e Z13
              refine at_cR (As := [[(b7, Obj.cells #[(.int .i64 x29), (.int .i64 x30), (.int .i64 x31), (.int .i64 x32), (.slice a19 (List.length x33) n19)] 68 (0, 0))], H19]) (R := [F, [(b21, Obj.cells #[(.int .i64 x36), (.int .i64 x37), (.int .i64 x38)] 57 (0, 0))], [(b1, Obj.cells #[(.int .i64 v57.2.w), (.int .i64 v57.2.h), (.int .i64 v57.2.most), (.pointer (some ⟨b28, 0, none⟩)), (.pointer (some ⟨b31, 0, none⟩))] 92 (0, 0))], [(b28, Obj.cells #[(.int .i64 v57.2.units.most), (.int .i64 v57.2.units.next), (.map (some a29)), (.slice a30 (List.length v57.2.units.order) n30)] 102 (0, 0))], H29, H30, [(b31, Obj.cells #[(.slice a32 (List.length v57.2.floor.words) n32), (.int .i64 v57.2.floor.count)] 104 (0, 0))], H32]) (ref21_Crowd_Retarget.R b7 v58) [] [1, 1] rfl rfl rfl rfl has35 rfl rfl (ref21_Crowd_Retarget.c (herdsmanref21_Crowd.mk x29 x30 (herdsmanref21_Units.mk x31 x32 x33)) x37 x38 v58 _ V17 s19) ?_
              rintro _ _ ⟨a33, n33, H33, s33, rfl, rfl⟩
              refine atm_next (still_l (by kernel_rfl)) ?_
              refine atm_s T 12 hg pf (by kernel_rfl) (still_l (by kernel_rfl)) rfl ?_
              refine atm_end (by kernel_rfl) ?_
              refine at_sub [(0, (.int .i64 v1)), (1, (.int .i64 v2)), (3, (.slice a_l (List.length l) n_l)), (4, (.bool raw)), (11, (.pointer (some ⟨b1, 0, none⟩))), (12, (.pointer (some ⟨b7, 0, none⟩))), (13, (.int .i64 x34)), (14, (.pointer (some ⟨b21, 0, none⟩))), (112, (.bool (v57.1 != v58.1)))] ⟨rfl, rfl, rfl, rfl, rfl, rfl, rfl, rfl, rfl, trivial⟩ ?_
              refine at_then ?_
              refine at_cond rfl (fun c18 => ?_) (fun c18 => ?_)
              · replace Z13 := if_t c18 Z13
                refine at_seq ?_
                refine at_region [0] rfl ?_
                refine at_s T rfl ?_
                refine at_end ?_
                refine at_to [(10, (.bool false))] [0] [F] ⟨rfl, trivial⟩ rfl ?_
                refine at_then ?_
                refine at_ret ?_
                refine at_rb ?_
                refine at_rt ?_
                refine at_rb ?_
                refine at_rt ?_
                refine at_rt ?_
                refine at_rb ?_
                refine at_rt ?_
                obtain rfl := Option.some.inj Z13
                obtain rfl := Option.some.inj (show some false = some r from Z6)
                exact at_post (T := T) rfl (.tmp rfl .nil) (fun w o => ⟨(), rfl, own_to [0] rfl o⟩)
              · replace Z13 := if_f (bf c18) Z13
                refine at_skip ?_
                refine at_nb ?_
                refine at_then ?_
                obtain rfl := Option.some.inj Z13
                exact at_mid (v57.2.w, v57.2.h, v57.2.most, v57.2.units.most, v57.2.units.next, v57.2.units.live, v57.2.units.order, v57.2.floor.words, v57.2.floor.count, v58.2.W, v58.2.H, v58.2.U.Most, v58.2.U.Next, v58.2.U.L, b28, a29, H29, a30, n30, H30, b31, a32, n32, H32, a33, n33, H33) [0, 1, 1, 1, 1, 1, 1, 1, 1, 0] ⟨rfl, s29, s30, s32, s33⟩ ⟨rfl, rfl, rfl, rfl, rfl, rfl, rfl, rfl, trivial⟩ rfl
            · replace Z13 := if_f (bf c15) Z13
              refine at_seq ?_
              refine at_region [0, 1] rfl ?_
              iterate 2 refine at_s T rfl ?_
              refine at_end ?_
              refine at_sub [(0, (.int .i64 v1)), (1, (.int .i64 v2)), (3, (.slice a_l (List.length l) n_l)), (4, (.bool raw)), (11, (.pointer (some ⟨b1, 0, none⟩))), (12, (.pointer (some ⟨b7, 0, none⟩))), (13, (.int .i64 x34)), (14, (.pointer (some ⟨b21, 0, none⟩))), (71, (.int .i64 v56)), (113, (.bool (v56 == 6)))] ⟨rfl, rfl, rfl, rfl, rfl, rfl, rfl, rfl, rfl, rfl, trivial⟩ ?_
              refine at_then ?_
              refine at_cond rfl (fun c19 => ?_) (fun c19 => ?_)
              · replace Z13 := if_t c19 Z13
                refine at_seq ?_
                refine at_region_m [[], [], [1], [0, 1, 2], [], [], [5], [0, 1, 2, 3, 4, 5, 6], [0, 1, 2, 3, 4, 5, 6, 7]] [7] [F, [(b7, Obj.cells #[(.int .i64 x29), (.int .i64 x30), (.int .i64 x31), (.int .i64 x32), (.slice a19 (List.length x33) n19)] 68 (0, 0))], H19, [(b21, Obj.cells #[(.int .i64 x36), (.int .i64 x37), (.int .i64 x38)] 57 (0, 0))]] mix (by kernel_rfl) (by repeat first | exact pf_body | refine pf_then ?_ | refine pf_block ?_) (fun hg pf => ?_)
                refine atm_s T 0 hg pf (by kernel_rfl) (still_o [0, 6, 6, 6] rfl) rfl ?_
                refine atm_s T 1 hg pf (by kernel_rfl) (still_o [0, 6, 6, 6] rfl) rfl ?_
                refine atm_v 2 hg pf (by kernel_rfl) (still_o [0, 6, 6, 6] rfl) rfl rfl (g_load T rfl rfl rfl rfl (in_var (j := 3) rfl rfl)) ?_
                refine atm_s T 4 hg pf (by kernel_rfl) (still_o [0, 6, 6, 6] rfl) rfl ?_
                refine atm_s T 5 hg pf (by kernel_rfl) (still_o [0, 6, 6, 6] rfl) rfl ?_
                refine atm_v 6 hg pf (by kernel_rfl) (still_o [0, 6, 6, 6] rfl) rfl rfl (g_load T rfl rfl rfl rfl (in_var (j := 3) rfl rfl)) ?_
                refine atm_one 3 (by kernel_rfl) ?_
                obtain ⟨v59, V20, Z13⟩ := bind_e Z13
                refine at_cR (As := [[(b1, Obj.cells #[(.int .i64 x20), (.int .i64 x21), (.int .i64 x22), (.pointer (some ⟨b14, 0, none⟩)), (.pointer (some ⟨b17, 0, none⟩))] 92 (0, 0))], [(b14, Obj.cells #[(.int .i64 x23), (.int .i64 x24), (.map (some a15)), (.slice a16 (List.length x26) n16)] 102 (0, 0))], H15, H16, [(b17, Obj.cells #[(.slice a18 (List.length x27) n18), (.int .i64 x28)] 104 (0, 0))], H18]) (R := [F, [(b7, Obj.cells #[(.int .i64 x29), (.int .i64 x30), (.int .i64 x31), (.int .i64 x32), (.slice a19 (List.length x33) n19)] 68 (0, 0))], H19, [(b21, Obj.cells #[(.int .i64 x36), (.int .i64 x37), (.int .i64 x38)] 57 (0, 0))]]) (crowd_Crowd_Despawn.R b1 v59) [] [1, 1, 1, 1, 1, 1] rfl rfl rfl rfl has32 rfl rfl (crowd_Crowd_Despawn.c (crowd_Crowd.mk x20 x21 x22 (units_Units.mk x23 x24 x25 x26) (floor_Floor.mk x27 x28)) x37 v59 _ V20 s15 s16 s18) ?_
                rintro _ _ ⟨b34, a35, H35, a36, n36, H36, b37, a38, n38, H38, s35, s36, s38, rfl, rfl⟩
                refine atm_next (still_o [0, 0, 0, 0] rfl) ?_
                refine atm_one 7 (by kernel_rfl) ?_
                obtain ⟨v60, V21, Z13⟩ := bind_e Z13
                refine at_cR (As := [[(b7, Obj.cells #[(.int .i64 x29), (.int .i64 x30), (.int .i64 x31), (.int .i64 x32), (.slice a19 (List.length x33) n19)] 68 (0, 0))], H19]) (R := [F, [(b21, Obj.cells #[(.int .i64 x36), (.int .i64 x37), (.int .i64 x38)] 57 (0, 0))], [(b1, Obj.cells #[(.int .i64 v59.2.w), (.int .i64 v59.2.h), (.int .i64 v59.2.most), (.pointer (some ⟨b34, 0, none⟩)), (.pointer (some ⟨b37, 0, none⟩))] 92 (0, 0))], [(b34, Obj.cells #[(.int .i64 v59.2.units.most), (.int .i64 v59.2.units.next), (.map (some a35)), (.slice a36 (List.length v59.2.units.order) n36)] 102 (0, 0))], H35, H36, [(b37, Obj.cells #[(.slice a38 (List.length v59.2.floor.words) n38), (.int .i64 v59.2.floor.count)] 104 (0, 0))], H38]) (ref21_Crowd_Despawn.R b7 v60) [] [1, 1] rfl rfl rfl rfl has36 rfl rfl (ref21_Crowd_Despawn.c (herdsmanref21_Crowd.mk x29 x30 (herdsmanref21_Units.mk x31 x32 x33)) x37 v60 _ V21 s19) ?_
                rintro _ _ ⟨a39, n39, H39, s39, rfl, rfl⟩
                refine atm_next (still_l (by kernel_rfl)) ?_
                refine atm_s T 8 hg pf (by kernel_rfl) (still_l (by kernel_rfl)) rfl ?_
                refine atm_end (by kernel_rfl) ?_
                refine at_sub [(0, (.int .i64 v1)), (1, (.int .i64 v2)), (3, (.slice a_l (List.length l) n_l)), (4, (.bool raw)), (11, (.pointer (some ⟨b1, 0, none⟩))), (12, (.pointer (some ⟨b7, 0, none⟩))), (13, (.int .i64 x34)), (14, (.pointer (some ⟨b21, 0, none⟩))), (123, (.bool (v59.1 != v60.1)))] ⟨rfl, rfl, rfl, rfl, rfl, rfl, rfl, rfl, rfl, trivial⟩ ?_
                refine at_then ?_
                refine at_cond rfl (fun c22 => ?_) (fun c22 => ?_)
                · replace Z13 := if_t c22 Z13
                  refine at_seq ?_
                  refine at_region [0] rfl ?_
                  refine at_s T rfl ?_
                  refine at_end ?_
                  refine at_to [(10, (.bool false))] [0] [F] ⟨rfl, trivial⟩ rfl ?_
                  refine at_then ?_
                  refine at_ret ?_
                  refine at_rb ?_
                  refine at_rt ?_
                  refine at_rb ?_
                  refine at_rt ?_
                  refine at_rt ?_
                  refine at_rb ?_
                  refine at_rt ?_
                  obtain rfl := Option.some.inj Z13
                  obtain rfl := Option.some.inj (show some false = some r from Z6)
                  exact at_post (T := T) rfl (.tmp rfl .nil) (fun w o => ⟨(), rfl, own_to [0] rfl o⟩)
                · replace Z13 := if_f (bf c22) Z13
                  refine at_skip ?_
                  refine at_nb ?_
                  refine at_then ?_
                  obtain rfl := Option.some.inj Z13
                  exact at_mid (v59.2.w, v59.2.h, v59.2.most, v59.2.units.most, v59.2.units.next, v59.2.units.live, v59.2.units.order, v59.2.floor.words, v59.2.floor.count, v60.2.W, v60.2.H, v60.2.U.Most, v60.2.U.Next, v60.2.U.L, b34, a35, H35, a36, n36, H36, b37, a38, n38, H38, a39, n39, H39) [0, 1, 1, 1, 1, 1, 1, 1, 1, 0] ⟨rfl, s35, s36, s38, s39⟩ ⟨rfl, rfl, rfl, rfl, rfl, rfl, rfl, rfl, trivial⟩ rfl
              · replace Z13 := if_f (bf c19) Z13
                obtain ⟨z62, Z23, Z13⟩ := bind_e Z13
                refine at_seq_mid (σ := Bool) (fun x61 => x61 = z62) (fun x61 => [(0, (.int .i64 v1)), (1, (.int .i64 v2)), (3, (.slice a_l (List.length l) n_l)), (4, (.bool raw)), (11, (.pointer (some ⟨b1, 0, none⟩))), (12, (.pointer (some ⟨b7, 0, none⟩))), (13, (.int .i64 x34)), (14, (.pointer (some ⟨b21, 0, none⟩))), (124, (.bool x61))]) (fun x61 => [F, [(b1, Obj.cells #[(.int .i64 x20), (.int .i64 x21), (.int .i64 x22), (.pointer (some ⟨b14, 0, none⟩)), (.pointer (some ⟨b17, 0, none⟩))] 92 (0, 0))], [(b14, Obj.cells #[(.int .i64 x23), (.int .i64 x24), (.map (some a15)), (.slice a16 (List.length x26) n16)] 102 (0, 0))], H15, H16, [(b17, Obj.cells #[(.slice a18 (List.length x27) n18), (.int .i64 x28)] 104 (0, 0))], H18, [(b7, Obj.cells #[(.int .i64 x29), (.int .i64 x30), (.int .i64 x31), (.int .i64 x32), (.slice a19 (List.length x33) n19)] 68 (0, 0))], H19, [(b21, Obj.cells #[(.int .i64 x36), (.int .i64 x37), (.int .i64 x38)] 57 (0, 0))]]) ?_ ?_
                · refine at_seq ?_
                  refine at_region [0, 1] rfl ?_
                  iterate 2 refine at_s T rfl ?_
                  refine at_end ?_
                  refine at_sub [(0, (.int .i64 v1)), (1, (.int .i64 v2)), (3, (.slice a_l (List.length l) n_l)), (4, (.bool raw)), (11, (.pointer (some ⟨b1, 0, none⟩))), (12, (.pointer (some ⟨b7, 0, none⟩))), (13, (.int .i64 x34)), (14, (.pointer (some ⟨b21, 0, none⟩))), (71, (.int .i64 v56)), (124, (.bool (v56 == 7)))] ⟨rfl, rfl, rfl, rfl, rfl, rfl, rfl, rfl, rfl, rfl, trivial⟩ ?_
                  refine at_then ?_
                  refine at_cond rfl (fun c24 => ?_) (fun c24 => ?_)
                  · replace Z23 := if_t c24 Z23
                    refine at_skip ?_
                    refine at_then ?_
                    obtain rfl := Option.some.inj Z23
                    exact at_mid (v56 == 7) [0, 0, 0, 0, 0, 0, 0, 0, 0, 0] rfl ⟨rfl, rfl, rfl, rfl, rfl, rfl, rfl, rfl, rfl, trivial⟩ rfl
                  · replace Z23 := if_f (bf c24) Z23
                    refine at_seq ?_
                    refine at_region [0, 1] rfl ?_
                    iterate 2 refine at_s T rfl ?_
                    refine at_end ?_
                    refine at_sub [(0, (.int .i64 v1)), (1, (.int .i64 v2)), (3, (.slice a_l (List.length l) n_l)), (4, (.bool raw)), (11, (.pointer (some ⟨b1, 0, none⟩))), (12, (.pointer (some ⟨b7, 0, none⟩))), (13, (.int .i64 x34)), (14, (.pointer (some ⟨b21, 0, none⟩))), (71, (.int .i64 v56)), (124, (.bool (v56 == 8)))] ⟨rfl, rfl, rfl, rfl, rfl, rfl, rfl, rfl, rfl, rfl, trivial⟩ ?_
                    refine at_then ?_
                    refine at_cond rfl (fun c25 => ?_) (fun c25 => ?_)
                    · replace Z23 := if_t c25 Z23
                      refine at_skip ?_
                      refine at_then ?_
                      obtain rfl := Option.some.inj Z23
                      exact at_mid (v56 == 8) [0, 0, 0, 0, 0, 0, 0, 0, 0, 0] rfl ⟨rfl, rfl, rfl, rfl, rfl, rfl, rfl, rfl, rfl, trivial⟩ rfl
                    · replace Z23 := if_f (bf c25) Z23
                      refine at_region [0, 1] rfl ?_
                      iterate 2 refine at_s T rfl ?_
                      refine at_end ?_
                      refine at_sub [(0, (.int .i64 v1)), (1, (.int .i64 v2)), (3, (.slice a_l (List.length l) n_l)), (4, (.bool raw)), (11, (.pointer (some ⟨b1, 0, none⟩))), (12, (.pointer (some ⟨b7, 0, none⟩))), (13, (.int .i64 x34)), (14, (.pointer (some ⟨b21, 0, none⟩))), (124, (.bool (v56 == 9)))] ⟨rfl, rfl, rfl, rfl, rfl, rfl, rfl, rfl, rfl, trivial⟩ ?_
                      refine at_then ?_
                      obtain rfl := Option.some.inj Z23
                      exact at_mid (v56 == 9) [0, 0, 0, 0, 0, 0, 0, 0, 0, 0] rfl ⟨rfl, rfl, rfl, rfl, rfl, rfl, rfl, rfl, rfl, trivial⟩ rfl
                · rintro x61 rfl
                  refine at_cond rfl (fun c26 => ?_) (fun c26 => ?_)
                  · replace Z13 := if_t c26 Z13
                    refine at_seq ?_
                    refine at_region_m [[], [0], [0, 1], [0, 1, 2], [0, 1, 2, 3], [0, 1, 2, 3, 4], [], [6], [], [8], [0, 1, 2, 3, 4, 5, 6, 7, 8, 9], [0, 1, 2, 3, 4, 5, 6, 7, 8, 9, 10]] [] [F, [(b1, Obj.cells #[(.int .i64 x20), (.int .i64 x21), (.int .i64 x22), (.pointer (some ⟨b14, 0, none⟩)), (.pointer (some ⟨b17, 0, none⟩))] 92 (0, 0))], [(b14, Obj.cells #[(.int .i64 x23), (.int .i64 x24), (.map (some a15)), (.slice a16 (List.length x26) n16)] 102 (0, 0))], H15, H16, [(b17, Obj.cells #[(.slice a18 (List.length x27) n18), (.int .i64 x28)] 104 (0, 0))], H18, [(b7, Obj.cells #[(.int .i64 x29), (.int .i64 x30), (.int .i64 x31), (.int .i64 x32), (.slice a19 (List.length x33) n19)] 68 (0, 0))], H19, [(b21, Obj.cells #[(.int .i64 x36), (.int .i64 x37), (.int .i64 x38)] 57 (0, 0))]] mix (by kernel_rfl) (by repeat first | exact pf_body | refine pf_then ?_ | refine pf_block ?_) (fun hg pf => ?_)
                    refine atm_s T 0 hg pf (by kernel_rfl) (still_o [0, 0, 0, 0, 0, 0, 0, 0, 0, 0] rfl) rfl ?_
                    refine atm_s T 1 hg pf (by kernel_rfl) (still_o [0, 0, 0, 0, 0, 0, 0, 0, 0, 0] rfl) rfl ?_
                    refine atm_s T 2 hg pf (by kernel_rfl) (still_o [0, 0, 0, 0, 0, 0, 0, 0, 0, 0] rfl) rfl ?_
                    refine atm_s T 3 hg pf (by kernel_rfl) (still_o [0, 0, 0, 0, 0, 0, 0, 0, 0, 0] rfl) rfl ?_
                    refine atm_v 4 hg pf (by kernel_rfl) (still_o [0, 0, 0, 0, 0, 0, 0, 0, 0, 0] rfl) rfl rfl (g_load T rfl rfl rfl rfl (in_var (j := 7) rfl rfl)) ?_
                    refine atm_s T 5 hg pf (by kernel_rfl) (still_o [0, 0, 0, 0, 0, 0, 0, 0, 0, 0] rfl) rfl ?_
                    refine atm_s T 6 hg pf (by kernel_rfl) (still_o [0, 0, 0, 0, 0, 0, 0, 0, 0, 0] rfl) rfl ?_
                    refine atm_v 7 hg pf (by kernel_rfl) (still_o [0, 0, 0, 0, 0, 0, 0, 0, 0, 0] rfl) rfl rfl (g_load T rfl rfl rfl rfl (in_var (j := 9) rfl rfl)) ?_
                    refine atm_s T 8 hg pf (by kernel_rfl) (still_o [0, 0, 0, 0, 0, 0, 0, 0, 0, 0] rfl) rfl ?_
                    refine atm_v 9 hg pf (by kernel_rfl) (still_o [0, 0, 0, 0, 0, 0, 0, 0, 0, 0] rfl) rfl rfl (g_load T rfl rfl rfl rfl (in_var (j := 9) rfl rfl)) ?_
                    refine atm_one 10 (by kernel_rfl) ?_
                    obtain ⟨v63, V27, Z13⟩ := bind_e Z13
                    refine at_cR (law25_dirs.R v63) [] [] rfl rfl rfl rfl has34 rfl rfl (law25_dirs.c (List.length x33 : Int) x37 x38 v63 _ V27) ?_
                    rintro _ _ ⟨a40, n40, H40, s40, rfl, rfl⟩
                    refine atm_next (still_o [0, 0, 0, 0, 0, 0, 0, 0, 0, 0] rfl) ?_
                    refine atm_s T 11 hg pf (by kernel_rfl) (still_o [0, 0, 0, 0, 0, 0, 0, 0, 0, 0] rfl) rfl ?_
                    refine atm_end (by kernel_rfl) ?_
                    refine at_sub [(0, (.int .i64 v1)), (1, (.int .i64 v2)), (3, (.slice a_l (List.length l) n_l)), (4, (.bool raw)), (11, (.pointer (some ⟨b1, 0, none⟩))), (12, (.pointer (some ⟨b7, 0, none⟩))), (13, (.int .i64 x34)), (14, (.pointer (some ⟨b21, 0, none⟩))), (15, (.slice a40 (List.length v63) n40))] ⟨rfl, rfl, rfl, rfl, rfl, rfl, rfl, rfl, rfl, trivial⟩ ?_
                    refine at_then ?_
                    obtain ⟨z65, Z28, Z13⟩ := bind_e Z13
                    refine at_seq_mid (σ := List Int × Option Addr × Nat × Hp) (fun ⟨x64, a41, n41, H41⟩ => x64 = z65 ∧ SliceO (Fl.int .i64) 3 x64 a41 n41 H41) (fun ⟨x64, a41, n41, H41⟩ => [(0, (.int .i64 v1)), (1, (.int .i64 v2)), (3, (.slice a_l (List.length l) n_l)), (4, (.bool raw)), (11, (.pointer (some ⟨b1, 0, none⟩))), (12, (.pointer (some ⟨b7, 0, none⟩))), (13, (.int .i64 x34)), (14, (.pointer (some ⟨b21, 0, none⟩))), (15, (.slice a41 (List.length x64) n41))]) (fun ⟨x64, a41, n41, H41⟩ => [F, [(b1, Obj.cells #[(.int .i64 x20), (.int .i64 x21), (.int .i64 x22), (.pointer (some ⟨b14, 0, none⟩)), (.pointer (some ⟨b17, 0, none⟩))] 92 (0, 0))], [(b14, Obj.cells #[(.int .i64 x23), (.int .i64 x24), (.map (some a15)), (.slice a16 (List.length x26) n16)] 102 (0, 0))], H15, H16, [(b17, Obj.cells #[(.slice a18 (List.length x27) n18), (.int .i64 x28)] 104 (0, 0))], H18, [(b7, Obj.cells #[(.int .i64 x29), (.int .i64 x30), (.int .i64 x31), (.int .i64 x32), (.slice a19 (List.length x33) n19)] 68 (0, 0))], H19, [(b21, Obj.cells #[(.int .i64 x36), (.int .i64 x37), (.int .i64 x38)] 57 (0, 0))], H41]) ?_ ?_
                    · refine at_seq ?_
                      refine at_region [0] rfl ?_
                      refine at_s T rfl ?_
                      refine at_end ?_
                      refine at_sub [(0, (.int .i64 v1)), (1, (.int .i64 v2)), (3, (.slice a_l (List.length l) n_l)), (4, (.bool raw)), (11, (.pointer (some ⟨b1, 0, none⟩))), (12, (.pointer (some ⟨b7, 0, none⟩))), (13, (.int .i64 x34)), (14, (.pointer (some ⟨b21, 0, none⟩))), (15, (.slice a40 (List.length v63) n40)), (139, (.bool raw))] ⟨rfl, rfl, rfl, rfl, rfl, rfl, rfl, rfl, rfl, rfl, trivial⟩ ?_
                      refine at_then ?_
                      refine at_cond rfl (fun c29 => ?_) (fun c29 => ?_)
                      · replace Z28 := if_t c29 Z28
                        refine at_region_m [[], [], [1], [1, 2], [0, 1, 2, 3], [], [5], [], [7], [7, 8], [5, 6, 7, 8, 9], [0, 1, 2, 3, 4, 5, 6, 7, 8, 9, 10], [0, 1, 2, 3, 4, 5, 6, 7, 8, 9, 10, 11]] [] [F, [(b1, Obj.cells #[(.int .i64 x20), (.int .i64 x21), (.int .i64 x22), (.pointer (some ⟨b14, 0, none⟩)), (.pointer (some ⟨b17, 0, none⟩))] 92 (0, 0))], [(b14, Obj.cells #[(.int .i64 x23), (.int .i64 x24), (.map (some a15)), (.slice a16 (List.length x26) n16)] 102 (0, 0))], H15, H16, [(b17, Obj.cells #[(.slice a18 (List.length x27) n18), (.int .i64 x28)] 104 (0, 0))], H18, [(b7, Obj.cells #[(.int .i64 x29), (.int .i64 x30), (.int .i64 x31), (.int .i64 x32), (.slice a19 (List.length x33) n19)] 68 (0, 0))], H19, [(b21, Obj.cells #[(.int .i64 x36), (.int .i64 x37), (.int .i64 x38)] 57 (0, 0))]] mix (by kernel_rfl) (by repeat first | exact pf_body | refine pf_then ?_ | refine pf_block ?_) (fun hg pf => ?_)
                        refine atm_s T 0 hg pf (by kernel_rfl) (still_o [0, 0, 0, 0, 0, 0, 0, 0, 0, 0] rfl) rfl ?_
                        refine atm_s T 1 hg pf (by kernel_rfl) (still_o [0, 0, 0, 0, 0, 0, 0, 0, 0, 0] rfl) rfl ?_
                        refine atm_v 2 hg pf (by kernel_rfl) (still_o [0, 0, 0, 0, 0, 0, 0, 0, 0, 0] rfl) rfl rfl (g_load T rfl rfl rfl rfl (in_var (j := 9) rfl rfl)) ?_
                        refine atm_s T 5 hg pf (by kernel_rfl) (still_o [0, 0, 0, 0, 0, 0, 0, 0, 0, 0] rfl) rfl ?_
                        refine atm_s T 6 hg pf (by kernel_rfl) (still_o [0, 0, 0, 0, 0, 0, 0, 0, 0, 0] rfl) rfl ?_
                        refine atm_s T 7 hg pf (by kernel_rfl) (still_o [0, 0, 0, 0, 0, 0, 0, 0, 0, 0] rfl) rfl ?_
                        refine atm_v 8 hg pf (by kernel_rfl) (still_o [0, 0, 0, 0, 0, 0, 0, 0, 0, 0] rfl) rfl rfl (g_load T rfl rfl rfl rfl (in_var (j := 9) rfl rfl)) ?_
                        refine atm_s T 9 hg pf (by kernel_rfl) (still_o [0, 0, 0, 0, 0, 0, 0, 0, 0, 0] rfl) rfl ?_
                        refine atm_s T 10 hg pf (by kernel_rfl) (still_o [0, 0, 0, 0, 0, 0, 0, 0, 0, 0] rfl) rfl ?_
                        refine atm_one 3 (by kernel_rfl) ?_
                        refine at_bs (k := (Fl.int .i64)) T [x37] rfl rfl rfl rfl rfl rfl rfl rfl rfl (fun a42 H42 s42 => ?_)
                        refine atm_next (still_o [0, 0, 0, 0, 0, 0, 0, 0, 0, 0] rfl) ?_
                        refine atm_one 4 (by kernel_rfl) ?_
                        obtain ⟨c30, Z28⟩ := chk_e Z28
                        refine at_ap (k := (Fl.int .i64)) (xs := v63) T (g := 10) rfl rfl rfl rfl rfl rfl rfl rfl rfl rfl s40 (own_of s42 (j := 11) rfl) c30 rfl (fun a43 n43 H43 s43 => ?_)
                        refine atm_next (still_o [0, 0, 0, 0, 0, 0, 0, 0, 0, 0] rfl) ?_
                        obtain ⟨c31, Z28⟩ := chk_e Z28
                        refine atm_v 11 hg pf (by kernel_rfl) (still_o [0, 0, 0, 0, 0, 0, 0, 0, 0, 0] rfl) rfl rfl (g_sub T rfl rfl rfl rfl rfl rfl c31 s43.cap_le) ?_
                        refine atm_s T 12 hg pf (by kernel_rfl) (still_o [0, 0, 0, 0, 0, 0, 0, 0, 0, 0] rfl) rfl ?_
                        refine atm_end (by kernel_rfl) ?_
                        refine at_to [(0, (.int .i64 v1)), (1, (.int .i64 v2)), (3, (.slice a_l (List.length l) n_l)), (4, (.bool raw)), (11, (.pointer (some ⟨b1, 0, none⟩))), (12, (.pointer (some ⟨b7, 0, none⟩))), (13, (.int .i64 x34)), (14, (.pointer (some ⟨b21, 0, none⟩))), (15, (.slice (subA a43 n43 (Int.toNat 0) 1) (List.length (sub' (v63 ++ [x37]) 0 (if (w64 (BitVec.toNat (BitVec.ofInt (IntKind.bits .i64) x38 &&& BitVec.ofInt (IntKind.bits .i64) 1))) > (List.length v63 : Int) then (w64 (BitVec.toNat (BitVec.ofInt (IntKind.bits .i64) x38 &&& BitVec.ofInt (IntKind.bits .i64) 1))) else (List.length v63 : Int)))) (n43 - Int.toNat 0)))] [0, 0, 0, 0, 0, 0, 0, 0, 0, 0, 0] [F, [(b1, Obj.cells #[(.int .i64 x20), (.int .i64 x21), (.int .i64 x22), (.pointer (some ⟨b14, 0, none⟩)), (.pointer (some ⟨b17, 0, none⟩))] 92 (0, 0))], [(b14, Obj.cells #[(.int .i64 x23), (.int .i64 x24), (.map (some a15)), (.slice a16 (List.length x26) n16)] 102 (0, 0))], H15, H16, [(b17, Obj.cells #[(.slice a18 (List.length x27) n18), (.int .i64 x28)] 104 (0, 0))], H18, [(b7, Obj.cells #[(.int .i64 x29), (.int .i64 x30), (.int .i64 x31), (.int .i64 x32), (.slice a19 (List.length x33) n19)] 68 (0, 0))], H19, [(b21, Obj.cells #[(.int .i64 x36), (.int .i64 x37), (.int .i64 x38)] 57 (0, 0))], H43] ⟨rfl, rfl, rfl, rfl, rfl, rfl, rfl, rfl, rfl, trivial⟩ rfl ?_
                        refine at_then ?_
                        obtain rfl := Option.some.inj Z28
                        exact at_mid ((sub' (v63 ++ [x37]) 0 (if (w64 (BitVec.toNat (BitVec.ofInt (IntKind.bits .i64) x38 &&& BitVec.ofInt (IntKind.bits .i64) 1))) > (List.length v63 : Int) then (w64 (BitVec.toNat (BitVec.ofInt (IntKind.bits .i64) x38 &&& BitVec.ofInt (IntKind.bits .i64) 1))) else (List.length v63 : Int))), (subA a43 n43 (Int.toNat 0) 1), (n43 - Int.toNat 0), H43) [0, 0, 0, 0, 0, 0, 0, 0, 0, 0, 0] ⟨rfl, (SliceO.pre s43 c31)⟩ ⟨rfl, rfl, rfl, rfl, rfl, rfl, rfl, rfl, rfl, trivial⟩ rfl
                      · replace Z28 := if_f (bf c29) Z28
                        refine at_skip ?_
                        refine at_then ?_
                        obtain rfl := Option.some.inj Z28
                        exact at_mid (v63, a40, n40, H40) [0, 0, 0, 0, 0, 0, 0, 0, 0, 0, 0] ⟨rfl, s40⟩ ⟨rfl, rfl, rfl, rfl, rfl, rfl, rfl, rfl, rfl, trivial⟩ rfl
                    · rintro ⟨x64, a41, n41, H41⟩ ⟨rfl, s41⟩
                      refine at_seq ?_
                      refine at_region [0, 1, 2, 3, 4, 5, 6, 7, 8, 9] rfl ?_
                      iterate 2 refine at_s T rfl ?_
                      obtain ⟨v66, V32, Z13⟩ := bind_e Z13
                      refine at_cons (at_cR (As := [[(b1, Obj.cells #[(.int .i64 x20), (.int .i64 x21), (.int .i64 x22), (.pointer (some ⟨b14, 0, none⟩)), (.pointer (some ⟨b17, 0, none⟩))] 92 (0, 0))], [(b14, Obj.cells #[(.int .i64 x23), (.int .i64 x24), (.map (some a15)), (.slice a16 (List.length x26) n16)] 102 (0, 0))], H15, H16, [(b17, Obj.cells #[(.slice a18 (List.length x27) n18), (.int .i64 x28)] 104 (0, 0))], H18]) (R := [F, [(b7, Obj.cells #[(.int .i64 x29), (.int .i64 x30), (.int .i64 x31), (.int .i64 x32), (.slice a19 (List.length x33) n19)] 68 (0, 0))], H19, [(b21, Obj.cells #[(.int .i64 x36), (.int .i64 x37), (.int .i64 x38)] 57 (0, 0))], H41]) (crowd_Crowd_Tick.R b1 v66) [] [1, 1, 1, 1, 1, 1] rfl rfl rfl rfl has33 rfl rfl (crowd_Crowd_Tick.c (crowd_Crowd.mk x20 x21 x22 (units_Units.mk x23 x24 x25 x26) (floor_Floor.mk x27 x28)) x64 v66 _ V32 s15 s16 s18 (own_of s41 (j := 4) rfl) s41.cap_le) ?_)
                      rintro _ _ ⟨a44, n44, H44, a45, n45, H45, b46, a47, H47, a48, n48, H48, b49, a50, n50, H50, s44, s45, s47, s48, s50, rfl, rfl⟩
                      iterate 7 refine at_s T rfl ?_
                      refine at_end ?_
                      refine at_sub [(0, (.int .i64 v1)), (1, (.int .i64 v2)), (3, (.slice a_l (List.length l) n_l)), (4, (.bool raw)), (11, (.pointer (some ⟨b1, 0, none⟩))), (12, (.pointer (some ⟨b7, 0, none⟩))), (13, (.int .i64 x34)), (14, (.pointer (some ⟨b21, 0, none⟩))), (15, (.slice a41 (List.length x64) n41)), (16, (.slice a44 (List.length v66.1) n44)), (17, (.slice a45 (List.length v66.2.1) n45)), (18, (.int .i64 v66.2.2.1))] ⟨rfl, rfl, rfl, rfl, rfl, rfl, rfl, rfl, rfl, rfl, rfl, rfl, trivial⟩ ?_
                      refine at_then ?_
                      refine at_seq ?_
                      refine at_region [0, 1, 2, 3, 4, 5, 6, 7, 8, 9] rfl ?_
                      iterate 2 refine at_s T rfl ?_
                      obtain ⟨v67, V33, Z13⟩ := bind_e Z13
                      refine at_cons (at_cR (As := [[(b7, Obj.cells #[(.int .i64 x29), (.int .i64 x30), (.int .i64 x31), (.int .i64 x32), (.slice a19 (List.length x33) n19)] 68 (0, 0))], H19]) (R := [F, [(b21, Obj.cells #[(.int .i64 x36), (.int .i64 x37), (.int .i64 x38)] 57 (0, 0))], H41, H44, H45, [(b1, Obj.cells #[(.int .i64 v66.2.2.2.w), (.int .i64 v66.2.2.2.h), (.int .i64 v66.2.2.2.most), (.pointer (some ⟨b46, 0, none⟩)), (.pointer (some ⟨b49, 0, none⟩))] 92 (0, 0))], [(b46, Obj.cells #[(.int .i64 v66.2.2.2.units.most), (.int .i64 v66.2.2.2.units.next), (.map (some a47)), (.slice a48 (List.length v66.2.2.2.units.order) n48)] 102 (0, 0))], H47, H48, [(b49, Obj.cells #[(.slice a50 (List.length v66.2.2.2.floor.words) n50), (.int .i64 v66.2.2.2.floor.count)] 104 (0, 0))], H50]) (ref21_Crowd_Tick.R b7 v67) [] [1, 1] rfl rfl rfl rfl has37 rfl rfl (ref21_Crowd_Tick.c (herdsmanref21_Crowd.mk x29 x30 (herdsmanref21_Units.mk x31 x32 x33)) x64 v67 _ V33 s19 (own_of s41 (j := 2) rfl) s41.cap_le) ?_)
                      rintro _ _ ⟨a51, n51, H51, a52, n52, H52, a53, n53, H53, s51, s52, s53, rfl, rfl⟩
                      iterate 7 refine at_s T rfl ?_
                      refine at_end ?_
                      refine at_to [(0, (.int .i64 v1)), (1, (.int .i64 v2)), (3, (.slice a_l (List.length l) n_l)), (4, (.bool raw)), (11, (.pointer (some ⟨b1, 0, none⟩))), (12, (.pointer (some ⟨b7, 0, none⟩))), (13, (.int .i64 x34)), (14, (.pointer (some ⟨b21, 0, none⟩))), (16, (.slice a44 (List.length v66.1) n44)), (17, (.slice a45 (List.length v66.2.1) n45)), (18, (.int .i64 v66.2.2.1)), (19, (.slice a51 (List.length v67.1) n51)), (20, (.slice a52 (List.length v67.2.1) n52)), (21, (.int .i64 v67.2.2.1))] [0, 0, 1, 1, 1, 1, 1, 1, 1, 1, 1, 1, 1, 1] [F, [(b21, Obj.cells #[(.int .i64 x36), (.int .i64 x37), (.int .i64 x38)] 57 (0, 0))], H44, H45, [(b1, Obj.cells #[(.int .i64 v66.2.2.2.w), (.int .i64 v66.2.2.2.h), (.int .i64 v66.2.2.2.most), (.pointer (some ⟨b46, 0, none⟩)), (.pointer (some ⟨b49, 0, none⟩))] 92 (0, 0))], [(b46, Obj.cells #[(.int .i64 v66.2.2.2.units.most), (.int .i64 v66.2.2.2.units.next), (.map (some a47)), (.slice a48 (List.length v66.2.2.2.units.order) n48)] 102 (0, 0))], H47, H48, [(b49, Obj.cells #[(.slice a50 (List.length v66.2.2.2.floor.words) n50), (.int .i64 v66.2.2.2.floor.count)] 104 (0, 0))], H50, H51, H52, [(b7, Obj.cells #[(.int .i64 v67.2.2.2.W), (.int .i64 v67.2.2.2.H), (.int .i64 v67.2.2.2.U.Most), (.int .i64 v67.2.2.2.U.Next), (.slice a53 (List.length v67.2.2.2.U.L) n53)] 68 (0, 0))], H53] ⟨rfl, rfl, rfl, rfl, rfl, rfl, rfl, rfl, rfl, rfl, rfl, rfl, rfl, rfl, trivial⟩ rfl ?_
                      refine at_then ?_
                      obtain ⟨z69, Z34, Z13⟩ := bind_e Z13
                      refine at_seq_mid (σ := Bool) (fun x68 => x68 = z69) (fun x68 => [(0, (.int .i64 v1)), (1, (.int .i64 v2)), (3, (.slice a_l (List.length l) n_l)), (4, (.bool raw)), (11, (.pointer (some ⟨b1, 0, none⟩))), (12, (.pointer (some ⟨b7, 0, none⟩))), (13, (.int .i64 x34)), (14, (.pointer (some ⟨b21, 0, none⟩))), (180, (.bool x68))]) (fun x68 => [F, [(b1, Obj.cells #[(.int .i64 v66.2.2.2.w), (.int .i64 v66.2.2.2.h), (.int .i64 v66.2.2.2.most), (.pointer (some ⟨b46, 0, none⟩)), (.pointer (some ⟨b49, 0, none⟩))] 92 (0, 0))], [(b46, Obj.cells #[(.int .i64 v66.2.2.2.units.most), (.int .i64 v66.2.2.2.units.next), (.map (some a47)), (.slice a48 (List.length v66.2.2.2.units.order) n48)] 102 (0, 0))], H47, H48, [(b49, Obj.cells #[(.slice a50 (List.length v66.2.2.2.floor.words) n50), (.int .i64 v66.2.2.2.floor.count)] 104 (0, 0))], H50, [(b7, Obj.cells #[(.int .i64 v67.2.2.2.W), (.int .i64 v67.2.2.2.H), (.int .i64 v67.2.2.2.U.Most), (.int .i64 v67.2.2.2.U.Next), (.slice a53 (List.length v67.2.2.2.U.L) n53)] 68 (0, 0))], H53, [(b21, Obj.cells #[(.int .i64 x36), (.int .i64 x37), (.int .i64 x38)] 57 (0, 0))]]) ?_ ?_
                      · refine at_region [0, 1, 2, 3, 4, 5, 6, 7, 8, 9, 10, 11, 12, 13, 14] rfl ?_
                        iterate 4 refine at_s T rfl ?_
                        refine at_case (s := 169) rfl (fun c35 => ?_) (fun c35 => ?_)
                        · replace Z34 := if_t c35 Z34
                          iterate 11 refine at_s T rfl ?_
                          refine at_end ?_
                          refine at_to [(0, (.int .i64 v1)), (1, (.int .i64 v2)), (3, (.slice a_l (List.length l) n_l)), (4, (.bool raw)), (11, (.pointer (some ⟨b1, 0, none⟩))), (12, (.pointer (some ⟨b7, 0, none⟩))), (13, (.int .i64 x34)), (14, (.pointer (some ⟨b21, 0, none⟩))), (180, (.bool true))] [0, 0, 2, 2, 2, 2, 2, 2, 4, 4] [F, [(b21, Obj.cells #[(.int .i64 x36), (.int .i64 x37), (.int .i64 x38)] 57 (0, 0))], [(b1, Obj.cells #[(.int .i64 v66.2.2.2.w), (.int .i64 v66.2.2.2.h), (.int .i64 v66.2.2.2.most), (.pointer (some ⟨b46, 0, none⟩)), (.pointer (some ⟨b49, 0, none⟩))] 92 (0, 0))], [(b46, Obj.cells #[(.int .i64 v66.2.2.2.units.most), (.int .i64 v66.2.2.2.units.next), (.map (some a47)), (.slice a48 (List.length v66.2.2.2.units.order) n48)] 102 (0, 0))], H47, H48, [(b49, Obj.cells #[(.slice a50 (List.length v66.2.2.2.floor.words) n50), (.int .i64 v66.2.2.2.floor.count)] 104 (0, 0))], H50, [(b7, Obj.cells #[(.int .i64 v67.2.2.2.W), (.int .i64 v67.2.2.2.H), (.int .i64 v67.2.2.2.U.Most), (.int .i64 v67.2.2.2.U.Next), (.slice a53 (List.length v67.2.2.2.U.L) n53)] 68 (0, 0))], H53] ⟨rfl, rfl, rfl, rfl, rfl, rfl, rfl, rfl, rfl, trivial⟩ rfl ?_
                          refine at_then ?_
                          obtain rfl := Option.some.inj Z34
                          exact at_mid true [0, 1, 1, 1, 1, 1, 1, 1, 1, 0] rfl ⟨rfl, rfl, rfl, rfl, rfl, rfl, rfl, rfl, rfl, trivial⟩ rfl
                        · replace Z34 := if_f (bf c35) Z34
                          iterate 2 refine at_s T rfl ?_
                          obtain ⟨v70, V36, Z34⟩ := bind_e Z34
                          refine at_cons (at_c (B := fun _ => []) [] rfl rfl rfl rfl has22 rfl rfl (ref21_Moves.c v66.1 v67.1 v70 _ V36 (own_of s44 (j := 2) rfl) s44.cap_le (own_of s51 (j := 10) rfl) s51.cap_le) (fun _ => ?_))
                          iterate 3 refine at_s T rfl ?_
                          refine at_case (s := 175) rfl (fun c37 => ?_) (fun c37 => ?_)
                          · replace Z34 := if_t c37 Z34
                            iterate 5 refine at_s T rfl ?_
                            refine at_end ?_
                            refine at_to [(0, (.int .i64 v1)), (1, (.int .i64 v2)), (3, (.slice a_l (List.length l) n_l)), (4, (.bool raw)), (11, (.pointer (some ⟨b1, 0, none⟩))), (12, (.pointer (some ⟨b7, 0, none⟩))), (13, (.int .i64 x34)), (14, (.pointer (some ⟨b21, 0, none⟩))), (180, (.bool true))] [0, 0, 2, 2, 2, 2, 2, 2, 4, 4] [F, [(b21, Obj.cells #[(.int .i64 x36), (.int .i64 x37), (.int .i64 x38)] 57 (0, 0))], [(b1, Obj.cells #[(.int .i64 v66.2.2.2.w), (.int .i64 v66.2.2.2.h), (.int .i64 v66.2.2.2.most), (.pointer (some ⟨b46, 0, none⟩)), (.pointer (some ⟨b49, 0, none⟩))] 92 (0, 0))], [(b46, Obj.cells #[(.int .i64 v66.2.2.2.units.most), (.int .i64 v66.2.2.2.units.next), (.map (some a47)), (.slice a48 (List.length v66.2.2.2.units.order) n48)] 102 (0, 0))], H47, H48, [(b49, Obj.cells #[(.slice a50 (List.length v66.2.2.2.floor.words) n50), (.int .i64 v66.2.2.2.floor.count)] 104 (0, 0))], H50, [(b7, Obj.cells #[(.int .i64 v67.2.2.2.W), (.int .i64 v67.2.2.2.H), (.int .i64 v67.2.2.2.U.Most), (.int .i64 v67.2.2.2.U.Next), (.slice a53 (List.length v67.2.2.2.U.L) n53)] 68 (0, 0))], H53] ⟨rfl, rfl, rfl, rfl, rfl, rfl, rfl, rfl, rfl, trivial⟩ rfl ?_
                            refine at_then ?_
                            obtain rfl := Option.some.inj Z34
                            exact at_mid true [0, 1, 1, 1, 1, 1, 1, 1, 1, 0] rfl ⟨rfl, rfl, rfl, rfl, rfl, rfl, rfl, rfl, rfl, trivial⟩ rfl
                          · replace Z34 := if_f (bf c37) Z34
                            iterate 2 refine at_s T rfl ?_
                            obtain ⟨v71, V38, Z34⟩ := bind_e Z34
                            refine at_cons (at_c (B := fun _ => []) [] rfl rfl rfl rfl has17 rfl rfl (ref1_Ints.c v66.2.1 v67.2.1 v71 _ V38 (own_of s45 (j := 3) rfl) s45.cap_le (own_of s52 (j := 11) rfl) s52.cap_le) (fun _ => ?_))
                            iterate 2 refine at_s T rfl ?_
                            refine at_end ?_
                            refine at_to [(0, (.int .i64 v1)), (1, (.int .i64 v2)), (3, (.slice a_l (List.length l) n_l)), (4, (.bool raw)), (11, (.pointer (some ⟨b1, 0, none⟩))), (12, (.pointer (some ⟨b7, 0, none⟩))), (13, (.int .i64 x34)), (14, (.pointer (some ⟨b21, 0, none⟩))), (180, (.bool (!v71)))] [0, 0, 2, 2, 2, 2, 2, 2, 4, 4] [F, [(b21, Obj.cells #[(.int .i64 x36), (.int .i64 x37), (.int .i64 x38)] 57 (0, 0))], [(b1, Obj.cells #[(.int .i64 v66.2.2.2.w), (.int .i64 v66.2.2.2.h), (.int .i64 v66.2.2.2.most), (.pointer (some ⟨b46, 0, none⟩)), (.pointer (some ⟨b49, 0, none⟩))] 92 (0, 0))], [(b46, Obj.cells #[(.int .i64 v66.2.2.2.units.most), (.int .i64 v66.2.2.2.units.next), (.map (some a47)), (.slice a48 (List.length v66.2.2.2.units.order) n48)] 102 (0, 0))], H47, H48, [(b49, Obj.cells #[(.slice a50 (List.length v66.2.2.2.floor.words) n50), (.int .i64 v66.2.2.2.floor.count)] 104 (0, 0))], H50, [(b7, Obj.cells #[(.int .i64 v67.2.2.2.W), (.int .i64 v67.2.2.2.H), (.int .i64 v67.2.2.2.U.Most), (.int .i64 v67.2.2.2.U.Next), (.slice a53 (List.length v67.2.2.2.U.L) n53)] 68 (0, 0))], H53] ⟨rfl, rfl, rfl, rfl, rfl, rfl, rfl, rfl, rfl, trivial⟩ rfl ?_
                            refine at_then ?_
                            obtain rfl := Option.some.inj Z34
                            exact at_mid (!v71) [0, 1, 1, 1, 1, 1, 1, 1, 1, 0] rfl ⟨rfl, rfl, rfl, rfl, rfl, rfl, rfl, rfl, rfl, trivial⟩ rfl
                      · rintro x68 rfl
                        refine at_cond rfl (fun c39 => ?_) (fun c39 => ?_)
                        · replace Z13 := if_t c39 Z13
                          refine at_seq ?_
                          refine at_region [0] rfl ?_
                          refine at_s T rfl ?_
                          refine at_end ?_
                          refine at_to [(10, (.bool false))] [0] [F] ⟨rfl, trivial⟩ rfl ?_
                          refine at_then ?_
                          refine at_ret ?_
                          refine at_rb ?_
                          refine at_rt ?_
                          refine at_rb ?_
                          refine at_rt ?_
                          refine at_rt ?_
                          refine at_rb ?_
                          refine at_rt ?_
                          obtain rfl := Option.some.inj Z13
                          obtain rfl := Option.some.inj (show some false = some r from Z6)
                          exact at_post (T := T) rfl (.tmp rfl .nil) (fun w o => ⟨(), rfl, own_to [0] rfl o⟩)
                        · replace Z13 := if_f (bf c39) Z13
                          refine at_skip ?_
                          refine at_nb ?_
                          refine at_then ?_
                          obtain rfl := Option.some.inj Z13
                          exact at_mid (v66.2.2.2.w, v66.2.2.2.h, v66.2.2.2.most, v66.2.2.2.units.most, v66.2.2.2.units.next, v66.2.2.2.units.live, v66.2.2.2.units.order, v66.2.2.2.floor.words, v66.2.2.2.floor.count, v67.2.2.2.W, v67.2.2.2.H, v67.2.2.2.U.Most, v67.2.2.2.U.Next, v67.2.2.2.U.L, b46, a47, H47, a48, n48, H48, b49, a50, n50, H50, a53, n53, H53) [0, 0, 0, 0, 0, 0, 0, 0, 0, 0] ⟨rfl, s47, s48, s50, s53⟩ ⟨rfl, rfl, rfl, rfl, rfl, rfl, rfl, rfl, trivial⟩ rfl
                  · replace Z13 := if_f (bf c26) Z13
                    refine at_seq ?_
                    refine at_region [0, 1, 2, 3, 4, 5, 6, 7, 8, 9, 10] rfl ?_
                    iterate 2 refine at_s T rfl ?_
                    refine at_v rfl (g_load T rfl rfl rfl rfl (in_var (j := 9) rfl rfl)) ?_
                    refine at_s T rfl ?_
                    refine at_v rfl (g_load T rfl rfl rfl rfl (in_var (j := 9) rfl rfl)) ?_
                    obtain ⟨v72, V40, Z13⟩ := bind_e Z13
                    refine at_cons (at_cR (As := [[(b1, Obj.cells #[(.int .i64 x20), (.int .i64 x21), (.int .i64 x22), (.pointer (some ⟨b14, 0, none⟩)), (.pointer (some ⟨b17, 0, none⟩))] 92 (0, 0))], [(b14, Obj.cells #[(.int .i64 x23), (.int .i64 x24), (.map (some a15)), (.slice a16 (List.length x26) n16)] 102 (0, 0))], H15, H16, [(b17, Obj.cells #[(.slice a18 (List.length x27) n18), (.int .i64 x28)] 104 (0, 0))], H18]) (R := [F, [(b7, Obj.cells #[(.int .i64 x29), (.int .i64 x30), (.int .i64 x31), (.int .i64 x32), (.slice a19 (List.length x33) n19)] 68 (0, 0))], H19, [(b21, Obj.cells #[(.int .i64 x36), (.int .i64 x37), (.int .i64 x38)] 57 (0, 0))]]) (crowd_Crowd_Spawn.R b1 v72) [] [1, 1, 1, 1, 1, 1] rfl rfl rfl rfl has25 rfl rfl (crowd_Crowd_Spawn.c (crowd_Crowd.mk x20 x21 x22 (units_Units.mk x23 x24 x25 x26) (floor_Floor.mk x27 x28)) x37 x38 v72 _ V40 s15 s16 s18) ?_)
                    rintro _ _ ⟨b54, a55, H55, a56, n56, H56, b57, a58, n58, H58, s55, s56, s58, rfl, rfl⟩
                    iterate 5 refine at_s T rfl ?_
                    refine at_end ?_
                    refine at_sub [(0, (.int .i64 v1)), (1, (.int .i64 v2)), (3, (.slice a_l (List.length l) n_l)), (4, (.bool raw)), (11, (.pointer (some ⟨b1, 0, none⟩))), (12, (.pointer (some ⟨b7, 0, none⟩))), (13, (.int .i64 x34)), (14, (.pointer (some ⟨b21, 0, none⟩))), (22, (.int .i64 v72.1)), (23, (.int .i64 v72.2.1))] ⟨rfl, rfl, rfl, rfl, rfl, rfl, rfl, rfl, rfl, rfl, trivial⟩ ?_
                    refine at_then ?_
                    refine at_seq ?_
                    refine at_region [0, 1, 2, 3, 4, 5, 6, 7, 8, 9, 10] rfl ?_
                    iterate 2 refine at_s T rfl ?_
                    refine at_v rfl (g_load T rfl rfl rfl rfl (in_var (j := 3) rfl rfl)) ?_
                    refine at_s T rfl ?_
                    refine at_v rfl (g_load T rfl rfl rfl rfl (in_var (j := 3) rfl rfl)) ?_
                    obtain ⟨v73, V41, Z13⟩ := bind_e Z13
                    refine at_cons (at_cR (As := [[(b7, Obj.cells #[(.int .i64 x29), (.int .i64 x30), (.int .i64 x31), (.int .i64 x32), (.slice a19 (List.length x33) n19)] 68 (0, 0))], H19]) (R := [F, [(b21, Obj.cells #[(.int .i64 x36), (.int .i64 x37), (.int .i64 x38)] 57 (0, 0))], [(b1, Obj.cells #[(.int .i64 v72.2.2.w), (.int .i64 v72.2.2.h), (.int .i64 v72.2.2.most), (.pointer (some ⟨b54, 0, none⟩)), (.pointer (some ⟨b57, 0, none⟩))] 92 (0, 0))], [(b54, Obj.cells #[(.int .i64 v72.2.2.units.most), (.int .i64 v72.2.2.units.next), (.map (some a55)), (.slice a56 (List.length v72.2.2.units.order) n56)] 102 (0, 0))], H55, H56, [(b57, Obj.cells #[(.slice a58 (List.length v72.2.2.floor.words) n58), (.int .i64 v72.2.2.floor.count)] 104 (0, 0))], H58]) (ref21_Crowd_Spawn.R b7 v73) [] [1, 1] rfl rfl rfl rfl has38 rfl rfl (ref21_Crowd_Spawn.c (herdsmanref21_Crowd.mk x29 x30 (herdsmanref21_Units.mk x31 x32 x33)) x37 x38 v73 _ V41 s19) ?_)
                    rintro _ _ ⟨a59, n59, H59, s59, rfl, rfl⟩
                    iterate 5 refine at_s T rfl ?_
                    refine at_end ?_
                    refine at_sub [(0, (.int .i64 v1)), (1, (.int .i64 v2)), (3, (.slice a_l (List.length l) n_l)), (4, (.bool raw)), (11, (.pointer (some ⟨b1, 0, none⟩))), (12, (.pointer (some ⟨b7, 0, none⟩))), (13, (.int .i64 x34)), (14, (.pointer (some ⟨b21, 0, none⟩))), (22, (.int .i64 v72.1)), (23, (.int .i64 v72.2.1)), (24, (.int .i64 v73.1)), (25, (.int .i64 v73.2.1))] ⟨rfl, rfl, rfl, rfl, rfl, rfl, rfl, rfl, rfl, rfl, rfl, rfl, trivial⟩ ?_
                    refine at_then ?_
                    refine at_seq ?_
                    refine at_region [0, 1, 2, 3, 4, 5, 6, 7] rfl ?_
                    iterate 4 refine at_s T rfl ?_
                    refine at_grp T [4, 5, 6, 7] (s := 93) (c := (v72.1 != v73.1)) [(0, (.int .i64 v1)), (1, (.int .i64 v2)), (3, (.slice a_l (List.length l) n_l)), (4, (.bool raw)), (11, (.pointer (some ⟨b1, 0, none⟩))), (12, (.pointer (some ⟨b7, 0, none⟩))), (13, (.int .i64 x34)), (14, (.pointer (some ⟨b21, 0, none⟩))), (97, (.bool ((v72.1 != v73.1) || (v72.2.1 != v73.2.1))))] rfl rfl rfl (fun c42 => ⟨rfl, rfl, rfl, rfl, rfl, rfl, rfl, rfl, (by rw [c42]; rfl), trivial⟩) (fun c42 => ⟨rfl, rfl, rfl, rfl, rfl, rfl, rfl, rfl, (by rw [c42]; rfl), trivial⟩) ?_
                    refine at_end ?_
                    refine at_sub [(0, (.int .i64 v1)), (1, (.int .i64 v2)), (3, (.slice a_l (List.length l) n_l)), (4, (.bool raw)), (11, (.pointer (some ⟨b1, 0, none⟩))), (12, (.pointer (some ⟨b7, 0, none⟩))), (13, (.int .i64 x34)), (14, (.pointer (some ⟨b21, 0, none⟩))), (97, (.bool ((v72.1 != v73.1) || (v72.2.1 != v73.2.1))))] ⟨rfl, rfl, rfl, rfl, rfl, rfl, rfl, rfl, rfl, trivial⟩ ?_
                    refine at_then ?_
                    refine at_cond rfl (fun c43 => ?_) (fun c43 => ?_)
                    · replace Z13 := if_t c43 Z13
                      refine at_seq ?_
                      refine at_region [0] rfl ?_
                      refine at_s T rfl ?_
                      refine at_end ?_
                      refine at_to [(10, (.bool false))] [0] [F] ⟨rfl, trivial⟩ rfl ?_
                      refine at_then ?_
                      refine at_ret ?_
                      refine at_rb ?_
                      refine at_rt ?_
                      refine at_rb ?_
                      refine at_rt ?_
                      refine at_rt ?_
                      refine at_rb ?_
                      refine at_rt ?_
                      obtain rfl := Option.some.inj Z13
                      obtain rfl := Option.some.inj (show some false = some r from Z6)
                      exact at_post (T := T) rfl (.tmp rfl .nil) (fun w o => ⟨(), rfl, own_to [0] rfl o⟩)
                    · replace Z13 := if_f (bf c43) Z13
                      refine at_skip ?_
                      refine at_nb ?_
                      refine at_then ?_
                      obtain rfl := Option.some.inj Z13
                      exact at_mid (v72.2.2.w, v72.2.2.h, v72.2.2.most, v72.2.2.units.most, v72.2.2.units.next, v72.2.2.units.live, v72.2.2.units.order, v72.2.2.floor.words, v72.2.2.floor.count, v73.2.2.W, v73.2.2.H, v73.2.2.U.Most, v73.2.2.U.Next, v73.2.2.U.L, b54, a55, H55, a56, n56, H56, b57, a58, n58, H58, a59, n59, H59) [0, 1, 1, 1, 1, 1, 1, 1, 1, 0] ⟨rfl, s55, s56, s58, s59⟩ ⟨rfl, rfl, rfl, rfl, rfl, rfl, rfl, rfl, trivial⟩ rfl
          · rintro ⟨x41, x42, x43, x44, x45, x46, x47, x48, x49, x50, x51, x52, x53, x54, b22, a23, H23, a24, n24, H24, b25, a26, n26, H26, a27, n27, H27⟩ ⟨rfl, s23, s24, s26, s27⟩
            obtain ⟨z75, Z44, Z6⟩ := bind_e Z6
            refine at_seq_mid (σ := Bool) (fun x74 => x74 = z75) (fun x74 => [(0, (.int .i64 v1)), (1, (.int .i64 v2)), (3, (.slice a_l (List.length l) n_l)), (4, (.bool raw)), (11, (.pointer (some ⟨b1, 0, none⟩))), (12, (.pointer (some ⟨b7, 0, none⟩))), (13, (.int .i64 x34)), (200, (.bool x74))]) (fun x74 => [F, [(b1, Obj.cells #[(.int .i64 x41), (.int .i64 x42), (.int .i64 x43), (.pointer (some ⟨b22, 0, none⟩)), (.pointer (some ⟨b25, 0, none⟩))] 92 (0, 0))], [(b22, Obj.cells #[(.int .i64 x44), (.int .i64 x45), (.map (some a23)), (.slice a24 (List.length x47) n24)] 102 (0, 0))], H23, H24, [(b25, Obj.cells #[(.slice a26 (List.length x48) n26), (.int .i64 x49)] 104 (0, 0))], H26, [(b7, Obj.cells #[(.int .i64 x50), (.int .i64 x51), (.int .i64 x52), (.int .i64 x53), (.slice a27 (List.length x54) n27)] 68 (0, 0))], H27]) ?_ ?_
            · refine at_region_m [[], [0], [], [2], [2, 3], [2, 3, 4], [2, 3, 4, 5], [0, 1, 2, 3, 4, 5, 6], [0, 1, 2, 3, 4, 5, 6, 7], [0, 1, 2, 3, 4, 5, 6, 7, 8], [0, 1, 2, 3, 4, 5, 6, 7, 8, 9], [0, 1, 2, 3, 4, 5, 6, 7, 8, 9], [0, 1, 2, 3, 4, 5, 6, 7, 8, 9, 11], [0, 1, 2, 3, 4, 5, 6, 7, 8, 9, 10, 11, 12], [0, 1, 2, 3, 4, 5, 6, 7, 8, 9], [0, 1, 2, 3, 4, 5, 6, 7, 8, 9], [0, 1, 2, 3, 4, 5, 6, 7, 8, 9, 15], [0, 1, 2, 3, 4, 5, 6, 7, 8, 9, 10, 11, 12, 13, 14, 15, 16], [0, 1, 2, 3, 4, 5, 6, 7, 8, 9, 10, 11, 12, 13, 14, 15, 16, 17], [0, 1, 2, 3, 4, 5, 6, 7, 8, 9, 10, 11, 12, 13, 14, 15, 16, 17, 18]] [] [F, [(b1, Obj.cells #[(.int .i64 x41), (.int .i64 x42), (.int .i64 x43), (.pointer (some ⟨b22, 0, none⟩)), (.pointer (some ⟨b25, 0, none⟩))] 92 (0, 0))], [(b22, Obj.cells #[(.int .i64 x44), (.int .i64 x45), (.map (some a23)), (.slice a24 (List.length x47) n24)] 102 (0, 0))], H23, H24, [(b25, Obj.cells #[(.slice a26 (List.length x48) n26), (.int .i64 x49)] 104 (0, 0))], H26, [(b7, Obj.cells #[(.int .i64 x50), (.int .i64 x51), (.int .i64 x52), (.int .i64 x53), (.slice a27 (List.length x54) n27)] 68 (0, 0))], H27, [(b21, Obj.cells #[(.int .i64 x36), (.int .i64 x37), (.int .i64 x38)] 57 (0, 0))]] mix (by kernel_rfl) (by repeat first | exact pf_body | refine pf_then ?_ | refine pf_block ?_) (fun hg pf => ?_)
              refine atm_s T 0 hg pf (by kernel_rfl) (still_o [0, 0, 0, 0, 0, 0, 0, 0, 0, 0] rfl) rfl ?_
              refine atm_s T 2 hg pf (by kernel_rfl) (still_o [0, 0, 0, 0, 0, 0, 0, 0, 0, 0] rfl) rfl ?_
              refine atm_s T 3 hg pf (by kernel_rfl) (still_o [0, 0, 0, 0, 0, 0, 0, 0, 0, 0] rfl) rfl ?_
              refine atm_s T 4 hg pf (by kernel_rfl) (still_o [0, 0, 0, 0, 0, 0, 0, 0, 0, 0] rfl) rfl ?_
              refine atm_s T 5 hg pf (by kernel_rfl) (still_o [0, 0, 0, 0, 0, 0, 0, 0, 0, 0] rfl) rfl ?_
              refine atm_v 6 hg pf (by kernel_rfl) (still_o [0, 0, 0, 0, 0, 0, 0, 0, 0, 0] rfl) rfl rfl (g_load T rfl rfl rfl rfl (in_var (j := 7) rfl rfl)) ?_
              refine atm_one 1 (by kernel_rfl) ?_
              obtain ⟨v76, V45, Z44⟩ := bind_e Z44
              refine at_cR (As := [[(b1, Obj.cells #[(.int .i64 x41), (.int .i64 x42), (.int .i64 x43), (.pointer (some ⟨b22, 0, none⟩)), (.pointer (some ⟨b25, 0, none⟩))] 92 (0, 0))], [(b22, Obj.cells #[(.int .i64 x44), (.int .i64 x45), (.map (some a23)), (.slice a24 (List.length x47) n24)] 102 (0, 0))], H23, H24, [(b25, Obj.cells #[(.slice a26 (List.length x48) n26), (.int .i64 x49)] 104 (0, 0))], H26]) (R := [F, [(b7, Obj.cells #[(.int .i64 x50), (.int .i64 x51), (.int .i64 x52), (.int .i64 x53), (.slice a27 (List.length x54) n27)] 68 (0, 0))], H27, [(b21, Obj.cells #[(.int .i64 x36), (.int .i64 x37), (.int .i64 x38)] 57 (0, 0))]]) (crowd_Crowd_Units.R v76) [[(b1, Obj.cells #[(.int .i64 x41), (.int .i64 x42), (.int .i64 x43), (.pointer (some ⟨b22, 0, none⟩)), (.pointer (some ⟨b25, 0, none⟩))] 92 (0, 0))], [(b22, Obj.cells #[(.int .i64 x44), (.int .i64 x45), (.map (some a23)), (.slice a24 (List.length x47) n24)] 102 (0, 0))], H23, H24, [(b25, Obj.cells #[(.slice a26 (List.length x48) n26), (.int .i64 x49)] 104 (0, 0))], H26] [1, 1, 1, 1, 1, 1] rfl rfl rfl rfl has27 rfl rfl (crowd_Crowd_Units.c (crowd_Crowd.mk x41 x42 x43 (units_Units.mk x44 x45 x46 x47) (floor_Floor.mk x48 x49)) v76 _ V45 s23 s24 s26) ?_
              rintro _ _ ⟨a60, n60, H60, s60, rfl, rfl⟩
              refine atm_next (still_o [0, 4, 4, 4, 4, 4, 4, 0, 0, 0] rfl) ?_
              refine atm_one 7 (by kernel_rfl) ?_
              obtain ⟨v77, V46, Z44⟩ := bind_e Z44
              refine at_c (B := fun _ => []) [] rfl rfl rfl rfl has16 rfl rfl (ref21_Same.c v76 x54 v77 _ V46 (own_of s60 (j := 4) rfl) s60.cap_le (own_of s27 (j := 2) rfl) s27.cap_le) (fun _ => ?_)
              refine atm_next (still_o [0, 4, 4, 4, 4, 4, 4, 0, 0, 0] rfl) ?_
              refine atm_s T 8 hg pf (by kernel_rfl) (still_o [0, 4, 4, 4, 4, 4, 4, 0, 0, 0] rfl) rfl ?_
              refine atm_s T 9 hg pf (by kernel_rfl) (still_o [0, 4, 4, 4, 4, 4, 4, 0, 0, 0] rfl) rfl ?_
              refine at_case (s := 190) rfl (fun c47 => ?_) (fun c47 => ?_)
              · replace Z44 := if_t c47 Z44
                refine atm_s T 10 hg pf (by kernel_rfl) (still_o [0, 4, 4, 4, 4, 4, 4, 0, 0, 0] rfl) rfl ?_
                refine atm_s T 11 hg pf (by kernel_rfl) (still_o [0, 4, 4, 4, 4, 4, 4, 0, 0, 0] rfl) rfl ?_
                refine atm_s T 12 hg pf (by kernel_rfl) (still_o [0, 4, 4, 4, 4, 4, 4, 0, 0, 0] rfl) rfl ?_
                refine atm_s T 13 hg pf (by kernel_rfl) (still_o [0, 4, 4, 4, 4, 4, 4, 0, 0, 0] rfl) rfl ?_
                refine atm_s T 14 hg pf (by kernel_rfl) (still_o [0, 4, 4, 4, 4, 4, 4, 0, 0, 0] rfl) rfl ?_
                refine atm_s T 15 hg pf (by kernel_rfl) (still_o [0, 4, 4, 4, 4, 4, 4, 0, 0, 0] rfl) rfl ?_
                refine atm_s T 16 hg pf (by kernel_rfl) (still_o [0, 4, 4, 4, 4, 4, 4, 0, 0, 0] rfl) rfl ?_
                refine atm_s T 17 hg pf (by kernel_rfl) (still_o [0, 4, 4, 4, 4, 4, 4, 0, 0, 0] rfl) rfl ?_
                refine atm_s T 18 hg pf (by kernel_rfl) (still_o [0, 4, 4, 4, 4, 4, 4, 0, 0, 0] rfl) rfl ?_
                refine atm_s T 19 hg pf (by kernel_rfl) (still_o [0, 4, 4, 4, 4, 4, 4, 0, 0, 0] rfl) rfl ?_
                refine atm_end (by kernel_rfl) ?_
                refine at_to [(0, (.int .i64 v1)), (1, (.int .i64 v2)), (3, (.slice a_l (List.length l) n_l)), (4, (.bool raw)), (11, (.pointer (some ⟨b1, 0, none⟩))), (12, (.pointer (some ⟨b7, 0, none⟩))), (13, (.int .i64 x34)), (200, (.bool true))] [0, 0, 0, 2, 2, 2, 2, 2, 2] [F, [(b7, Obj.cells #[(.int .i64 x50), (.int .i64 x51), (.int .i64 x52), (.int .i64 x53), (.slice a27 (List.length x54) n27)] 68 (0, 0))], H27, [(b1, Obj.cells #[(.int .i64 x41), (.int .i64 x42), (.int .i64 x43), (.pointer (some ⟨b22, 0, none⟩)), (.pointer (some ⟨b25, 0, none⟩))] 92 (0, 0))], [(b22, Obj.cells #[(.int .i64 x44), (.int .i64 x45), (.map (some a23)), (.slice a24 (List.length x47) n24)] 102 (0, 0))], H23, H24, [(b25, Obj.cells #[(.slice a26 (List.length x48) n26), (.int .i64 x49)] 104 (0, 0))], H26] ⟨rfl, rfl, rfl, rfl, rfl, rfl, rfl, rfl, trivial⟩ rfl ?_
                refine at_then ?_
                obtain rfl := Option.some.inj Z44
                exact at_mid true [0, 2, 2, 2, 2, 2, 2, 0, 0] rfl ⟨rfl, rfl, rfl, rfl, rfl, rfl, rfl, rfl, trivial⟩ rfl
              · replace Z44 := if_f (bf c47) Z44
                refine atm_s T 10 hg pf (by kernel_rfl) (still_o [0, 4, 4, 4, 4, 4, 4, 0, 0, 0] rfl) rfl ?_
                refine atm_s T 11 hg pf (by kernel_rfl) (still_o [0, 4, 4, 4, 4, 4, 4, 0, 0, 0] rfl) rfl ?_
                refine atm_v 12 hg pf (by kernel_rfl) (still_o [0, 4, 4, 4, 4, 4, 4, 0, 0, 0] rfl) rfl rfl (g_load T rfl rfl rfl rfl (in_var (j := 9) rfl rfl)) ?_
                refine atm_s T 14 hg pf (by kernel_rfl) (still_o [0, 4, 4, 4, 4, 4, 4, 0, 0, 0] rfl) rfl ?_
                refine atm_s T 15 hg pf (by kernel_rfl) (still_o [0, 4, 4, 4, 4, 4, 4, 0, 0, 0] rfl) rfl ?_
                refine atm_v 16 hg pf (by kernel_rfl) (still_o [0, 4, 4, 4, 4, 4, 4, 0, 0, 0] rfl) rfl rfl (g_load T rfl rfl rfl rfl (in_var (j := 9) rfl rfl)) ?_
                refine atm_one 13 (by kernel_rfl) ?_
                obtain ⟨v78, V48, Z44⟩ := bind_e Z44
                refine at_c (As := [[(b1, Obj.cells #[(.int .i64 x41), (.int .i64 x42), (.int .i64 x43), (.pointer (some ⟨b22, 0, none⟩)), (.pointer (some ⟨b25, 0, none⟩))] 92 (0, 0))], [(b22, Obj.cells #[(.int .i64 x44), (.int .i64 x45), (.map (some a23)), (.slice a24 (List.length x47) n24)] 102 (0, 0))], H23, H24, [(b25, Obj.cells #[(.slice a26 (List.length x48) n26), (.int .i64 x49)] 104 (0, 0))], H26]) (R := [F, [(b7, Obj.cells #[(.int .i64 x50), (.int .i64 x51), (.int .i64 x52), (.int .i64 x53), (.slice a27 (List.length x54) n27)] 68 (0, 0))], H27, [(b21, Obj.cells #[(.int .i64 x36), (.int .i64 x37), (.int .i64 x38)] 57 (0, 0))], H60]) (B := fun _ => [[(b1, Obj.cells #[(.int .i64 x41), (.int .i64 x42), (.int .i64 x43), (.pointer (some ⟨b22, 0, none⟩)), (.pointer (some ⟨b25, 0, none⟩))] 92 (0, 0))], [(b22, Obj.cells #[(.int .i64 x44), (.int .i64 x45), (.map (some a23)), (.slice a24 (List.length x47) n24)] 102 (0, 0))], H23, H24, [(b25, Obj.cells #[(.slice a26 (List.length x48) n26), (.int .i64 x49)] 104 (0, 0))], H26]) [5, 5, 5, 5, 5, 5] rfl rfl rfl rfl has26 rfl rfl (crowd_Crowd_Who.c (crowd_Crowd.mk x41 x42 x43 (units_Units.mk x44 x45 x46 x47) (floor_Floor.mk x48 x49)) x37 v78 _ V48 s23 s24 s26) (fun _ => ?_)
                refine atm_next (still_o [0, 4, 4, 4, 4, 4, 4, 0, 0, 0] rfl) ?_
                refine atm_one 17 (by kernel_rfl) ?_
                obtain ⟨v79, V49, Z44⟩ := bind_e Z44
                refine at_c (As := [[(b7, Obj.cells #[(.int .i64 x50), (.int .i64 x51), (.int .i64 x52), (.int .i64 x53), (.slice a27 (List.length x54) n27)] 68 (0, 0))], H27]) (R := [F, [(b21, Obj.cells #[(.int .i64 x36), (.int .i64 x37), (.int .i64 x38)] 57 (0, 0))], H60, [(b1, Obj.cells #[(.int .i64 x41), (.int .i64 x42), (.int .i64 x43), (.pointer (some ⟨b22, 0, none⟩)), (.pointer (some ⟨b25, 0, none⟩))] 92 (0, 0))], [(b22, Obj.cells #[(.int .i64 x44), (.int .i64 x45), (.map (some a23)), (.slice a24 (List.length x47) n24)] 102 (0, 0))], H23, H24, [(b25, Obj.cells #[(.slice a26 (List.length x48) n26), (.int .i64 x49)] 104 (0, 0))], H26]) (B := fun _ => [[(b7, Obj.cells #[(.int .i64 x50), (.int .i64 x51), (.int .i64 x52), (.int .i64 x53), (.slice a27 (List.length x54) n27)] 68 (0, 0))], H27]) [1, 1] rfl rfl rfl rfl has39 rfl rfl (ref21_Crowd_Who.c (herdsmanref21_Crowd.mk x50 x51 (herdsmanref21_Units.mk x52 x53 x54)) x37 v79 _ V49 s27) (fun _ => ?_)
                refine atm_next (still_o [0, 2, 2, 2, 2, 2, 2, 2, 2, 0] rfl) ?_
                refine atm_s T 18 hg pf (by kernel_rfl) (still_o [0, 2, 2, 2, 2, 2, 2, 2, 2, 0] rfl) rfl ?_
                refine atm_s T 19 hg pf (by kernel_rfl) (still_o [0, 2, 2, 2, 2, 2, 2, 2, 2, 0] rfl) rfl ?_
                refine atm_end (by kernel_rfl) ?_
                refine at_to [(0, (.int .i64 v1)), (1, (.int .i64 v2)), (3, (.slice a_l (List.length l) n_l)), (4, (.bool raw)), (11, (.pointer (some ⟨b1, 0, none⟩))), (12, (.pointer (some ⟨b7, 0, none⟩))), (13, (.int .i64 x34)), (200, (.bool (v78 != v79)))] [0, 2, 2, 2, 2, 2, 2, 2, 2] [F, [(b1, Obj.cells #[(.int .i64 x41), (.int .i64 x42), (.int .i64 x43), (.pointer (some ⟨b22, 0, none⟩)), (.pointer (some ⟨b25, 0, none⟩))] 92 (0, 0))], [(b22, Obj.cells #[(.int .i64 x44), (.int .i64 x45), (.map (some a23)), (.slice a24 (List.length x47) n24)] 102 (0, 0))], H23, H24, [(b25, Obj.cells #[(.slice a26 (List.length x48) n26), (.int .i64 x49)] 104 (0, 0))], H26, [(b7, Obj.cells #[(.int .i64 x50), (.int .i64 x51), (.int .i64 x52), (.int .i64 x53), (.slice a27 (List.length x54) n27)] 68 (0, 0))], H27] ⟨rfl, rfl, rfl, rfl, rfl, rfl, rfl, rfl, trivial⟩ rfl ?_
                refine at_then ?_
                obtain rfl := Option.some.inj Z44
                exact at_mid (v78 != v79) [0, 0, 0, 0, 0, 0, 0, 0, 0] rfl ⟨rfl, rfl, rfl, rfl, rfl, rfl, rfl, rfl, trivial⟩ rfl
            · rintro x74 rfl
              refine at_cond rfl (fun c50 => ?_) (fun c50 => ?_)
              · replace Z6 := if_t c50 Z6
                refine at_seq ?_
                refine at_region [0] rfl ?_
                refine at_s T rfl ?_
                refine at_end ?_
                refine at_to [(10, (.bool false))] [0] [F] ⟨rfl, trivial⟩ rfl ?_
                refine at_then ?_
                refine at_ret ?_
                refine at_rb ?_
                refine at_rt ?_
                refine at_rt ?_
                refine at_rb ?_
                refine at_rt ?_
                obtain rfl := Option.some.inj Z6
                exact at_post (T := T) rfl (.tmp rfl .nil) (fun w o => ⟨(), rfl, own_to [0] rfl o⟩)
              · replace Z6 := if_f (bf c50) Z6
                refine at_skip ?_
                refine at_nb ?_
                refine at_then ?_
                refine at_region [0, 1, 2] rfl ?_
                iterate 3 refine at_s T rfl ?_
                refine at_end ?_
                refine at_sub [(0, (.int .i64 v1)), (1, (.int .i64 v2)), (3, (.slice a_l (List.length l) n_l)), (4, (.bool raw)), (11, (.pointer (some ⟨b1, 0, none⟩))), (12, (.pointer (some ⟨b7, 0, none⟩))), (13, (.int .i64 (w64 (x34 + 1))))] ⟨rfl, rfl, rfl, rfl, rfl, rfl, rfl, trivial⟩ ?_
                refine at_then ?_
                exact at_roundL (k35, x41, x42, x43, x44, x45, x46, x47, x48, x49, x50, x51, x52, x53, x54, (w64 (x34 + 1)), b22, a23, H23, a24, n24, H24, b25, a26, n26, H26, a27, n27, H27) [0, 0, 0, 0, 0, 0, 0, 0, 0] ⟨Z6, s23, s24, s26, s27⟩ (Nat.lt_succ_self _) ⟨rfl, rfl, rfl, rfl, rfl, rfl, rfl, trivial⟩ rfl
      · replace Z6 := if_f (bf c8) Z6
        refine at_exit ?_
        refine at_xt ?_
        refine at_xt ?_
        refine at_xb ?_
        refine at_then ?_
        obtain ⟨z81, Z51, Z6⟩ := bind_e Z6
        refine at_seq_mid (σ := Bool) (fun x80 => x80 = z81) (fun x80 => [(10, (.bool x80))]) (fun x80 => [F]) ?_ ?_
        · refine at_region_m [[], [0], [0, 1], [0, 1, 2], [0, 1], [0, 1], [0, 1, 4, 5], [0, 1], [0, 1, 7], [0, 1, 7, 8], [0, 1, 7, 8, 9], [0, 1, 7, 8, 9, 10], [0, 1, 2, 3, 4, 5, 6, 7, 8, 9, 10, 11], [0, 1, 2, 3, 4, 5, 6, 7, 8, 9, 10, 11, 12], [0, 1, 2, 3, 4, 5, 6, 7, 8, 9, 10, 11, 12, 13], [0, 1, 2, 3, 4, 5, 6, 7, 8, 9, 10, 11, 12, 13, 14]] [] [F, [(b1, Obj.cells #[(.int .i64 x20), (.int .i64 x21), (.int .i64 x22), (.pointer (some ⟨b14, 0, none⟩)), (.pointer (some ⟨b17, 0, none⟩))] 92 (0, 0))], [(b14, Obj.cells #[(.int .i64 x23), (.int .i64 x24), (.map (some a15)), (.slice a16 (List.length x26) n16)] 102 (0, 0))], H15, H16, [(b17, Obj.cells #[(.slice a18 (List.length x27) n18), (.int .i64 x28)] 104 (0, 0))], H18, [(b7, Obj.cells #[(.int .i64 x29), (.int .i64 x30), (.int .i64 x31), (.int .i64 x32), (.slice a19 (List.length x33) n19)] 68 (0, 0))], H19] mix (by kernel_rfl) (by repeat first | exact pf_body | refine pf_then ?_ | refine pf_block ?_) (fun hg pf => ?_)
          refine atm_one 0 (by kernel_rfl) ?_
          obtain ⟨v82, V52, Z51⟩ := bind_e Z51
          refine at_c (B := fun _ => []) [] rfl rfl rfl rfl has28 rfl rfl (law25_told.c  v82 _ V52) (fun _ => ?_)
          refine atm_next (still_o [0, 0, 0, 0, 0, 0, 0, 0, 0] rfl) ?_
          refine atm_s T 1 hg pf (by kernel_rfl) (still_o [0, 0, 0, 0, 0, 0, 0, 0, 0] rfl) rfl ?_
          refine at_case (s := 202) rfl (fun c53 => ?_) (fun c53 => ?_)
          · replace Z51 := if_t c53 Z51
            refine atm_s T 2 hg pf (by kernel_rfl) (still_o [0, 0, 0, 0, 0, 0, 0, 0, 0] rfl) rfl ?_
            refine atm_s T 4 hg pf (by kernel_rfl) (still_o [0, 0, 0, 0, 0, 0, 0, 0, 0] rfl) rfl ?_
            refine atm_s T 5 hg pf (by kernel_rfl) (still_o [0, 0, 0, 0, 0, 0, 0, 0, 0] rfl) rfl ?_
            refine atm_s T 6 hg pf (by kernel_rfl) (still_o [0, 0, 0, 0, 0, 0, 0, 0, 0] rfl) rfl ?_
            refine atm_s T 7 hg pf (by kernel_rfl) (still_o [0, 0, 0, 0, 0, 0, 0, 0, 0] rfl) rfl ?_
            refine atm_s T 8 hg pf (by kernel_rfl) (still_o [0, 0, 0, 0, 0, 0, 0, 0, 0] rfl) rfl ?_
            refine atm_s T 9 hg pf (by kernel_rfl) (still_o [0, 0, 0, 0, 0, 0, 0, 0, 0] rfl) rfl ?_
            refine atm_s T 10 hg pf (by kernel_rfl) (still_o [0, 0, 0, 0, 0, 0, 0, 0, 0] rfl) rfl ?_
            refine atm_v 11 hg pf (by kernel_rfl) (still_o [0, 0, 0, 0, 0, 0, 0, 0, 0] rfl) rfl rfl (g_load T rfl rfl rfl rfl (in_var (j := 7) rfl rfl)) ?_
            refine atm_one 3 (by kernel_rfl) ?_
            obtain ⟨v83, V54, Z51⟩ := bind_e Z51
            refine at_cR (As := [[(b1, Obj.cells #[(.int .i64 x20), (.int .i64 x21), (.int .i64 x22), (.pointer (some ⟨b14, 0, none⟩)), (.pointer (some ⟨b17, 0, none⟩))] 92 (0, 0))], [(b14, Obj.cells #[(.int .i64 x23), (.int .i64 x24), (.map (some a15)), (.slice a16 (List.length x26) n16)] 102 (0, 0))], H15, H16, [(b17, Obj.cells #[(.slice a18 (List.length x27) n18), (.int .i64 x28)] 104 (0, 0))], H18]) (R := [F, [(b7, Obj.cells #[(.int .i64 x29), (.int .i64 x30), (.int .i64 x31), (.int .i64 x32), (.slice a19 (List.length x33) n19)] 68 (0, 0))], H19]) (crowd_Crowd_Words.R v83) [[(b1, Obj.cells #[(.int .i64 x20), (.int .i64 x21), (.int .i64 x22), (.pointer (some ⟨b14, 0, none⟩)), (.pointer (some ⟨b17, 0, none⟩))] 92 (0, 0))], [(b14, Obj.cells #[(.int .i64 x23), (.int .i64 x24), (.map (some a15)), (.slice a16 (List.length x26) n16)] 102 (0, 0))], H15, H16, [(b17, Obj.cells #[(.slice a18 (List.length x27) n18), (.int .i64 x28)] 104 (0, 0))], H18] [1, 1, 1, 1, 1, 1] rfl rfl rfl rfl has41 rfl rfl (crowd_Crowd_Words.c (crowd_Crowd.mk x20 x21 x22 (units_Units.mk x23 x24 x25 x26) (floor_Floor.mk x27 x28)) v83 _ V54 s15 s16 s18) ?_
            rintro _ _ ⟨a61, n61, H61, s61, rfl, rfl⟩
            refine atm_next (still_o [0, 3, 3, 3, 3, 3, 3, 0, 0] rfl) ?_
            refine atm_one 12 (by kernel_rfl) ?_
            obtain ⟨v84, V55, Z51⟩ := bind_e Z51
            refine at_cR (ref21_Words.R v84) [] [] rfl rfl rfl rfl has42 rfl rfl (ref21_Words.c (w64 (v1 * v2)) x33 v84 _ V55 (own_of s19 (j := 2) rfl) s19.cap_le) ?_
            rintro _ _ ⟨a62, n62, H62, s62, rfl, rfl⟩
            refine atm_next (still_o [0, 3, 3, 3, 3, 3, 3, 0, 0] rfl) ?_
            refine atm_one 13 (by kernel_rfl) ?_
            obtain ⟨v85, V56, Z51⟩ := bind_e Z51
            refine at_c (B := fun _ => []) [] rfl rfl rfl rfl has40 rfl rfl (ref21_SameWords.c v83 v84 v85 _ V56 (own_of s61 (j := 3) rfl) s61.cap_le (own_of s62 (j := 10) rfl) s62.cap_le) (fun _ => ?_)
            refine atm_next (still_o [0, 3, 3, 3, 3, 3, 3, 0, 0] rfl) ?_
            refine atm_s T 14 hg pf (by kernel_rfl) (still_o [0, 3, 3, 3, 3, 3, 3, 0, 0] rfl) rfl ?_
            refine atm_s T 15 hg pf (by kernel_rfl) (still_o [0, 3, 3, 3, 3, 3, 3, 0, 0] rfl) rfl ?_
            refine atm_end (by kernel_rfl) ?_
            refine at_to [(10, (.bool v85))] [0] [F] ⟨rfl, trivial⟩ rfl ?_
            refine at_then ?_
            obtain rfl := Option.some.inj Z51
            exact at_mid v85 [0] rfl ⟨rfl, trivial⟩ rfl
          · replace Z51 := if_f (bf c53) Z51
            refine atm_s T 2 hg pf (by kernel_rfl) (still_o [0, 0, 0, 0, 0, 0, 0, 0, 0] rfl) rfl ?_
            refine atm_s T 3 hg pf (by kernel_rfl) (still_o [0, 0, 0, 0, 0, 0, 0, 0, 0] rfl) rfl ?_
            refine atm_s T 4 hg pf (by kernel_rfl) (still_o [0, 0, 0, 0, 0, 0, 0, 0, 0] rfl) rfl ?_
            refine atm_s T 5 hg pf (by kernel_rfl) (still_o [0, 0, 0, 0, 0, 0, 0, 0, 0] rfl) rfl ?_
            refine atm_s T 6 hg pf (by kernel_rfl) (still_o [0, 0, 0, 0, 0, 0, 0, 0, 0] rfl) rfl ?_
            refine atm_s T 7 hg pf (by kernel_rfl) (still_o [0, 0, 0, 0, 0, 0, 0, 0, 0] rfl) rfl ?_
            refine atm_s T 8 hg pf (by kernel_rfl) (still_o [0, 0, 0, 0, 0, 0, 0, 0, 0] rfl) rfl ?_
            refine atm_s T 9 hg pf (by kernel_rfl) (still_o [0, 0, 0, 0, 0, 0, 0, 0, 0] rfl) rfl ?_
            refine atm_s T 10 hg pf (by kernel_rfl) (still_o [0, 0, 0, 0, 0, 0, 0, 0, 0] rfl) rfl ?_
            refine atm_s T 11 hg pf (by kernel_rfl) (still_o [0, 0, 0, 0, 0, 0, 0, 0, 0] rfl) rfl ?_
            refine atm_s T 12 hg pf (by kernel_rfl) (still_o [0, 0, 0, 0, 0, 0, 0, 0, 0] rfl) rfl ?_
            refine atm_s T 13 hg pf (by kernel_rfl) (still_o [0, 0, 0, 0, 0, 0, 0, 0, 0] rfl) rfl ?_
            refine atm_s T 14 hg pf (by kernel_rfl) (still_o [0, 0, 0, 0, 0, 0, 0, 0, 0] rfl) rfl ?_
            refine atm_s T 15 hg pf (by kernel_rfl) (still_o [0, 0, 0, 0, 0, 0, 0, 0, 0] rfl) rfl ?_
            refine atm_end (by kernel_rfl) ?_
            refine at_to [(10, (.bool false))] [0] [F] ⟨rfl, trivial⟩ rfl ?_
            refine at_then ?_
            obtain rfl := Option.some.inj Z51
            exact at_mid false [0] rfl ⟨rfl, trivial⟩ rfl
        · rintro x80 rfl
          refine at_ret ?_
          obtain rfl := Option.some.inj Z6
          exact at_post (T := T) rfl (.tmp rfl .nil) (fun w o => ⟨(), rfl, own_to [0] rfl o⟩)
def law25_CrowdPlays.Pure : Prop := ∀ (w : Int) (h : Int) (most : Int) (l : (List herdsmanlaw25_Ask)) (raw : Bool), inI64 w → inI64 h → inI64 most → (∀ y ∈ l, (inI64 y.Kind ∧ inI64 y.A ∧ inI64 y.B)) → List.length l ≤ 9223372036854775807 → law25_CrowdPlays.f w h most l raw = some true
end Go.Proofs.Ytkidcebfpengmaa
