import Derived.Test.YtmddmofncblfpaaT
import Derived.Test.YtmddmofncblfpaaFlaw21
import Derived.Test.YtmddmofncblfpaaFref1
import Derived.Test.YtmddmofncblfpaaFref21
import Derived.Test.YtmddmofncblfpaaFunits
namespace Go.Proofs.Ytmddmofncblfpaa
open Go.Hx
set_option maxRecDepth 100000
set_option linter.unusedVariables false
/-! ### herdsman/herdsmanlaw21.UnitsPlays: function 8 -/
def law21_UnitsPlays.l0 : Nat → Int → (List herdsmanlaw21_Ask) → Int → Int → (List (Int × api_Unit)) → List Int → Int → Int → List api_Unit → Int → Option Bool
  | 0, _, _, _, _, _, _, _, _, _, _ => none
  | k19 + 1, most, l, x11, x12, x13, x14, x15, x16, x17, x18 => if ((decide (x18 < (List.length l : Int))) && (decide (x18 < 60))) = true then (if (0 ≤ x18 ∧ x18 < (List.length l : Int)) then ((if ((Int.tmod (rd l x18).Goal 5) != 0) = true then ((ref1_Within.f ((rd l x18).Id) (-1) x16).bind fun v22 => some v22) else (some ((rd l x18).Id))).bind fun x20 => (ref21_Units_Get.f (herdsmanref21_Units.mk x15 x16 x17) x20).bind fun v23 => ((ref1_Within.f ((rd l x18).Kind) 0 6).bind fun v32 => if (v32 == 3) = true then (if v23.2 = true then ((ref21_Units_Set.f (herdsmanref21_Units.mk x15 x16 x17) (api_Unit.mk v23.1.Id v23.1.Cell ((rd l x18).Goal))).bind fun v33 => (units_Units_Aim.f (units_Units.mk x11 x12 x13 x14) x20 ((rd l x18).Goal)).bind fun v34 => if (!(v34.1 == v23.2)) = true then (some (Sum.inl false)) else (some (Sum.inr (v34.2.most, v34.2.next, v34.2.live, v34.2.order, v33.2.Most, v33.2.Next, v33.2.L)))) else ((units_Units_Aim.f (units_Units.mk x11 x12 x13 x14) x20 ((rd l x18).Goal)).bind fun v35 => if (!(v35.1 == v23.2)) = true then (some (Sum.inl false)) else (some (Sum.inr (v35.2.most, v35.2.next, v35.2.live, v35.2.order, x15, x16, x17))))) else (if (v32 == 4) = true then (if v23.2 = true then ((ref21_Units_Set.f (herdsmanref21_Units.mk x15 x16 x17) (api_Unit.mk v23.1.Id ((rd l x18).Cell) v23.1.Goal)).bind fun v36 => (units_Units_Move.f (units_Units.mk x11 x12 x13 x14) x20 ((rd l x18).Cell)).bind fun v37 => if (!(v37.1 == v23.2)) = true then (some (Sum.inl false)) else (some (Sum.inr (v37.2.most, v37.2.next, v37.2.live, v37.2.order, v36.2.Most, v36.2.Next, v36.2.L)))) else ((units_Units_Move.f (units_Units.mk x11 x12 x13 x14) x20 ((rd l x18).Cell)).bind fun v38 => if (!(v38.1 == v23.2)) = true then (some (Sum.inl false)) else (some (Sum.inr (v38.2.most, v38.2.next, v38.2.live, v38.2.order, x15, x16, x17))))) else (if (v32 == 5) = true then ((units_Units_Drop.f (units_Units.mk x11 x12 x13 x14) x20).bind fun v39 => (ref21_Units_Drop.f (herdsmanref21_Units.mk x15 x16 x17) x20).bind fun v40 => if (!(v39.1 == v40.1)) = true then (some (Sum.inl false)) else (some (Sum.inr (v39.2.most, v39.2.next, v39.2.live, v39.2.order, v40.2.Most, v40.2.Next, v40.2.L)))) else (if (v32 == 6) = true then ((units_Units_Get.f (units_Units.mk x11 x12 x13 x14) x20).bind fun v41 => (if (!(v41.2 == v23.2)) = true then (some true) else (some (!((v41.1.Id == v23.1.Id) && ((v41.1.Cell == v23.1.Cell) && ((v41.1.Goal == v23.1.Goal) && true)))))).bind fun x42 => if x42 = true then (some (Sum.inl false)) else (some (Sum.inr (x11, x12, x13, x14, x15, x16, x17)))) else ((units_Units_Add.f (units_Units.mk x11 x12 x13 x14) ((rd l x18).Cell) ((rd l x18).Goal)).bind fun v44 => (ref21_Units_Add.f (herdsmanref21_Units.mk x15 x16 x17) ((rd l x18).Cell) ((rd l x18).Goal)).bind fun v45 => if ((v44.1 != v45.1) || (!(v44.2.1 == v45.2.1))) = true then (some (Sum.inl false)) else (some (Sum.inr (v44.2.2.most, v44.2.2.next, v44.2.2.live, v44.2.2.order, v45.2.2.Most, v45.2.2.Next, v45.2.2.L)))))))).bind fun zz => match zz with | Sum.inl q => some q | Sum.inr (x24, x25, x26, x27, x28, x29, x30) => ((units_Units_Len.f (units_Units.mk x24 x25 x26 x27)).bind fun v48 => if (v48 != (List.length x30 : Int)) = true then (some true) else ((units_Units_Next.f (units_Units.mk x24 x25 x26 x27)).bind fun v49 => if (v49 != x29) = true then (some true) else ((units_Units_All.f (units_Units.mk x24 x25 x26 x27)).bind fun v50 => (ref21_Same.f v50 x30).bind fun v51 => some (!v51)))).bind fun x46 => if x46 = true then (some false) else (law21_UnitsPlays.l0 k19 most l x24 x25 x26 x27 x28 x29 x30 (w64 (x18 + 1)))) else none) else ((law21_told.f).bind fun v52 => some v52)
def law21_UnitsPlays.f (most : Int) (l : (List herdsmanlaw21_Ask)) : Option Bool := (ref1_Within.f most 1 9).bind fun v1 => (units_New.f v1).bind fun v2 => optm v2 (some false) (fun yv2 => law21_UnitsPlays.l0 fuel most l yv2.most yv2.next yv2.live yv2.order v1 0 [] 0)
set_option maxHeartbeats 4000000 in
theorem law21_UnitsPlays.c {a_l : Option Addr} {n_l : Nat} (most : Int) (l : (List herdsmanlaw21_Ask)) (r : Bool) (F : Hp) (H : law21_UnitsPlays.f most l = some r) (h_l : SliceR k_herdsmanlaw21_Ask l a_l F) (c_l : List.length l ≤ n_l) :
    CallsL Try.prog 8 [(.int .i64 most), (.slice a_l (List.length l) n_l)] [F] (fun _ : Unit => (.bool r)) (fun _ => [F]) := by
  unfold law21_UnitsPlays.f at H
  refine calls_atL [(0, (.int .i64 most)), (1, (.slice a_l (List.length l) n_l))] Try.func8 rfl rfl ⟨rfl, rfl, trivial⟩ (fun W => ?_)
  refine at_seq ?_
  refine at_region [0] rfl ?_
  refine at_s T rfl ?_
  refine at_end ?_
  refine at_sub [(0, (.int .i64 most)), (1, (.slice a_l (List.length l) n_l))] ⟨rfl, rfl, trivial⟩ ?_
  refine at_then ?_
  refine at_seq ?_
  refine at_region [0, 1, 2] rfl ?_
  refine at_s T rfl ?_
  obtain ⟨v1, V1, H⟩ := bind_e H
  refine at_cons (at_c (B := fun _ => []) [] rfl rfl rfl rfl has15 rfl rfl (ref1_Within.c most 1 9 v1 _ V1) (fun _ => ?_))
  refine at_s T rfl ?_
  refine at_end ?_
  refine at_sub [(1, (.slice a_l (List.length l) n_l)), (5, (.int .i64 v1))] ⟨rfl, rfl, trivial⟩ ?_
  refine at_then ?_
  refine at_seq ?_
  refine at_region [0, 1, 2] rfl ?_
  refine at_s T rfl ?_
  obtain ⟨v2, V2, H⟩ := bind_e H
  refine at_cons (at_cR (units_New.R v2) [] [] rfl rfl rfl rfl has26 rfl rfl (units_New.c v1 v2 _ V2) ?_)
  rintro _ _ ⟨_, _, O3, rfl, rfl⟩
  rcases v2 with _ | yv2
  · replace H := optm_n rfl H
    obtain ⟨rfl, rfl⟩ := O3
    refine at_s T rfl ?_
    refine at_end ?_
    refine at_sub [(1, (.slice a_l (List.length l) n_l)), (5, (.int .i64 v1)), (6, (.pointer none))] ⟨rfl, rfl, rfl, trivial⟩ ?_
    refine at_then ?_
    refine at_seq ?_
    refine at_seq ?_
    refine at_region [0, 1] rfl ?_
    iterate 2 refine at_s T rfl ?_
    refine at_end ?_
    refine at_sub [(1, (.slice a_l (List.length l) n_l)), (5, (.int .i64 v1)), (6, (.pointer none)), (23, (.bool true))] ⟨rfl, rfl, rfl, rfl, trivial⟩ ?_
    refine at_then ?_
    refine at_cond_t rfl ?_
    refine at_seq ?_
    refine at_region [0] rfl ?_
    refine at_s T rfl ?_
    refine at_end ?_
    refine at_sub [(4, (.bool false))] ⟨rfl, trivial⟩ ?_
    refine at_then ?_
    refine at_ret ?_
    refine at_rt ?_
    obtain rfl := Option.some.inj H
    exact at_post (T := T) rfl (.tmp rfl .nil) (fun w o => ⟨(), rfl, own_to [0] rfl o⟩)
  · replace H := optm_s rfl H
    obtain ⟨b1, a2, H2, a3, n3, H3, s2, s3, rfl, rfl⟩ := O3
    refine at_s T rfl ?_
    refine at_end ?_
    refine at_sub [(1, (.slice a_l (List.length l) n_l)), (5, (.int .i64 v1)), (6, (.pointer (some ⟨b1, 0, none⟩)))] ⟨rfl, rfl, rfl, trivial⟩ ?_
    refine at_then ?_
    refine at_seq ?_
    refine at_seq ?_
    refine at_region [0, 1] rfl ?_
    iterate 2 refine at_s T rfl ?_
    refine at_end ?_
    refine at_sub [(1, (.slice a_l (List.length l) n_l)), (5, (.int .i64 v1)), (6, (.pointer (some ⟨b1, 0, none⟩))), (23, (.bool false))] ⟨rfl, rfl, rfl, rfl, trivial⟩ ?_
    refine at_then ?_
    refine at_cond_f rfl ?_
    refine at_skip ?_
    refine at_then ?_
    refine at_seq ?_
    refine at_region [0, 1, 2, 3] rfl ?_
    iterate 2 refine at_s T rfl ?_
    refine at_cons (at_bx T [(.int .i64 v1), (.int .i64 0), (.slice none 0 0)] rfl rfl rfl rfl (fun b4 => ?_))
    refine at_s T rfl ?_
    refine at_end ?_
    refine at_sub [(1, (.slice a_l (List.length l) n_l)), (6, (.pointer (some ⟨b1, 0, none⟩))), (7, (.pointer (some ⟨b4, 0, none⟩)))] ⟨rfl, rfl, rfl, trivial⟩ ?_
    refine at_then ?_
    refine at_seq ?_
    refine at_seq ?_
    refine at_region [0] rfl ?_
    refine at_s T rfl ?_
    refine at_end ?_
    refine at_sub [(1, (.slice a_l (List.length l) n_l)), (6, (.pointer (some ⟨b1, 0, none⟩))), (7, (.pointer (some ⟨b4, 0, none⟩))), (8, (.int .i64 0))] ⟨rfl, rfl, rfl, rfl, trivial⟩ ?_
    refine at_then ?_
    refine at_block ?_
    refine at_addnil ?_
    refine at_loopL (σ := Nat × Int × Int × (List (Int × api_Unit)) × List Int × Int × Int × List api_Unit × Int × Nat × Hp × Option Addr × Nat × Hp × Option Addr × Nat × Hp) (fun ⟨k19, x11, x12, x13, x14, x15, x16, x17, x18, a8, H8, a9, n9, H9, a10, n10, H10⟩ => law21_UnitsPlays.l0 k19 most l x11 x12 x13 x14 x15 x16 x17 x18 = some r ∧ MapO (Ky.int .i64 u3) (fun x : api_Unit => Value.agg #[.int .i64 x.Id, .int .i64 x.Cell, .int .i64 x.Goal]) x13 a8 H8 ∧ SliceO (Fl.int .i64) 3 x14 a9 n9 H9 ∧ SliceO k_api_Unit 47 x17 a10 n10 H10) (fun ⟨k19, x11, x12, x13, x14, x15, x16, x17, x18, a8, H8, a9, n9, H9, a10, n10, H10⟩ => [(1, (.slice a_l (List.length l) n_l)), (6, (.pointer (some ⟨b1, 0, none⟩))), (7, (.pointer (some ⟨b4, 0, none⟩))), (8, (.int .i64 x18))]) (fun ⟨k19, x11, x12, x13, x14, x15, x16, x17, x18, a8, H8, a9, n9, H9, a10, n10, H10⟩ => [F, [(b1, Obj.cells #[(.int .i64 x11), (.int .i64 x12), (.map (some a8)), (.slice a9 (List.length x14) n9)] 80 (0, 0))], H8, H9, [(b4, Obj.cells #[(.int .i64 x15), (.int .i64 x16), (.slice a10 (List.length x17) n10)] 53 (0, 0))], H10]) (fun s => s.1) (fuel, yv2.most, yv2.next, yv2.live, yv2.order, v1, 0, [], 0, a2, H2, a3, n3, H3, none, 0, []) [0, 0, 0, 0, 0, 0] ⟨H, s2, s3, SliceO.nil⟩ ⟨rfl, rfl, rfl, rfl, trivial⟩ rfl ?_
    rintro ⟨k19, x11, x12, x13, x14, x15, x16, x17, x18, a8, H8, a9, n9, H9, a10, n10, H10⟩ ⟨Z4, s8, s9, s10⟩
    replace Z4 : law21_UnitsPlays.l0 k19 most l x11 x12 x13 x14 x15 x16 x17 x18 = some r := Z4
    rcases k19 with _ | k19
    · rw [law21_UnitsPlays.l0] at Z4; cases Z4
    · rw [law21_UnitsPlays.l0] at Z4
      refine at_seq ?_
      refine at_seq ?_
      refine at_region [0, 1, 2, 3, 4, 5, 6, 7] rfl ?_
      iterate 5 refine at_s T rfl ?_
      refine at_grp T [5, 6, 7] (s := 31) (c := (decide (x18 < (List.length l : Int)))) [(1, (.slice a_l (List.length l) n_l)), (6, (.pointer (some ⟨b1, 0, none⟩))), (7, (.pointer (some ⟨b4, 0, none⟩))), (8, (.int .i64 x18)), (34, (.bool ((decide (x18 < (List.length l : Int))) && (decide (x18 < 60)))))] rfl rfl rfl (fun c5 => ⟨rfl, rfl, rfl, rfl, (by rw [c5]; rfl), trivial⟩) (fun c5 => ⟨rfl, rfl, rfl, rfl, (by rw [c5]; rfl), trivial⟩) ?_
      refine at_end ?_
      refine at_sub [(1, (.slice a_l (List.length l) n_l)), (6, (.pointer (some ⟨b1, 0, none⟩))), (7, (.pointer (some ⟨b4, 0, none⟩))), (8, (.int .i64 x18)), (34, (.bool ((decide (x18 < (List.length l : Int))) && (decide (x18 < 60)))))] ⟨rfl, rfl, rfl, rfl, rfl, trivial⟩ ?_
      refine at_then ?_
      refine at_cond rfl (fun c6 => ?_) (fun c6 => ?_)
      · replace Z4 := if_t c6 Z4
        refine at_skip ?_
        refine at_then ?_
        refine at_seq ?_
        refine at_block ?_
        refine at_seq ?_
        refine at_region [0, 1, 2, 3, 4, 5] rfl ?_
        iterate 2 refine at_s T rfl ?_
        obtain ⟨c7, Z4⟩ := chk_e Z4
        obtain ⟨q11, o11, e11⟩ := h_l.addr c7.1 c7.2
        refine at_v rfl (g_index T rfl rfl rfl rfl rfl e11 c7.1 c7.2) ?_
        refine at_v rfl (g_loadA T (cs := [(.int .i64 (rd l x18).Kind), (.int .i64 (rd l x18).Id), (.int .i64 (rd l x18).Cell), (.int .i64 (rd l x18).Goal)]) rfl rfl rfl rfl rfl rfl (in_elemA (k := k_herdsmanlaw21_Ask) (ro_of h_l (j := 0) rfl) e11 c7 rfl)) ?_
        refine at_cons (at_al T [(.int .i64 0), (.int .i64 0), (.int .i64 0), (.int .i64 0)] rfl rfl rfl rfl (fun b12 => ?_))
        refine at_cons (at_st T 6 [(.int .i64 (rd l x18).Kind), (.int .i64 (rd l x18).Id), (.int .i64 (rd l x18).Cell), (.int .i64 (rd l x18).Goal)] rfl rfl rfl rfl rfl rfl rfl rfl rfl rfl ?_)
        refine at_end ?_
        refine at_sub [(1, (.slice a_l (List.length l) n_l)), (6, (.pointer (some ⟨b1, 0, none⟩))), (7, (.pointer (some ⟨b4, 0, none⟩))), (8, (.int .i64 x18)), (9, (.pointer (some ⟨b12, 0, none⟩)))] ⟨rfl, rfl, rfl, rfl, rfl, trivial⟩ ?_
        refine at_then ?_
        obtain ⟨z21, Z8, Z4⟩ := bind_e Z4
        refine at_seq_mid (σ := Int) (fun x20 => x20 = z21) (fun x20 => [(1, (.slice a_l (List.length l) n_l)), (6, (.pointer (some ⟨b1, 0, none⟩))), (7, (.pointer (some ⟨b4, 0, none⟩))), (8, (.int .i64 x18)), (9, (.pointer (some ⟨b12, 0, none⟩)))]) (fun x20 => [F, [(b1, Obj.cells #[(.int .i64 x11), (.int .i64 x12), (.map (some a8)), (.slice a9 (List.length x14) n9)] 80 (0, 0))], H8, H9, [(b4, Obj.cells #[(.int .i64 x15), (.int .i64 x16), (.slice a10 (List.length x17) n10)] 53 (0, 0))], H10, [(b12, Obj.cells #[(.int .i64 (rd l x18).Kind), (.int .i64 x20), (.int .i64 (rd l x18).Cell), (.int .i64 (rd l x18).Goal)] 55 (0, 0))]]) ?_ ?_
        · refine at_seq ?_
          refine at_region [0, 1, 2, 3] rfl ?_
          refine at_s T rfl ?_
          refine at_v rfl (g_load T rfl rfl rfl rfl (in_var (j := 6) rfl rfl)) ?_
          iterate 2 refine at_s T rfl ?_
          refine at_end ?_
          refine at_sub [(1, (.slice a_l (List.length l) n_l)), (6, (.pointer (some ⟨b1, 0, none⟩))), (7, (.pointer (some ⟨b4, 0, none⟩))), (8, (.int .i64 x18)), (9, (.pointer (some ⟨b12, 0, none⟩))), (44, (.bool ((Int.tmod (rd l x18).Goal 5) != 0)))] ⟨rfl, rfl, rfl, rfl, rfl, rfl, trivial⟩ ?_
          refine at_then ?_
          refine at_cond rfl (fun c9 => ?_) (fun c9 => ?_)
          · replace Z8 := if_t c9 Z8
            refine at_region_m [[], [0], [], [2], [2, 3], [2, 3, 4], [0, 1, 2, 3, 4, 5], [0, 1, 2, 3, 4, 5, 6], [0, 1, 2, 3, 4, 5, 6, 7]] [8] [F, [(b1, Obj.cells #[(.int .i64 x11), (.int .i64 x12), (.map (some a8)), (.slice a9 (List.length x14) n9)] 80 (0, 0))], H8, H9, [(b4, Obj.cells #[(.int .i64 x15), (.int .i64 x16), (.slice a10 (List.length x17) n10)] 53 (0, 0))], H10, [(b12, Obj.cells #[(.int .i64 (rd l x18).Kind), (.int .i64 (rd l x18).Id), (.int .i64 (rd l x18).Cell), (.int .i64 (rd l x18).Goal)] 55 (0, 0))]] mix (by kernel_rfl) (by repeat first | exact pf_body | refine pf_then ?_ | refine pf_block ?_) (fun hg pf => ?_)
            refine atm_s T 0 hg pf (by kernel_rfl) (still_o [0, 0, 0, 0, 0, 0, 0] rfl) rfl ?_
            refine atm_v 1 hg pf (by kernel_rfl) (still_o [0, 0, 0, 0, 0, 0, 0] rfl) rfl rfl (g_load T rfl rfl rfl rfl (in_var (j := 6) rfl rfl)) ?_
            refine atm_s T 2 hg pf (by kernel_rfl) (still_o [0, 0, 0, 0, 0, 0, 0] rfl) rfl ?_
            refine atm_s T 3 hg pf (by kernel_rfl) (still_o [0, 0, 0, 0, 0, 0, 0] rfl) rfl ?_
            refine atm_s T 4 hg pf (by kernel_rfl) (still_o [0, 0, 0, 0, 0, 0, 0] rfl) rfl ?_
            refine atm_v 5 hg pf (by kernel_rfl) (still_o [0, 0, 0, 0, 0, 0, 0] rfl) rfl rfl (g_load T rfl rfl rfl rfl (in_var (j := 4) rfl rfl)) ?_
            refine atm_one 6 (by kernel_rfl) ?_
            obtain ⟨v22, V10, Z8⟩ := bind_e Z8
            refine at_c (B := fun _ => []) [] rfl rfl rfl rfl has15 rfl rfl (ref1_Within.c ((rd l x18).Id) (-1) x16 v22 _ V10) (fun _ => ?_)
            refine atm_next (still_o [0, 0, 0, 0, 0, 0, 0] rfl) ?_
            refine atm_s T 7 hg pf (by kernel_rfl) (still_o [0, 0, 0, 0, 0, 0, 0] rfl) rfl ?_
            refine atm_one 8 (by kernel_rfl) ?_
            refine at_st T 6 [(.int .i64 (rd l x18).Kind), (.int .i64 v22), (.int .i64 (rd l x18).Cell), (.int .i64 (rd l x18).Goal)] rfl rfl rfl rfl rfl rfl rfl rfl rfl rfl ?_
            refine atm_next (still_l (by kernel_rfl)) ?_
            refine atm_end (by kernel_rfl) ?_
            refine at_sub [(1, (.slice a_l (List.length l) n_l)), (6, (.pointer (some ⟨b1, 0, none⟩))), (7, (.pointer (some ⟨b4, 0, none⟩))), (8, (.int .i64 x18)), (9, (.pointer (some ⟨b12, 0, none⟩)))] ⟨rfl, rfl, rfl, rfl, rfl, trivial⟩ ?_
            refine at_then ?_
            obtain rfl := Option.some.inj Z8
            exact at_mid v22 [0, 0, 0, 0, 0, 0, 0] rfl ⟨rfl, rfl, rfl, rfl, rfl, trivial⟩ rfl
          · replace Z8 := if_f (bf c9) Z8
            refine at_skip ?_
            refine at_then ?_
            obtain rfl := Option.some.inj Z8
            exact at_mid (rd l x18).Id [0, 0, 0, 0, 0, 0, 0] rfl ⟨rfl, rfl, rfl, rfl, rfl, trivial⟩ rfl
        · rintro x20 rfl
          refine at_seq ?_
          refine at_region [0, 1, 2, 3, 4, 5, 6, 7, 8, 9] rfl ?_
          iterate 2 refine at_s T rfl ?_
          refine at_v rfl (g_load T rfl rfl rfl rfl (in_var (j := 6) rfl rfl)) ?_
          obtain ⟨v23, V11, Z4⟩ := bind_e Z4
          refine at_cons (at_c (As := [[(b4, Obj.cells #[(.int .i64 x15), (.int .i64 x16), (.slice a10 (List.length x17) n10)] 53 (0, 0))], H10]) (R := [F, [(b1, Obj.cells #[(.int .i64 x11), (.int .i64 x12), (.map (some a8)), (.slice a9 (List.length x14) n9)] 80 (0, 0))], H8, H9, [(b12, Obj.cells #[(.int .i64 (rd l x18).Kind), (.int .i64 x20), (.int .i64 (rd l x18).Cell), (.int .i64 (rd l x18).Goal)] 55 (0, 0))]]) (B := fun _ => [[(b4, Obj.cells #[(.int .i64 x15), (.int .i64 x16), (.slice a10 (List.length x17) n10)] 53 (0, 0))], H10]) [4, 4] rfl rfl rfl rfl has31 rfl rfl (ref21_Units_Get.c (herdsmanref21_Units.mk x15 x16 x17) x20 v23 _ V11 s10) (fun _ => ?_))
          iterate 3 refine at_s T rfl ?_
          refine at_cons (at_al T [(.int .i64 0), (.int .i64 0), (.int .i64 0)] rfl rfl rfl rfl (fun b13 => ?_))
          refine at_cons (at_st T 7 [(.int .i64 v23.1.Id), (.int .i64 v23.1.Cell), (.int .i64 v23.1.Goal)] rfl rfl rfl rfl rfl rfl rfl rfl rfl rfl ?_)
          refine at_s T rfl ?_
          refine at_end ?_
          refine at_sub [(1, (.slice a_l (List.length l) n_l)), (6, (.pointer (some ⟨b1, 0, none⟩))), (7, (.pointer (some ⟨b4, 0, none⟩))), (8, (.int .i64 x18)), (9, (.pointer (some ⟨b12, 0, none⟩))), (10, (.pointer (some ⟨b13, 0, none⟩))), (11, (.bool v23.2))] ⟨rfl, rfl, rfl, rfl, rfl, rfl, rfl, trivial⟩ ?_
          refine at_then ?_
          obtain ⟨z31, Z12, Z4⟩ := bind_e Z4
          refine at_seq_mid (σ := Int × Int × (List (Int × api_Unit)) × List Int × Int × Int × List api_Unit × Nat × Hp × Option Addr × Nat × Hp × Option Addr × Nat × Hp) (fun ⟨x24, x25, x26, x27, x28, x29, x30, a14, H14, a15, n15, H15, a16, n16, H16⟩ => (Sum.inr (x24, x25, x26, x27, x28, x29, x30)) = z31 ∧ MapO (Ky.int .i64 u3) (fun x : api_Unit => Value.agg #[.int .i64 x.Id, .int .i64 x.Cell, .int .i64 x.Goal]) x26 a14 H14 ∧ SliceO (Fl.int .i64) 3 x27 a15 n15 H15 ∧ SliceO k_api_Unit 47 x30 a16 n16 H16) (fun ⟨x24, x25, x26, x27, x28, x29, x30, a14, H14, a15, n15, H15, a16, n16, H16⟩ => [(1, (.slice a_l (List.length l) n_l)), (6, (.pointer (some ⟨b1, 0, none⟩))), (7, (.pointer (some ⟨b4, 0, none⟩))), (8, (.int .i64 x18))]) (fun ⟨x24, x25, x26, x27, x28, x29, x30, a14, H14, a15, n15, H15, a16, n16, H16⟩ => [F, [(b1, Obj.cells #[(.int .i64 x24), (.int .i64 x25), (.map (some a14)), (.slice a15 (List.length x27) n15)] 80 (0, 0))], H14, H15, [(b4, Obj.cells #[(.int .i64 x28), (.int .i64 x29), (.slice a16 (List.length x30) n16)] 53 (0, 0))], H16]) ?_ ?_
          · refine at_seq ?_
            refine at_region [0, 1, 2] rfl ?_
            refine at_s T rfl ?_
            refine at_v rfl (g_load T rfl rfl rfl rfl (in_var (j := 4) rfl rfl)) ?_
            obtain ⟨v32, V13, Z12⟩ := bind_e Z12
            refine at_cons (at_c (B := fun _ => []) [] rfl rfl rfl rfl has15 rfl rfl (ref1_Within.c ((rd l x18).Kind) 0 6 v32 _ V13) (fun _ => ?_))
            refine at_end ?_
            refine at_sub [(1, (.slice a_l (List.length l) n_l)), (6, (.pointer (some ⟨b1, 0, none⟩))), (7, (.pointer (some ⟨b4, 0, none⟩))), (8, (.int .i64 x18)), (9, (.pointer (some ⟨b12, 0, none⟩))), (10, (.pointer (some ⟨b13, 0, none⟩))), (11, (.bool v23.2)), (62, (.int .i64 v32))] ⟨rfl, rfl, rfl, rfl, rfl, rfl, rfl, rfl, trivial⟩ ?_
            refine at_then ?_
            refine at_block ?_
            refine at_seq ?_
            refine at_region [0, 1] rfl ?_
            iterate 2 refine at_s T rfl ?_
            refine at_end ?_
            refine at_sub [(1, (.slice a_l (List.length l) n_l)), (6, (.pointer (some ⟨b1, 0, none⟩))), (7, (.pointer (some ⟨b4, 0, none⟩))), (8, (.int .i64 x18)), (9, (.pointer (some ⟨b12, 0, none⟩))), (10, (.pointer (some ⟨b13, 0, none⟩))), (11, (.bool v23.2)), (62, (.int .i64 v32)), (89, (.bool (v32 == 3)))] ⟨rfl, rfl, rfl, rfl, rfl, rfl, rfl, rfl, rfl, trivial⟩ ?_
            refine at_then ?_
            refine at_cond rfl (fun c14 => ?_) (fun c14 => ?_)
            · replace Z12 := if_t c14 Z12
              refine at_seq ?_
              refine at_region [0, 1, 2, 3] rfl ?_
              refine at_s T rfl ?_
              refine at_v rfl (g_load T rfl rfl rfl rfl (in_var (j := 4) rfl rfl)) ?_
              refine at_s T rfl ?_
              refine at_cons (at_st T 7 [(.int .i64 v23.1.Id), (.int .i64 v23.1.Cell), (.int .i64 (rd l x18).Goal)] rfl rfl rfl rfl rfl rfl rfl rfl rfl rfl ?_)
              refine at_end ?_
              refine at_sub [(1, (.slice a_l (List.length l) n_l)), (6, (.pointer (some ⟨b1, 0, none⟩))), (7, (.pointer (some ⟨b4, 0, none⟩))), (8, (.int .i64 x18)), (9, (.pointer (some ⟨b12, 0, none⟩))), (10, (.pointer (some ⟨b13, 0, none⟩))), (11, (.bool v23.2))] ⟨rfl, rfl, rfl, rfl, rfl, rfl, rfl, trivial⟩ ?_
              refine at_then ?_
              refine at_seq ?_
              refine at_seq ?_
              refine at_region [0] rfl ?_
              refine at_s T rfl ?_
              refine at_end ?_
              refine at_sub [(1, (.slice a_l (List.length l) n_l)), (6, (.pointer (some ⟨b1, 0, none⟩))), (7, (.pointer (some ⟨b4, 0, none⟩))), (8, (.int .i64 x18)), (9, (.pointer (some ⟨b12, 0, none⟩))), (10, (.pointer (some ⟨b13, 0, none⟩))), (11, (.bool v23.2)), (94, (.bool v23.2))] ⟨rfl, rfl, rfl, rfl, rfl, rfl, rfl, rfl, trivial⟩ ?_
              refine at_then ?_
              refine at_cond rfl (fun c15 => ?_) (fun c15 => ?_)
              · replace Z12 := if_t c15 Z12
                refine at_region [0, 1, 2] rfl ?_
                refine at_s T rfl ?_
                refine at_v rfl (g_loadA T (cs := [(.int .i64 v23.1.Id), (.int .i64 v23.1.Cell), (.int .i64 (rd l x18).Goal)]) rfl rfl rfl rfl rfl rfl (in_varA (j := 7) rfl rfl)) ?_
                obtain ⟨v33, V16, Z12⟩ := bind_e Z12
                refine at_cons (at_cR (As := [[(b4, Obj.cells #[(.int .i64 x15), (.int .i64 x16), (.slice a10 (List.length x17) n10)] 53 (0, 0))], H10]) (R := [F, [(b1, Obj.cells #[(.int .i64 x11), (.int .i64 x12), (.map (some a8)), (.slice a9 (List.length x14) n9)] 80 (0, 0))], H8, H9, [(b12, Obj.cells #[(.int .i64 (rd l x18).Kind), (.int .i64 x20), (.int .i64 (rd l x18).Cell), (.int .i64 (rd l x18).Goal)] 55 (0, 0))], [(b13, Obj.cells #[(.int .i64 v23.1.Id), (.int .i64 v23.1.Cell), (.int .i64 (rd l x18).Goal)] 47 (0, 0))]]) (ref21_Units_Set.R b4 v33) [] [5, 5] rfl rfl rfl rfl has32 rfl rfl (ref21_Units_Set.c (herdsmanref21_Units.mk x15 x16 x17) (api_Unit.mk v23.1.Id v23.1.Cell ((rd l x18).Goal)) v33 _ V16 s10) ?_)
                rintro _ _ ⟨a17, n17, H17, s17, rfl, rfl⟩
                refine at_end ?_
                refine at_to [(1, (.slice a_l (List.length l) n_l)), (6, (.pointer (some ⟨b1, 0, none⟩))), (7, (.pointer (some ⟨b4, 0, none⟩))), (8, (.int .i64 x18)), (9, (.pointer (some ⟨b12, 0, none⟩))), (11, (.bool v23.2))] [0, 0, 0, 0, 0, 1, 1] [F, [(b1, Obj.cells #[(.int .i64 x11), (.int .i64 x12), (.map (some a8)), (.slice a9 (List.length x14) n9)] 80 (0, 0))], H8, H9, [(b12, Obj.cells #[(.int .i64 (rd l x18).Kind), (.int .i64 x20), (.int .i64 (rd l x18).Cell), (.int .i64 (rd l x18).Goal)] 55 (0, 0))], [(b4, Obj.cells #[(.int .i64 v33.2.Most), (.int .i64 v33.2.Next), (.slice a17 (List.length v33.2.L) n17)] 53 (0, 0))], H17] ⟨rfl, rfl, rfl, rfl, rfl, rfl, trivial⟩ rfl ?_
                refine at_then ?_
                refine at_seq ?_
                refine at_region [0, 1, 2, 3, 4, 5, 6, 7] rfl ?_
                iterate 2 refine at_s T rfl ?_
                refine at_v rfl (g_load T rfl rfl rfl rfl (in_var (j := 4) rfl rfl)) ?_
                refine at_s T rfl ?_
                refine at_v rfl (g_load T rfl rfl rfl rfl (in_var (j := 4) rfl rfl)) ?_
                obtain ⟨v34, V17, Z12⟩ := bind_e Z12
                refine at_cons (at_cR (As := [[(b1, Obj.cells #[(.int .i64 x11), (.int .i64 x12), (.map (some a8)), (.slice a9 (List.length x14) n9)] 80 (0, 0))], H8, H9]) (R := [F, [(b12, Obj.cells #[(.int .i64 (rd l x18).Kind), (.int .i64 x20), (.int .i64 (rd l x18).Cell), (.int .i64 (rd l x18).Goal)] 55 (0, 0))], [(b4, Obj.cells #[(.int .i64 v33.2.Most), (.int .i64 v33.2.Next), (.slice a17 (List.length v33.2.L) n17)] 53 (0, 0))], H17]) (units_Units_Aim.R b1 v34) [] [1, 1, 1] rfl rfl rfl rfl has33 rfl rfl (units_Units_Aim.c (units_Units.mk x11 x12 x13 x14) x20 ((rd l x18).Goal) v34 _ V17 s8 s9) ?_)
                rintro _ _ ⟨a18, H18, a19, n19, H19, s18, s19, rfl, rfl⟩
                iterate 2 refine at_s T rfl ?_
                refine at_end ?_
                refine at_to [(1, (.slice a_l (List.length l) n_l)), (6, (.pointer (some ⟨b1, 0, none⟩))), (7, (.pointer (some ⟨b4, 0, none⟩))), (8, (.int .i64 x18)), (105, (.bool (!(v34.1 == v23.2))))] [0, 1, 1, 1, 1, 1] [F, [(b4, Obj.cells #[(.int .i64 v33.2.Most), (.int .i64 v33.2.Next), (.slice a17 (List.length v33.2.L) n17)] 53 (0, 0))], H17, [(b1, Obj.cells #[(.int .i64 v34.2.most), (.int .i64 v34.2.next), (.map (some a18)), (.slice a19 (List.length v34.2.order) n19)] 80 (0, 0))], H18, H19] ⟨rfl, rfl, rfl, rfl, rfl, trivial⟩ rfl ?_
                refine at_then ?_
                refine at_cond rfl (fun c18 => ?_) (fun c18 => ?_)
                · replace Z12 := if_t c18 Z12
                  refine at_seq ?_
                  refine at_region [0] rfl ?_
                  refine at_s T rfl ?_
                  refine at_end ?_
                  refine at_to [(4, (.bool false))] [0] [F] ⟨rfl, trivial⟩ rfl ?_
                  refine at_then ?_
                  refine at_ret ?_
                  refine at_rb ?_
                  refine at_rt ?_
                  refine at_rb ?_
                  refine at_rt ?_
                  refine at_rt ?_
                  refine at_rb ?_
                  refine at_rt ?_
                  obtain rfl := Option.some.inj Z12
                  obtain rfl := Option.some.inj (show some false = some r from Z4)
                  exact at_post (T := T) rfl (.tmp rfl .nil) (fun w o => ⟨(), rfl, own_to [0] rfl o⟩)
                · replace Z12 := if_f (bf c18) Z12
                  refine at_skip ?_
                  refine at_nb ?_
                  refine at_then ?_
                  obtain rfl := Option.some.inj Z12
                  exact at_mid (v34.2.most, v34.2.next, v34.2.live, v34.2.order, v33.2.Most, v33.2.Next, v33.2.L, a18, H18, a19, n19, H19, a17, n17, H17) [0, 2, 2, 2, 0, 0] ⟨rfl, s18, s19, s17⟩ ⟨rfl, rfl, rfl, rfl, trivial⟩ rfl
              · replace Z12 := if_f (bf c15) Z12
                refine at_skip ?_
                refine at_then ?_
                refine at_seq ?_
                refine at_region [0, 1, 2, 3, 4, 5, 6, 7] rfl ?_
                iterate 2 refine at_s T rfl ?_
                refine at_v rfl (g_load T rfl rfl rfl rfl (in_var (j := 4) rfl rfl)) ?_
                refine at_s T rfl ?_
                refine at_v rfl (g_load T rfl rfl rfl rfl (in_var (j := 4) rfl rfl)) ?_
                obtain ⟨v35, V19, Z12⟩ := bind_e Z12
                refine at_cons (at_cR (As := [[(b1, Obj.cells #[(.int .i64 x11), (.int .i64 x12), (.map (some a8)), (.slice a9 (List.length x14) n9)] 80 (0, 0))], H8, H9]) (R := [F, [(b12, Obj.cells #[(.int .i64 (rd l x18).Kind), (.int .i64 x20), (.int .i64 (rd l x18).Cell), (.int .i64 (rd l x18).Goal)] 55 (0, 0))], [(b4, Obj.cells #[(.int .i64 x15), (.int .i64 x16), (.slice a10 (List.length x17) n10)] 53 (0, 0))], H10, [(b13, Obj.cells #[(.int .i64 v23.1.Id), (.int .i64 v23.1.Cell), (.int .i64 (rd l x18).Goal)] 47 (0, 0))]]) (units_Units_Aim.R b1 v35) [] [1, 1, 1] rfl rfl rfl rfl has33 rfl rfl (units_Units_Aim.c (units_Units.mk x11 x12 x13 x14) x20 ((rd l x18).Goal) v35 _ V19 s8 s9) ?_)
                rintro _ _ ⟨a20, H20, a21, n21, H21, s20, s21, rfl, rfl⟩
                iterate 2 refine at_s T rfl ?_
                refine at_end ?_
                refine at_to [(1, (.slice a_l (List.length l) n_l)), (6, (.pointer (some ⟨b1, 0, none⟩))), (7, (.pointer (some ⟨b4, 0, none⟩))), (8, (.int .i64 x18)), (105, (.bool (!(v35.1 == v23.2))))] [0, 1, 1, 2, 2, 2] [F, [(b4, Obj.cells #[(.int .i64 x15), (.int .i64 x16), (.slice a10 (List.length x17) n10)] 53 (0, 0))], H10, [(b1, Obj.cells #[(.int .i64 v35.2.most), (.int .i64 v35.2.next), (.map (some a20)), (.slice a21 (List.length v35.2.order) n21)] 80 (0, 0))], H20, H21] ⟨rfl, rfl, rfl, rfl, rfl, trivial⟩ rfl ?_
                refine at_then ?_
                refine at_cond rfl (fun c20 => ?_) (fun c20 => ?_)
                · replace Z12 := if_t c20 Z12
                  refine at_seq ?_
                  refine at_region [0] rfl ?_
                  refine at_s T rfl ?_
                  refine at_end ?_
                  refine at_to [(4, (.bool false))] [0] [F] ⟨rfl, trivial⟩ rfl ?_
                  refine at_then ?_
                  refine at_ret ?_
                  refine at_rb ?_
                  refine at_rt ?_
                  refine at_rb ?_
                  refine at_rt ?_
                  refine at_rt ?_
                  refine at_rb ?_
                  refine at_rt ?_
                  obtain rfl := Option.some.inj Z12
                  obtain rfl := Option.some.inj (show some false = some r from Z4)
                  exact at_post (T := T) rfl (.tmp rfl .nil) (fun w o => ⟨(), rfl, own_to [0] rfl o⟩)
                · replace Z12 := if_f (bf c20) Z12
                  refine at_skip ?_
                  refine at_nb ?_
                  refine at_then ?_
                  obtain rfl := Option.some.inj Z12
                  exact at_mid (v35.2.most, v35.2.next, v35.2.live, v35.2.order, x15, x16, x17, a20, H20, a21, n21, H21, a10, n10, H10) [0, 2, 2, 2, 0, 0] ⟨rfl, s20, s21, s10⟩ ⟨rfl, rfl, rfl, rfl, trivial⟩ rfl
            · replace Z12 := if_f (bf c14) Z12
              refine at_seq ?_
              refine at_region [0, 1] rfl ?_
              iterate 2 refine at_s T rfl ?_
              refine at_end ?_
              refine at_sub [(1, (.slice a_l (List.length l) n_l)), (6, (.pointer (some ⟨b1, 0, none⟩))), (7, (.pointer (some ⟨b4, 0, none⟩))), (8, (.int .i64 x18)), (9, (.pointer (some ⟨b12, 0, none⟩))), (10, (.pointer (some ⟨b13, 0, none⟩))), (11, (.bool v23.2)), (62, (.int .i64 v32)), (106, (.bool (v32 == 4)))] ⟨rfl, rfl, rfl, rfl, rfl, rfl, rfl, rfl, rfl, trivial⟩ ?_
              refine at_then ?_
              refine at_cond rfl (fun c21 => ?_) (fun c21 => ?_)
              · replace Z12 := if_t c21 Z12
                refine at_seq ?_
                refine at_region [0, 1, 2, 3] rfl ?_
                refine at_s T rfl ?_
                refine at_v rfl (g_load T rfl rfl rfl rfl (in_var (j := 4) rfl rfl)) ?_
                refine at_s T rfl ?_
                refine at_cons (at_st T 7 [(.int .i64 v23.1.Id), (.int .i64 (rd l x18).Cell), (.int .i64 v23.1.Goal)] rfl rfl rfl rfl rfl rfl rfl rfl rfl rfl ?_)
                refine at_end ?_
                refine at_sub [(1, (.slice a_l (List.length l) n_l)), (6, (.pointer (some ⟨b1, 0, none⟩))), (7, (.pointer (some ⟨b4, 0, none⟩))), (8, (.int .i64 x18)), (9, (.pointer (some ⟨b12, 0, none⟩))), (10, (.pointer (some ⟨b13, 0, none⟩))), (11, (.bool v23.2))] ⟨rfl, rfl, rfl, rfl, rfl, rfl, rfl, trivial⟩ ?_
                refine at_then ?_
                refine at_seq ?_
                refine at_seq ?_
                refine at_region [0] rfl ?_
                refine at_s T rfl ?_
                refine at_end ?_
                refine at_sub [(1, (.slice a_l (List.length l) n_l)), (6, (.pointer (some ⟨b1, 0, none⟩))), (7, (.pointer (some ⟨b4, 0, none⟩))), (8, (.int .i64 x18)), (9, (.pointer (some ⟨b12, 0, none⟩))), (10, (.pointer (some ⟨b13, 0, none⟩))), (11, (.bool v23.2)), (111, (.bool v23.2))] ⟨rfl, rfl, rfl, rfl, rfl, rfl, rfl, rfl, trivial⟩ ?_
                refine at_then ?_
                refine at_cond rfl (fun c22 => ?_) (fun c22 => ?_)
                · replace Z12 := if_t c22 Z12
                  refine at_region [0, 1, 2] rfl ?_
                  refine at_s T rfl ?_
                  refine at_v rfl (g_loadA T (cs := [(.int .i64 v23.1.Id), (.int .i64 (rd l x18).Cell), (.int .i64 v23.1.Goal)]) rfl rfl rfl rfl rfl rfl (in_varA (j := 7) rfl rfl)) ?_
                  obtain ⟨v36, V23, Z12⟩ := bind_e Z12
                  refine at_cons (at_cR (As := [[(b4, Obj.cells #[(.int .i64 x15), (.int .i64 x16), (.slice a10 (List.length x17) n10)] 53 (0, 0))], H10]) (R := [F, [(b1, Obj.cells #[(.int .i64 x11), (.int .i64 x12), (.map (some a8)), (.slice a9 (List.length x14) n9)] 80 (0, 0))], H8, H9, [(b12, Obj.cells #[(.int .i64 (rd l x18).Kind), (.int .i64 x20), (.int .i64 (rd l x18).Cell), (.int .i64 (rd l x18).Goal)] 55 (0, 0))], [(b13, Obj.cells #[(.int .i64 v23.1.Id), (.int .i64 (rd l x18).Cell), (.int .i64 v23.1.Goal)] 47 (0, 0))]]) (ref21_Units_Set.R b4 v36) [] [5, 5] rfl rfl rfl rfl has32 rfl rfl (ref21_Units_Set.c (herdsmanref21_Units.mk x15 x16 x17) (api_Unit.mk v23.1.Id ((rd l x18).Cell) v23.1.Goal) v36 _ V23 s10) ?_)
                  rintro _ _ ⟨a22, n22, H22, s22, rfl, rfl⟩
                  refine at_end ?_
                  refine at_to [(1, (.slice a_l (List.length l) n_l)), (6, (.pointer (some ⟨b1, 0, none⟩))), (7, (.pointer (some ⟨b4, 0, none⟩))), (8, (.int .i64 x18)), (9, (.pointer (some ⟨b12, 0, none⟩))), (11, (.bool v23.2))] [0, 0, 0, 0, 0, 1, 1] [F, [(b1, Obj.cells #[(.int .i64 x11), (.int .i64 x12), (.map (some a8)), (.slice a9 (List.length x14) n9)] 80 (0, 0))], H8, H9, [(b12, Obj.cells #[(.int .i64 (rd l x18).Kind), (.int .i64 x20), (.int .i64 (rd l x18).Cell), (.int .i64 (rd l x18).Goal)] 55 (0, 0))], [(b4, Obj.cells #[(.int .i64 v36.2.Most), (.int .i64 v36.2.Next), (.slice a22 (List.length v36.2.L) n22)] 53 (0, 0))], H22] ⟨rfl, rfl, rfl, rfl, rfl, rfl, trivial⟩ rfl ?_
                  refine at_then ?_
                  refine at_seq ?_
                  refine at_region [0, 1, 2, 3, 4, 5, 6, 7] rfl ?_
                  iterate 2 refine at_s T rfl ?_
                  refine at_v rfl (g_load T rfl rfl rfl rfl (in_var (j := 4) rfl rfl)) ?_
                  refine at_s T rfl ?_
                  refine at_v rfl (g_load T rfl rfl rfl rfl (in_var (j := 4) rfl rfl)) ?_
                  obtain ⟨v37, V24, Z12⟩ := bind_e Z12
                  refine at_cons (at_cR (As := [[(b1, Obj.cells #[(.int .i64 x11), (.int .i64 x12), (.map (some a8)), (.slice a9 (List.length x14) n9)] 80 (0, 0))], H8, H9]) (R := [F, [(b12, Obj.cells #[(.int .i64 (rd l x18).Kind), (.int .i64 x20), (.int .i64 (rd l x18).Cell), (.int .i64 (rd l x18).Goal)] 55 (0, 0))], [(b4, Obj.cells #[(.int .i64 v36.2.Most), (.int .i64 v36.2.Next), (.slice a22 (List.length v36.2.L) n22)] 53 (0, 0))], H22]) (units_Units_Move.R b1 v37) [] [1, 1, 1] rfl rfl rfl rfl has34 rfl rfl (units_Units_Move.c (units_Units.mk x11 x12 x13 x14) x20 ((rd l x18).Cell) v37 _ V24 s8 s9) ?_)
                  rintro _ _ ⟨a23, H23, a24, n24, H24, s23, s24, rfl, rfl⟩
                  iterate 2 refine at_s T rfl ?_
                  refine at_end ?_
                  refine at_to [(1, (.slice a_l (List.length l) n_l)), (6, (.pointer (some ⟨b1, 0, none⟩))), (7, (.pointer (some ⟨b4, 0, none⟩))), (8, (.int .i64 x18)), (122, (.bool (!(v37.1 == v23.2))))] [0, 1, 1, 1, 1, 1] [F, [(b4, Obj.cells #[(.int .i64 v36.2.Most), (.int .i64 v36.2.Next), (.slice a22 (List.length v36.2.L) n22)] 53 (0, 0))], H22, [(b1, Obj.cells #[(.int .i64 v37.2.most), (.int .i64 v37.2.next), (.map (some a23)), (.slice a24 (List.length v37.2.order) n24)] 80 (0, 0))], H23, H24] ⟨rfl, rfl, rfl, rfl, rfl, trivial⟩ rfl ?_
                  refine at_then ?_
                  refine at_cond rfl (fun c25 => ?_) (fun c25 => ?_)
                  · replace Z12 := if_t c25 Z12
                    refine at_seq ?_
                    refine at_region [0] rfl ?_
                    refine at_s T rfl ?_
                    refine at_end ?_
                    refine at_to [(4, (.bool false))] [0] [F] ⟨rfl, trivial⟩ rfl ?_
                    refine at_then ?_
                    refine at_ret ?_
                    refine at_rb ?_
                    refine at_rt ?_
                    refine at_rb ?_
                    refine at_rt ?_
                    refine at_rt ?_
                    refine at_rb ?_
                    refine at_rt ?_
                    obtain rfl := Option.some.inj Z12
                    obtain rfl := Option.some.inj (show some false = some r from Z4)
                    exact at_post (T := T) rfl (.tmp rfl .nil) (fun w o => ⟨(), rfl, own_to [0] rfl o⟩)
                  · replace Z12 := if_f (bf c25) Z12
                    refine at_skip ?_
                    refine at_nb ?_
                    refine at_then ?_
                    obtain rfl := Option.some.inj Z12
                    exact at_mid (v37.2.most, v37.2.next, v37.2.live, v37.2.order, v36.2.Most, v36.2.Next, v36.2.L, a23, H23, a24, n24, H24, a22, n22, H22) [0, 2, 2, 2, 0, 0] ⟨rfl, s23, s24, s22⟩ ⟨rfl, rfl, rfl, rfl, trivial⟩ rfl
                · replace Z12 := if_f (bf c22) Z12
                  refine at_skip ?_
                  refine at_then ?_
                  refine at_seq ?_
                  refine at_region [0, 1, 2, 3, 4, 5, 6, 7] rfl ?_
                  iterate 2 refine at_s T rfl ?_
                  refine at_v rfl (g_load T rfl rfl rfl rfl (in_var (j := 4) rfl rfl)) ?_
                  refine at_s T rfl ?_
                  refine at_v rfl (g_load T rfl rfl rfl rfl (in_var (j := 4) rfl rfl)) ?_
                  obtain ⟨v38, V26, Z12⟩ := bind_e Z12
                  refine at_cons (at_cR (As := [[(b1, Obj.cells #[(.int .i64 x11), (.int .i64 x12), (.map (some a8)), (.slice a9 (List.length x14) n9)] 80 (0, 0))], H8, H9]) (R := [F, [(b12, Obj.cells #[(.int .i64 (rd l x18).Kind), (.int .i64 x20), (.int .i64 (rd l x18).Cell), (.int .i64 (rd l x18).Goal)] 55 (0, 0))], [(b4, Obj.cells #[(.int .i64 x15), (.int .i64 x16), (.slice a10 (List.length x17) n10)] 53 (0, 0))], H10, [(b13, Obj.cells #[(.int .i64 v23.1.Id), (.int .i64 (rd l x18).Cell), (.int .i64 v23.1.Goal)] 47 (0, 0))]]) (units_Units_Move.R b1 v38) [] [1, 1, 1] rfl rfl rfl rfl has34 rfl rfl (units_Units_Move.c (units_Units.mk x11 x12 x13 x14) x20 ((rd l x18).Cell) v38 _ V26 s8 s9) ?_)
                  rintro _ _ ⟨a25, H25, a26, n26, H26, s25, s26, rfl, rfl⟩
                  iterate 2 refine at_s T rfl ?_
                  refine at_end ?_
                  refine at_to [(1, (.slice a_l (List.length l) n_l)), (6, (.pointer (some ⟨b1, 0, none⟩))), (7, (.pointer (some ⟨b4, 0, none⟩))), (8, (.int .i64 x18)), (122, (.bool (!(v38.1 == v23.2))))] [0, 1, 1, 2, 2, 2] [F, [(b4, Obj.cells #[(.int .i64 x15), (.int .i64 x16), (.slice a10 (List.length x17) n10)] 53 (0, 0))], H10, [(b1, Obj.cells #[(.int .i64 v38.2.most), (.int .i64 v38.2.next), (.map (some a25)), (.slice a26 (List.length v38.2.order) n26)] 80 (0, 0))], H25, H26] ⟨rfl, rfl, rfl, rfl, rfl, trivial⟩ rfl ?_
                  refine at_then ?_
                  refine at_cond rfl (fun c27 => ?_) (fun c27 => ?_)
                  · replace Z12 := if_t c27 Z12
                    refine at_seq ?_
                    refine at_region [0] rfl ?_
                    refine at_s T rfl ?_
                    refine at_end ?_
                    refine at_to [(4, (.bool false))] [0] [F] ⟨rfl, trivial⟩ rfl ?_
                    refine at_then ?_
                    refine at_ret ?_
                    refine at_rb ?_
                    refine at_rt ?_
                    refine at_rb ?_
                    refine at_rt ?_
                    refine at_rt ?_
                    refine at_rb ?_
                    refine at_rt ?_
                    obtain rfl := Option.some.inj Z12
                    obtain rfl := Option.some.inj (show some false = some r from Z4)
                    exact at_post (T := T) rfl (.tmp rfl .nil) (fun w o => ⟨(), rfl, own_to [0] rfl o⟩)
                  · replace Z12 := if_f (bf c27) Z12
                    refine at_skip ?_
                    refine at_nb ?_
                    refine at_then ?_
                    obtain rfl := Option.some.inj Z12
                    exact at_mid (v38.2.most, v38.2.next, v38.2.live, v38.2.order, x15, x16, x17, a25, H25, a26, n26, H26, a10, n10, H10) [0, 2, 2, 2, 0, 0] ⟨rfl, s25, s26, s10⟩ ⟨rfl, rfl, rfl, rfl, trivial⟩ rfl
              · replace Z12 := if_f (bf c21) Z12
                refine at_seq ?_
                refine at_region [0, 1] rfl ?_
                iterate 2 refine at_s T rfl ?_
                refine at_end ?_
                refine at_sub [(1, (.slice a_l (List.length l) n_l)), (6, (.pointer (some ⟨b1, 0, none⟩))), (7, (.pointer (some ⟨b4, 0, none⟩))), (8, (.int .i64 x18)), (9, (.pointer (some ⟨b12, 0, none⟩))), (10, (.pointer (some ⟨b13, 0, none⟩))), (11, (.bool v23.2)), (62, (.int .i64 v32)), (123, (.bool (v32 == 5)))] ⟨rfl, rfl, rfl, rfl, rfl, rfl, rfl, rfl, rfl, trivial⟩ ?_
                refine at_then ?_
                refine at_cond rfl (fun c28 => ?_) (fun c28 => ?_)
                · replace Z12 := if_t c28 Z12
                  refine at_seq ?_
                  refine at_region_m [[], [], [1], [0, 1, 2], [], [], [5], [0, 1, 2, 3, 4, 5, 6], [0, 1, 2, 3, 4, 5, 6, 7]] [7] [F, [(b12, Obj.cells #[(.int .i64 (rd l x18).Kind), (.int .i64 x20), (.int .i64 (rd l x18).Cell), (.int .i64 (rd l x18).Goal)] 55 (0, 0))], [(b4, Obj.cells #[(.int .i64 x15), (.int .i64 x16), (.slice a10 (List.length x17) n10)] 53 (0, 0))], H10, [(b13, Obj.cells #[(.int .i64 v23.1.Id), (.int .i64 v23.1.Cell), (.int .i64 v23.1.Goal)] 47 (0, 0))]] mix (by kernel_rfl) (by repeat first | exact pf_body | refine pf_then ?_ | refine pf_block ?_) (fun hg pf => ?_)
                  refine atm_s T 0 hg pf (by kernel_rfl) (still_o [0, 3, 3, 3, 3] rfl) rfl ?_
                  refine atm_s T 1 hg pf (by kernel_rfl) (still_o [0, 3, 3, 3, 3] rfl) rfl ?_
                  refine atm_v 2 hg pf (by kernel_rfl) (still_o [0, 3, 3, 3, 3] rfl) rfl rfl (g_load T rfl rfl rfl rfl (in_var (j := 1) rfl rfl)) ?_
                  refine atm_s T 4 hg pf (by kernel_rfl) (still_o [0, 3, 3, 3, 3] rfl) rfl ?_
                  refine atm_s T 5 hg pf (by kernel_rfl) (still_o [0, 3, 3, 3, 3] rfl) rfl ?_
                  refine atm_v 6 hg pf (by kernel_rfl) (still_o [0, 3, 3, 3, 3] rfl) rfl rfl (g_load T rfl rfl rfl rfl (in_var (j := 1) rfl rfl)) ?_
                  refine atm_one 3 (by kernel_rfl) ?_
                  obtain ⟨v39, V29, Z12⟩ := bind_e Z12
                  refine at_cR (As := [[(b1, Obj.cells #[(.int .i64 x11), (.int .i64 x12), (.map (some a8)), (.slice a9 (List.length x14) n9)] 80 (0, 0))], H8, H9]) (R := [F, [(b12, Obj.cells #[(.int .i64 (rd l x18).Kind), (.int .i64 x20), (.int .i64 (rd l x18).Cell), (.int .i64 (rd l x18).Goal)] 55 (0, 0))], [(b4, Obj.cells #[(.int .i64 x15), (.int .i64 x16), (.slice a10 (List.length x17) n10)] 53 (0, 0))], H10, [(b13, Obj.cells #[(.int .i64 v23.1.Id), (.int .i64 v23.1.Cell), (.int .i64 v23.1.Goal)] 47 (0, 0))]]) (units_Units_Drop.R b1 v39) [] [1, 1, 1] rfl rfl rfl rfl has35 rfl rfl (units_Units_Drop.c (units_Units.mk x11 x12 x13 x14) x20 v39 _ V29 s8 s9) ?_
                  rintro _ _ ⟨a27, H27, a28, n28, H28, s27, s28, rfl, rfl⟩
                  refine atm_next (still_o [0, 0, 0, 0, 0] rfl) ?_
                  refine atm_one 7 (by kernel_rfl) ?_
                  obtain ⟨v40, V30, Z12⟩ := bind_e Z12
                  refine at_cR (As := [[(b4, Obj.cells #[(.int .i64 x15), (.int .i64 x16), (.slice a10 (List.length x17) n10)] 53 (0, 0))], H10]) (R := [F, [(b12, Obj.cells #[(.int .i64 (rd l x18).Kind), (.int .i64 x20), (.int .i64 (rd l x18).Cell), (.int .i64 (rd l x18).Goal)] 55 (0, 0))], [(b13, Obj.cells #[(.int .i64 v23.1.Id), (.int .i64 v23.1.Cell), (.int .i64 v23.1.Goal)] 47 (0, 0))], [(b1, Obj.cells #[(.int .i64 v39.2.most), (.int .i64 v39.2.next), (.map (some a27)), (.slice a28 (List.length v39.2.order) n28)] 80 (0, 0))], H27, H28]) (ref21_Units_Drop.R b4 v40) [] [2, 2] rfl rfl rfl rfl has36 rfl rfl (ref21_Units_Drop.c (herdsmanref21_Units.mk x15 x16 x17) x20 v40 _ V30 s10) ?_
                  rintro _ _ ⟨a29, n29, H29, s29, rfl, rfl⟩
                  refine atm_next (still_l (by kernel_rfl)) ?_
                  refine atm_s T 8 hg pf (by kernel_rfl) (still_l (by kernel_rfl)) rfl ?_
                  refine atm_end (by kernel_rfl) ?_
                  refine at_to [(1, (.slice a_l (List.length l) n_l)), (6, (.pointer (some ⟨b1, 0, none⟩))), (7, (.pointer (some ⟨b4, 0, none⟩))), (8, (.int .i64 x18)), (133, (.bool (!(v39.1 == v40.1))))] [0, 2, 2, 2, 2, 2] [F, [(b1, Obj.cells #[(.int .i64 v39.2.most), (.int .i64 v39.2.next), (.map (some a27)), (.slice a28 (List.length v39.2.order) n28)] 80 (0, 0))], H27, H28, [(b4, Obj.cells #[(.int .i64 v40.2.Most), (.int .i64 v40.2.Next), (.slice a29 (List.length v40.2.L) n29)] 53 (0, 0))], H29] ⟨rfl, rfl, rfl, rfl, rfl, trivial⟩ rfl ?_
                  refine at_then ?_
                  refine at_cond rfl (fun c31 => ?_) (fun c31 => ?_)
                  · replace Z12 := if_t c31 Z12
                    refine at_seq ?_
                    refine at_region [0] rfl ?_
                    refine at_s T rfl ?_
                    refine at_end ?_
                    refine at_to [(4, (.bool false))] [0] [F] ⟨rfl, trivial⟩ rfl ?_
                    refine at_then ?_
                    refine at_ret ?_
                    refine at_rb ?_
                    refine at_rt ?_
                    refine at_rb ?_
                    refine at_rt ?_
                    refine at_rt ?_
                    refine at_rb ?_
                    refine at_rt ?_
                    obtain rfl := Option.some.inj Z12
                    obtain rfl := Option.some.inj (show some false = some r from Z4)
                    exact at_post (T := T) rfl (.tmp rfl .nil) (fun w o => ⟨(), rfl, own_to [0] rfl o⟩)
                  · replace Z12 := if_f (bf c31) Z12
                    refine at_skip ?_
                    refine at_nb ?_
                    refine at_then ?_
                    obtain rfl := Option.some.inj Z12
                    exact at_mid (v39.2.most, v39.2.next, v39.2.live, v39.2.order, v40.2.Most, v40.2.Next, v40.2.L, a27, H27, a28, n28, H28, a29, n29, H29) [0, 0, 0, 0, 0, 0] ⟨rfl, s27, s28, s29⟩ ⟨rfl, rfl, rfl, rfl, trivial⟩ rfl
                · replace Z12 := if_f (bf c28) Z12
                  refine at_seq ?_
                  refine at_region [0, 1] rfl ?_
                  iterate 2 refine at_s T rfl ?_
                  refine at_end ?_
                  refine at_sub [(1, (.slice a_l (List.length l) n_l)), (6, (.pointer (some ⟨b1, 0, none⟩))), (7, (.pointer (some ⟨b4, 0, none⟩))), (8, (.int .i64 x18)), (9, (.pointer (some ⟨b12, 0, none⟩))), (10, (.pointer (some ⟨b13, 0, none⟩))), (11, (.bool v23.2)), (134, (.bool (v32 == 6)))] ⟨rfl, rfl, rfl, rfl, rfl, rfl, rfl, rfl, trivial⟩ ?_
                  refine at_then ?_
                  refine at_cond rfl (fun c32 => ?_) (fun c32 => ?_)
                  · replace Z12 := if_t c32 Z12
                    refine at_seq ?_
                    refine at_region [0, 1, 2, 3, 4, 5, 6, 7, 8, 9] rfl ?_
                    iterate 2 refine at_s T rfl ?_
                    refine at_v rfl (g_load T rfl rfl rfl rfl (in_var (j := 4) rfl rfl)) ?_
                    obtain ⟨v41, V33, Z12⟩ := bind_e Z12
                    refine at_cons (at_c (As := [[(b1, Obj.cells #[(.int .i64 x11), (.int .i64 x12), (.map (some a8)), (.slice a9 (List.length x14) n9)] 80 (0, 0))], H8, H9]) (R := [F, [(b12, Obj.cells #[(.int .i64 (rd l x18).Kind), (.int .i64 x20), (.int .i64 (rd l x18).Cell), (.int .i64 (rd l x18).Goal)] 55 (0, 0))], [(b4, Obj.cells #[(.int .i64 x15), (.int .i64 x16), (.slice a10 (List.length x17) n10)] 53 (0, 0))], H10, [(b13, Obj.cells #[(.int .i64 v23.1.Id), (.int .i64 v23.1.Cell), (.int .i64 v23.1.Goal)] 47 (0, 0))]]) (B := fun _ => [[(b1, Obj.cells #[(.int .i64 x11), (.int .i64 x12), (.map (some a8)), (.slice a9 (List.length x14) n9)] 80 (0, 0))], H8, H9]) [1, 1, 1] rfl rfl rfl rfl has37 rfl rfl (units_Units_Get.c (units_Units.mk x11 x12 x13 x14) x20 v41 _ V33 s8 s9) (fun _ => ?_))
                    iterate 3 refine at_s T rfl ?_
                    refine at_cons (at_al T [(.int .i64 0), (.int .i64 0), (.int .i64 0)] rfl rfl rfl rfl (fun b30 => ?_))
                    refine at_cons (at_st T 8 [(.int .i64 v41.1.Id), (.int .i64 v41.1.Cell), (.int .i64 v41.1.Goal)] rfl rfl rfl rfl rfl rfl rfl rfl rfl rfl ?_)
                    refine at_s T rfl ?_
                    refine at_end ?_
                    refine at_to [(1, (.slice a_l (List.length l) n_l)), (6, (.pointer (some ⟨b1, 0, none⟩))), (7, (.pointer (some ⟨b4, 0, none⟩))), (8, (.int .i64 x18)), (10, (.pointer (some ⟨b13, 0, none⟩))), (11, (.bool v23.2)), (12, (.pointer (some ⟨b30, 0, none⟩))), (13, (.bool v41.2))] [0, 1, 1, 1, 1, 1, 1, 1] [F, [(b4, Obj.cells #[(.int .i64 x15), (.int .i64 x16), (.slice a10 (List.length x17) n10)] 53 (0, 0))], H10, [(b13, Obj.cells #[(.int .i64 v23.1.Id), (.int .i64 v23.1.Cell), (.int .i64 v23.1.Goal)] 47 (0, 0))], [(b1, Obj.cells #[(.int .i64 x11), (.int .i64 x12), (.map (some a8)), (.slice a9 (List.length x14) n9)] 80 (0, 0))], H8, H9, [(b30, Obj.cells #[(.int .i64 v41.1.Id), (.int .i64 v41.1.Cell), (.int .i64 v41.1.Goal)] 47 (0, 0))]] ⟨rfl, rfl, rfl, rfl, rfl, rfl, rfl, rfl, trivial⟩ rfl ?_
                    refine at_then ?_
                    obtain ⟨z43, Z34, Z12⟩ := bind_e Z12
                    refine at_seq_mid (σ := Bool) (fun x42 => x42 = z43) (fun x42 => [(1, (.slice a_l (List.length l) n_l)), (6, (.pointer (some ⟨b1, 0, none⟩))), (7, (.pointer (some ⟨b4, 0, none⟩))), (8, (.int .i64 x18)), (150, (.bool x42))]) (fun x42 => [F, [(b1, Obj.cells #[(.int .i64 x11), (.int .i64 x12), (.map (some a8)), (.slice a9 (List.length x14) n9)] 80 (0, 0))], H8, H9, [(b4, Obj.cells #[(.int .i64 x15), (.int .i64 x16), (.slice a10 (List.length x17) n10)] 53 (0, 0))], H10]) ?_ ?_
                    · refine at_region [0, 1, 2, 3, 4, 5, 6, 7] rfl ?_
                      iterate 4 refine at_s T rfl ?_
                      refine at_case (s := 146) rfl (fun c35 => ?_) (fun c35 => ?_)
                      · replace Z34 := if_t c35 Z34
                        iterate 4 refine at_s T rfl ?_
                        refine at_end ?_
                        refine at_to [(1, (.slice a_l (List.length l) n_l)), (6, (.pointer (some ⟨b1, 0, none⟩))), (7, (.pointer (some ⟨b4, 0, none⟩))), (8, (.int .i64 x18)), (150, (.bool true))] [0, 0, 0, 1, 1, 1] [F, [(b4, Obj.cells #[(.int .i64 x15), (.int .i64 x16), (.slice a10 (List.length x17) n10)] 53 (0, 0))], H10, [(b1, Obj.cells #[(.int .i64 x11), (.int .i64 x12), (.map (some a8)), (.slice a9 (List.length x14) n9)] 80 (0, 0))], H8, H9] ⟨rfl, rfl, rfl, rfl, rfl, trivial⟩ rfl ?_
                        refine at_then ?_
                        obtain rfl := Option.some.inj Z34
                        exact at_mid true [0, 2, 2, 2, 0, 0] rfl ⟨rfl, rfl, rfl, rfl, rfl, trivial⟩ rfl
                      · replace Z34 := if_f (bf c35) Z34
                        refine at_v rfl (g_loadA T (cs := [(.int .i64 v41.1.Id), (.int .i64 v41.1.Cell), (.int .i64 v41.1.Goal)]) rfl rfl rfl rfl rfl rfl (in_varA (j := 7) rfl rfl)) ?_
                        refine at_v rfl (g_loadA T (cs := [(.int .i64 v23.1.Id), (.int .i64 v23.1.Cell), (.int .i64 v23.1.Goal)]) rfl rfl rfl rfl rfl rfl (in_varA (j := 3) rfl rfl)) ?_
                        refine at_v rfl (g_aeqn T ((v41.1.Id == v23.1.Id) && ((v41.1.Cell == v23.1.Cell) && ((v41.1.Goal == v23.1.Goal) && true))) rfl rfl rfl rfl sq47 (by kernel_rfl) rfl) ?_
                        refine at_s T rfl ?_
                        refine at_end ?_
                        refine at_to [(1, (.slice a_l (List.length l) n_l)), (6, (.pointer (some ⟨b1, 0, none⟩))), (7, (.pointer (some ⟨b4, 0, none⟩))), (8, (.int .i64 x18)), (150, (.bool (!((v41.1.Id == v23.1.Id) && ((v41.1.Cell == v23.1.Cell) && ((v41.1.Goal == v23.1.Goal) && true))))))] [0, 0, 0, 1, 1, 1] [F, [(b4, Obj.cells #[(.int .i64 x15), (.int .i64 x16), (.slice a10 (List.length x17) n10)] 53 (0, 0))], H10, [(b1, Obj.cells #[(.int .i64 x11), (.int .i64 x12), (.map (some a8)), (.slice a9 (List.length x14) n9)] 80 (0, 0))], H8, H9] ⟨rfl, rfl, rfl, rfl, rfl, trivial⟩ rfl ?_
                        refine at_then ?_
                        obtain rfl := Option.some.inj Z34
                        exact at_mid (!((v41.1.Id == v23.1.Id) && ((v41.1.Cell == v23.1.Cell) && ((v41.1.Goal == v23.1.Goal) && true)))) [0, 2, 2, 2, 0, 0] rfl ⟨rfl, rfl, rfl, rfl, rfl, trivial⟩ rfl
                    · rintro x42 rfl
                      refine at_cond rfl (fun c36 => ?_) (fun c36 => ?_)
                      · replace Z12 := if_t c36 Z12
                        refine at_seq ?_
                        refine at_region [0] rfl ?_
                        refine at_s T rfl ?_
                        refine at_end ?_
                        refine at_to [(4, (.bool false))] [0] [F] ⟨rfl, trivial⟩ rfl ?_
                        refine at_then ?_
                        refine at_ret ?_
                        refine at_rb ?_
                        refine at_rt ?_
                        refine at_rb ?_
                        refine at_rt ?_
                        refine at_rt ?_
                        refine at_rb ?_
                        refine at_rt ?_
                        obtain rfl := Option.some.inj Z12
                        obtain rfl := Option.some.inj (show some false = some r from Z4)
                        exact at_post (T := T) rfl (.tmp rfl .nil) (fun w o => ⟨(), rfl, own_to [0] rfl o⟩)
                      · replace Z12 := if_f (bf c36) Z12
                        refine at_skip ?_
                        refine at_nb ?_
                        refine at_then ?_
                        obtain rfl := Option.some.inj Z12
                        exact at_mid (x11, x12, x13, x14, x15, x16, x17, a8, H8, a9, n9, H9, a10, n10, H10) [0, 0, 0, 0, 0, 0] ⟨rfl, s8, s9, s10⟩ ⟨rfl, rfl, rfl, rfl, trivial⟩ rfl
                  · replace Z12 := if_f (bf c32) Z12
                    refine at_seq ?_
                    refine at_region [0, 1, 2, 3, 4, 5, 6, 7, 8, 9, 10] rfl ?_
                    iterate 2 refine at_s T rfl ?_
                    refine at_v rfl (g_load T rfl rfl rfl rfl (in_var (j := 4) rfl rfl)) ?_
                    refine at_s T rfl ?_
                    refine at_v rfl (g_load T rfl rfl rfl rfl (in_var (j := 4) rfl rfl)) ?_
                    obtain ⟨v44, V37, Z12⟩ := bind_e Z12
                    refine at_cons (at_cR (As := [[(b1, Obj.cells #[(.int .i64 x11), (.int .i64 x12), (.map (some a8)), (.slice a9 (List.length x14) n9)] 80 (0, 0))], H8, H9]) (R := [F, [(b12, Obj.cells #[(.int .i64 (rd l x18).Kind), (.int .i64 x20), (.int .i64 (rd l x18).Cell), (.int .i64 (rd l x18).Goal)] 55 (0, 0))], [(b4, Obj.cells #[(.int .i64 x15), (.int .i64 x16), (.slice a10 (List.length x17) n10)] 53 (0, 0))], H10, [(b13, Obj.cells #[(.int .i64 v23.1.Id), (.int .i64 v23.1.Cell), (.int .i64 v23.1.Goal)] 47 (0, 0))]]) (units_Units_Add.R b1 v44) [] [1, 1, 1] rfl rfl rfl rfl has27 rfl rfl (units_Units_Add.c (units_Units.mk x11 x12 x13 x14) ((rd l x18).Cell) ((rd l x18).Goal) v44 _ V37 s8 s9) ?_)
                    rintro _ _ ⟨a31, H31, a32, n32, H32, s31, s32, rfl, rfl⟩
                    iterate 5 refine at_s T rfl ?_
                    refine at_end ?_
                    refine at_to [(1, (.slice a_l (List.length l) n_l)), (6, (.pointer (some ⟨b1, 0, none⟩))), (7, (.pointer (some ⟨b4, 0, none⟩))), (8, (.int .i64 x18)), (9, (.pointer (some ⟨b12, 0, none⟩))), (14, (.int .i64 v44.1)), (15, (.bool v44.2.1))] [0, 0, 0, 0, 1, 1, 1] [F, [(b12, Obj.cells #[(.int .i64 (rd l x18).Kind), (.int .i64 x20), (.int .i64 (rd l x18).Cell), (.int .i64 (rd l x18).Goal)] 55 (0, 0))], [(b4, Obj.cells #[(.int .i64 x15), (.int .i64 x16), (.slice a10 (List.length x17) n10)] 53 (0, 0))], H10, [(b1, Obj.cells #[(.int .i64 v44.2.2.most), (.int .i64 v44.2.2.next), (.map (some a31)), (.slice a32 (List.length v44.2.2.order) n32)] 80 (0, 0))], H31, H32] ⟨rfl, rfl, rfl, rfl, rfl, rfl, rfl, trivial⟩ rfl ?_
                    refine at_then ?_
                    refine at_seq ?_
                    refine at_region [0, 1, 2, 3, 4, 5, 6, 7, 8, 9, 10] rfl ?_
                    iterate 2 refine at_s T rfl ?_
                    refine at_v rfl (g_load T rfl rfl rfl rfl (in_var (j := 1) rfl rfl)) ?_
                    refine at_s T rfl ?_
                    refine at_v rfl (g_load T rfl rfl rfl rfl (in_var (j := 1) rfl rfl)) ?_
                    obtain ⟨v45, V38, Z12⟩ := bind_e Z12
                    refine at_cons (at_cR (As := [[(b4, Obj.cells #[(.int .i64 x15), (.int .i64 x16), (.slice a10 (List.length x17) n10)] 53 (0, 0))], H10]) (R := [F, [(b12, Obj.cells #[(.int .i64 (rd l x18).Kind), (.int .i64 x20), (.int .i64 (rd l x18).Cell), (.int .i64 (rd l x18).Goal)] 55 (0, 0))], [(b1, Obj.cells #[(.int .i64 v44.2.2.most), (.int .i64 v44.2.2.next), (.map (some a31)), (.slice a32 (List.length v44.2.2.order) n32)] 80 (0, 0))], H31, H32]) (ref21_Units_Add.R b4 v45) [] [2, 2] rfl rfl rfl rfl has38 rfl rfl (ref21_Units_Add.c (herdsmanref21_Units.mk x15 x16 x17) ((rd l x18).Cell) ((rd l x18).Goal) v45 _ V38 s10) ?_)
                    rintro _ _ ⟨a33, n33, H33, s33, rfl, rfl⟩
                    iterate 5 refine at_s T rfl ?_
                    refine at_end ?_
                    refine at_to [(1, (.slice a_l (List.length l) n_l)), (6, (.pointer (some ⟨b1, 0, none⟩))), (7, (.pointer (some ⟨b4, 0, none⟩))), (8, (.int .i64 x18)), (14, (.int .i64 v44.1)), (15, (.bool v44.2.1)), (16, (.int .i64 v45.1)), (17, (.bool v45.2.1))] [0, 1, 1, 1, 1, 1] [F, [(b1, Obj.cells #[(.int .i64 v44.2.2.most), (.int .i64 v44.2.2.next), (.map (some a31)), (.slice a32 (List.length v44.2.2.order) n32)] 80 (0, 0))], H31, H32, [(b4, Obj.cells #[(.int .i64 v45.2.2.Most), (.int .i64 v45.2.2.Next), (.slice a33 (List.length v45.2.2.L) n33)] 53 (0, 0))], H33] ⟨rfl, rfl, rfl, rfl, rfl, rfl, rfl, rfl, trivial⟩ rfl ?_
                    refine at_then ?_
                    refine at_seq ?_
                    refine at_region [0, 1, 2, 3, 4, 5, 6, 7] rfl ?_
                    iterate 4 refine at_s T rfl ?_
                    refine at_grp T [4, 5, 6, 7] (s := 84) (c := (v44.1 != v45.1)) [(1, (.slice a_l (List.length l) n_l)), (6, (.pointer (some ⟨b1, 0, none⟩))), (7, (.pointer (some ⟨b4, 0, none⟩))), (8, (.int .i64 x18)), (88, (.bool ((v44.1 != v45.1) || (!(v44.2.1 == v45.2.1)))))] rfl rfl rfl (fun c39 => ⟨rfl, rfl, rfl, rfl, (by rw [c39]; rfl), trivial⟩) (fun c39 => ⟨rfl, rfl, rfl, rfl, (by rw [c39]; rfl), trivial⟩) ?_
                    refine at_end ?_
                    refine at_sub [(1, (.slice a_l (List.length l) n_l)), (6, (.pointer (some ⟨b1, 0, none⟩))), (7, (.pointer (some ⟨b4, 0, none⟩))), (8, (.int .i64 x18)), (88, (.bool ((v44.1 != v45.1) || (!(v44.2.1 == v45.2.1)))))] ⟨rfl, rfl, rfl, rfl, rfl, trivial⟩ ?_
                    refine at_then ?_
                    refine at_cond rfl (fun c40 => ?_) (fun c40 => ?_)
                    · replace Z12 := if_t c40 Z12
                      refine at_seq ?_
                      refine at_region [0] rfl ?_
                      refine at_s T rfl ?_
                      refine at_end ?_
                      refine at_to [(4, (.bool false))] [0] [F] ⟨rfl, trivial⟩ rfl ?_
                      refine at_then ?_
                      refine at_ret ?_
                      refine at_rb ?_
                      refine at_rt ?_
                      refine at_rb ?_
                      refine at_rt ?_
                      refine at_rt ?_
                      refine at_rb ?_
                      refine at_rt ?_
                      obtain rfl := Option.some.inj Z12
                      obtain rfl := Option.some.inj (show some false = some r from Z4)
                      exact at_post (T := T) rfl (.tmp rfl .nil) (fun w o => ⟨(), rfl, own_to [0] rfl o⟩)
                    · replace Z12 := if_f (bf c40) Z12
                      refine at_skip ?_
                      refine at_nb ?_
                      refine at_then ?_
                      obtain rfl := Option.some.inj Z12
                      exact at_mid (v44.2.2.most, v44.2.2.next, v44.2.2.live, v44.2.2.order, v45.2.2.Most, v45.2.2.Next, v45.2.2.L, a31, H31, a32, n32, H32, a33, n33, H33) [0, 0, 0, 0, 0, 0] ⟨rfl, s31, s32, s33⟩ ⟨rfl, rfl, rfl, rfl, trivial⟩ rfl
          · rintro ⟨x24, x25, x26, x27, x28, x29, x30, a14, H14, a15, n15, H15, a16, n16, H16⟩ ⟨rfl, s14, s15, s16⟩
            obtain ⟨z47, Z41, Z4⟩ := bind_e Z4
            refine at_seq_mid (σ := Bool) (fun x46 => x46 = z47) (fun x46 => [(1, (.slice a_l (List.length l) n_l)), (6, (.pointer (some ⟨b1, 0, none⟩))), (7, (.pointer (some ⟨b4, 0, none⟩))), (8, (.int .i64 x18)), (177, (.bool x46))]) (fun x46 => [F, [(b1, Obj.cells #[(.int .i64 x24), (.int .i64 x25), (.map (some a14)), (.slice a15 (List.length x27) n15)] 80 (0, 0))], H14, H15, [(b4, Obj.cells #[(.int .i64 x28), (.int .i64 x29), (.slice a16 (List.length x30) n16)] 53 (0, 0))], H16]) ?_ ?_
            · refine at_region_m [[], [0], [], [2], [2, 3], [2, 3, 4], [2, 3, 4, 5], [0, 1, 2, 3, 4, 5, 6], [0, 1, 2, 3, 4, 5, 6, 7], [0, 1, 2, 3, 4, 5, 6, 7, 8], [0, 1, 2, 3, 4, 5, 6, 7, 8, 9], [0, 1, 2, 3, 4, 5, 6, 7, 8], [0, 1, 2, 3, 4, 5, 6, 7, 8, 11], [0, 1, 2, 3, 4, 5, 6, 7, 8, 11, 12], [0, 1, 2, 3, 4, 5, 6, 7, 8, 11, 12, 13], [0, 1, 2, 3, 4, 5, 6, 7, 8, 9, 10, 11, 12, 13, 14], [0, 1, 2, 3, 4, 5, 6, 7, 8, 9, 10, 11, 12, 13, 14, 15], [0, 1, 2, 3, 4, 5, 6, 7, 8, 9, 10, 11, 12, 13, 14, 15, 16], [0, 1, 2, 3, 4, 5, 6, 7, 8, 9, 10, 11, 12, 13, 14, 15, 16, 17], [0, 1, 2, 3, 4, 5, 6, 7, 8, 9, 10, 11, 12, 13, 14, 15, 16, 17, 18], [0, 1, 2, 3, 4, 5, 6, 7, 8, 9, 10, 11, 12, 13, 14, 15, 16, 17], [0, 1, 2, 3, 4, 5, 6, 7, 8, 9, 10, 11, 12, 13, 14, 15, 16, 17, 20], [0, 1, 2, 3, 4, 5, 6, 7, 8, 9, 10, 11, 12, 13, 14, 15, 16, 17, 20, 21], [0, 1, 2, 3, 4, 5, 6, 7, 8, 9, 10, 11, 12, 13, 14, 15, 16, 17, 20, 21, 22], [0, 1, 2, 3, 4, 5, 6, 7, 8, 9, 10, 11, 12, 13, 14, 15, 16, 17, 18, 19, 20, 21, 22, 23], [0, 1, 2, 3, 4, 5, 6, 7, 8, 9, 10, 11, 12, 13, 14, 15, 16, 17, 18, 19, 20, 21, 22, 23, 24], [0, 1, 2, 3, 4, 5, 6, 7, 8, 9, 10, 11, 12, 13, 14, 15, 16, 17, 18, 19, 20, 21, 22, 23, 24, 25]] [] [F, [(b1, Obj.cells #[(.int .i64 x24), (.int .i64 x25), (.map (some a14)), (.slice a15 (List.length x27) n15)] 80 (0, 0))], H14, H15, [(b4, Obj.cells #[(.int .i64 x28), (.int .i64 x29), (.slice a16 (List.length x30) n16)] 53 (0, 0))], H16] mix (by kernel_rfl) (by repeat first | exact pf_body | refine pf_then ?_ | refine pf_block ?_) (fun hg pf => ?_)
              refine atm_s T 0 hg pf (by kernel_rfl) (still_o [0, 0, 0, 0, 0, 0] rfl) rfl ?_
              refine atm_s T 2 hg pf (by kernel_rfl) (still_o [0, 0, 0, 0, 0, 0] rfl) rfl ?_
              refine atm_s T 3 hg pf (by kernel_rfl) (still_o [0, 0, 0, 0, 0, 0] rfl) rfl ?_
              refine atm_s T 4 hg pf (by kernel_rfl) (still_o [0, 0, 0, 0, 0, 0] rfl) rfl ?_
              refine atm_v 5 hg pf (by kernel_rfl) (still_o [0, 0, 0, 0, 0, 0] rfl) rfl rfl (g_load T rfl rfl rfl rfl (in_var (j := 4) rfl rfl)) ?_
              refine atm_s T 6 hg pf (by kernel_rfl) (still_o [0, 0, 0, 0, 0, 0] rfl) rfl ?_
              refine atm_one 1 (by kernel_rfl) ?_
              obtain ⟨v48, V42, Z41⟩ := bind_e Z41
              refine at_c (As := [[(b1, Obj.cells #[(.int .i64 x24), (.int .i64 x25), (.map (some a14)), (.slice a15 (List.length x27) n15)] 80 (0, 0))], H14, H15]) (R := [F, [(b4, Obj.cells #[(.int .i64 x28), (.int .i64 x29), (.slice a16 (List.length x30) n16)] 53 (0, 0))], H16]) (B := fun _ => [[(b1, Obj.cells #[(.int .i64 x24), (.int .i64 x25), (.map (some a14)), (.slice a15 (List.length x27) n15)] 80 (0, 0))], H14, H15]) [1, 1, 1] rfl rfl rfl rfl has39 rfl rfl (units_Units_Len.c (units_Units.mk x24 x25 x26 x27) v48 _ V42 s14 s15) (fun _ => ?_)
              refine atm_next (still_o [0, 2, 2, 2, 0, 0] rfl) ?_
              refine atm_s T 7 hg pf (by kernel_rfl) (still_o [0, 2, 2, 2, 0, 0] rfl) rfl ?_
              refine atm_s T 8 hg pf (by kernel_rfl) (still_o [0, 2, 2, 2, 0, 0] rfl) rfl ?_
              refine at_case (s := 159) rfl (fun c43 => ?_) (fun c43 => ?_)
              · replace Z41 := if_t c43 Z41
                refine atm_s T 9 hg pf (by kernel_rfl) (still_o [0, 2, 2, 2, 0, 0] rfl) rfl ?_
                refine atm_s T 10 hg pf (by kernel_rfl) (still_o [0, 2, 2, 2, 0, 0] rfl) rfl ?_
                refine atm_s T 11 hg pf (by kernel_rfl) (still_o [0, 2, 2, 2, 0, 0] rfl) rfl ?_
                refine atm_s T 12 hg pf (by kernel_rfl) (still_o [0, 2, 2, 2, 0, 0] rfl) rfl ?_
                refine atm_s T 13 hg pf (by kernel_rfl) (still_o [0, 2, 2, 2, 0, 0] rfl) rfl ?_
                refine atm_s T 14 hg pf (by kernel_rfl) (still_o [0, 2, 2, 2, 0, 0] rfl) rfl ?_
                refine atm_s T 15 hg pf (by kernel_rfl) (still_o [0, 2, 2, 2, 0, 0] rfl) rfl ?_
                refine atm_s T 16 hg pf (by kernel_rfl) (still_o [0, 2, 2, 2, 0, 0] rfl) rfl ?_
                refine atm_s T 17 hg pf (by kernel_rfl) (still_o [0, 2, 2, 2, 0, 0] rfl) rfl ?_
                refine atm_s T 18 hg pf (by kernel_rfl) (still_o [0, 2, 2, 2, 0, 0] rfl) rfl ?_
                refine atm_s T 19 hg pf (by kernel_rfl) (still_o [0, 2, 2, 2, 0, 0] rfl) rfl ?_
                refine atm_s T 20 hg pf (by kernel_rfl) (still_o [0, 2, 2, 2, 0, 0] rfl) rfl ?_
                refine atm_s T 21 hg pf (by kernel_rfl) (still_o [0, 2, 2, 2, 0, 0] rfl) rfl ?_
                refine atm_s T 22 hg pf (by kernel_rfl) (still_o [0, 2, 2, 2, 0, 0] rfl) rfl ?_
                refine atm_s T 23 hg pf (by kernel_rfl) (still_o [0, 2, 2, 2, 0, 0] rfl) rfl ?_
                refine atm_s T 24 hg pf (by kernel_rfl) (still_o [0, 2, 2, 2, 0, 0] rfl) rfl ?_
                refine atm_s T 25 hg pf (by kernel_rfl) (still_o [0, 2, 2, 2, 0, 0] rfl) rfl ?_
                refine atm_s T 26 hg pf (by kernel_rfl) (still_o [0, 2, 2, 2, 0, 0] rfl) rfl ?_
                refine atm_end (by kernel_rfl) ?_
                refine at_sub [(1, (.slice a_l (List.length l) n_l)), (6, (.pointer (some ⟨b1, 0, none⟩))), (7, (.pointer (some ⟨b4, 0, none⟩))), (8, (.int .i64 x18)), (177, (.bool true))] ⟨rfl, rfl, rfl, rfl, rfl, trivial⟩ ?_
                refine at_then ?_
                obtain rfl := Option.some.inj Z41
                exact at_mid true [0, 2, 2, 2, 0, 0] rfl ⟨rfl, rfl, rfl, rfl, rfl, trivial⟩ rfl
              · replace Z41 := if_f (bf c43) Z41
                refine atm_s T 9 hg pf (by kernel_rfl) (still_o [0, 2, 2, 2, 0, 0] rfl) rfl ?_
                refine atm_s T 11 hg pf (by kernel_rfl) (still_o [0, 2, 2, 2, 0, 0] rfl) rfl ?_
                refine atm_s T 12 hg pf (by kernel_rfl) (still_o [0, 2, 2, 2, 0, 0] rfl) rfl ?_
                refine atm_s T 13 hg pf (by kernel_rfl) (still_o [0, 2, 2, 2, 0, 0] rfl) rfl ?_
                refine atm_v 14 hg pf (by kernel_rfl) (still_o [0, 2, 2, 2, 0, 0] rfl) rfl rfl (g_load T rfl rfl rfl rfl (in_var (j := 4) rfl rfl)) ?_
                refine atm_one 10 (by kernel_rfl) ?_
                obtain ⟨v49, V44, Z41⟩ := bind_e Z41
                refine at_c (As := [[(b1, Obj.cells #[(.int .i64 x24), (.int .i64 x25), (.map (some a14)), (.slice a15 (List.length x27) n15)] 80 (0, 0))], H14, H15]) (R := [F, [(b4, Obj.cells #[(.int .i64 x28), (.int .i64 x29), (.slice a16 (List.length x30) n16)] 53 (0, 0))], H16]) (B := fun _ => [[(b1, Obj.cells #[(.int .i64 x24), (.int .i64 x25), (.map (some a14)), (.slice a15 (List.length x27) n15)] 80 (0, 0))], H14, H15]) [3, 3, 3] rfl rfl rfl rfl has40 rfl rfl (units_Units_Next.c (units_Units.mk x24 x25 x26 x27) v49 _ V44 s14 s15) (fun _ => ?_)
                refine atm_next (still_o [0, 2, 2, 2, 0, 0] rfl) ?_
                refine atm_s T 15 hg pf (by kernel_rfl) (still_o [0, 2, 2, 2, 0, 0] rfl) rfl ?_
                refine atm_s T 16 hg pf (by kernel_rfl) (still_o [0, 2, 2, 2, 0, 0] rfl) rfl ?_
                refine atm_s T 17 hg pf (by kernel_rfl) (still_o [0, 2, 2, 2, 0, 0] rfl) rfl ?_
                refine at_case (s := 168) rfl (fun c45 => ?_) (fun c45 => ?_)
                · replace Z41 := if_t c45 Z41
                  refine atm_s T 18 hg pf (by kernel_rfl) (still_o [0, 2, 2, 2, 0, 0] rfl) rfl ?_
                  refine atm_s T 19 hg pf (by kernel_rfl) (still_o [0, 2, 2, 2, 0, 0] rfl) rfl ?_
                  refine atm_s T 20 hg pf (by kernel_rfl) (still_o [0, 2, 2, 2, 0, 0] rfl) rfl ?_
                  refine atm_s T 21 hg pf (by kernel_rfl) (still_o [0, 2, 2, 2, 0, 0] rfl) rfl ?_
                  refine atm_s T 22 hg pf (by kernel_rfl) (still_o [0, 2, 2, 2, 0, 0] rfl) rfl ?_
                  refine atm_s T 23 hg pf (by kernel_rfl) (still_o [0, 2, 2, 2, 0, 0] rfl) rfl ?_
                  refine atm_s T 24 hg pf (by kernel_rfl) (still_o [0, 2, 2, 2, 0, 0] rfl) rfl ?_
                  refine atm_s T 25 hg pf (by kernel_rfl) (still_o [0, 2, 2, 2, 0, 0] rfl) rfl ?_
                  refine atm_s T 26 hg pf (by kernel_rfl) (still_o [0, 2, 2, 2, 0, 0] rfl) rfl ?_
                  refine atm_end (by kernel_rfl) ?_
                  refine at_sub [(1, (.slice a_l (List.length l) n_l)), (6, (.pointer (some ⟨b1, 0, none⟩))), (7, (.pointer (some ⟨b4, 0, none⟩))), (8, (.int .i64 x18)), (177, (.bool true))] ⟨rfl, rfl, rfl, rfl, rfl, trivial⟩ ?_
                  refine at_then ?_
                  obtain rfl := Option.some.inj Z41
                  exact at_mid true [0, 2, 2, 2, 0, 0] rfl ⟨rfl, rfl, rfl, rfl, rfl, trivial⟩ rfl
                · replace Z41 := if_f (bf c45) Z41
                  refine atm_s T 18 hg pf (by kernel_rfl) (still_o [0, 2, 2, 2, 0, 0] rfl) rfl ?_
                  refine atm_s T 20 hg pf (by kernel_rfl) (still_o [0, 2, 2, 2, 0, 0] rfl) rfl ?_
                  refine atm_s T 21 hg pf (by kernel_rfl) (still_o [0, 2, 2, 2, 0, 0] rfl) rfl ?_
                  refine atm_s T 22 hg pf (by kernel_rfl) (still_o [0, 2, 2, 2, 0, 0] rfl) rfl ?_
                  refine atm_v 23 hg pf (by kernel_rfl) (still_o [0, 2, 2, 2, 0, 0] rfl) rfl rfl (g_load T rfl rfl rfl rfl (in_var (j := 4) rfl rfl)) ?_
                  refine atm_one 19 (by kernel_rfl) ?_
                  obtain ⟨v50, V46, Z41⟩ := bind_e Z41
                  refine at_cR (As := [[(b1, Obj.cells #[(.int .i64 x24), (.int .i64 x25), (.map (some a14)), (.slice a15 (List.length x27) n15)] 80 (0, 0))], H14, H15]) (R := [F, [(b4, Obj.cells #[(.int .i64 x28), (.int .i64 x29), (.slice a16 (List.length x30) n16)] 53 (0, 0))], H16]) (units_Units_All.R v50) [[(b1, Obj.cells #[(.int .i64 x24), (.int .i64 x25), (.map (some a14)), (.slice a15 (List.length x27) n15)] 80 (0, 0))], H14, H15] [3, 3, 3] rfl rfl rfl rfl has28 rfl rfl (units_Units_All.c (units_Units.mk x24 x25 x26 x27) v50 _ V46 s14 s15) ?_
                  rintro _ _ ⟨a34, n34, H34, s34, rfl, rfl⟩
                  refine atm_next (still_o [0, 3, 3, 3, 0, 0] rfl) ?_
                  refine atm_one 24 (by kernel_rfl) ?_
                  obtain ⟨v51, V47, Z41⟩ := bind_e Z41
                  refine at_c (B := fun _ => []) [] rfl rfl rfl rfl has30 rfl rfl (ref21_Same.c v50 x30 v51 _ V47 (own_of s34 (j := 3) rfl) s34.cap_le (own_of s16 (j := 2) rfl) s16.cap_le) (fun _ => ?_)
                  refine atm_next (still_o [0, 3, 3, 3, 0, 0] rfl) ?_
                  refine atm_s T 25 hg pf (by kernel_rfl) (still_o [0, 3, 3, 3, 0, 0] rfl) rfl ?_
                  refine atm_s T 26 hg pf (by kernel_rfl) (still_o [0, 3, 3, 3, 0, 0] rfl) rfl ?_
                  refine atm_end (by kernel_rfl) ?_
                  refine at_to [(1, (.slice a_l (List.length l) n_l)), (6, (.pointer (some ⟨b1, 0, none⟩))), (7, (.pointer (some ⟨b4, 0, none⟩))), (8, (.int .i64 x18)), (177, (.bool (!v51)))] [0, 0, 0, 1, 1, 1] [F, [(b4, Obj.cells #[(.int .i64 x28), (.int .i64 x29), (.slice a16 (List.length x30) n16)] 53 (0, 0))], H16, [(b1, Obj.cells #[(.int .i64 x24), (.int .i64 x25), (.map (some a14)), (.slice a15 (List.length x27) n15)] 80 (0, 0))], H14, H15] ⟨rfl, rfl, rfl, rfl, rfl, trivial⟩ rfl ?_
                  refine at_then ?_
                  obtain rfl := Option.some.inj Z41
                  exact at_mid (!v51) [0, 2, 2, 2, 0, 0] rfl ⟨rfl, rfl, rfl, rfl, rfl, trivial⟩ rfl
            · rintro x46 rfl
              refine at_cond rfl (fun c48 => ?_) (fun c48 => ?_)
              · replace Z4 := if_t c48 Z4
                refine at_seq ?_
                refine at_region [0] rfl ?_
                refine at_s T rfl ?_
                refine at_end ?_
                refine at_to [(4, (.bool false))] [0] [F] ⟨rfl, trivial⟩ rfl ?_
                refine at_then ?_
                refine at_ret ?_
                refine at_rb ?_
                refine at_rt ?_
                refine at_rt ?_
                refine at_rb ?_
                refine at_rt ?_
                obtain rfl := Option.some.inj Z4
                exact at_post (T := T) rfl (.tmp rfl .nil) (fun w o => ⟨(), rfl, own_to [0] rfl o⟩)
              · replace Z4 := if_f (bf c48) Z4
                refine at_skip ?_
                refine at_nb ?_
                refine at_then ?_
                refine at_region [0, 1, 2] rfl ?_
                iterate 3 refine at_s T rfl ?_
                refine at_end ?_
                refine at_sub [(1, (.slice a_l (List.length l) n_l)), (6, (.pointer (some ⟨b1, 0, none⟩))), (7, (.pointer (some ⟨b4, 0, none⟩))), (8, (.int .i64 (w64 (x18 + 1))))] ⟨rfl, rfl, rfl, rfl, trivial⟩ ?_
                refine at_then ?_
                exact at_roundL (k19, x24, x25, x26, x27, x28, x29, x30, (w64 (x18 + 1)), a14, H14, a15, n15, H15, a16, n16, H16) [0, 0, 0, 0, 0, 0] ⟨Z4, s14, s15, s16⟩ (Nat.lt_succ_self _) ⟨rfl, rfl, rfl, rfl, trivial⟩ rfl
      · replace Z4 := if_f (bf c6) Z4
        refine at_exit ?_
        refine at_xt ?_
        refine at_xt ?_
        refine at_xb ?_
        refine at_then ?_
        refine at_seq ?_
        refine at_region [0, 1] rfl ?_
        obtain ⟨v52, V49, Z4⟩ := bind_e Z4
        refine at_cons (at_c (B := fun _ => []) [] rfl rfl rfl rfl has29 rfl rfl (law21_told.c  v52 _ V49) (fun _ => ?_))
        refine at_s T rfl ?_
        refine at_end ?_
        refine at_to [(4, (.bool v52))] [0] [F] ⟨rfl, trivial⟩ rfl ?_
        refine at_then ?_
        refine at_ret ?_
        obtain rfl := Option.some.inj Z4
        exact at_post (T := T) rfl (.tmp rfl .nil) (fun w o => ⟨(), rfl, own_to [0] rfl o⟩)
def law21_UnitsPlays.Pure : Prop := ∀ (most : Int) (l : (List herdsmanlaw21_Ask)), inI64 most → (∀ y ∈ l, (inI64 y.Kind ∧ inI64 y.Id ∧ inI64 y.Cell ∧ inI64 y.Goal)) → law21_UnitsPlays.f most l = some true
end Go.Proofs.Ytmddmofncblfpaa
