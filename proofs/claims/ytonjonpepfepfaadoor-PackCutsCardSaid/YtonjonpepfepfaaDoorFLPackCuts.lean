import Derived.Test.YtonjonpepfepfaaDoorT
import Derived.Test.YtonjonpepfepfaaDoorFlaw3
import Derived.Test.YtonjonpepfepfaaDoorFpack
import Derived.Test.YtonjonpepfepfaaDoorFref1
namespace Go.Proofs.YtonjonpepfepfaaDoor
open Go.Hx
set_option maxRecDepth 100000
set_option linter.unusedVariables false
noncomputable section
/-! ### herdsman/herdsmanlaw3.PackCuts: function 6 -/
def law3_PackCuts.f (c : (List Int)) (w : Int) (h : Int) (few : Int) (cut : Int) : Option Bool := (law3_near.f (api_Tile.mk 0 0 c) w h few false).bind fun v1 => (pack_Put.f v1).bind fun v2 => if ((v2.2 != 0) || ((List.length v2.1 : Int) == 0)) = true then (some false) else (((ref1_Within.f cut 0 (w64 ((List.length v2.1 : Int) - 1))).bind fun v9 => if (0 ≤ (0 : Int) ∧ (0 : Int) ≤ v9 ∧ v9 ≤ (List.length v2.1 : Int)) then ((pack_Get.f (sub' v2.1 0 v9) v1.W v1.H).bind fun v10 => some (v10.1.W, v10.1.H, v10.1.C, v10.2.1, v10.2.2)) else none).bind fun (x3, x4, x5, x6, x7) => ((law3_told.f).bind fun v16 => if ((v16 && (x7 == 2)) && (x6 == 0)) = true then (some ((List.length x5 : Int) == 0)) else (some false)).bind fun x14 => some x14)
set_option maxHeartbeats 4000000 in
theorem law3_PackCuts.c {el : Nat → Addr} {a_c : Option Addr} {n_c : Nat} (c : (List Int)) (w : Int) (h : Int) (few : Int) (cut : Int) (r : Bool) (F : Hp) (H : law3_PackCuts.f c w h few cut = some r) (hG : Glb 110 gs_ lits_ el F) (h_c : SliceR (Fl.int .u8) c a_c F) (c_c : List.length c ≤ n_c) :
    CallsL Tryd.prog 6 [(.slice a_c (List.length c) n_c), (.int .i64 w), (.int .i64 h), (.int .i64 few), (.int .i64 cut)] [F] (fun _ : Unit => (.bool r)) (fun _ => [F]) := by
  unfold law3_PackCuts.f at H
  refine calls_atL [(0, (.slice a_c (List.length c) n_c)), (1, (.int .i64 w)), (2, (.int .i64 h)), (3, (.int .i64 few)), (4, (.int .i64 cut))] Tryd.func6 rfl rfl ⟨rfl, rfl, rfl, rfl, rfl, trivial⟩ (fun W => ?_)
  refine at_seq ?_
  refine at_region [0] rfl ?_
  refine at_s T rfl ?_
  refine at_end ?_
  refine at_sub [(0, (.slice a_c (List.length c) n_c)), (1, (.int .i64 w)), (2, (.int .i64 h)), (3, (.int .i64 few)), (4, (.int .i64 cut))] ⟨rfl, rfl, rfl, rfl, rfl, trivial⟩ ?_
  refine at_then ?_
  refine at_seq ?_
  refine at_region [0, 1, 2, 3, 4, 5, 6, 7] rfl ?_
  iterate 5 refine at_s T rfl ?_
  obtain ⟨v1, V1, H⟩ := bind_e H
  refine at_cons (at_cR (law3_near.R v1) [] [] rfl rfl rfl rfl has13 rfl rfl (law3_near.c (api_Tile.mk 0 0 c) w h few false v1 _ V1 (ro_of h_c (j := 0) rfl) c_c) ?_)
  rintro _ _ ⟨a1, n1, H1, s1, rfl, rfl⟩
  refine at_cons (at_al T [(.int .i64 0), (.int .i64 0), (.slice none 0 0)] rfl rfl rfl rfl (fun b2 => ?_))
  refine at_cons (at_st T 2 [(.int .i64 v1.W), (.int .i64 v1.H), (.slice a1 (List.length v1.C) n1)] rfl rfl rfl rfl rfl rfl rfl rfl rfl rfl ?_)
  refine at_end ?_
  refine at_sub [(4, (.int .i64 cut)), (11, (.pointer (some ⟨b2, 0, none⟩)))] ⟨rfl, rfl, trivial⟩ ?_
  refine at_then ?_
  refine at_seq ?_
  refine at_region [0, 1, 2, 3, 4, 5, 6] rfl ?_
  refine at_v rfl (g_loadA T (cs := [(.int .i64 v1.W), (.int .i64 v1.H), (.slice a1 (List.length v1.C) n1)]) rfl rfl rfl rfl rfl rfl (in_varA (j := 2) rfl rfl)) ?_
  obtain ⟨v2, V2, H⟩ := bind_e H
  refine at_cons (at_cR (pack_Put.R v2) [] [] rfl rfl rfl rfl has14 rfl rfl (pack_Put.c v1 v2 _ V2 (own_of s1 (j := 1) rfl) s1.cap_le) ?_)
  rintro _ _ ⟨a3, n3, H3, s3, rfl, rfl⟩
  iterate 5 refine at_s T rfl ?_
  refine at_end ?_
  refine at_sub [(4, (.int .i64 cut)), (11, (.pointer (some ⟨b2, 0, none⟩))), (12, (.slice a3 (List.length v2.1) n3)), (13, (.int .i64 v2.2))] ⟨rfl, rfl, rfl, rfl, trivial⟩ ?_
  refine at_then ?_
  refine at_seq ?_
  refine at_seq ?_
  refine at_region [0, 1, 2, 3, 4, 5, 6] rfl ?_
  iterate 3 refine at_s T rfl ?_
  refine at_grp T [3, 4, 5, 6] (s := 30) (c := (v2.2 != 0)) [(4, (.int .i64 cut)), (11, (.pointer (some ⟨b2, 0, none⟩))), (12, (.slice a3 (List.length v2.1) n3)), (34, (.bool ((v2.2 != 0) || ((List.length v2.1 : Int) == 0))))] rfl rfl rfl (fun c3 => ⟨rfl, rfl, rfl, (by rw [c3]; rfl), trivial⟩) (fun c3 => ⟨rfl, rfl, rfl, (by rw [c3]; rfl), trivial⟩) ?_
  refine at_end ?_
  refine at_sub [(4, (.int .i64 cut)), (11, (.pointer (some ⟨b2, 0, none⟩))), (12, (.slice a3 (List.length v2.1) n3)), (34, (.bool ((v2.2 != 0) || ((List.length v2.1 : Int) == 0))))] ⟨rfl, rfl, rfl, rfl, trivial⟩ ?_
  refine at_then ?_
  refine at_cond rfl (fun c4 => ?_) (fun c4 => ?_)
  · replace H := if_t c4 H
    refine at_seq ?_
    refine at_region [0] rfl ?_
    refine at_s T rfl ?_
    refine at_end ?_
    refine at_to [(10, (.bool false))] [0] [F] ⟨rfl, trivial⟩ rfl ?_
    refine at_then ?_
    refine at_ret ?_
    refine at_rt ?_
    obtain rfl := Option.some.inj H
    exact at_post (T := T) rfl (.tmp rfl .nil) (fun w o => ⟨(), rfl, own_to [0] rfl o⟩)
  · replace H := if_f (bf c4) H
    refine at_skip ?_
    refine at_then ?_
    obtain ⟨z8, Z5, H⟩ := bind_e H
    refine at_seq_mid (σ := Int × Int × List Int × Int × Int × Nat × Option Addr × Nat × Hp) (fun ⟨x3, x4, x5, x6, x7, b4, a5, n5, H5⟩ => (x3, x4, x5, x6, x7) = z8 ∧ SliceO (Fl.int .u8) 5 x5 a5 n5 H5) (fun ⟨x3, x4, x5, x6, x7, b4, a5, n5, H5⟩ => [(14, (.pointer (some ⟨b4, 0, none⟩))), (15, (.int .i64 x6)), (16, (.int .i64 x7))]) (fun ⟨x3, x4, x5, x6, x7, b4, a5, n5, H5⟩ => [F, [(b4, Obj.cells #[(.int .i64 x3), (.int .i64 x4), (.slice a5 (List.length x5) n5)] 26 (0, 0))], H5]) ?_ ?_
    · refine at_region_m [[], [], [], [2], [2, 3], [1, 2, 3, 4], [0, 1, 2, 3, 4, 5], [], [7], [], [9], [0, 1, 2, 3, 4, 5, 6, 7, 8, 9, 10], [0, 1, 2, 3, 4, 5, 6, 7, 8, 9, 10, 11], [0, 1, 2, 3, 4, 5, 6, 7, 8, 9, 10, 11, 12], [0, 1, 2, 3, 4, 5, 6, 7, 8, 9, 10, 11, 12], [0, 1, 2, 3, 4, 5, 6, 7, 8, 9, 10, 11, 12], [], [0, 1, 2, 3, 4, 5, 6, 7, 8, 9, 10, 11, 12, 13, 16], [0, 1, 2, 3, 4, 5, 6, 7, 8, 9, 10, 11, 12, 13, 14, 16, 17], [0, 1, 2, 3, 4, 5, 6, 7, 8, 9, 10, 11, 12, 13, 14, 15, 16, 17, 18]] [] [F, H1, [(b2, Obj.cells #[(.int .i64 v1.W), (.int .i64 v1.H), (.slice a1 (List.length v1.C) n1)] 26 (0, 0))], H3] mix (by kernel_rfl) (by repeat first | exact pf_body | refine pf_then ?_ | refine pf_block ?_) (fun hg pf => ?_)
      refine atm_s T 0 hg pf (by kernel_rfl) (still_o [0, 0, 0, 0] rfl) rfl ?_
      refine atm_s T 1 hg pf (by kernel_rfl) (still_o [0, 0, 0, 0] rfl) rfl ?_
      refine atm_s T 2 hg pf (by kernel_rfl) (still_o [0, 0, 0, 0] rfl) rfl ?_
      refine atm_s T 3 hg pf (by kernel_rfl) (still_o [0, 0, 0, 0] rfl) rfl ?_
      refine atm_s T 4 hg pf (by kernel_rfl) (still_o [0, 0, 0, 0] rfl) rfl ?_
      refine atm_s T 7 hg pf (by kernel_rfl) (still_o [0, 0, 0, 0] rfl) rfl ?_
      refine atm_v 8 hg pf (by kernel_rfl) (still_o [0, 0, 0, 0] rfl) rfl rfl (g_load T rfl rfl rfl rfl (in_var (j := 2) rfl rfl)) ?_
      refine atm_s T 9 hg pf (by kernel_rfl) (still_o [0, 0, 0, 0] rfl) rfl ?_
      refine atm_v 10 hg pf (by kernel_rfl) (still_o [0, 0, 0, 0] rfl) rfl rfl (g_load T rfl rfl rfl rfl (in_var (j := 2) rfl rfl)) ?_
      refine atm_two 5 16 (by kernel_rfl) ?_ ?_
      · obtain ⟨v9, V6, Z5⟩ := bind_e Z5
        refine at_c (B := fun _ => []) [] rfl rfl rfl rfl has8 rfl rfl (ref1_Within.c cut 0 (w64 ((List.length v2.1 : Int) - 1)) v9 _ V6) (fun _ => ?_)
        refine atm_next (still_o [0, 0, 0, 0] rfl) ?_
        obtain ⟨c7, Z5⟩ := chk_e Z5
        refine atm_v 6 hg pf (by kernel_rfl) (still_o [0, 0, 0, 0] rfl) rfl rfl (g_sub T rfl rfl rfl rfl rfl rfl c7 s3.cap_le) ?_
        refine atm_two 11 16 (by kernel_rfl) ?_ ?_
        · obtain ⟨v10, V8, Z5⟩ := bind_e Z5
          refine at_cR (pack_Get.R el v10) [] [] rfl rfl rfl rfl has9 rfl rfl (pack_Get.c (sub' v2.1 0 v9) v1.W v1.H v10 _ V8 (glb_of hG (j := 0) rfl) (sub_r (own_of s3 (j := 3) rfl) c7 s3.cap_le) (sub_cap c7 s3.cap_le)) ?_
          rintro _ _ ⟨a6, n6, H6, s6, rfl, rfl⟩
          refine atm_next (still_o [0, 0, 0, 0] rfl) ?_
          refine atm_s T 12 hg pf (by kernel_rfl) (still_o [0, 0, 0, 0] rfl) rfl ?_
          refine atm_s T 13 hg pf (by kernel_rfl) (still_o [0, 0, 0, 0] rfl) rfl ?_
          refine atm_s T 14 hg pf (by kernel_rfl) (still_o [0, 0, 0, 0] rfl) rfl ?_
          refine atm_s T 15 hg pf (by kernel_rfl) (still_o [0, 0, 0, 0] rfl) rfl ?_
          refine atm_one 16 (by kernel_rfl) ?_
          refine at_al T [(.int .i64 0), (.int .i64 0), (.slice none 0 0)] rfl rfl rfl rfl (fun b7 => ?_)
          refine atm_next (still_o [0, 0, 0, 0] rfl) ?_
          refine atm_one 17 (by kernel_rfl) ?_
          refine at_st T 5 [(.int .i64 v10.1.W), (.int .i64 v10.1.H), (.slice a6 (List.length v10.1.C) n6)] rfl rfl rfl rfl rfl rfl rfl rfl rfl rfl ?_
          refine atm_next (still_o [0, 0, 0, 0] rfl) ?_
          refine atm_s T 18 hg pf (by kernel_rfl) (still_o [0, 0, 0, 0] rfl) rfl ?_
          refine atm_s T 19 hg pf (by kernel_rfl) (still_o [0, 0, 0, 0] rfl) rfl ?_
          refine atm_end (by kernel_rfl) ?_
          refine at_to [(14, (.pointer (some ⟨b7, 0, none⟩))), (15, (.int .i64 v10.2.1)), (16, (.int .i64 v10.2.2))] [0, 3, 3] [F, H6, [(b7, Obj.cells #[(.int .i64 v10.1.W), (.int .i64 v10.1.H), (.slice a6 (List.length v10.1.C) n6)] 26 (0, 0))]] ⟨rfl, rfl, rfl, trivial⟩ rfl ?_
          refine at_then ?_
          obtain rfl := Option.some.inj Z5
          exact at_mid (v10.1.W, v10.1.H, v10.1.C, v10.2.1, v10.2.2, b7, a6, n6, H6) [0, 1, 0] ⟨rfl, s6⟩ ⟨rfl, rfl, rfl, trivial⟩ rfl
        · refine at_al T [(.int .i64 0), (.int .i64 0), (.slice none 0 0)] rfl rfl rfl rfl (fun b8 => ?_)
          refine atm_next (still_o [0, 0, 0, 0] rfl) ?_
          refine atm_one 11 (by kernel_rfl) ?_
          obtain ⟨v11, V9, Z5⟩ := bind_e Z5
          refine at_cR (pack_Get.R el v11) [] [] rfl rfl rfl rfl has9 rfl rfl (pack_Get.c (sub' v2.1 0 v9) v1.W v1.H v11 _ V9 (glb_of hG (j := 0) rfl) (sub_r (own_of s3 (j := 3) rfl) c7 s3.cap_le) (sub_cap c7 s3.cap_le)) ?_
          rintro _ _ ⟨a9, n9, H9, s9, rfl, rfl⟩
          refine atm_next (still_o [0, 0, 0, 0] rfl) ?_
          refine atm_s T 12 hg pf (by kernel_rfl) (still_o [0, 0, 0, 0] rfl) rfl ?_
          refine atm_s T 13 hg pf (by kernel_rfl) (still_o [0, 0, 0, 0] rfl) rfl ?_
          refine atm_s T 14 hg pf (by kernel_rfl) (still_o [0, 0, 0, 0] rfl) rfl ?_
          refine atm_s T 15 hg pf (by kernel_rfl) (still_o [0, 0, 0, 0] rfl) rfl ?_
          refine atm_one 17 (by kernel_rfl) ?_
          refine at_st T 4 [(.int .i64 v11.1.W), (.int .i64 v11.1.H), (.slice a9 (List.length v11.1.C) n9)] rfl rfl rfl rfl rfl rfl rfl rfl rfl rfl ?_
          refine atm_next (still_o [0, 0, 0, 0] rfl) ?_
          refine atm_s T 18 hg pf (by kernel_rfl) (still_o [0, 0, 0, 0] rfl) rfl ?_
          refine atm_s T 19 hg pf (by kernel_rfl) (still_o [0, 0, 0, 0] rfl) rfl ?_
          refine atm_end (by kernel_rfl) ?_
          refine at_to [(14, (.pointer (some ⟨b8, 0, none⟩))), (15, (.int .i64 v11.2.1)), (16, (.int .i64 v11.2.2))] [0, 3, 3] [F, [(b8, Obj.cells #[(.int .i64 v11.1.W), (.int .i64 v11.1.H), (.slice a9 (List.length v11.1.C) n9)] 26 (0, 0))], H9] ⟨rfl, rfl, rfl, trivial⟩ rfl ?_
          refine at_then ?_
          obtain rfl := Option.some.inj Z5
          exact at_mid (v11.1.W, v11.1.H, v11.1.C, v11.2.1, v11.2.2, b8, a9, n9, H9) [0, 0, 0] ⟨rfl, s9⟩ ⟨rfl, rfl, rfl, trivial⟩ rfl
      · refine at_al T [(.int .i64 0), (.int .i64 0), (.slice none 0 0)] rfl rfl rfl rfl (fun b10 => ?_)
        refine atm_next (still_o [0, 0, 0, 0] rfl) ?_
        refine atm_one 5 (by kernel_rfl) ?_
        obtain ⟨v12, V10, Z5⟩ := bind_e Z5
        refine at_c (B := fun _ => []) [] rfl rfl rfl rfl has8 rfl rfl (ref1_Within.c cut 0 (w64 ((List.length v2.1 : Int) - 1)) v12 _ V10) (fun _ => ?_)
        refine atm_next (still_o [0, 0, 0, 0] rfl) ?_
        obtain ⟨c11, Z5⟩ := chk_e Z5
        refine atm_v 6 hg pf (by kernel_rfl) (still_o [0, 0, 0, 0] rfl) rfl rfl (g_sub T rfl rfl rfl rfl rfl rfl c11 s3.cap_le) ?_
        refine atm_one 11 (by kernel_rfl) ?_
        obtain ⟨v13, V12, Z5⟩ := bind_e Z5
        refine at_cR (pack_Get.R el v13) [] [] rfl rfl rfl rfl has9 rfl rfl (pack_Get.c (sub' v2.1 0 v12) v1.W v1.H v13 _ V12 (glb_of hG (j := 0) rfl) (sub_r (own_of s3 (j := 3) rfl) c11 s3.cap_le) (sub_cap c11 s3.cap_le)) ?_
        rintro _ _ ⟨a11, n11, H11, s11, rfl, rfl⟩
        refine atm_next (still_o [0, 0, 0, 0] rfl) ?_
        refine atm_s T 12 hg pf (by kernel_rfl) (still_o [0, 0, 0, 0] rfl) rfl ?_
        refine atm_s T 13 hg pf (by kernel_rfl) (still_o [0, 0, 0, 0] rfl) rfl ?_
        refine atm_s T 14 hg pf (by kernel_rfl) (still_o [0, 0, 0, 0] rfl) rfl ?_
        refine atm_s T 15 hg pf (by kernel_rfl) (still_o [0, 0, 0, 0] rfl) rfl ?_
        refine atm_one 17 (by kernel_rfl) ?_
        refine at_st T 4 [(.int .i64 v13.1.W), (.int .i64 v13.1.H), (.slice a11 (List.length v13.1.C) n11)] rfl rfl rfl rfl rfl rfl rfl rfl rfl rfl ?_
        refine atm_next (still_o [0, 0, 0, 0] rfl) ?_
        refine atm_s T 18 hg pf (by kernel_rfl) (still_o [0, 0, 0, 0] rfl) rfl ?_
        refine atm_s T 19 hg pf (by kernel_rfl) (still_o [0, 0, 0, 0] rfl) rfl ?_
        refine atm_end (by kernel_rfl) ?_
        refine at_to [(14, (.pointer (some ⟨b10, 0, none⟩))), (15, (.int .i64 v13.2.1)), (16, (.int .i64 v13.2.2))] [0, 3, 3] [F, [(b10, Obj.cells #[(.int .i64 v13.1.W), (.int .i64 v13.1.H), (.slice a11 (List.length v13.1.C) n11)] 26 (0, 0))], H11] ⟨rfl, rfl, rfl, trivial⟩ rfl ?_
        refine at_then ?_
        obtain rfl := Option.some.inj Z5
        exact at_mid (v13.1.W, v13.1.H, v13.1.C, v13.2.1, v13.2.2, b10, a11, n11, H11) [0, 0, 0] ⟨rfl, s11⟩ ⟨rfl, rfl, rfl, trivial⟩ rfl
    · rintro ⟨x3, x4, x5, x6, x7, b4, a5, n5, H5⟩ ⟨rfl, s5⟩
      obtain ⟨z15, Z13, H⟩ := bind_e H
      refine at_seq_mid (σ := Bool) (fun x14 => x14 = z15) (fun x14 => [(10, (.bool x14))]) (fun x14 => [F]) ?_ ?_
      · refine at_region [0, 1, 2, 3, 4, 5, 6, 7, 8, 9, 10, 11, 12, 13, 14, 15] rfl ?_
        obtain ⟨v16, V14, Z13⟩ := bind_e Z13
        refine at_cons (at_c (B := fun _ => []) [] rfl rfl rfl rfl has7 rfl rfl (law3_told.c  v16 _ V14) (fun _ => ?_))
        refine at_s T rfl ?_
        refine at_grp T [2, 3, 4] (s := 52) (c := v16) [(14, (.pointer (some ⟨b4, 0, none⟩))), (15, (.int .i64 x6)), (55, (.bool (v16 && (x7 == 2))))] rfl rfl rfl (fun c15 => ⟨rfl, rfl, (by rw [c15]; rfl), trivial⟩) (fun c15 => ⟨rfl, rfl, (by rw [c15]; rfl), trivial⟩) ?_
        refine at_s T rfl ?_
        refine at_grp T [6, 7, 8] (s := 56) (c := (v16 && (x7 == 2))) [(14, (.pointer (some ⟨b4, 0, none⟩))), (59, (.bool ((v16 && (x7 == 2)) && (x6 == 0))))] rfl rfl rfl (fun c16 => ⟨rfl, (by rw [c16]; rfl), trivial⟩) (fun c16 => ⟨rfl, (by rw [c16]; rfl), trivial⟩) ?_
        refine at_s T rfl ?_
        refine at_case (s := 60) rfl (fun c17 => ?_) (fun c17 => ?_)
        · replace Z13 := if_t c17 Z13
          refine at_s T rfl ?_
          refine at_v rfl (g_load T rfl rfl rfl rfl (in_var (j := 1) rfl rfl)) ?_
          iterate 4 refine at_s T rfl ?_
          refine at_end ?_
          refine at_to [(10, (.bool ((List.length x5 : Int) == 0)))] [0] [F] ⟨rfl, trivial⟩ rfl ?_
          refine at_then ?_
          obtain rfl := Option.some.inj Z13
          exact at_mid ((List.length x5 : Int) == 0) [0] rfl ⟨rfl, trivial⟩ rfl
        · replace Z13 := if_f (bf c17) Z13
          iterate 6 refine at_s T rfl ?_
          refine at_end ?_
          refine at_to [(10, (.bool false))] [0] [F] ⟨rfl, trivial⟩ rfl ?_
          refine at_then ?_
          obtain rfl := Option.some.inj Z13
          exact at_mid false [0] rfl ⟨rfl, trivial⟩ rfl
      · rintro x14 rfl
        refine at_ret ?_
        obtain rfl := Option.some.inj H
        exact at_post (T := T) rfl (.tmp rfl .nil) (fun w o => ⟨(), rfl, own_to [0] rfl o⟩)
def law3_PackCuts.Pure : Prop := ∀ (c : (List Int)) (w : Int) (h : Int) (few : Int) (cut : Int), (∀ y ∈ c, inU8 y) → inI64 w → inI64 h → inI64 few → inI64 cut → List.length c ≤ 9223372036854775807 → law3_PackCuts.f c w h few cut = some true
end

end Go.Proofs.YtonjonpepfepfaaDoor
