import Derived.Test.YtonjonpepfepfaaDoorT
import Derived.Test.YtonjonpepfepfaaDoorFlaw3
import Derived.Test.YtonjonpepfepfaaDoorFpack
import Derived.Test.YtonjonpepfepfaaDoorFref1
namespace Go.Proofs.YtonjonpepfepfaaDoor
open Go.Hx
set_option maxRecDepth 100000
set_option linter.unusedVariables false
noncomputable section
/-! ### herdsman/herdsmanlaw3.PackBack: function 4 -/
def law3_PackBack.f (c : (List Int)) (w : Int) (h : Int) (few : Int) (tail : (List Int)) : Option Bool := if (List.length tail : Int) > 300 then ((law3_told.f).bind fun v1 => some v1) else ((law3_near.f (api_Tile.mk 0 0 c) w h few false).bind fun v2 => (pack_Put.f v2).bind fun v3 => (if (List.length ([] : List Int) + List.length v3.1 ≤ 1099511627776) then (if (List.length (([] : List Int) ++ v3.1) + List.length tail ≤ 1099511627776) then ((pack_Get.f ((([] : List Int) ++ v3.1) ++ tail) v2.W v2.H).bind fun v10 => some (v10.1.W, v10.1.H, v10.1.C, v10.2.1, v10.2.2)) else none) else none).bind fun (x4, x5, x6, x7, x8) => ((law3_told.f).bind fun v17 => if (((v17 && (v3.2 == 0)) && (x8 == 0)) && (x7 == (List.length v3.1 : Int))) = true then ((ref1_SameTile.f (api_Tile.mk x4 x5 x6) v2).bind fun v18 => some v18) else (some false)).bind fun x15 => some x15)
set_option maxHeartbeats 4000000 in
theorem law3_PackBack.c {el : Nat → Addr} {a_c : Option Addr} {n_c : Nat} {a_tail : Option Addr} {n_tail : Nat} (c : (List Int)) (w : Int) (h : Int) (few : Int) (tail : (List Int)) (r : Bool) (F : Hp) (H : law3_PackBack.f c w h few tail = some r) (hG : Glb 110 gs_ lits_ el F) (h_c : SliceR (Fl.int .u8) c a_c F) (c_c : List.length c ≤ n_c) (h_tail : SliceR (Fl.int .u8) tail a_tail F) (c_tail : List.length tail ≤ n_tail) :
    CallsL Tryd.prog 4 [(.slice a_c (List.length c) n_c), (.int .i64 w), (.int .i64 h), (.int .i64 few), (.slice a_tail (List.length tail) n_tail)] [F] (fun _ : Unit => (.bool r)) (fun _ => [F]) := by
  unfold law3_PackBack.f at H
  refine calls_atL [(0, (.slice a_c (List.length c) n_c)), (1, (.int .i64 w)), (2, (.int .i64 h)), (3, (.int .i64 few)), (4, (.slice a_tail (List.length tail) n_tail))] Tryd.func4 rfl rfl ⟨rfl, rfl, rfl, rfl, rfl, trivial⟩ (fun W => ?_)
  refine at_seq ?_
  refine at_region [0] rfl ?_
  refine at_s T rfl ?_
  refine at_end ?_
  refine at_sub [(0, (.slice a_c (List.length c) n_c)), (1, (.int .i64 w)), (2, (.int .i64 h)), (3, (.int .i64 few)), (4, (.slice a_tail (List.length tail) n_tail))] ⟨rfl, rfl, rfl, rfl, rfl, trivial⟩ ?_
  refine at_then ?_
  refine at_seq ?_
  refine at_seq ?_
  refine at_region [0, 1, 2] rfl ?_
  iterate 3 refine at_s T rfl ?_
  refine at_end ?_
  refine at_sub [(0, (.slice a_c (List.length c) n_c)), (1, (.int .i64 w)), (2, (.int .i64 h)), (3, (.int .i64 few)), (4, (.slice a_tail (List.length tail) n_tail)), (19, (.bool (decide ((List.length tail : Int) > 300))))] ⟨rfl, rfl, rfl, rfl, rfl, rfl, trivial⟩ ?_
  refine at_then ?_
  refine at_cond rfl (fun c1 => ?_) (fun c1 => ?_)
  · replace H := if_t (of_decide_eq_true c1) H
    refine at_seq ?_
    refine at_region [0, 1] rfl ?_
    obtain ⟨v1, V2, H⟩ := bind_e H
    refine at_cons (at_c (B := fun _ => []) [] rfl rfl rfl rfl has7 rfl rfl (law3_told.c  v1 _ V2) (fun _ => ?_))
    refine at_s T rfl ?_
    refine at_end ?_
    refine at_sub [(10, (.bool v1))] ⟨rfl, trivial⟩ ?_
    refine at_then ?_
    refine at_ret ?_
    refine at_rt ?_
    obtain rfl := Option.some.inj H
    exact at_post (T := T) rfl (.tmp rfl .nil) (fun w o => ⟨(), rfl, own_to [0] rfl o⟩)
  · replace H := if_f (of_decide_eq_false c1) H
    refine at_skip ?_
    refine at_then ?_
    refine at_seq ?_
    refine at_region [0, 1, 2, 3, 4, 5, 6, 7] rfl ?_
    iterate 5 refine at_s T rfl ?_
    obtain ⟨v2, V3, H⟩ := bind_e H
    refine at_cons (at_cR (law3_near.R v2) [] [] rfl rfl rfl rfl has13 rfl rfl (law3_near.c (api_Tile.mk 0 0 c) w h few false v2 _ V3 (ro_of h_c (j := 0) rfl) c_c) ?_)
    rintro _ _ ⟨a1, n1, H1, s1, rfl, rfl⟩
    refine at_cons (at_al T [(.int .i64 0), (.int .i64 0), (.slice none 0 0)] rfl rfl rfl rfl (fun b2 => ?_))
    refine at_cons (at_st T 2 [(.int .i64 v2.W), (.int .i64 v2.H), (.slice a1 (List.length v2.C) n1)] rfl rfl rfl rfl rfl rfl rfl rfl rfl rfl ?_)
    refine at_end ?_
    refine at_sub [(4, (.slice a_tail (List.length tail) n_tail)), (11, (.pointer (some ⟨b2, 0, none⟩)))] ⟨rfl, rfl, trivial⟩ ?_
    refine at_then ?_
    refine at_seq ?_
    refine at_region [0, 1, 2, 3, 4, 5, 6] rfl ?_
    refine at_v rfl (g_loadA T (cs := [(.int .i64 v2.W), (.int .i64 v2.H), (.slice a1 (List.length v2.C) n1)]) rfl rfl rfl rfl rfl rfl (in_varA (j := 2) rfl rfl)) ?_
    obtain ⟨v3, V4, H⟩ := bind_e H
    refine at_cons (at_cR (pack_Put.R v3) [] [] rfl rfl rfl rfl has14 rfl rfl (pack_Put.c v2 v3 _ V4 (own_of s1 (j := 1) rfl) s1.cap_le) ?_)
    rintro _ _ ⟨a3, n3, H3, s3, rfl, rfl⟩
    iterate 5 refine at_s T rfl ?_
    refine at_end ?_
    refine at_sub [(4, (.slice a_tail (List.length tail) n_tail)), (11, (.pointer (some ⟨b2, 0, none⟩))), (12, (.slice a3 (List.length v3.1) n3)), (13, (.int .i64 v3.2))] ⟨rfl, rfl, rfl, rfl, trivial⟩ ?_
    refine at_then ?_
    obtain ⟨z9, Z5, H⟩ := bind_e H
    refine at_seq_mid (σ := Int × Int × List Int × Int × Int × Nat × Option Addr × Nat × Hp) (fun ⟨x4, x5, x6, x7, x8, b4, a5, n5, H5⟩ => (x4, x5, x6, x7, x8) = z9 ∧ SliceO (Fl.int .u8) 5 x6 a5 n5 H5) (fun ⟨x4, x5, x6, x7, x8, b4, a5, n5, H5⟩ => [(11, (.pointer (some ⟨b2, 0, none⟩))), (12, (.slice a3 (List.length v3.1) n3)), (13, (.int .i64 v3.2)), (14, (.pointer (some ⟨b4, 0, none⟩))), (15, (.int .i64 x7)), (16, (.int .i64 x8))]) (fun ⟨x4, x5, x6, x7, x8, b4, a5, n5, H5⟩ => [F, [(b2, Obj.cells #[(.int .i64 v2.W), (.int .i64 v2.H), (.slice a1 (List.length v2.C) n1)] 26 (0, 0))], H1, H3, [(b4, Obj.cells #[(.int .i64 x4), (.int .i64 x5), (.slice a5 (List.length x6) n5)] 26 (0, 0))], H5]) ?_ ?_
    · refine at_region_m [[], [], [0, 1], [], [0, 1, 2, 3], [], [5], [], [7], [0, 1, 2, 3, 4, 5, 6, 7, 8], [0, 1, 2, 3, 4, 5, 6, 7, 8, 9], [0, 1, 2, 3, 4, 5, 6, 7, 8, 9, 10], [0, 1, 2, 3, 4, 5, 6, 7, 8, 9, 10], [0, 1, 2, 3, 4, 5, 6, 7, 8, 9, 10], [], [0, 1, 2, 3, 4, 5, 6, 7, 8, 9, 10, 11, 14], [0, 1, 2, 3, 4, 5, 6, 7, 8, 9, 10, 11, 12, 14, 15], [0, 1, 2, 3, 4, 5, 6, 7, 8, 9, 10, 11, 12, 13, 14, 15, 16]] [] [F, H1, [(b2, Obj.cells #[(.int .i64 v2.W), (.int .i64 v2.H), (.slice a1 (List.length v2.C) n1)] 26 (0, 0))], H3] mix (by kernel_rfl) (by repeat first | exact pf_body | refine pf_then ?_ | refine pf_block ?_) (fun hg pf => ?_)
      refine atm_s T 1 hg pf (by kernel_rfl) (still_o [0, 0, 0, 0] rfl) rfl ?_
      refine atm_s T 3 hg pf (by kernel_rfl) (still_o [0, 0, 0, 0] rfl) rfl ?_
      refine atm_s T 5 hg pf (by kernel_rfl) (still_o [0, 0, 0, 0] rfl) rfl ?_
      refine atm_v 6 hg pf (by kernel_rfl) (still_o [0, 0, 0, 0] rfl) rfl rfl (g_load T rfl rfl rfl rfl (in_var (j := 2) rfl rfl)) ?_
      refine atm_s T 7 hg pf (by kernel_rfl) (still_o [0, 0, 0, 0] rfl) rfl ?_
      refine atm_v 8 hg pf (by kernel_rfl) (still_o [0, 0, 0, 0] rfl) rfl rfl (g_load T rfl rfl rfl rfl (in_var (j := 2) rfl rfl)) ?_
      refine atm_two 0 14 (by kernel_rfl) ?_ ?_
      · refine at_bs (k := (Fl.int .u8)) T ([] : List Int) rfl rfl rfl rfl rfl rfl rfl rfl rfl (fun a6 H6 s6 => ?_)
        refine atm_next (still_o [0, 0, 0, 0] rfl) ?_
        refine atm_two 2 14 (by kernel_rfl) ?_ ?_
        · obtain ⟨c6, Z5⟩ := chk_e Z5
          refine at_ap (k := (Fl.int .u8)) (xs := ([] : List Int)) T (g := 4) rfl rfl rfl rfl rfl rfl rfl rfl rfl rfl s6 (own_of s3 (j := 3) rfl) c6 rfl (fun a7 n7 H7 s7 => ?_)
          refine atm_next (still_o [0, 0, 0, 0] rfl) ?_
          refine atm_two 4 14 (by kernel_rfl) ?_ ?_
          · obtain ⟨c7, Z5⟩ := chk_e Z5
            refine at_ap (k := (Fl.int .u8)) (xs := (([] : List Int) ++ v3.1)) T (g := 4) rfl rfl rfl rfl rfl rfl rfl rfl rfl rfl s7 (ro_of h_tail (j := 0) rfl) c7 rfl (fun a8 n8 H8 s8 => ?_)
            refine atm_next (still_o [0, 0, 0, 0] rfl) ?_
            refine atm_two 9 14 (by kernel_rfl) ?_ ?_
            · obtain ⟨v10, V8, Z5⟩ := bind_e Z5
              refine at_cR (pack_Get.R el v10) [] [] rfl rfl rfl rfl has9 rfl rfl (pack_Get.c ((([] : List Int) ++ v3.1) ++ tail) v2.W v2.H v10 _ V8 (glb_of hG (j := 0) rfl) (own_of s8 (j := 4) rfl) s8.cap_le) ?_
              rintro _ _ ⟨a9, n9, H9, s9, rfl, rfl⟩
              refine atm_next (still_o [0, 0, 0, 0] rfl) ?_
              refine atm_s T 10 hg pf (by kernel_rfl) (still_o [0, 0, 0, 0] rfl) rfl ?_
              refine atm_s T 11 hg pf (by kernel_rfl) (still_o [0, 0, 0, 0] rfl) rfl ?_
              refine atm_s T 12 hg pf (by kernel_rfl) (still_o [0, 0, 0, 0] rfl) rfl ?_
              refine atm_s T 13 hg pf (by kernel_rfl) (still_o [0, 0, 0, 0] rfl) rfl ?_
              refine atm_one 14 (by kernel_rfl) ?_
              refine at_al T [(.int .i64 0), (.int .i64 0), (.slice none 0 0)] rfl rfl rfl rfl (fun b10 => ?_)
              refine atm_next (still_o [0, 0, 0, 0] rfl) ?_
              refine atm_one 15 (by kernel_rfl) ?_
              refine at_st T 6 [(.int .i64 v10.1.W), (.int .i64 v10.1.H), (.slice a9 (List.length v10.1.C) n9)] rfl rfl rfl rfl rfl rfl rfl rfl rfl rfl ?_
              refine atm_next (still_o [0, 0, 0, 0] rfl) ?_
              refine atm_s T 16 hg pf (by kernel_rfl) (still_o [0, 0, 0, 0] rfl) rfl ?_
              refine atm_s T 17 hg pf (by kernel_rfl) (still_o [0, 0, 0, 0] rfl) rfl ?_
              refine atm_end (by kernel_rfl) ?_
              refine at_to [(11, (.pointer (some ⟨b2, 0, none⟩))), (12, (.slice a3 (List.length v3.1) n3)), (13, (.int .i64 v3.2)), (14, (.pointer (some ⟨b10, 0, none⟩))), (15, (.int .i64 v10.2.1)), (16, (.int .i64 v10.2.2))] [0, 0, 0, 0, 1, 1] [F, H1, [(b2, Obj.cells #[(.int .i64 v2.W), (.int .i64 v2.H), (.slice a1 (List.length v2.C) n1)] 26 (0, 0))], H3, H9, [(b10, Obj.cells #[(.int .i64 v10.1.W), (.int .i64 v10.1.H), (.slice a9 (List.length v10.1.C) n9)] 26 (0, 0))]] ⟨rfl, rfl, rfl, rfl, rfl, rfl, trivial⟩ rfl ?_
              refine at_then ?_
              obtain rfl := Option.some.inj Z5
              exact at_mid (v10.1.W, v10.1.H, v10.1.C, v10.2.1, v10.2.2, b10, a9, n9, H9) [0, 1, 0, 0, 1, 0] ⟨rfl, s9⟩ ⟨rfl, rfl, rfl, rfl, rfl, rfl, trivial⟩ rfl
            · refine at_al T [(.int .i64 0), (.int .i64 0), (.slice none 0 0)] rfl rfl rfl rfl (fun b11 => ?_)
              refine atm_next (still_o [0, 0, 0, 0] rfl) ?_
              refine atm_one 9 (by kernel_rfl) ?_
              obtain ⟨v11, V9, Z5⟩ := bind_e Z5
              refine at_cR (pack_Get.R el v11) [] [] rfl rfl rfl rfl has9 rfl rfl (pack_Get.c ((([] : List Int) ++ v3.1) ++ tail) v2.W v2.H v11 _ V9 (glb_of hG (j := 0) rfl) (own_of s8 (j := 4) rfl) s8.cap_le) ?_
              rintro _ _ ⟨a12, n12, H12, s12, rfl, rfl⟩
              refine atm_next (still_o [0, 0, 0, 0] rfl) ?_
              refine atm_s T 10 hg pf (by kernel_rfl) (still_o [0, 0, 0, 0] rfl) rfl ?_
              refine atm_s T 11 hg pf (by kernel_rfl) (still_o [0, 0, 0, 0] rfl) rfl ?_
              refine atm_s T 12 hg pf (by kernel_rfl) (still_o [0, 0, 0, 0] rfl) rfl ?_
              refine atm_s T 13 hg pf (by kernel_rfl) (still_o [0, 0, 0, 0] rfl) rfl ?_
              refine atm_one 15 (by kernel_rfl) ?_
              refine at_st T 5 [(.int .i64 v11.1.W), (.int .i64 v11.1.H), (.slice a12 (List.length v11.1.C) n12)] rfl rfl rfl rfl rfl rfl rfl rfl rfl rfl ?_
              refine atm_next (still_o [0, 0, 0, 0] rfl) ?_
              refine atm_s T 16 hg pf (by kernel_rfl) (still_o [0, 0, 0, 0] rfl) rfl ?_
              refine atm_s T 17 hg pf (by kernel_rfl) (still_o [0, 0, 0, 0] rfl) rfl ?_
              refine atm_end (by kernel_rfl) ?_
              refine at_to [(11, (.pointer (some ⟨b2, 0, none⟩))), (12, (.slice a3 (List.length v3.1) n3)), (13, (.int .i64 v3.2)), (14, (.pointer (some ⟨b11, 0, none⟩))), (15, (.int .i64 v11.2.1)), (16, (.int .i64 v11.2.2))] [0, 0, 0, 0, 1, 1] [F, H1, [(b2, Obj.cells #[(.int .i64 v2.W), (.int .i64 v2.H), (.slice a1 (List.length v2.C) n1)] 26 (0, 0))], H3, [(b11, Obj.cells #[(.int .i64 v11.1.W), (.int .i64 v11.1.H), (.slice a12 (List.length v11.1.C) n12)] 26 (0, 0))], H12] ⟨rfl, rfl, rfl, rfl, rfl, rfl, trivial⟩ rfl ?_
              refine at_then ?_
              obtain rfl := Option.some.inj Z5
              exact at_mid (v11.1.W, v11.1.H, v11.1.C, v11.2.1, v11.2.2, b11, a12, n12, H12) [0, 1, 0, 0, 0, 0] ⟨rfl, s12⟩ ⟨rfl, rfl, rfl, rfl, rfl, rfl, trivial⟩ rfl
          · refine at_al T [(.int .i64 0), (.int .i64 0), (.slice none 0 0)] rfl rfl rfl rfl (fun b13 => ?_)
            refine atm_next (still_o [0, 0, 0, 0] rfl) ?_
            refine atm_one 4 (by kernel_rfl) ?_
            obtain ⟨c10, Z5⟩ := chk_e Z5
            refine at_ap (k := (Fl.int .u8)) (xs := (([] : List Int) ++ v3.1)) T (g := 4) rfl rfl rfl rfl rfl rfl rfl rfl rfl rfl s7 (ro_of h_tail (j := 0) rfl) c10 rfl (fun a14 n14 H14 s14 => ?_)
            refine atm_next (still_o [0, 0, 0, 0] rfl) ?_
            refine atm_one 9 (by kernel_rfl) ?_
            obtain ⟨v12, V11, Z5⟩ := bind_e Z5
            refine at_cR (pack_Get.R el v12) [] [] rfl rfl rfl rfl has9 rfl rfl (pack_Get.c ((([] : List Int) ++ v3.1) ++ tail) v2.W v2.H v12 _ V11 (glb_of hG (j := 0) rfl) (own_of s14 (j := 4) rfl) s14.cap_le) ?_
            rintro _ _ ⟨a15, n15, H15, s15, rfl, rfl⟩
            refine atm_next (still_o [0, 0, 0, 0] rfl) ?_
            refine atm_s T 10 hg pf (by kernel_rfl) (still_o [0, 0, 0, 0] rfl) rfl ?_
            refine atm_s T 11 hg pf (by kernel_rfl) (still_o [0, 0, 0, 0] rfl) rfl ?_
            refine atm_s T 12 hg pf (by kernel_rfl) (still_o [0, 0, 0, 0] rfl) rfl ?_
            refine atm_s T 13 hg pf (by kernel_rfl) (still_o [0, 0, 0, 0] rfl) rfl ?_
            refine atm_one 15 (by kernel_rfl) ?_
            refine at_st T 5 [(.int .i64 v12.1.W), (.int .i64 v12.1.H), (.slice a15 (List.length v12.1.C) n15)] rfl rfl rfl rfl rfl rfl rfl rfl rfl rfl ?_
            refine atm_next (still_o [0, 0, 0, 0] rfl) ?_
            refine atm_s T 16 hg pf (by kernel_rfl) (still_o [0, 0, 0, 0] rfl) rfl ?_
            refine atm_s T 17 hg pf (by kernel_rfl) (still_o [0, 0, 0, 0] rfl) rfl ?_
            refine atm_end (by kernel_rfl) ?_
            refine at_to [(11, (.pointer (some ⟨b2, 0, none⟩))), (12, (.slice a3 (List.length v3.1) n3)), (13, (.int .i64 v3.2)), (14, (.pointer (some ⟨b13, 0, none⟩))), (15, (.int .i64 v12.2.1)), (16, (.int .i64 v12.2.2))] [0, 0, 0, 0, 1, 1] [F, H1, [(b2, Obj.cells #[(.int .i64 v2.W), (.int .i64 v2.H), (.slice a1 (List.length v2.C) n1)] 26 (0, 0))], H3, [(b13, Obj.cells #[(.int .i64 v12.1.W), (.int .i64 v12.1.H), (.slice a15 (List.length v12.1.C) n15)] 26 (0, 0))], H15] ⟨rfl, rfl, rfl, rfl, rfl, rfl, trivial⟩ rfl ?_
            refine at_then ?_
            obtain rfl := Option.some.inj Z5
            exact at_mid (v12.1.W, v12.1.H, v12.1.C, v12.2.1, v12.2.2, b13, a15, n15, H15) [0, 1, 0, 0, 0, 0] ⟨rfl, s15⟩ ⟨rfl, rfl, rfl, rfl, rfl, rfl, trivial⟩ rfl
        · refine at_al T [(.int .i64 0), (.int .i64 0), (.slice none 0 0)] rfl rfl rfl rfl (fun b16 => ?_)
          refine atm_next (still_o [0, 0, 0, 0] rfl) ?_
          refine atm_one 2 (by kernel_rfl) ?_
          obtain ⟨c12, Z5⟩ := chk_e Z5
          refine at_ap (k := (Fl.int .u8)) (xs := ([] : List Int)) T (g := 4) rfl rfl rfl rfl rfl rfl rfl rfl rfl rfl s6 (own_of s3 (j := 3) rfl) c12 rfl (fun a17 n17 H17 s17 => ?_)
          refine atm_next (still_o [0, 0, 0, 0] rfl) ?_
          refine atm_one 4 (by kernel_rfl) ?_
          obtain ⟨c13, Z5⟩ := chk_e Z5
          refine at_ap (k := (Fl.int .u8)) (xs := (([] : List Int) ++ v3.1)) T (g := 4) rfl rfl rfl rfl rfl rfl rfl rfl rfl rfl s17 (ro_of h_tail (j := 0) rfl) c13 rfl (fun a18 n18 H18 s18 => ?_)
          refine atm_next (still_o [0, 0, 0, 0] rfl) ?_
          refine atm_one 9 (by kernel_rfl) ?_
          obtain ⟨v13, V14, Z5⟩ := bind_e Z5
          refine at_cR (pack_Get.R el v13) [] [] rfl rfl rfl rfl has9 rfl rfl (pack_Get.c ((([] : List Int) ++ v3.1) ++ tail) v2.W v2.H v13 _ V14 (glb_of hG (j := 0) rfl) (own_of s18 (j := 4) rfl) s18.cap_le) ?_
          rintro _ _ ⟨a19, n19, H19, s19, rfl, rfl⟩
          refine atm_next (still_o [0, 0, 0, 0] rfl) ?_
          refine atm_s T 10 hg pf (by kernel_rfl) (still_o [0, 0, 0, 0] rfl) rfl ?_
          refine atm_s T 11 hg pf (by kernel_rfl) (still_o [0, 0, 0, 0] rfl) rfl ?_
          refine atm_s T 12 hg pf (by kernel_rfl) (still_o [0, 0, 0, 0] rfl) rfl ?_
          refine atm_s T 13 hg pf (by kernel_rfl) (still_o [0, 0, 0, 0] rfl) rfl ?_
          refine atm_one 15 (by kernel_rfl) ?_
          refine at_st T 5 [(.int .i64 v13.1.W), (.int .i64 v13.1.H), (.slice a19 (List.length v13.1.C) n19)] rfl rfl rfl rfl rfl rfl rfl rfl rfl rfl ?_
          refine atm_next (still_o [0, 0, 0, 0] rfl) ?_
          refine atm_s T 16 hg pf (by kernel_rfl) (still_o [0, 0, 0, 0] rfl) rfl ?_
          refine atm_s T 17 hg pf (by kernel_rfl) (still_o [0, 0, 0, 0] rfl) rfl ?_
          refine atm_end (by kernel_rfl) ?_
          refine at_to [(11, (.pointer (some ⟨b2, 0, none⟩))), (12, (.slice a3 (List.length v3.1) n3)), (13, (.int .i64 v3.2)), (14, (.pointer (some ⟨b16, 0, none⟩))), (15, (.int .i64 v13.2.1)), (16, (.int .i64 v13.2.2))] [0, 0, 0, 0, 1, 1] [F, H1, [(b2, Obj.cells #[(.int .i64 v2.W), (.int .i64 v2.H), (.slice a1 (List.length v2.C) n1)] 26 (0, 0))], H3, [(b16, Obj.cells #[(.int .i64 v13.1.W), (.int .i64 v13.1.H), (.slice a19 (List.length v13.1.C) n19)] 26 (0, 0))], H19] ⟨rfl, rfl, rfl, rfl, rfl, rfl, trivial⟩ rfl ?_
          refine at_then ?_
          obtain rfl := Option.some.inj Z5
          exact at_mid (v13.1.W, v13.1.H, v13.1.C, v13.2.1, v13.2.2, b16, a19, n19, H19) [0, 1, 0, 0, 0, 0] ⟨rfl, s19⟩ ⟨rfl, rfl, rfl, rfl, rfl, rfl, trivial⟩ rfl
      · refine at_al T [(.int .i64 0), (.int .i64 0), (.slice none 0 0)] rfl rfl rfl rfl (fun b20 => ?_)
        refine atm_next (still_o [0, 0, 0, 0] rfl) ?_
        refine atm_one 0 (by kernel_rfl) ?_
        refine at_bs (k := (Fl.int .u8)) T ([] : List Int) rfl rfl rfl rfl rfl rfl rfl rfl rfl (fun a21 H21 s21 => ?_)
        refine atm_next (still_o [0, 0, 0, 0] rfl) ?_
        refine atm_one 2 (by kernel_rfl) ?_
        obtain ⟨c15, Z5⟩ := chk_e Z5
        refine at_ap (k := (Fl.int .u8)) (xs := ([] : List Int)) T (g := 5) rfl rfl rfl rfl rfl rfl rfl rfl rfl rfl s21 (own_of s3 (j := 3) rfl) c15 rfl (fun a22 n22 H22 s22 => ?_)
        refine atm_next (still_o [0, 0, 0, 0] rfl) ?_
        refine atm_one 4 (by kernel_rfl) ?_
        obtain ⟨c16, Z5⟩ := chk_e Z5
        refine at_ap (k := (Fl.int .u8)) (xs := (([] : List Int) ++ v3.1)) T (g := 5) rfl rfl rfl rfl rfl rfl rfl rfl rfl rfl s22 (ro_of h_tail (j := 0) rfl) c16 rfl (fun a23 n23 H23 s23 => ?_)
        refine atm_next (still_o [0, 0, 0, 0] rfl) ?_
        refine atm_one 9 (by kernel_rfl) ?_
        obtain ⟨v14, V17, Z5⟩ := bind_e Z5
        refine at_cR (pack_Get.R el v14) [] [] rfl rfl rfl rfl has9 rfl rfl (pack_Get.c ((([] : List Int) ++ v3.1) ++ tail) v2.W v2.H v14 _ V17 (glb_of hG (j := 0) rfl) (own_of s23 (j := 5) rfl) s23.cap_le) ?_
        rintro _ _ ⟨a24, n24, H24, s24, rfl, rfl⟩
        refine atm_next (still_o [0, 0, 0, 0] rfl) ?_
        refine atm_s T 10 hg pf (by kernel_rfl) (still_o [0, 0, 0, 0] rfl) rfl ?_
        refine atm_s T 11 hg pf (by kernel_rfl) (still_o [0, 0, 0, 0] rfl) rfl ?_
        refine atm_s T 12 hg pf (by kernel_rfl) (still_o [0, 0, 0, 0] rfl) rfl ?_
        refine atm_s T 13 hg pf (by kernel_rfl) (still_o [0, 0, 0, 0] rfl) rfl ?_
        refine atm_one 15 (by kernel_rfl) ?_
        refine at_st T 4 [(.int .i64 v14.1.W), (.int .i64 v14.1.H), (.slice a24 (List.length v14.1.C) n24)] rfl rfl rfl rfl rfl rfl rfl rfl rfl rfl ?_
        refine atm_next (still_o [0, 0, 0, 0] rfl) ?_
        refine atm_s T 16 hg pf (by kernel_rfl) (still_o [0, 0, 0, 0] rfl) rfl ?_
        refine atm_s T 17 hg pf (by kernel_rfl) (still_o [0, 0, 0, 0] rfl) rfl ?_
        refine atm_end (by kernel_rfl) ?_
        refine at_to [(11, (.pointer (some ⟨b2, 0, none⟩))), (12, (.slice a3 (List.length v3.1) n3)), (13, (.int .i64 v3.2)), (14, (.pointer (some ⟨b20, 0, none⟩))), (15, (.int .i64 v14.2.1)), (16, (.int .i64 v14.2.2))] [0, 0, 0, 0, 0, 1] [F, H1, [(b2, Obj.cells #[(.int .i64 v2.W), (.int .i64 v2.H), (.slice a1 (List.length v2.C) n1)] 26 (0, 0))], H3, [(b20, Obj.cells #[(.int .i64 v14.1.W), (.int .i64 v14.1.H), (.slice a24 (List.length v14.1.C) n24)] 26 (0, 0))], H24] ⟨rfl, rfl, rfl, rfl, rfl, rfl, trivial⟩ rfl ?_
        refine at_then ?_
        obtain rfl := Option.some.inj Z5
        exact at_mid (v14.1.W, v14.1.H, v14.1.C, v14.2.1, v14.2.2, b20, a24, n24, H24) [0, 1, 0, 0, 0, 0] ⟨rfl, s24⟩ ⟨rfl, rfl, rfl, rfl, rfl, rfl, trivial⟩ rfl
    · rintro ⟨x4, x5, x6, x7, x8, b4, a5, n5, H5⟩ ⟨rfl, s5⟩
      obtain ⟨z16, Z18, H⟩ := bind_e H
      refine at_seq_mid (σ := Bool) (fun x15 => x15 = z16) (fun x15 => [(10, (.bool x15))]) (fun x15 => [F]) ?_ ?_
      · refine at_region [0, 1, 2, 3, 4, 5, 6, 7, 8, 9, 10, 11, 12, 13, 14, 15, 16, 17, 18, 19, 20] rfl ?_
        obtain ⟨v17, V19, Z18⟩ := bind_e Z18
        refine at_cons (at_c (B := fun _ => []) [] rfl rfl rfl rfl has7 rfl rfl (law3_told.c  v17 _ V19) (fun _ => ?_))
        refine at_s T rfl ?_
        refine at_grp T [2, 3, 4] (s := 47) (c := v17) [(11, (.pointer (some ⟨b2, 0, none⟩))), (12, (.slice a3 (List.length v3.1) n3)), (14, (.pointer (some ⟨b4, 0, none⟩))), (15, (.int .i64 x7)), (16, (.int .i64 x8)), (50, (.bool (v17 && (v3.2 == 0))))] rfl rfl rfl (fun c20 => ⟨rfl, rfl, rfl, rfl, rfl, (by rw [c20]; rfl), trivial⟩) (fun c20 => ⟨rfl, rfl, rfl, rfl, rfl, (by rw [c20]; rfl), trivial⟩) ?_
        refine at_s T rfl ?_
        refine at_grp T [6, 7, 8] (s := 51) (c := (v17 && (v3.2 == 0))) [(11, (.pointer (some ⟨b2, 0, none⟩))), (12, (.slice a3 (List.length v3.1) n3)), (14, (.pointer (some ⟨b4, 0, none⟩))), (15, (.int .i64 x7)), (54, (.bool ((v17 && (v3.2 == 0)) && (x8 == 0))))] rfl rfl rfl (fun c21 => ⟨rfl, rfl, rfl, rfl, (by rw [c21]; rfl), trivial⟩) (fun c21 => ⟨rfl, rfl, rfl, rfl, (by rw [c21]; rfl), trivial⟩) ?_
        refine at_s T rfl ?_
        refine at_grp T [10, 11, 12, 13, 14] (s := 55) (c := ((v17 && (v3.2 == 0)) && (x8 == 0))) [(11, (.pointer (some ⟨b2, 0, none⟩))), (14, (.pointer (some ⟨b4, 0, none⟩))), (60, (.bool (((v17 && (v3.2 == 0)) && (x8 == 0)) && (x7 == (List.length v3.1 : Int)))))] rfl rfl rfl (fun c22 => ⟨rfl, rfl, (by rw [c22]; rfl), trivial⟩) (fun c22 => ⟨rfl, rfl, (by rw [c22]; rfl), trivial⟩) ?_
        refine at_s T rfl ?_
        refine at_case (s := 61) rfl (fun c23 => ?_) (fun c23 => ?_)
        · replace Z18 := if_t c23 Z18
          refine at_v rfl (g_loadA T (cs := [(.int .i64 x4), (.int .i64 x5), (.slice a5 (List.length x6) n5)]) rfl rfl rfl rfl rfl rfl (in_varA (j := 4) rfl rfl)) ?_
          refine at_v rfl (g_loadA T (cs := [(.int .i64 v2.W), (.int .i64 v2.H), (.slice a1 (List.length v2.C) n1)]) rfl rfl rfl rfl rfl rfl (in_varA (j := 1) rfl rfl)) ?_
          obtain ⟨v18, V24, Z18⟩ := bind_e Z18
          refine at_cons (at_c (B := fun _ => []) [] rfl rfl rfl rfl has11 rfl rfl (ref1_SameTile.c (api_Tile.mk x4 x5 x6) v2 v18 _ V24 (own_of s5 (j := 5) rfl) s5.cap_le (own_of s1 (j := 2) rfl) s1.cap_le) (fun _ => ?_))
          iterate 2 refine at_s T rfl ?_
          refine at_end ?_
          refine at_to [(10, (.bool v18))] [0] [F] ⟨rfl, trivial⟩ rfl ?_
          refine at_then ?_
          obtain rfl := Option.some.inj Z18
          exact at_mid v18 [0] rfl ⟨rfl, trivial⟩ rfl
        · replace Z18 := if_f (bf c23) Z18
          iterate 5 refine at_s T rfl ?_
          refine at_end ?_
          refine at_to [(10, (.bool false))] [0] [F] ⟨rfl, trivial⟩ rfl ?_
          refine at_then ?_
          obtain rfl := Option.some.inj Z18
          exact at_mid false [0] rfl ⟨rfl, trivial⟩ rfl
      · rintro x15 rfl
        refine at_ret ?_
        obtain rfl := Option.some.inj H
        exact at_post (T := T) rfl (.tmp rfl .nil) (fun w o => ⟨(), rfl, own_to [0] rfl o⟩)
def law3_PackBack.Pure : Prop := ∀ (c : (List Int)) (w : Int) (h : Int) (few : Int) (tail : (List Int)), (∀ y ∈ c, inU8 y) → inI64 w → inI64 h → inI64 few → (∀ y ∈ tail, inU8 y) → List.length c ≤ 9223372036854775807 → List.length tail ≤ 9223372036854775807 → law3_PackBack.f c w h few tail = some true
end

end Go.Proofs.YtonjonpepfepfaaDoor
