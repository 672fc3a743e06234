import Derived.Test.YtmjcmkimhkjdeaaT
import Derived.Test.YtmjcmkimhkjdeaaFflat
import Derived.Test.YtmjcmkimhkjdeaaFlaw17
import Derived.Test.YtmjcmkimhkjdeaaFref1
import Derived.Test.YtmjcmkimhkjdeaaFref11
namespace Go.Proofs.Ytmjcmkimhkjdeaa
open Go.Hx
set_option maxRecDepth 100000
set_option linter.unusedVariables false
/-! ### herdsman/herdsmanlaw17.FlatMore: function 9 -/
def law17_FlatMore.l0 : Nat → Int → Int → ((List Int) × Int) → ((List Int) × Int) → Int → Option Bool
  | 0, _, _, _, _, _ => none
  | k33 + 1, x, y, v27, v28, x32 => if x32 < (List.length v27.1 : Int) then ((if (0 ≤ x32 ∧ x32 < (List.length v28.1 : Int)) then (if (0 ≤ x32 ∧ x32 < (List.length v27.1 : Int)) then (if (rd v28.1 x32) < (rd v27.1 x32) then (some true) else (if ((if (if 1 > y then 1 else y) > (if 1 > x then 1 else x) then (if 1 > y then 1 else y) else (if 1 > x then 1 else x)) != 255) = true then (if (rd v27.1 x32) < 1099511627776 then (some (decide ((rd v28.1 x32) > (w64 ((w64 ((rd v27.1 x32) + (w64 (if (if 1 > y then 1 else y) > (if 1 > x then 1 else x) then (if 1 > y then 1 else y) else (if 1 > x then 1 else x))))) - (w64 (if 254 < (if (if 1 > y then 1 else y) < (if 1 > x then 1 else x) then (if 1 > y then 1 else y) else (if 1 > x then 1 else x)) then 254 else (if (if 1 > y then 1 else y) < (if 1 > x then 1 else x) then (if 1 > y then 1 else y) else (if 1 > x then 1 else x))))))))) else (some false)) else (some false))) else none) else none).bind fun x34 => if x34 = true then (some false) else (law17_FlatMore.l0 k33 x y v27 v28 (w64 (x32 + 1)))) else ((law17_told.f).bind fun v36 => some v36)
def law17_FlatMore.f (w : Int) (h : Int) (c : (List Int)) (goal : Int) (cell : Int) (x : Int) (y : Int) : Option Bool := (ref1_Made.f w h c).bind fun v1 => (ref1_Within.f goal 0 (w64 ((List.length v1.C : Int) - 1))).bind fun v2 => (ref1_Within.f cell 0 (w64 ((List.length v1.C : Int) - 1))).bind fun v3 => ((ref11_Edited.f v1 v3 (if 254 < (if (if 1 > y then 1 else y) < (if 1 > x then 1 else x) then (if 1 > y then 1 else y) else (if 1 > x then 1 else x)) then 254 else (if (if 1 > y then 1 else y) < (if 1 > x then 1 else x) then (if 1 > y then 1 else y) else (if 1 > x then 1 else x)))).bind fun v11 => (ref11_Edited.f v1 v3 (if (if 1 > y then 1 else y) > (if 1 > x then 1 else x) then (if 1 > y then 1 else y) else (if 1 > x then 1 else x))).bind fun v12 => some (v11.W, v11.H, v11.C, v12.W, v12.H, v12.C)).bind fun (x4, x5, x6, x7, x8, x9) => (flat_Dist.f (api_Map.mk x4 x5 x6) v2).bind fun v27 => (flat_Dist.f (api_Map.mk x7 x8 x9) v2).bind fun v28 => (if ((v27.2 != 0) || (v28.2 != 0)) = true then (some true) else (if ((List.length v27.1 : Int) != (List.length v1.C : Int)) = true then (some true) else (some ((List.length v28.1 : Int) != (List.length v1.C : Int))))).bind fun x29 => if x29 = true then (some false) else (law17_FlatMore.l0 fuel x y v27 v28 0)
set_option maxHeartbeats 4000000 in
theorem law17_FlatMore.c {a_c : Option Addr} {n_c : Nat} (w : Int) (h : Int) (c : (List Int)) (goal : Int) (cell : Int) (x : Int) (y : Int) (r : Bool) (F : Hp) (H : law17_FlatMore.f w h c goal cell x y = some r) (h_c : SliceR (Fl.int .u8) c a_c F) (c_c : List.length c ≤ n_c) :
    CallsL Try.prog 9 [(.int .i64 w), (.int .i64 h), (.slice a_c (List.length c) n_c), (.int .i64 goal), (.int .i64 cell), (.int .u8 x), (.int .u8 y)] [F] (fun _ : Unit => (.bool r)) (fun _ => [F]) := by
  unfold law17_FlatMore.f at H
  refine calls_atL [(0, (.int .i64 w)), (1, (.int .i64 h)), (2, (.slice a_c (List.length c) n_c)), (3, (.int .i64 goal)), (4, (.int .i64 cell)), (5, (.int .u8 x)), (6, (.int .u8 y))] Try.func9 rfl rfl ⟨rfl, rfl, rfl, rfl, rfl, rfl, rfl, trivial⟩ (fun W => ?_)
  refine at_seq ?_
  refine at_region [0] rfl ?_
  refine at_s T rfl ?_
  refine at_end ?_
  refine at_sub [(0, (.int .i64 w)), (1, (.int .i64 h)), (2, (.slice a_c (List.length c) n_c)), (3, (.int .i64 goal)), (4, (.int .i64 cell)), (5, (.int .u8 x)), (6, (.int .u8 y))] ⟨rfl, rfl, rfl, rfl, rfl, rfl, rfl, trivial⟩ ?_
  refine at_then ?_
  refine at_seq ?_
  refine at_region [0, 1, 2, 3, 4, 5] rfl ?_
  iterate 3 refine at_s T rfl ?_
  obtain ⟨v1, V1, H⟩ := bind_e H
  refine at_cons (at_cR (ref1_Made.R v1) [] [] rfl rfl rfl rfl has14 rfl rfl (ref1_Made.c w h c v1 _ V1 (ro_of h_c (j := 0) rfl) c_c) ?_)
  rintro _ _ ⟨a1, n1, H1, s1, rfl, rfl⟩
  refine at_cons (at_al T [(.int .i64 0), (.int .i64 0), (.slice none 0 0)] rfl rfl rfl rfl (fun b2 => ?_))
  refine at_cons (at_st T 2 [(.int .i64 v1.W), (.int .i64 v1.H), (.slice a1 (List.length v1.C) n1)] rfl rfl rfl rfl rfl rfl rfl rfl rfl rfl ?_)
  refine at_end ?_
  refine at_sub [(3, (.int .i64 goal)), (4, (.int .i64 cell)), (5, (.int .u8 x)), (6, (.int .u8 y)), (15, (.pointer (some ⟨b2, 0, none⟩)))] ⟨rfl, rfl, rfl, rfl, rfl, trivial⟩ ?_
  refine at_then ?_
  refine at_seq ?_
  refine at_region_q mix (by kernel_rfl) ?_
  iterate 2 refine atq_s T rfl ?_
  refine atq_v rfl rfl rfl (g_load T rfl rfl rfl rfl (in_var (j := 2) rfl rfl)) ?_
  iterate 2 refine atq_s T rfl ?_
  obtain ⟨v2, V2, H⟩ := bind_e H
  refine atq_c rfl rfl rfl rfl rfl rfl has17 rfl (ref1_Within.c goal 0 (w64 ((List.length v1.C : Int) - 1)) v2 _ V2) ?_
  iterate 2 refine atq_s T rfl ?_
  refine atq_v rfl rfl rfl (g_load T rfl rfl rfl rfl (in_var (j := 2) rfl rfl)) ?_
  iterate 2 refine atq_s T rfl ?_
  obtain ⟨v3, V3, H⟩ := bind_e H
  refine atq_c rfl rfl rfl rfl rfl rfl has17 rfl (ref1_Within.c cell 0 (w64 ((List.length v1.C : Int) - 1)) v3 _ V3) ?_
  iterate 2 refine atq_s T rfl ?_
  refine atq_end ?_
  refine at_sub [(5, (.int .u8 x)), (6, (.int .u8 y)), (15, (.pointer (some ⟨b2, 0, none⟩))), (16, (.int .i64 v2)), (17, (.int .i64 v3))] ⟨rfl, rfl, rfl, rfl, rfl, trivial⟩ ?_
  refine at_then ?_
  refine at_seq ?_
  refine at_region [0, 1, 2, 3, 4, 5, 6, 7, 8, 9, 10, 11] rfl ?_
  iterate 12 refine at_s T rfl ?_
  refine at_end ?_
  refine at_sub [(15, (.pointer (some ⟨b2, 0, none⟩))), (16, (.int .i64 v2)), (17, (.int .i64 v3)), (18, (.int .u8 (if 254 < (if (if 1 > y then 1 else y) < (if 1 > x then 1 else x) then (if 1 > y then 1 else y) else (if 1 > x then 1 else x)) then 254 else (if (if 1 > y then 1 else y) < (if 1 > x then 1 else x) then (if 1 > y then 1 else y) else (if 1 > x then 1 else x))))), (19, (.int .u8 (if (if 1 > y then 1 else y) > (if 1 > x then 1 else x) then (if 1 > y then 1 else y) else (if 1 > x then 1 else x))))] ⟨rfl, rfl, rfl, rfl, rfl, trivial⟩ ?_
  refine at_then ?_
  obtain ⟨z10, Z4, H⟩ := bind_e H
  refine at_seq_mid (σ := Int × Int × List Int × Int × Int × List Int × Nat × Option Addr × Nat × Hp × Nat × Option Addr × Nat × Hp) (fun ⟨x4, x5, x6, x7, x8, x9, b3, a4, n4, H4, b5, a6, n6, H6⟩ => (x4, x5, x6, x7, x8, x9) = z10 ∧ SliceO (Fl.int .u8) 5 x6 a4 n4 H4 ∧ SliceO (Fl.int .u8) 5 x9 a6 n6 H6) (fun ⟨x4, x5, x6, x7, x8, x9, b3, a4, n4, H4, b5, a6, n6, H6⟩ => [(15, (.pointer (some ⟨b2, 0, none⟩))), (16, (.int .i64 v2)), (18, (.int .u8 (if 254 < (if (if 1 > y then 1 else y) < (if 1 > x then 1 else x) then (if 1 > y then 1 else y) else (if 1 > x then 1 else x)) then 254 else (if (if 1 > y then 1 else y) < (if 1 > x then 1 else x) then (if 1 > y then 1 else y) else (if 1 > x then 1 else x))))), (19, (.int .u8 (if (if 1 > y then 1 else y) > (if 1 > x then 1 else x) then (if 1 > y then 1 else y) else (if 1 > x then 1 else x)))), (20, (.pointer (some ⟨b3, 0, none⟩))), (21, (.pointer (some ⟨b5, 0, none⟩)))]) (fun ⟨x4, x5, x6, x7, x8, x9, b3, a4, n4, H4, b5, a6, n6, H6⟩ => [F, [(b2, Obj.cells #[(.int .i64 v1.W), (.int .i64 v1.H), (.slice a1 (List.length v1.C) n1)] 25 (0, 0))], H1, [(b3, Obj.cells #[(.int .i64 x4), (.int .i64 x5), (.slice a4 (List.length x6) n4)] 25 (0, 0))], H4, [(b5, Obj.cells #[(.int .i64 x7), (.int .i64 x8), (.slice a6 (List.length x9) n6)] 25 (0, 0))], H6]) ?_ ?_
  · refine at_region_m [[], [], [], [0, 1, 2], [], [], [], [0, 1, 2, 3, 4, 5, 6], [], [], [0, 1, 2, 3, 4, 5, 6, 7, 8, 9], [0, 1, 2, 3, 4, 5, 6, 7, 8, 9, 10]] [] [F, H1, [(b2, Obj.cells #[(.int .i64 v1.W), (.int .i64 v1.H), (.slice a1 (List.length v1.C) n1)] 25 (0, 0))]] mix (by kernel_rfl) (by repeat first | exact pf_body | refine pf_then ?_ | refine pf_block ?_) (fun hg pf => ?_)
    refine atm_v 0 hg pf (by kernel_rfl) (still_o [0, 0, 0] rfl) rfl rfl (g_loadA T (cs := [(.int .i64 v1.W), (.int .i64 v1.H), (.slice a1 (List.length v1.C) n1)]) rfl rfl rfl rfl rfl rfl (in_varA (j := 2) rfl rfl)) ?_
    refine atm_s T 1 hg pf (by kernel_rfl) (still_o [0, 0, 0] rfl) rfl ?_
    refine atm_s T 2 hg pf (by kernel_rfl) (still_o [0, 0, 0] rfl) rfl ?_
    refine atm_v 4 hg pf (by kernel_rfl) (still_o [0, 0, 0] rfl) rfl rfl (g_loadA T (cs := [(.int .i64 v1.W), (.int .i64 v1.H), (.slice a1 (List.length v1.C) n1)]) rfl rfl rfl rfl rfl rfl (in_varA (j := 2) rfl rfl)) ?_
    refine atm_s T 5 hg pf (by kernel_rfl) (still_o [0, 0, 0] rfl) rfl ?_
    refine atm_s T 6 hg pf (by kernel_rfl) (still_o [0, 0, 0] rfl) rfl ?_
    refine atm_three 3 8 9 (by kernel_rfl) ?_ ?_ ?_
    · obtain ⟨v11, V5, Z4⟩ := bind_e Z4
      refine at_cR (ref11_Edited.R v11) [] [] rfl rfl rfl rfl has30 rfl rfl (ref11_Edited.c v1 v3 (if 254 < (if (if 1 > y then 1 else y) < (if 1 > x then 1 else x) then (if 1 > y then 1 else y) else (if 1 > x then 1 else x)) then 254 else (if (if 1 > y then 1 else y) < (if 1 > x then 1 else x) then (if 1 > y then 1 else y) else (if 1 > x then 1 else x))) v11 _ V5 (own_of s1 (j := 1) rfl) s1.cap_le) ?_
      rintro _ _ ⟨a7, n7, H7, s7, rfl, rfl⟩
      refine atm_next (still_o [0, 0, 0] rfl) ?_
      refine atm_three 7 8 9 (by kernel_rfl) ?_ ?_ ?_
      · obtain ⟨v12, V6, Z4⟩ := bind_e Z4
        refine at_cR (ref11_Edited.R v12) [] [] rfl rfl rfl rfl has30 rfl rfl (ref11_Edited.c v1 v3 (if (if 1 > y then 1 else y) > (if 1 > x then 1 else x) then (if 1 > y then 1 else y) else (if 1 > x then 1 else x)) v12 _ V6 (own_of s1 (j := 1) rfl) s1.cap_le) ?_
        rintro _ _ ⟨a8, n8, H8, s8, rfl, rfl⟩
        refine atm_next (still_o [0, 0, 0] rfl) ?_
        refine atm_two 8 9 (by kernel_rfl) ?_ ?_
        · refine at_al T [(.int .i64 0), (.int .i64 0), (.slice none 0 0)] rfl rfl rfl rfl (fun b9 => ?_)
          refine atm_next (still_o [0, 0, 0] rfl) ?_
          refine atm_one 9 (by kernel_rfl) ?_
          refine at_al T [(.int .i64 0), (.int .i64 0), (.slice none 0 0)] rfl rfl rfl rfl (fun b10 => ?_)
          refine atm_next (still_o [0, 0, 0] rfl) ?_
          refine atm_one 10 (by kernel_rfl) ?_
          refine at_st T 5 [(.int .i64 v11.W), (.int .i64 v11.H), (.slice a7 (List.length v11.C) n7)] rfl rfl rfl rfl rfl rfl rfl rfl rfl rfl ?_
          refine atm_next (still_o [0, 0, 0] rfl) ?_
          refine atm_one 11 (by kernel_rfl) ?_
          refine at_st T 6 [(.int .i64 v12.W), (.int .i64 v12.H), (.slice a8 (List.length v12.C) n8)] rfl rfl rfl rfl rfl rfl rfl rfl rfl rfl ?_
          refine atm_next (still_o [0, 0, 0] rfl) ?_
          refine atm_end (by kernel_rfl) ?_
          refine at_sub [(15, (.pointer (some ⟨b2, 0, none⟩))), (16, (.int .i64 v2)), (18, (.int .u8 (if 254 < (if (if 1 > y then 1 else y) < (if 1 > x then 1 else x) then (if 1 > y then 1 else y) else (if 1 > x then 1 else x)) then 254 else (if (if 1 > y then 1 else y) < (if 1 > x then 1 else x) then (if 1 > y then 1 else y) else (if 1 > x then 1 else x))))), (19, (.int .u8 (if (if 1 > y then 1 else y) > (if 1 > x then 1 else x) then (if 1 > y then 1 else y) else (if 1 > x then 1 else x)))), (20, (.pointer (some ⟨b9, 0, none⟩))), (21, (.pointer (some ⟨b10, 0, none⟩)))] ⟨rfl, rfl, rfl, rfl, rfl, rfl, trivial⟩ ?_
          refine at_then ?_
          obtain rfl := Option.some.inj Z4
          exact at_mid (v11.W, v11.H, v11.C, v12.W, v12.H, v12.C, b9, a7, n7, H7, b10, a8, n8, H8) [0, 1, 0, 2, 0, 1, 0] ⟨rfl, s7, s8⟩ ⟨rfl, rfl, rfl, rfl, rfl, rfl, trivial⟩ rfl
        · refine at_al T [(.int .i64 0), (.int .i64 0), (.slice none 0 0)] rfl rfl rfl rfl (fun b11 => ?_)
          refine atm_next (still_o [0, 0, 0] rfl) ?_
          refine atm_one 8 (by kernel_rfl) ?_
          refine at_al T [(.int .i64 0), (.int .i64 0), (.slice none 0 0)] rfl rfl rfl rfl (fun b12 => ?_)
          refine atm_next (still_o [0, 0, 0] rfl) ?_
          refine atm_one 10 (by kernel_rfl) ?_
          refine at_st T 6 [(.int .i64 v11.W), (.int .i64 v11.H), (.slice a7 (List.length v11.C) n7)] rfl rfl rfl rfl rfl rfl rfl rfl rfl rfl ?_
          refine atm_next (still_o [0, 0, 0] rfl) ?_
          refine atm_one 11 (by kernel_rfl) ?_
          refine at_st T 5 [(.int .i64 v12.W), (.int .i64 v12.H), (.slice a8 (List.length v12.C) n8)] rfl rfl rfl rfl rfl rfl rfl rfl rfl rfl ?_
          refine atm_next (still_o [0, 0, 0] rfl) ?_
          refine atm_end (by kernel_rfl) ?_
          refine at_sub [(15, (.pointer (some ⟨b2, 0, none⟩))), (16, (.int .i64 v2)), (18, (.int .u8 (if 254 < (if (if 1 > y then 1 else y) < (if 1 > x then 1 else x) then (if 1 > y then 1 else y) else (if 1 > x then 1 else x)) then 254 else (if (if 1 > y then 1 else y) < (if 1 > x then 1 else x) then (if 1 > y then 1 else y) else (if 1 > x then 1 else x))))), (19, (.int .u8 (if (if 1 > y then 1 else y) > (if 1 > x then 1 else x) then (if 1 > y then 1 else y) else (if 1 > x then 1 else x)))), (20, (.pointer (some ⟨b12, 0, none⟩))), (21, (.pointer (some ⟨b11, 0, none⟩)))] ⟨rfl, rfl, rfl, rfl, rfl, rfl, trivial⟩ ?_
          refine at_then ?_
          obtain rfl := Option.some.inj Z4
          exact at_mid (v11.W, v11.H, v11.C, v12.W, v12.H, v12.C, b12, a7, n7, H7, b11, a8, n8, H8) [0, 1, 0, 3, 0, 1, 0] ⟨rfl, s7, s8⟩ ⟨rfl, rfl, rfl, rfl, rfl, rfl, trivial⟩ rfl
      · refine at_al T [(.int .i64 0), (.int .i64 0), (.slice none 0 0)] rfl rfl rfl rfl (fun b13 => ?_)
        refine atm_next (still_o [0, 0, 0] rfl) ?_
        refine atm_two 7 9 (by kernel_rfl) ?_ ?_
        · obtain ⟨v13, V7, Z4⟩ := bind_e Z4
          refine at_cR (ref11_Edited.R v13) [] [] rfl rfl rfl rfl has30 rfl rfl (ref11_Edited.c v1 v3 (if (if 1 > y then 1 else y) > (if 1 > x then 1 else x) then (if 1 > y then 1 else y) else (if 1 > x then 1 else x)) v13 _ V7 (own_of s1 (j := 1) rfl) s1.cap_le) ?_
          rintro _ _ ⟨a14, n14, H14, s14, rfl, rfl⟩
          refine atm_next (still_o [0, 0, 0] rfl) ?_
          refine atm_one 9 (by kernel_rfl) ?_
          refine at_al T [(.int .i64 0), (.int .i64 0), (.slice none 0 0)] rfl rfl rfl rfl (fun b15 => ?_)
          refine atm_next (still_o [0, 0, 0] rfl) ?_
          refine atm_one 10 (by kernel_rfl) ?_
          refine at_st T 4 [(.int .i64 v11.W), (.int .i64 v11.H), (.slice a7 (List.length v11.C) n7)] rfl rfl rfl rfl rfl rfl rfl rfl rfl rfl ?_
          refine atm_next (still_o [0, 0, 0] rfl) ?_
          refine atm_one 11 (by kernel_rfl) ?_
          refine at_st T 6 [(.int .i64 v13.W), (.int .i64 v13.H), (.slice a14 (List.length v13.C) n14)] rfl rfl rfl rfl rfl rfl rfl rfl rfl rfl ?_
          refine atm_next (still_o [0, 0, 0] rfl) ?_
          refine atm_end (by kernel_rfl) ?_
          refine at_sub [(15, (.pointer (some ⟨b2, 0, none⟩))), (16, (.int .i64 v2)), (18, (.int .u8 (if 254 < (if (if 1 > y then 1 else y) < (if 1 > x then 1 else x) then (if 1 > y then 1 else y) else (if 1 > x then 1 else x)) then 254 else (if (if 1 > y then 1 else y) < (if 1 > x then 1 else x) then (if 1 > y then 1 else y) else (if 1 > x then 1 else x))))), (19, (.int .u8 (if (if 1 > y then 1 else y) > (if 1 > x then 1 else x) then (if 1 > y then 1 else y) else (if 1 > x then 1 else x)))), (20, (.pointer (some ⟨b13, 0, none⟩))), (21, (.pointer (some ⟨b15, 0, none⟩)))] ⟨rfl, rfl, rfl, rfl, rfl, rfl, trivial⟩ ?_
          refine at_then ?_
          obtain rfl := Option.some.inj Z4
          exact at_mid (v11.W, v11.H, v11.C, v13.W, v13.H, v13.C, b13, a7, n7, H7, b15, a14, n14, H14) [0, 1, 0, 1, 0, 1, 0] ⟨rfl, s7, s14⟩ ⟨rfl, rfl, rfl, rfl, rfl, rfl, trivial⟩ rfl
        · refine at_al T [(.int .i64 0), (.int .i64 0), (.slice none 0 0)] rfl rfl rfl rfl (fun b16 => ?_)
          refine atm_next (still_o [0, 0, 0] rfl) ?_
          refine atm_one 7 (by kernel_rfl) ?_
          obtain ⟨v14, V8, Z4⟩ := bind_e Z4
          refine at_cR (ref11_Edited.R v14) [] [] rfl rfl rfl rfl has30 rfl rfl (ref11_Edited.c v1 v3 (if (if 1 > y then 1 else y) > (if 1 > x then 1 else x) then (if 1 > y then 1 else y) else (if 1 > x then 1 else x)) v14 _ V8 (own_of s1 (j := 1) rfl) s1.cap_le) ?_
          rintro _ _ ⟨a17, n17, H17, s17, rfl, rfl⟩
          refine atm_next (still_o [0, 0, 0] rfl) ?_
          refine atm_one 10 (by kernel_rfl) ?_
          refine at_st T 4 [(.int .i64 v11.W), (.int .i64 v11.H), (.slice a7 (List.length v11.C) n7)] rfl rfl rfl rfl rfl rfl rfl rfl rfl rfl ?_
          refine atm_next (still_o [0, 0, 0] rfl) ?_
          refine atm_one 11 (by kernel_rfl) ?_
          refine at_st T 5 [(.int .i64 v14.W), (.int .i64 v14.H), (.slice a17 (List.length v14.C) n17)] rfl rfl rfl rfl rfl rfl rfl rfl rfl rfl ?_
          refine atm_next (still_o [0, 0, 0] rfl) ?_
          refine atm_end (by kernel_rfl) ?_
          refine at_sub [(15, (.pointer (some ⟨b2, 0, none⟩))), (16, (.int .i64 v2)), (18, (.int .u8 (if 254 < (if (if 1 > y then 1 else y) < (if 1 > x then 1 else x) then (if 1 > y then 1 else y) else (if 1 > x then 1 else x)) then 254 else (if (if 1 > y then 1 else y) < (if 1 > x then 1 else x) then (if 1 > y then 1 else y) else (if 1 > x then 1 else x))))), (19, (.int .u8 (if (if 1 > y then 1 else y) > (if 1 > x then 1 else x) then (if 1 > y then 1 else y) else (if 1 > x then 1 else x)))), (20, (.pointer (some ⟨b13, 0, none⟩))), (21, (.pointer (some ⟨b16, 0, none⟩)))] ⟨rfl, rfl, rfl, rfl, rfl, rfl, trivial⟩ ?_
          refine at_then ?_
          obtain rfl := Option.some.inj Z4
          exact at_mid (v11.W, v11.H, v11.C, v14.W, v14.H, v14.C, b13, a7, n7, H7, b16, a17, n17, H17) [0, 1, 0, 1, 0, 0, 0] ⟨rfl, s7, s17⟩ ⟨rfl, rfl, rfl, rfl, rfl, rfl, trivial⟩ rfl
      · refine at_al T [(.int .i64 0), (.int .i64 0), (.slice none 0 0)] rfl rfl rfl rfl (fun b18 => ?_)
        refine atm_next (still_o [0, 0, 0] rfl) ?_
        refine atm_two 7 8 (by kernel_rfl) ?_ ?_
        · obtain ⟨v15, V9, Z4⟩ := bind_e Z4
          refine at_cR (ref11_Edited.R v15) [] [] rfl rfl rfl rfl has30 rfl rfl (ref11_Edited.c v1 v3 (if (if 1 > y then 1 else y) > (if 1 > x then 1 else x) then (if 1 > y then 1 else y) else (if 1 > x then 1 else x)) v15 _ V9 (own_of s1 (j := 1) rfl) s1.cap_le) ?_
          rintro _ _ ⟨a19, n19, H19, s19, rfl, rfl⟩
          refine atm_next (still_o [0, 0, 0] rfl) ?_
          refine atm_one 8 (by kernel_rfl) ?_
          refine at_al T [(.int .i64 0), (.int .i64 0), (.slice none 0 0)] rfl rfl rfl rfl (fun b20 => ?_)
          refine atm_next (still_o [0, 0, 0] rfl) ?_
          refine atm_one 10 (by kernel_rfl) ?_
          refine at_st T 6 [(.int .i64 v11.W), (.int .i64 v11.H), (.slice a7 (List.length v11.C) n7)] rfl rfl rfl rfl rfl rfl rfl rfl rfl rfl ?_
          refine atm_next (still_o [0, 0, 0] rfl) ?_
          refine atm_one 11 (by kernel_rfl) ?_
          refine at_st T 4 [(.int .i64 v15.W), (.int .i64 v15.H), (.slice a19 (List.length v15.C) n19)] rfl rfl rfl rfl rfl rfl rfl rfl rfl rfl ?_
          refine atm_next (still_o [0, 0, 0] rfl) ?_
          refine atm_end (by kernel_rfl) ?_
          refine at_sub [(15, (.pointer (some ⟨b2, 0, none⟩))), (16, (.int .i64 v2)), (18, (.int .u8 (if 254 < (if (if 1 > y then 1 else y) < (if 1 > x then 1 else x) then (if 1 > y then 1 else y) else (if 1 > x then 1 else x)) then 254 else (if (if 1 > y then 1 else y) < (if 1 > x then 1 else x) then (if 1 > y then 1 else y) else (if 1 > x then 1 else x))))), (19, (.int .u8 (if (if 1 > y then 1 else y) > (if 1 > x then 1 else x) then (if 1 > y then 1 else y) else (if 1 > x then 1 else x)))), (20, (.pointer (some ⟨b20, 0, none⟩))), (21, (.pointer (some ⟨b18, 0, none⟩)))] ⟨rfl, rfl, rfl, rfl, rfl, rfl, trivial⟩ ?_
          refine at_then ?_
          obtain rfl := Option.some.inj Z4
          exact at_mid (v11.W, v11.H, v11.C, v15.W, v15.H, v15.C, b20, a7, n7, H7, b18, a19, n19, H19) [0, 1, 0, 3, 0, 0, 0] ⟨rfl, s7, s19⟩ ⟨rfl, rfl, rfl, rfl, rfl, rfl, trivial⟩ rfl
        · refine at_al T [(.int .i64 0), (.int .i64 0), (.slice none 0 0)] rfl rfl rfl rfl (fun b21 => ?_)
          refine atm_next (still_o [0, 0, 0] rfl) ?_
          refine atm_one 7 (by kernel_rfl) ?_
          obtain ⟨v16, V10, Z4⟩ := bind_e Z4
          refine at_cR (ref11_Edited.R v16) [] [] rfl rfl rfl rfl has30 rfl rfl (ref11_Edited.c v1 v3 (if (if 1 > y then 1 else y) > (if 1 > x then 1 else x) then (if 1 > y then 1 else y) else (if 1 > x then 1 else x)) v16 _ V10 (own_of s1 (j := 1) rfl) s1.cap_le) ?_
          rintro _ _ ⟨a22, n22, H22, s22, rfl, rfl⟩
          refine atm_next (still_o [0, 0, 0] rfl) ?_
          refine atm_one 10 (by kernel_rfl) ?_
          refine at_st T 5 [(.int .i64 v11.W), (.int .i64 v11.H), (.slice a7 (List.length v11.C) n7)] rfl rfl rfl rfl rfl rfl rfl rfl rfl rfl ?_
          refine atm_next (still_o [0, 0, 0] rfl) ?_
          refine atm_one 11 (by kernel_rfl) ?_
          refine at_st T 4 [(.int .i64 v16.W), (.int .i64 v16.H), (.slice a22 (List.length v16.C) n22)] rfl rfl rfl rfl rfl rfl rfl rfl rfl rfl ?_
          refine atm_next (still_o [0, 0, 0] rfl) ?_
          refine atm_end (by kernel_rfl) ?_
          refine at_sub [(15, (.pointer (some ⟨b2, 0, none⟩))), (16, (.int .i64 v2)), (18, (.int .u8 (if 254 < (if (if 1 > y then 1 else y) < (if 1 > x then 1 else x) then (if 1 > y then 1 else y) else (if 1 > x then 1 else x)) then 254 else (if (if 1 > y then 1 else y) < (if 1 > x then 1 else x) then (if 1 > y then 1 else y) else (if 1 > x then 1 else x))))), (19, (.int .u8 (if (if 1 > y then 1 else y) > (if 1 > x then 1 else x) then (if 1 > y then 1 else y) else (if 1 > x then 1 else x)))), (20, (.pointer (some ⟨b21, 0, none⟩))), (21, (.pointer (some ⟨b18, 0, none⟩)))] ⟨rfl, rfl, rfl, rfl, rfl, rfl, trivial⟩ ?_
          refine at_then ?_
          obtain rfl := Option.some.inj Z4
          exact at_mid (v11.W, v11.H, v11.C, v16.W, v16.H, v16.C, b21, a7, n7, H7, b18, a22, n22, H22) [0, 1, 0, 2, 0, 0, 0] ⟨rfl, s7, s22⟩ ⟨rfl, rfl, rfl, rfl, rfl, rfl, trivial⟩ rfl
    · refine at_al T [(.int .i64 0), (.int .i64 0), (.slice none 0 0)] rfl rfl rfl rfl (fun b23 => ?_)
      refine atm_next (still_o [0, 0, 0] rfl) ?_
      refine atm_two 3 9 (by kernel_rfl) ?_ ?_
      · obtain ⟨v17, V11, Z4⟩ := bind_e Z4
        refine at_cR (ref11_Edited.R v17) [] [] rfl rfl rfl rfl has30 rfl rfl (ref11_Edited.c v1 v3 (if 254 < (if (if 1 > y then 1 else y) < (if 1 > x then 1 else x) then (if 1 > y then 1 else y) else (if 1 > x then 1 else x)) then 254 else (if (if 1 > y then 1 else y) < (if 1 > x then 1 else x) then (if 1 > y then 1 else y) else (if 1 > x then 1 else x))) v17 _ V11 (own_of s1 (j := 1) rfl) s1.cap_le) ?_
        rintro _ _ ⟨a24, n24, H24, s24, rfl, rfl⟩
        refine atm_next (still_o [0, 0, 0] rfl) ?_
        refine atm_two 7 9 (by kernel_rfl) ?_ ?_
        · obtain ⟨v18, V12, Z4⟩ := bind_e Z4
          refine at_cR (ref11_Edited.R v18) [] [] rfl rfl rfl rfl has30 rfl rfl (ref11_Edited.c v1 v3 (if (if 1 > y then 1 else y) > (if 1 > x then 1 else x) then (if 1 > y then 1 else y) else (if 1 > x then 1 else x)) v18 _ V12 (own_of s1 (j := 1) rfl) s1.cap_le) ?_
          rintro _ _ ⟨a25, n25, H25, s25, rfl, rfl⟩
          refine atm_next (still_o [0, 0, 0] rfl) ?_
          refine atm_one 9 (by kernel_rfl) ?_
          refine at_al T [(.int .i64 0), (.int .i64 0), (.slice none 0 0)] rfl rfl rfl rfl (fun b26 => ?_)
          refine atm_next (still_o [0, 0, 0] rfl) ?_
          refine atm_one 10 (by kernel_rfl) ?_
          refine at_st T 3 [(.int .i64 v17.W), (.int .i64 v17.H), (.slice a24 (List.length v17.C) n24)] rfl rfl rfl rfl rfl rfl rfl rfl rfl rfl ?_
          refine atm_next (still_o [0, 0, 0] rfl) ?_
          refine atm_one 11 (by kernel_rfl) ?_
          refine at_st T 6 [(.int .i64 v18.W), (.int .i64 v18.H), (.slice a25 (List.length v18.C) n25)] rfl rfl rfl rfl rfl rfl rfl rfl rfl rfl ?_
          refine atm_next (still_o [0, 0, 0] rfl) ?_
          refine atm_end (by kernel_rfl) ?_
          refine at_sub [(15, (.pointer (some ⟨b2, 0, none⟩))), (16, (.int .i64 v2)), (18, (.int .u8 (if 254 < (if (if 1 > y then 1 else y) < (if 1 > x then 1 else x) then (if 1 > y then 1 else y) else (if 1 > x then 1 else x)) then 254 else (if (if 1 > y then 1 else y) < (if 1 > x then 1 else x) then (if 1 > y then 1 else y) else (if 1 > x then 1 else x))))), (19, (.int .u8 (if (if 1 > y then 1 else y) > (if 1 > x then 1 else x) then (if 1 > y then 1 else y) else (if 1 > x then 1 else x)))), (20, (.pointer (some ⟨b23, 0, none⟩))), (21, (.pointer (some ⟨b26, 0, none⟩)))] ⟨rfl, rfl, rfl, rfl, rfl, rfl, trivial⟩ ?_
          refine at_then ?_
          obtain rfl := Option.some.inj Z4
          exact at_mid (v17.W, v17.H, v17.C, v18.W, v18.H, v18.C, b23, a24, n24, H24, b26, a25, n25, H25) [0, 1, 0, 0, 0, 1, 0] ⟨rfl, s24, s25⟩ ⟨rfl, rfl, rfl, rfl, rfl, rfl, trivial⟩ rfl
        · refine at_al T [(.int .i64 0), (.int .i64 0), (.slice none 0 0)] rfl rfl rfl rfl (fun b27 => ?_)
          refine atm_next (still_o [0, 0, 0] rfl) ?_
          refine atm_one 7 (by kernel_rfl) ?_
          obtain ⟨v19, V13, Z4⟩ := bind_e Z4
          refine at_cR (ref11_Edited.R v19) [] [] rfl rfl rfl rfl has30 rfl rfl (ref11_Edited.c v1 v3 (if (if 1 > y then 1 else y) > (if 1 > x then 1 else x) then (if 1 > y then 1 else y) else (if 1 > x then 1 else x)) v19 _ V13 (own_of s1 (j := 1) rfl) s1.cap_le) ?_
          rintro _ _ ⟨a28, n28, H28, s28, rfl, rfl⟩
          refine atm_next (still_o [0, 0, 0] rfl) ?_
          refine atm_one 10 (by kernel_rfl) ?_
          refine at_st T 3 [(.int .i64 v17.W), (.int .i64 v17.H), (.slice a24 (List.length v17.C) n24)] rfl rfl rfl rfl rfl rfl rfl rfl rfl rfl ?_
          refine atm_next (still_o [0, 0, 0] rfl) ?_
          refine atm_one 11 (by kernel_rfl) ?_
          refine at_st T 5 [(.int .i64 v19.W), (.int .i64 v19.H), (.slice a28 (List.length v19.C) n28)] rfl rfl rfl rfl rfl rfl rfl rfl rfl rfl ?_
          refine atm_next (still_o [0, 0, 0] rfl) ?_
          refine atm_end (by kernel_rfl) ?_
          refine at_sub [(15, (.pointer (some ⟨b2, 0, none⟩))), (16, (.int .i64 v2)), (18, (.int .u8 (if 254 < (if (if 1 > y then 1 else y) < (if 1 > x then 1 else x) then (if 1 > y then 1 else y) else (if 1 > x then 1 else x)) then 254 else (if (if 1 > y then 1 else y) < (if 1 > x then 1 else x) then (if 1 > y then 1 else y) else (if 1 > x then 1 else x))))), (19, (.int .u8 (if (if 1 > y then 1 else y) > (if 1 > x then 1 else x) then (if 1 > y then 1 else y) else (if 1 > x then 1 else x)))), (20, (.pointer (some ⟨b23, 0, none⟩))), (21, (.pointer (some ⟨b27, 0, none⟩)))] ⟨rfl, rfl, rfl, rfl, rfl, rfl, trivial⟩ ?_
          refine at_then ?_
          obtain rfl := Option.some.inj Z4
          exact at_mid (v17.W, v17.H, v17.C, v19.W, v19.H, v19.C, b23, a24, n24, H24, b27, a28, n28, H28) [0, 1, 0, 0, 0, 0, 0] ⟨rfl, s24, s28⟩ ⟨rfl, rfl, rfl, rfl, rfl, rfl, trivial⟩ rfl
      · refine at_al T [(.int .i64 0), (.int .i64 0), (.slice none 0 0)] rfl rfl rfl rfl (fun b29 => ?_)
        refine atm_next (still_o [0, 0, 0] rfl) ?_
        refine atm_one 3 (by kernel_rfl) ?_
        obtain ⟨v20, V14, Z4⟩ := bind_e Z4
        refine at_cR (ref11_Edited.R v20) [] [] rfl rfl rfl rfl has30 rfl rfl (ref11_Edited.c v1 v3 (if 254 < (if (if 1 > y then 1 else y) < (if 1 > x then 1 else x) then (if 1 > y then 1 else y) else (if 1 > x then 1 else x)) then 254 else (if (if 1 > y then 1 else y) < (if 1 > x then 1 else x) then (if 1 > y then 1 else y) else (if 1 > x then 1 else x))) v20 _ V14 (own_of s1 (j := 1) rfl) s1.cap_le) ?_
        rintro _ _ ⟨a30, n30, H30, s30, rfl, rfl⟩
        refine atm_next (still_o [0, 0, 0] rfl) ?_
        refine atm_one 7 (by kernel_rfl) ?_
        obtain ⟨v21, V15, Z4⟩ := bind_e Z4
        refine at_cR (ref11_Edited.R v21) [] [] rfl rfl rfl rfl has30 rfl rfl (ref11_Edited.c v1 v3 (if (if 1 > y then 1 else y) > (if 1 > x then 1 else x) then (if 1 > y then 1 else y) else (if 1 > x then 1 else x)) v21 _ V15 (own_of s1 (j := 1) rfl) s1.cap_le) ?_
        rintro _ _ ⟨a31, n31, H31, s31, rfl, rfl⟩
        refine atm_next (still_o [0, 0, 0] rfl) ?_
        refine atm_one 10 (by kernel_rfl) ?_
        refine at_st T 3 [(.int .i64 v20.W), (.int .i64 v20.H), (.slice a30 (List.length v20.C) n30)] rfl rfl rfl rfl rfl rfl rfl rfl rfl rfl ?_
        refine atm_next (still_o [0, 0, 0] rfl) ?_
        refine atm_one 11 (by kernel_rfl) ?_
        refine at_st T 4 [(.int .i64 v21.W), (.int .i64 v21.H), (.slice a31 (List.length v21.C) n31)] rfl rfl rfl rfl rfl rfl rfl rfl rfl rfl ?_
        refine atm_next (still_o [0, 0, 0] rfl) ?_
        refine atm_end (by kernel_rfl) ?_
        refine at_sub [(15, (.pointer (some ⟨b2, 0, none⟩))), (16, (.int .i64 v2)), (18, (.int .u8 (if 254 < (if (if 1 > y then 1 else y) < (if 1 > x then 1 else x) then (if 1 > y then 1 else y) else (if 1 > x then 1 else x)) then 254 else (if (if 1 > y then 1 else y) < (if 1 > x then 1 else x) then (if 1 > y then 1 else y) else (if 1 > x then 1 else x))))), (19, (.int .u8 (if (if 1 > y then 1 else y) > (if 1 > x then 1 else x) then (if 1 > y then 1 else y) else (if 1 > x then 1 else x)))), (20, (.pointer (some ⟨b23, 0, none⟩))), (21, (.pointer (some ⟨b29, 0, none⟩)))] ⟨rfl, rfl, rfl, rfl, rfl, rfl, trivial⟩ ?_
        refine at_then ?_
        obtain rfl := Option.some.inj Z4
        exact at_mid (v20.W, v20.H, v20.C, v21.W, v21.H, v21.C, b23, a30, n30, H30, b29, a31, n31, H31) [0, 1, 0, 0, 1, 0, 0] ⟨rfl, s30, s31⟩ ⟨rfl, rfl, rfl, rfl, rfl, rfl, trivial⟩ rfl
    · refine at_al T [(.int .i64 0), (.int .i64 0), (.slice none 0 0)] rfl rfl rfl rfl (fun b32 => ?_)
      refine atm_next (still_o [0, 0, 0] rfl) ?_
      refine atm_two 3 8 (by kernel_rfl) ?_ ?_
      · obtain ⟨v22, V16, Z4⟩ := bind_e Z4
        refine at_cR (ref11_Edited.R v22) [] [] rfl rfl rfl rfl has30 rfl rfl (ref11_Edited.c v1 v3 (if 254 < (if (if 1 > y then 1 else y) < (if 1 > x then 1 else x) then (if 1 > y then 1 else y) else (if 1 > x then 1 else x)) then 254 else (if (if 1 > y then 1 else y) < (if 1 > x then 1 else x) then (if 1 > y then 1 else y) else (if 1 > x then 1 else x))) v22 _ V16 (own_of s1 (j := 1) rfl) s1.cap_le) ?_
        rintro _ _ ⟨a33, n33, H33, s33, rfl, rfl⟩
        refine atm_next (still_o [0, 0, 0] rfl) ?_
        refine atm_two 7 8 (by kernel_rfl) ?_ ?_
        · obtain ⟨v23, V17, Z4⟩ := bind_e Z4
          refine at_cR (ref11_Edited.R v23) [] [] rfl rfl rfl rfl has30 rfl rfl (ref11_Edited.c v1 v3 (if (if 1 > y then 1 else y) > (if 1 > x then 1 else x) then (if 1 > y then 1 else y) else (if 1 > x then 1 else x)) v23 _ V17 (own_of s1 (j := 1) rfl) s1.cap_le) ?_
          rintro _ _ ⟨a34, n34, H34, s34, rfl, rfl⟩
          refine atm_next (still_o [0, 0, 0] rfl) ?_
          refine atm_one 8 (by kernel_rfl) ?_
          refine at_al T [(.int .i64 0), (.int .i64 0), (.slice none 0 0)] rfl rfl rfl rfl (fun b35 => ?_)
          refine atm_next (still_o [0, 0, 0] rfl) ?_
          refine atm_one 10 (by kernel_rfl) ?_
          refine at_st T 6 [(.int .i64 v22.W), (.int .i64 v22.H), (.slice a33 (List.length v22.C) n33)] rfl rfl rfl rfl rfl rfl rfl rfl rfl rfl ?_
          refine atm_next (still_o [0, 0, 0] rfl) ?_
          refine atm_one 11 (by kernel_rfl) ?_
          refine at_st T 3 [(.int .i64 v23.W), (.int .i64 v23.H), (.slice a34 (List.length v23.C) n34)] rfl rfl rfl rfl rfl rfl rfl rfl rfl rfl ?_
          refine atm_next (still_o [0, 0, 0] rfl) ?_
          refine atm_end (by kernel_rfl) ?_
          refine at_sub [(15, (.pointer (some ⟨b2, 0, none⟩))), (16, (.int .i64 v2)), (18, (.int .u8 (if 254 < (if (if 1 > y then 1 else y) < (if 1 > x then 1 else x) then (if 1 > y then 1 else y) else (if 1 > x then 1 else x)) then 254 else (if (if 1 > y then 1 else y) < (if 1 > x then 1 else x) then (if 1 > y then 1 else y) else (if 1 > x then 1 else x))))), (19, (.int .u8 (if (if 1 > y then 1 else y) > (if 1 > x then 1 else x) then (if 1 > y then 1 else y) else (if 1 > x then 1 else x)))), (20, (.pointer (some ⟨b35, 0, none⟩))), (21, (.pointer (some ⟨b32, 0, none⟩)))] ⟨rfl, rfl, rfl, rfl, rfl, rfl, trivial⟩ ?_
          refine at_then ?_
          obtain rfl := Option.some.inj Z4
          exact at_mid (v22.W, v22.H, v22.C, v23.W, v23.H, v23.C, b35, a33, n33, H33, b32, a34, n34, H34) [0, 1, 0, 3, 1, 0, 0] ⟨rfl, s33, s34⟩ ⟨rfl, rfl, rfl, rfl, rfl, rfl, trivial⟩ rfl
        · refine at_al T [(.int .i64 0), (.int .i64 0), (.slice none 0 0)] rfl rfl rfl rfl (fun b36 => ?_)
          refine atm_next (still_o [0, 0, 0] rfl) ?_
          refine atm_one 7 (by kernel_rfl) ?_
          obtain ⟨v24, V18, Z4⟩ := bind_e Z4
          refine at_cR (ref11_Edited.R v24) [] [] rfl rfl rfl rfl has30 rfl rfl (ref11_Edited.c v1 v3 (if (if 1 > y then 1 else y) > (if 1 > x then 1 else x) then (if 1 > y then 1 else y) else (if 1 > x then 1 else x)) v24 _ V18 (own_of s1 (j := 1) rfl) s1.cap_le) ?_
          rintro _ _ ⟨a37, n37, H37, s37, rfl, rfl⟩
          refine atm_next (still_o [0, 0, 0] rfl) ?_
          refine atm_one 10 (by kernel_rfl) ?_
          refine at_st T 5 [(.int .i64 v22.W), (.int .i64 v22.H), (.slice a33 (List.length v22.C) n33)] rfl rfl rfl rfl rfl rfl rfl rfl rfl rfl ?_
          refine atm_next (still_o [0, 0, 0] rfl) ?_
          refine atm_one 11 (by kernel_rfl) ?_
          refine at_st T 3 [(.int .i64 v24.W), (.int .i64 v24.H), (.slice a37 (List.length v24.C) n37)] rfl rfl rfl rfl rfl rfl rfl rfl rfl rfl ?_
          refine atm_next (still_o [0, 0, 0] rfl) ?_
          refine atm_end (by kernel_rfl) ?_
          refine at_sub [(15, (.pointer (some ⟨b2, 0, none⟩))), (16, (.int .i64 v2)), (18, (.int .u8 (if 254 < (if (if 1 > y then 1 else y) < (if 1 > x then 1 else x) then (if 1 > y then 1 else y) else (if 1 > x then 1 else x)) then 254 else (if (if 1 > y then 1 else y) < (if 1 > x then 1 else x) then (if 1 > y then 1 else y) else (if 1 > x then 1 else x))))), (19, (.int .u8 (if (if 1 > y then 1 else y) > (if 1 > x then 1 else x) then (if 1 > y then 1 else y) else (if 1 > x then 1 else x)))), (20, (.pointer (some ⟨b36, 0, none⟩))), (21, (.pointer (some ⟨b32, 0, none⟩)))] ⟨rfl, rfl, rfl, rfl, rfl, rfl, trivial⟩ ?_
          refine at_then ?_
          obtain rfl := Option.some.inj Z4
          exact at_mid (v22.W, v22.H, v22.C, v24.W, v24.H, v24.C, b36, a33, n33, H33, b32, a37, n37, H37) [0, 1, 0, 2, 1, 0, 0] ⟨rfl, s33, s37⟩ ⟨rfl, rfl, rfl, rfl, rfl, rfl, trivial⟩ rfl
      · refine at_al T [(.int .i64 0), (.int .i64 0), (.slice none 0 0)] rfl rfl rfl rfl (fun b38 => ?_)
        refine atm_next (still_o [0, 0, 0] rfl) ?_
        refine atm_one 3 (by kernel_rfl) ?_
        obtain ⟨v25, V19, Z4⟩ := bind_e Z4
        refine at_cR (ref11_Edited.R v25) [] [] rfl rfl rfl rfl has30 rfl rfl (ref11_Edited.c v1 v3 (if 254 < (if (if 1 > y then 1 else y) < (if 1 > x then 1 else x) then (if 1 > y then 1 else y) else (if 1 > x then 1 else x)) then 254 else (if (if 1 > y then 1 else y) < (if 1 > x then 1 else x) then (if 1 > y then 1 else y) else (if 1 > x then 1 else x))) v25 _ V19 (own_of s1 (j := 1) rfl) s1.cap_le) ?_
        rintro _ _ ⟨a39, n39, H39, s39, rfl, rfl⟩
        refine atm_next (still_o [0, 0, 0] rfl) ?_
        refine atm_one 7 (by kernel_rfl) ?_
        obtain ⟨v26, V20, Z4⟩ := bind_e Z4
        refine at_cR (ref11_Edited.R v26) [] [] rfl rfl rfl rfl has30 rfl rfl (ref11_Edited.c v1 v3 (if (if 1 > y then 1 else y) > (if 1 > x then 1 else x) then (if 1 > y then 1 else y) else (if 1 > x then 1 else x)) v26 _ V20 (own_of s1 (j := 1) rfl) s1.cap_le) ?_
        rintro _ _ ⟨a40, n40, H40, s40, rfl, rfl⟩
        refine atm_next (still_o [0, 0, 0] rfl) ?_
        refine atm_one 10 (by kernel_rfl) ?_
        refine at_st T 4 [(.int .i64 v25.W), (.int .i64 v25.H), (.slice a39 (List.length v25.C) n39)] rfl rfl rfl rfl rfl rfl rfl rfl rfl rfl ?_
        refine atm_next (still_o [0, 0, 0] rfl) ?_
        refine atm_one 11 (by kernel_rfl) ?_
        refine at_st T 3 [(.int .i64 v26.W), (.int .i64 v26.H), (.slice a40 (List.length v26.C) n40)] rfl rfl rfl rfl rfl rfl rfl rfl rfl rfl ?_
        refine atm_next (still_o [0, 0, 0] rfl) ?_
        refine atm_end (by kernel_rfl) ?_
        refine at_sub [(15, (.pointer (some ⟨b2, 0, none⟩))), (16, (.int .i64 v2)), (18, (.int .u8 (if 254 < (if (if 1 > y then 1 else y) < (if 1 > x then 1 else x) then (if 1 > y then 1 else y) else (if 1 > x then 1 else x)) then 254 else (if (if 1 > y then 1 else y) < (if 1 > x then 1 else x) then (if 1 > y then 1 else y) else (if 1 > x then 1 else x))))), (19, (.int .u8 (if (if 1 > y then 1 else y) > (if 1 > x then 1 else x) then (if 1 > y then 1 else y) else (if 1 > x then 1 else x)))), (20, (.pointer (some ⟨b38, 0, none⟩))), (21, (.pointer (some ⟨b32, 0, none⟩)))] ⟨rfl, rfl, rfl, rfl, rfl, rfl, trivial⟩ ?_
        refine at_then ?_
        obtain rfl := Option.some.inj Z4
        exact at_mid (v25.W, v25.H, v25.C, v26.W, v26.H, v26.C, b38, a39, n39, H39, b32, a40, n40, H40) [0, 1, 0, 1, 1, 0, 0] ⟨rfl, s39, s40⟩ ⟨rfl, rfl, rfl, rfl, rfl, rfl, trivial⟩ rfl
  · rintro ⟨x4, x5, x6, x7, x8, x9, b3, a4, n4, H4, b5, a6, n6, H6⟩ ⟨rfl, s4, s6⟩
    refine at_seq ?_
    refine at_region [0, 1, 2, 3, 4, 5, 6, 7] rfl ?_
    refine at_v rfl (g_loadA T (cs := [(.int .i64 x4), (.int .i64 x5), (.slice a4 (List.length x6) n4)]) rfl rfl rfl rfl rfl rfl (in_varA (j := 3) rfl rfl)) ?_
    refine at_s T rfl ?_
    obtain ⟨v27, V21, H⟩ := bind_e H
    refine at_cons (at_cR (flat_Dist.R v27) [] [] rfl rfl rfl rfl has35 rfl rfl (flat_Dist.c (api_Map.mk x4 x5 x6) v2 v27 _ V21 (own_of s4 (j := 4) rfl) s4.cap_le) ?_)
    rintro _ _ ⟨a41, n41, H41, s41, rfl, rfl⟩
    iterate 5 refine at_s T rfl ?_
    refine at_end ?_
    refine at_to [(15, (.pointer (some ⟨b2, 0, none⟩))), (16, (.int .i64 v2)), (18, (.int .u8 (if 254 < (if (if 1 > y then 1 else y) < (if 1 > x then 1 else x) then (if 1 > y then 1 else y) else (if 1 > x then 1 else x)) then 254 else (if (if 1 > y then 1 else y) < (if 1 > x then 1 else x) then (if 1 > y then 1 else y) else (if 1 > x then 1 else x))))), (19, (.int .u8 (if (if 1 > y then 1 else y) > (if 1 > x then 1 else x) then (if 1 > y then 1 else y) else (if 1 > x then 1 else x)))), (21, (.pointer (some ⟨b5, 0, none⟩))), (22, (.slice a41 (List.length v27.1) n41)), (23, (.int .i64 v27.2))] [0, 0, 0, 2, 2, 2] [F, [(b2, Obj.cells #[(.int .i64 v1.W), (.int .i64 v1.H), (.slice a1 (List.length v1.C) n1)] 25 (0, 0))], H1, [(b5, Obj.cells #[(.int .i64 x7), (.int .i64 x8), (.slice a6 (List.length x9) n6)] 25 (0, 0))], H6, H41] ⟨rfl, rfl, rfl, rfl, rfl, rfl, rfl, trivial⟩ rfl ?_
    refine at_then ?_
    refine at_seq ?_
    refine at_region [0, 1, 2, 3, 4, 5, 6, 7] rfl ?_
    refine at_v rfl (g_loadA T (cs := [(.int .i64 x7), (.int .i64 x8), (.slice a6 (List.length x9) n6)]) rfl rfl rfl rfl rfl rfl (in_varA (j := 3) rfl rfl)) ?_
    refine at_s T rfl ?_
    obtain ⟨v28, V22, H⟩ := bind_e H
    refine at_cons (at_cR (flat_Dist.R v28) [] [] rfl rfl rfl rfl has35 rfl rfl (flat_Dist.c (api_Map.mk x7 x8 x9) v2 v28 _ V22 (own_of s6 (j := 4) rfl) s6.cap_le) ?_)
    rintro _ _ ⟨a42, n42, H42, s42, rfl, rfl⟩
    iterate 5 refine at_s T rfl ?_
    refine at_end ?_
    refine at_to [(15, (.pointer (some ⟨b2, 0, none⟩))), (18, (.int .u8 (if 254 < (if (if 1 > y then 1 else y) < (if 1 > x then 1 else x) then (if 1 > y then 1 else y) else (if 1 > x then 1 else x)) then 254 else (if (if 1 > y then 1 else y) < (if 1 > x then 1 else x) then (if 1 > y then 1 else y) else (if 1 > x then 1 else x))))), (19, (.int .u8 (if (if 1 > y then 1 else y) > (if 1 > x then 1 else x) then (if 1 > y then 1 else y) else (if 1 > x then 1 else x)))), (22, (.slice a41 (List.length v27.1) n41)), (23, (.int .i64 v27.2)), (24, (.slice a42 (List.length v28.1) n42)), (25, (.int .i64 v28.2))] [0, 0, 0, 2, 2] [F, [(b2, Obj.cells #[(.int .i64 v1.W), (.int .i64 v1.H), (.slice a1 (List.length v1.C) n1)] 25 (0, 0))], H1, H41, H42] ⟨rfl, rfl, rfl, rfl, rfl, rfl, rfl, trivial⟩ rfl ?_
    refine at_then ?_
    refine at_seq ?_
    obtain ⟨z30, Z23, H⟩ := bind_e H
    refine at_seq_mid (σ := Bool) (fun x29 => x29 = z30) (fun x29 => [(18, (.int .u8 (if 254 < (if (if 1 > y then 1 else y) < (if 1 > x then 1 else x) then (if 1 > y then 1 else y) else (if 1 > x then 1 else x)) then 254 else (if (if 1 > y then 1 else y) < (if 1 > x then 1 else x) then (if 1 > y then 1 else y) else (if 1 > x then 1 else x))))), (19, (.int .u8 (if (if 1 > y then 1 else y) > (if 1 > x then 1 else x) then (if 1 > y then 1 else y) else (if 1 > x then 1 else x)))), (22, (.slice a41 (List.length v27.1) n41)), (24, (.slice a42 (List.length v28.1) n42)), (94, (.bool x29))]) (fun x29 => [F, H41, H42]) ?_ ?_
    · refine at_region [0, 1, 2, 3, 4, 5, 6, 7, 8, 9, 10, 11, 12, 13, 14, 15, 16, 17, 18, 19, 20, 21] rfl ?_
      iterate 3 refine at_s T rfl ?_
      refine at_grp T [3, 4, 5] (s := 75) (c := (v27.2 != 0)) [(15, (.pointer (some ⟨b2, 0, none⟩))), (18, (.int .u8 (if 254 < (if (if 1 > y then 1 else y) < (if 1 > x then 1 else x) then (if 1 > y then 1 else y) else (if 1 > x then 1 else x)) then 254 else (if (if 1 > y then 1 else y) < (if 1 > x then 1 else x) then (if 1 > y then 1 else y) else (if 1 > x then 1 else x))))), (19, (.int .u8 (if (if 1 > y then 1 else y) > (if 1 > x then 1 else x) then (if 1 > y then 1 else y) else (if 1 > x then 1 else x)))), (22, (.slice a41 (List.length v27.1) n41)), (24, (.slice a42 (List.length v28.1) n42)), (78, (.bool ((v27.2 != 0) || (v28.2 != 0))))] rfl rfl rfl (fun c24 => ⟨rfl, rfl, rfl, rfl, rfl, (by rw [c24]; rfl), trivial⟩) (fun c24 => ⟨rfl, rfl, rfl, rfl, rfl, (by rw [c24]; rfl), trivial⟩) ?_
      refine at_s T rfl ?_
      refine at_case (s := 79) rfl (fun c25 => ?_) (fun c25 => ?_)
      · replace Z23 := if_t c25 Z23
        iterate 15 refine at_s T rfl ?_
        refine at_end ?_
        refine at_to [(18, (.int .u8 (if 254 < (if (if 1 > y then 1 else y) < (if 1 > x then 1 else x) then (if 1 > y then 1 else y) else (if 1 > x then 1 else x)) then 254 else (if (if 1 > y then 1 else y) < (if 1 > x then 1 else x) then (if 1 > y then 1 else y) else (if 1 > x then 1 else x))))), (19, (.int .u8 (if (if 1 > y then 1 else y) > (if 1 > x then 1 else x) then (if 1 > y then 1 else y) else (if 1 > x then 1 else x)))), (22, (.slice a41 (List.length v27.1) n41)), (24, (.slice a42 (List.length v28.1) n42)), (94, (.bool true))] [0, 2, 2] [F, H41, H42] ⟨rfl, rfl, rfl, rfl, rfl, trivial⟩ rfl ?_
        refine at_then ?_
        obtain rfl := Option.some.inj Z23
        exact at_mid true [0, 0, 0] rfl ⟨rfl, rfl, rfl, rfl, rfl, trivial⟩ rfl
      · replace Z23 := if_f (bf c25) Z23
        iterate 3 refine at_s T rfl ?_
        refine at_v rfl (g_load T rfl rfl rfl rfl (in_var (j := 1) rfl rfl)) ?_
        iterate 4 refine at_s T rfl ?_
        refine at_case (s := 87) rfl (fun c26 => ?_) (fun c26 => ?_)
        · replace Z23 := if_t c26 Z23
          iterate 7 refine at_s T rfl ?_
          refine at_end ?_
          refine at_to [(18, (.int .u8 (if 254 < (if (if 1 > y then 1 else y) < (if 1 > x then 1 else x) then (if 1 > y then 1 else y) else (if 1 > x then 1 else x)) then 254 else (if (if 1 > y then 1 else y) < (if 1 > x then 1 else x) then (if 1 > y then 1 else y) else (if 1 > x then 1 else x))))), (19, (.int .u8 (if (if 1 > y then 1 else y) > (if 1 > x then 1 else x) then (if 1 > y then 1 else y) else (if 1 > x then 1 else x)))), (22, (.slice a41 (List.length v27.1) n41)), (24, (.slice a42 (List.length v28.1) n42)), (94, (.bool true))] [0, 2, 2] [F, H41, H42] ⟨rfl, rfl, rfl, rfl, rfl, trivial⟩ rfl ?_
          refine at_then ?_
          obtain rfl := Option.some.inj Z23
          exact at_mid true [0, 0, 0] rfl ⟨rfl, rfl, rfl, rfl, rfl, trivial⟩ rfl
        · replace Z23 := if_f (bf c26) Z23
          iterate 3 refine at_s T rfl ?_
          refine at_v rfl (g_load T rfl rfl rfl rfl (in_var (j := 1) rfl rfl)) ?_
          iterate 3 refine at_s T rfl ?_
          refine at_end ?_
          refine at_to [(18, (.int .u8 (if 254 < (if (if 1 > y then 1 else y) < (if 1 > x then 1 else x) then (if 1 > y then 1 else y) else (if 1 > x then 1 else x)) then 254 else (if (if 1 > y then 1 else y) < (if 1 > x then 1 else x) then (if 1 > y then 1 else y) else (if 1 > x then 1 else x))))), (19, (.int .u8 (if (if 1 > y then 1 else y) > (if 1 > x then 1 else x) then (if 1 > y then 1 else y) else (if 1 > x then 1 else x)))), (22, (.slice a41 (List.length v27.1) n41)), (24, (.slice a42 (List.length v28.1) n42)), (94, (.bool ((List.length v28.1 : Int) != (List.length v1.C : Int))))] [0, 2, 2] [F, H41, H42] ⟨rfl, rfl, rfl, rfl, rfl, trivial⟩ rfl ?_
          refine at_then ?_
          obtain rfl := Option.some.inj Z23
          exact at_mid ((List.length v28.1 : Int) != (List.length v1.C : Int)) [0, 0, 0] rfl ⟨rfl, rfl, rfl, rfl, rfl, trivial⟩ rfl
    · rintro x29 rfl
      refine at_cond rfl (fun c27 => ?_) (fun c27 => ?_)
      · replace H := if_t c27 H
        refine at_seq ?_
        refine at_region [0] rfl ?_
        refine at_s T rfl ?_
        refine at_end ?_
        refine at_to [(14, (.bool false))] [0] [F] ⟨rfl, trivial⟩ rfl ?_
        refine at_then ?_
        refine at_ret ?_
        refine at_rt ?_
        obtain rfl := Option.some.inj H
        exact at_post (T := T) rfl (.tmp rfl .nil) (fun w o => ⟨(), rfl, own_to [0] rfl o⟩)
      · replace H := if_f (bf c27) H
        refine at_skip ?_
        refine at_then ?_
        refine at_seq ?_
        refine at_seq ?_
        refine at_region [0] rfl ?_
        refine at_s T rfl ?_
        refine at_end ?_
        refine at_sub [(18, (.int .u8 (if 254 < (if (if 1 > y then 1 else y) < (if 1 > x then 1 else x) then (if 1 > y then 1 else y) else (if 1 > x then 1 else x)) then 254 else (if (if 1 > y then 1 else y) < (if 1 > x then 1 else x) then (if 1 > y then 1 else y) else (if 1 > x then 1 else x))))), (19, (.int .u8 (if (if 1 > y then 1 else y) > (if 1 > x then 1 else x) then (if 1 > y then 1 else y) else (if 1 > x then 1 else x)))), (22, (.slice a41 (List.length v27.1) n41)), (24, (.slice a42 (List.length v28.1) n42)), (26, (.int .i64 0))] ⟨rfl, rfl, rfl, rfl, rfl, trivial⟩ ?_
        refine at_then ?_
        refine at_block ?_
        refine at_loopL (σ := Nat × Int) (fun ⟨k33, x32⟩ => law17_FlatMore.l0 k33 x y v27 v28 x32 = some r) (fun ⟨k33, x32⟩ => [(18, (.int .u8 (if 254 < (if (if 1 > y then 1 else y) < (if 1 > x then 1 else x) then (if 1 > y then 1 else y) else (if 1 > x then 1 else x)) then 254 else (if (if 1 > y then 1 else y) < (if 1 > x then 1 else x) then (if 1 > y then 1 else y) else (if 1 > x then 1 else x))))), (19, (.int .u8 (if (if 1 > y then 1 else y) > (if 1 > x then 1 else x) then (if 1 > y then 1 else y) else (if 1 > x then 1 else x)))), (22, (.slice a41 (List.length v27.1) n41)), (24, (.slice a42 (List.length v28.1) n42)), (26, (.int .i64 x32))]) (fun ⟨k33, x32⟩ => [F, H41, H42]) (fun s => s.1) (fuel, 0) [0, 0, 0] H ⟨rfl, rfl, rfl, rfl, rfl, trivial⟩ rfl ?_
        rintro ⟨k33, x32⟩ Z28
        replace Z28 : law17_FlatMore.l0 k33 x y v27 v28 x32 = some r := Z28
        rcases k33 with _ | k33
        · rw [law17_FlatMore.l0] at Z28; cases Z28
        · rw [law17_FlatMore.l0] at Z28
          refine at_seq ?_
          refine at_seq ?_
          refine at_region [0, 1, 2, 3] rfl ?_
          iterate 4 refine at_s T rfl ?_
          refine at_end ?_
          refine at_sub [(18, (.int .u8 (if 254 < (if (if 1 > y then 1 else y) < (if 1 > x then 1 else x) then (if 1 > y then 1 else y) else (if 1 > x then 1 else x)) then 254 else (if (if 1 > y then 1 else y) < (if 1 > x then 1 else x) then (if 1 > y then 1 else y) else (if 1 > x then 1 else x))))), (19, (.int .u8 (if (if 1 > y then 1 else y) > (if 1 > x then 1 else x) then (if 1 > y then 1 else y) else (if 1 > x then 1 else x)))), (22, (.slice a41 (List.length v27.1) n41)), (24, (.slice a42 (List.length v28.1) n42)), (26, (.int .i64 x32)), (98, (.bool (decide (x32 < (List.length v27.1 : Int)))))] ⟨rfl, rfl, rfl, rfl, rfl, rfl, trivial⟩ ?_
          refine at_then ?_
          refine at_cond rfl (fun c29 => ?_) (fun c29 => ?_)
          · replace Z28 := if_t (of_decide_eq_true c29) Z28
            refine at_skip ?_
            refine at_then ?_
            refine at_seq ?_
            refine at_block ?_
            obtain ⟨z35, Z30, Z28⟩ := bind_e Z28
            refine at_seq_mid (σ := Bool) (fun x34 => x34 = z35) (fun x34 => [(18, (.int .u8 (if 254 < (if (if 1 > y then 1 else y) < (if 1 > x then 1 else x) then (if 1 > y then 1 else y) else (if 1 > x then 1 else x)) then 254 else (if (if 1 > y then 1 else y) < (if 1 > x then 1 else x) then (if 1 > y then 1 else y) else (if 1 > x then 1 else x))))), (19, (.int .u8 (if (if 1 > y then 1 else y) > (if 1 > x then 1 else x) then (if 1 > y then 1 else y) else (if 1 > x then 1 else x)))), (22, (.slice a41 (List.length v27.1) n41)), (24, (.slice a42 (List.length v28.1) n42)), (26, (.int .i64 x32)), (137, (.bool x34))]) (fun x34 => [F, H41, H42]) ?_ ?_
            · refine at_region_q mix (by kernel_rfl) ?_
              iterate 2 refine atq_s T rfl ?_
              obtain ⟨c31, Z30⟩ := chk_e Z30
              obtain ⟨q43, o43, e43⟩ := s42.r.addr c31.1 c31.2
              refine atq_v rfl rfl rfl (g_index T rfl rfl rfl rfl rfl e43 c31.1 c31.2) ?_
              refine atq_v rfl rfl rfl (g_load T rfl rfl rfl rfl (in_elem1 (k := (Fl.int .i64)) (own_of s42 (j := 2) rfl) e43 c31 0 rfl)) ?_
              iterate 2 refine atq_s T rfl ?_
              obtain ⟨c32, Z30⟩ := chk_e Z30
              obtain ⟨q44, o44, e44⟩ := s41.r.addr c32.1 c32.2
              refine atq_v rfl rfl rfl (g_index T rfl rfl rfl rfl rfl e44 c32.1 c32.2) ?_
              refine atq_v rfl rfl rfl (g_load T rfl rfl rfl rfl (in_elem1 (k := (Fl.int .i64)) (own_of s41 (j := 1) rfl) e44 c32 0 rfl)) ?_
              iterate 2 refine atq_s T rfl ?_
              refine atq_case (s := 110) rfl (fun c33 => ?_) (fun c33 => ?_)
              · replace Z30 := if_t (of_decide_eq_true c33) Z30
                iterate 27 refine atq_s T rfl ?_
                refine atq_end ?_
                refine at_sub [(18, (.int .u8 (if 254 < (if (if 1 > y then 1 else y) < (if 1 > x then 1 else x) then (if 1 > y then 1 else y) else (if 1 > x then 1 else x)) then 254 else (if (if 1 > y then 1 else y) < (if 1 > x then 1 else x) then (if 1 > y then 1 else y) else (if 1 > x then 1 else x))))), (19, (.int .u8 (if (if 1 > y then 1 else y) > (if 1 > x then 1 else x) then (if 1 > y then 1 else y) else (if 1 > x then 1 else x)))), (22, (.slice a41 (List.length v27.1) n41)), (24, (.slice a42 (List.length v28.1) n42)), (26, (.int .i64 x32)), (137, (.bool true))] ⟨rfl, rfl, rfl, rfl, rfl, rfl, trivial⟩ ?_
                refine at_then ?_
                obtain rfl := Option.some.inj Z30
                exact at_mid true [0, 0, 0] rfl ⟨rfl, rfl, rfl, rfl, rfl, rfl, trivial⟩ rfl
              · replace Z30 := if_f (of_decide_eq_false c33) Z30
                iterate 3 refine atq_s T rfl ?_
                refine atq_case (s := 113) rfl (fun c34 => ?_) (fun c34 => ?_)
                · replace Z30 := if_t c34 Z30
                  iterate 2 refine atq_s T rfl ?_
                  refine atq_v rfl rfl rfl (g_index T rfl rfl rfl rfl rfl e44 c32.1 c32.2) ?_
                  refine atq_v rfl rfl rfl (g_load T rfl rfl rfl rfl (in_elem1 (k := (Fl.int .i64)) (own_of s41 (j := 1) rfl) e44 c32 0 rfl)) ?_
                  iterate 3 refine atq_s T rfl ?_
                  refine atq_case (s := 120) rfl (fun c35 => ?_) (fun c35 => ?_)
                  · replace Z30 := if_t (of_decide_eq_true c35) Z30
                    iterate 2 refine atq_s T rfl ?_
                    refine atq_v rfl rfl rfl (g_index T rfl rfl rfl rfl rfl e43 c31.1 c31.2) ?_
                    refine atq_v rfl rfl rfl (g_load T rfl rfl rfl rfl (in_elem1 (k := (Fl.int .i64)) (own_of s42 (j := 2) rfl) e43 c31 0 rfl)) ?_
                    iterate 2 refine atq_s T rfl ?_
                    refine atq_v rfl rfl rfl (g_index T rfl rfl rfl rfl rfl e44 c32.1 c32.2) ?_
                    refine atq_v rfl rfl rfl (g_load T rfl rfl rfl rfl (in_elem1 (k := (Fl.int .i64)) (own_of s41 (j := 1) rfl) e44 c32 0 rfl)) ?_
                    iterate 9 refine atq_s T rfl ?_
                    refine atq_end ?_
                    refine at_sub [(18, (.int .u8 (if 254 < (if (if 1 > y then 1 else y) < (if 1 > x then 1 else x) then (if 1 > y then 1 else y) else (if 1 > x then 1 else x)) then 254 else (if (if 1 > y then 1 else y) < (if 1 > x then 1 else x) then (if 1 > y then 1 else y) else (if 1 > x then 1 else x))))), (19, (.int .u8 (if (if 1 > y then 1 else y) > (if 1 > x then 1 else x) then (if 1 > y then 1 else y) else (if 1 > x then 1 else x)))), (22, (.slice a41 (List.length v27.1) n41)), (24, (.slice a42 (List.length v28.1) n42)), (26, (.int .i64 x32)), (137, (.bool (decide ((rd v28.1 x32) > (w64 ((w64 ((rd v27.1 x32) + (w64 (if (if 1 > y then 1 else y) > (if 1 > x then 1 else x) then (if 1 > y then 1 else y) else (if 1 > x then 1 else x))))) - (w64 (if 254 < (if (if 1 > y then 1 else y) < (if 1 > x then 1 else x) then (if 1 > y then 1 else y) else (if 1 > x then 1 else x)) then 254 else (if (if 1 > y then 1 else y) < (if 1 > x then 1 else x) then (if 1 > y then 1 else y) else (if 1 > x then 1 else x))))))))))] ⟨rfl, rfl, rfl, rfl, rfl, rfl, trivial⟩ ?_
                    refine at_then ?_
                    obtain rfl := Option.some.inj Z30
                    exact at_mid (decide ((rd v28.1 x32) > (w64 ((w64 ((rd v27.1 x32) + (w64 (if (if 1 > y then 1 else y) > (if 1 > x then 1 else x) then (if 1 > y then 1 else y) else (if 1 > x then 1 else x))))) - (w64 (if 254 < (if (if 1 > y then 1 else y) < (if 1 > x then 1 else x) then (if 1 > y then 1 else y) else (if 1 > x then 1 else x)) then 254 else (if (if 1 > y then 1 else y) < (if 1 > x then 1 else x) then (if 1 > y then 1 else y) else (if 1 > x then 1 else x)))))))) [0, 0, 0] rfl ⟨rfl, rfl, rfl, rfl, rfl, rfl, trivial⟩ rfl
                  · replace Z30 := if_f (of_decide_eq_false c35) Z30
                    iterate 17 refine atq_s T rfl ?_
                    refine atq_end ?_
                    refine at_sub [(18, (.int .u8 (if 254 < (if (if 1 > y then 1 else y) < (if 1 > x then 1 else x) then (if 1 > y then 1 else y) else (if 1 > x then 1 else x)) then 254 else (if (if 1 > y then 1 else y) < (if 1 > x then 1 else x) then (if 1 > y then 1 else y) else (if 1 > x then 1 else x))))), (19, (.int .u8 (if (if 1 > y then 1 else y) > (if 1 > x then 1 else x) then (if 1 > y then 1 else y) else (if 1 > x then 1 else x)))), (22, (.slice a41 (List.length v27.1) n41)), (24, (.slice a42 (List.length v28.1) n42)), (26, (.int .i64 x32)), (137, (.bool false))] ⟨rfl, rfl, rfl, rfl, rfl, rfl, trivial⟩ ?_
                    refine at_then ?_
                    obtain rfl := Option.some.inj Z30
                    exact at_mid false [0, 0, 0] rfl ⟨rfl, rfl, rfl, rfl, rfl, rfl, trivial⟩ rfl
                · replace Z30 := if_f (bf c34) Z30
                  iterate 24 refine atq_s T rfl ?_
                  refine atq_end ?_
                  refine at_sub [(18, (.int .u8 (if 254 < (if (if 1 > y then 1 else y) < (if 1 > x then 1 else x) then (if 1 > y then 1 else y) else (if 1 > x then 1 else x)) then 254 else (if (if 1 > y then 1 else y) < (if 1 > x then 1 else x) then (if 1 > y then 1 else y) else (if 1 > x then 1 else x))))), (19, (.int .u8 (if (if 1 > y then 1 else y) > (if 1 > x then 1 else x) then (if 1 > y then 1 else y) else (if 1 > x then 1 else x)))), (22, (.slice a41 (List.length v27.1) n41)), (24, (.slice a42 (List.length v28.1) n42)), (26, (.int .i64 x32)), (137, (.bool false))] ⟨rfl, rfl, rfl, rfl, rfl, rfl, trivial⟩ ?_
                  refine at_then ?_
                  obtain rfl := Option.some.inj Z30
                  exact at_mid false [0, 0, 0] rfl ⟨rfl, rfl, rfl, rfl, rfl, rfl, trivial⟩ rfl
            · rintro x34 rfl
              refine at_cond rfl (fun c36 => ?_) (fun c36 => ?_)
              · replace Z28 := if_t c36 Z28
                refine at_seq ?_
                refine at_region [0] rfl ?_
                refine at_s T rfl ?_
                refine at_end ?_
                refine at_to [(14, (.bool false))] [0] [F] ⟨rfl, trivial⟩ rfl ?_
                refine at_then ?_
                refine at_ret ?_
                refine at_rb ?_
                refine at_rt ?_
                refine at_rt ?_
                refine at_rb ?_
                refine at_rt ?_
                obtain rfl := Option.some.inj Z28
                exact at_post (T := T) rfl (.tmp rfl .nil) (fun w o => ⟨(), rfl, own_to [0] rfl o⟩)
              · replace Z28 := if_f (bf c36) Z28
                refine at_skip ?_
                refine at_nb ?_
                refine at_then ?_
                refine at_region [0, 1, 2] rfl ?_
                iterate 3 refine at_s T rfl ?_
                refine at_end ?_
                refine at_sub [(18, (.int .u8 (if 254 < (if (if 1 > y then 1 else y) < (if 1 > x then 1 else x) then (if 1 > y then 1 else y) else (if 1 > x then 1 else x)) then 254 else (if (if 1 > y then 1 else y) < (if 1 > x then 1 else x) then (if 1 > y then 1 else y) else (if 1 > x then 1 else x))))), (19, (.int .u8 (if (if 1 > y then 1 else y) > (if 1 > x then 1 else x) then (if 1 > y then 1 else y) else (if 1 > x then 1 else x)))), (22, (.slice a41 (List.length v27.1) n41)), (24, (.slice a42 (List.length v28.1) n42)), (26, (.int .i64 (w64 (x32 + 1))))] ⟨rfl, rfl, rfl, rfl, rfl, trivial⟩ ?_
                refine at_then ?_
                exact at_roundL (k33, (w64 (x32 + 1))) [0, 0, 0] Z28 (Nat.lt_succ_self _) ⟨rfl, rfl, rfl, rfl, rfl, trivial⟩ rfl
          · replace Z28 := if_f (of_decide_eq_false c29) Z28
            refine at_exit ?_
            refine at_xt ?_
            refine at_xt ?_
            refine at_xb ?_
            refine at_then ?_
            refine at_seq ?_
            refine at_region [0, 1] rfl ?_
            obtain ⟨v36, V37, Z28⟩ := bind_e Z28
            refine at_cons (at_c (B := fun _ => []) [] rfl rfl rfl rfl has37 rfl rfl (law17_told.c  v36 _ V37) (fun _ => ?_))
            refine at_s T rfl ?_
            refine at_end ?_
            refine at_to [(14, (.bool v36))] [0] [F] ⟨rfl, trivial⟩ rfl ?_
            refine at_then ?_
            refine at_ret ?_
            obtain rfl := Option.some.inj Z28
            exact at_post (T := T) rfl (.tmp rfl .nil) (fun w o => ⟨(), rfl, own_to [0] rfl o⟩)
def law17_FlatMore.Pure : Prop := ∀ (w : Int) (h : Int) (c : (List Int)) (goal : Int) (cell : Int) (x : Int) (y : Int), inI64 w → inI64 h → (∀ y ∈ c, inU8 y) → inI64 goal → inI64 cell → inU8 x → inU8 y → List.length c ≤ 9223372036854775807 → law17_FlatMore.f w h c goal cell x y = some true
end Go.Proofs.Ytmjcmkimhkjdeaa
