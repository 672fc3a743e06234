import Derived.Test.YtkidcebfpengmaaT
import Derived.Test.YtkidcebfpengmaaFlaw24
import Derived.Test.YtkidcebfpengmaaFmarch
import Derived.Test.YtkidcebfpengmaaFref1
import Derived.Test.YtkidcebfpengmaaFref21
namespace Go.Proofs.Ytkidcebfpengmaa
open Go.Hx
set_option maxRecDepth 100000
set_option linter.unusedVariables false
/-! ### herdsman/herdsmanlaw24.MarchAsks: function 3 -/
def law24_MarchAsks.f (w : Int) (h : Int) (l : (List api_Unit)) (d : (List Int)) (k : (List Int)) (raw : Bool) : Option Bool := (if (0 ≤ (0 : Int) ∧ (0 : Int) ≤ (if 20 < (List.length l : Int) then 20 else (List.length l : Int)) ∧ (if 20 < (List.length l : Int) then 20 else (List.length l : Int)) ≤ (List.length l : Int)) then (if (0 ≤ (0 : Int) ∧ (0 : Int) ≤ (if 20 < (List.length d : Int) then 20 else (List.length d : Int)) ∧ (if 20 < (List.length d : Int) then 20 else (List.length d : Int)) ≤ (List.length d : Int)) then (if (List.length ([] : List api_Unit) + List.length (sub' l 0 (if 20 < (List.length l : Int) then 20 else (List.length l : Int))) ≤ 1099511627776) then (if (List.length ([] : List Int) + List.length (sub' d 0 (if 20 < (List.length d : Int) then 20 else (List.length d : Int))) ≤ 1099511627776) then (some ((([] : List api_Unit) ++ (sub' l 0 (if 20 < (List.length l : Int) then 20 else (List.length l : Int)))), (([] : List Int) ++ (sub' d 0 (if 20 < (List.length d : Int) then 20 else (List.length d : Int)))))) else none) else none) else none) else none).bind fun (x1, x2) => (if (!raw) = true then ((ref1_Within.f w 1 8).bind fun v9 => (ref1_Within.f h 1 8).bind fun v10 => (ref21_Made.f v9 v10 k).bind fun v11 => (law24_dirs.f v11 k).bind fun v12 => some (v9, v10, v11, v12)) else (some (w, h, x1, x2))).bind fun (x4, x5, x6, x7) => if (List.length ([] : List api_Unit) + List.length x6 ≤ 1099511627776) then (if (List.length ([] : List Int) + List.length x7 ≤ 1099511627776) then ((march_Go.f x4 x5 x6 x7).bind fun v13 => ((ref21_Same.f x6 (([] : List api_Unit) ++ x6)).bind fun v16 => if (!v16) = true then (some true) else ((ref1_Ints.f x7 (([] : List Int) ++ x7)).bind fun v17 => some (!v17))).bind fun x14 => if x14 = true then (some false) else (((ref21_May.f x4 x5 x6).bind fun v20 => if (!v20) = true then (some true) else ((ref21_Dirs.f x7 (List.length x6 : Int)).bind fun v21 => some (!v21))).bind fun x18 => if x18 = true then ((law24_told.f).bind fun v22 => some ((((v22 && (v13.2.2.2 == 1)) && ((List.length v13.1 : Int) == 0)) && ((List.length v13.2.1 : Int) == 0)) && ((List.length v13.2.2.1 : Int) == 0))) else ((ref21_Go.f x4 x5 x6 x7).bind fun v23 => ((law24_told.f).bind fun v26 => if (v26 && (v13.2.2.2 == 0)) = true then ((ref21_Same.f v13.1 v23.1).bind fun v27 => if v27 = true then ((ref21_Moves.f v13.2.1 v23.2.1).bind fun v28 => if v28 = true then ((ref1_Ints.f v13.2.2.1 v23.2.2).bind fun v29 => some v29) else (some false)) else (some false)) else (some false)).bind fun x24 => some x24))) else none) else none
set_option maxHeartbeats 4000000 in
theorem law24_MarchAsks.c {a_l : Option Addr} {n_l : Nat} {a_d : Option Addr} {n_d : Nat} {a_k : Option Addr} {n_k : Nat} (w : Int) (h : Int) (l : (List api_Unit)) (d : (List Int)) (k : (List Int)) (raw : Bool) (r : Bool) (F : Hp) (H : law24_MarchAsks.f w h l d k raw = some r) (h_l : SliceR k_api_Unit l a_l F) (c_l : List.length l ≤ n_l) (h_d : SliceR (Fl.int .i64) d a_d F) (c_d : List.length d ≤ n_d) (h_k : SliceR (Fl.int .i64) k a_k F) (c_k : List.length k ≤ n_k) :
    CallsL Try.prog 3 [(.int .i64 w), (.int .i64 h), (.slice a_l (List.length l) n_l), (.slice a_d (List.length d) n_d), (.slice a_k (List.length k) n_k), (.bool raw)] [F] (fun _ : Unit => (.bool r)) (fun _ => [F]) := by
  unfold law24_MarchAsks.f at H
  refine calls_atL [(0, (.int .i64 w)), (1, (.int .i64 h)), (2, (.slice a_l (List.length l) n_l)), (3, (.slice a_d (List.length d) n_d)), (4, (.slice a_k (List.length k) n_k)), (5, (.bool raw))] Try.func3 rfl rfl ⟨rfl, rfl, rfl, rfl, rfl, rfl, trivial⟩ (fun W => ?_)
  refine at_seq ?_
  refine at_region [0] rfl ?_
  refine at_s T rfl ?_
  refine at_end ?_
  refine at_sub [(0, (.int .i64 w)), (1, (.int .i64 h)), (2, (.slice a_l (List.length l) n_l)), (3, (.slice a_d (List.length d) n_d)), (4, (.slice a_k (List.length k) n_k)), (5, (.bool raw))] ⟨rfl, rfl, rfl, rfl, rfl, rfl, trivial⟩ ?_
  refine at_then ?_
  obtain ⟨z3, Z1, H⟩ := bind_e H
  refine at_seq_mid (σ := List api_Unit × List Int × Option Addr × Nat × Hp × Option Addr × Nat × Hp) (fun ⟨x1, x2, a1, n1, H1, a2, n2, H2⟩ => (x1, x2) = z3 ∧ SliceO k_api_Unit 40 x1 a1 n1 H1 ∧ SliceO (Fl.int .i64) 3 x2 a2 n2 H2) (fun ⟨x1, x2, a1, n1, H1, a2, n2, H2⟩ => [(0, (.int .i64 w)), (1, (.int .i64 h)), (4, (.slice a_k (List.length k) n_k)), (5, (.bool raw)), (13, (.slice a1 (List.length x1) n1)), (14, (.slice a2 (List.length x2) n2))]) (fun ⟨x1, x2, a1, n1, H1, a2, n2, H2⟩ => [F, H1, H2]) ?_ ?_
  · refine at_region_m [[], [], [], [2], [2, 3], [1, 2, 3, 4], [0, 1, 2, 3, 4, 5], [], [], [], [9], [9, 10], [8, 9, 10, 11], [0, 1, 2, 3, 4, 5, 6, 7, 8, 9, 10, 11, 12], [0, 1, 2, 3, 4, 5, 6, 7, 8, 9, 10, 11, 12, 13], [0, 1, 2, 3, 4, 5, 6, 7, 8, 9, 10, 11, 12, 13, 14]] [] [F] mix (by kernel_rfl) (by repeat first | exact pf_body | refine pf_then ?_ | refine pf_block ?_) (fun hg pf => ?_)
    refine atm_s T 1 hg pf (by kernel_rfl) (still_o [0] rfl) rfl ?_
    refine atm_s T 2 hg pf (by kernel_rfl) (still_o [0] rfl) rfl ?_
    refine atm_s T 3 hg pf (by kernel_rfl) (still_o [0] rfl) rfl ?_
    refine atm_s T 4 hg pf (by kernel_rfl) (still_o [0] rfl) rfl ?_
    obtain ⟨c2, Z1⟩ := chk_e Z1
    refine atm_v 5 hg pf (by kernel_rfl) (still_o [0] rfl) rfl rfl (g_sub T rfl rfl rfl rfl rfl rfl c2 c_l) ?_
    refine atm_s T 8 hg pf (by kernel_rfl) (still_o [0] rfl) rfl ?_
    refine atm_s T 9 hg pf (by kernel_rfl) (still_o [0] rfl) rfl ?_
    refine atm_s T 10 hg pf (by kernel_rfl) (still_o [0] rfl) rfl ?_
    refine atm_s T 11 hg pf (by kernel_rfl) (still_o [0] rfl) rfl ?_
    obtain ⟨c3, Z1⟩ := chk_e Z1
    refine atm_v 12 hg pf (by kernel_rfl) (still_o [0] rfl) rfl rfl (g_sub T rfl rfl rfl rfl rfl rfl c3 c_d) ?_
    refine atm_two 0 7 (by kernel_rfl) ?_ ?_
    · refine at_bs (k := k_api_Unit) T ([] : List api_Unit) rfl rfl rfl rfl rfl rfl rfl rfl rfl (fun a3 H3 s3 => ?_)
      refine atm_next (still_o [0] rfl) ?_
      refine atm_two 6 7 (by kernel_rfl) ?_ ?_
      · obtain ⟨c4, Z1⟩ := chk_e Z1
        refine at_ap (k := k_api_Unit) (xs := ([] : List api_Unit)) T (g := 1) rfl rfl rfl rfl rfl rfl rfl rfl rfl rfl s3 (sub_r (ro_of h_l (j := 0) rfl) c2 c_l) c4 rfl (fun a4 n4 H4 s4 => ?_)
        refine atm_next (still_o [0] rfl) ?_
        refine atm_one 7 (by kernel_rfl) ?_
        refine at_bs (k := (Fl.int .i64)) T ([] : List Int) rfl rfl rfl rfl rfl rfl rfl rfl rfl (fun a5 H5 s5 => ?_)
        refine atm_next (still_o [0] rfl) ?_
        refine atm_one 13 (by kernel_rfl) ?_
        obtain ⟨c5, Z1⟩ := chk_e Z1
        refine at_ap (k := (Fl.int .i64)) (xs := ([] : List Int)) T (g := 2) rfl rfl rfl rfl rfl rfl rfl rfl rfl rfl s5 (sub_r (ro_of h_d (j := 0) rfl) c3 c_d) c5 rfl (fun a6 n6 H6 s6 => ?_)
        refine atm_next (still_o [0] rfl) ?_
        refine atm_s T 14 hg pf (by kernel_rfl) (still_o [0] rfl) rfl ?_
        refine atm_s T 15 hg pf (by kernel_rfl) (still_o [0] rfl) rfl ?_
        refine atm_end (by kernel_rfl) ?_
        refine at_sub [(0, (.int .i64 w)), (1, (.int .i64 h)), (4, (.slice a_k (List.length k) n_k)), (5, (.bool raw)), (13, (.slice a4 (List.length (([] : List api_Unit) ++ (sub' l 0 (if 20 < (List.length l : Int) then 20 else (List.length l : Int))))) n4)), (14, (.slice a6 (List.length (([] : List Int) ++ (sub' d 0 (if 20 < (List.length d : Int) then 20 else (List.length d : Int))))) n6))] ⟨rfl, rfl, rfl, rfl, rfl, rfl, trivial⟩ ?_
        refine at_then ?_
        obtain rfl := Option.some.inj Z1
        exact at_mid ((([] : List api_Unit) ++ (sub' l 0 (if 20 < (List.length l : Int) then 20 else (List.length l : Int)))), (([] : List Int) ++ (sub' d 0 (if 20 < (List.length d : Int) then 20 else (List.length d : Int)))), a4, n4, H4, a6, n6, H6) [0, 0, 0] ⟨rfl, s4, s6⟩ ⟨rfl, rfl, rfl, rfl, rfl, rfl, trivial⟩ rfl
      · refine at_bs (k := (Fl.int .i64)) T ([] : List Int) rfl rfl rfl rfl rfl rfl rfl rfl rfl (fun a7 H7 s7 => ?_)
        refine atm_next (still_o [0] rfl) ?_
        refine atm_one 6 (by kernel_rfl) ?_
        obtain ⟨c6, Z1⟩ := chk_e Z1
        refine at_ap (k := k_api_Unit) (xs := ([] : List api_Unit)) T (g := 1) rfl rfl rfl rfl rfl rfl rfl rfl rfl rfl s3 (sub_r (ro_of h_l (j := 0) rfl) c2 c_l) c6 rfl (fun a8 n8 H8 s8 => ?_)
        refine atm_next (still_o [0] rfl) ?_
        refine atm_one 13 (by kernel_rfl) ?_
        obtain ⟨c7, Z1⟩ := chk_e Z1
        refine at_ap (k := (Fl.int .i64)) (xs := ([] : List Int)) T (g := 2) rfl rfl rfl rfl rfl rfl rfl rfl rfl rfl s7 (sub_r (ro_of h_d (j := 0) rfl) c3 c_d) c7 rfl (fun a9 n9 H9 s9 => ?_)
        refine atm_next (still_o [0] rfl) ?_
        refine atm_s T 14 hg pf (by kernel_rfl) (still_o [0] rfl) rfl ?_
        refine atm_s T 15 hg pf (by kernel_rfl) (still_o [0] rfl) rfl ?_
        refine atm_end (by kernel_rfl) ?_
        refine at_sub [(0, (.int .i64 w)), (1, (.int .i64 h)), (4, (.slice a_k (List.length k) n_k)), (5, (.bool raw)), (13, (.slice a8 (List.length (([] : List api_Unit) ++ (sub' l 0 (if 20 < (List.length l : Int) then 20 else (List.length l : Int))))) n8)), (14, (.slice a9 (List.length (([] : List Int) ++ (sub' d 0 (if 20 < (List.length d : Int) then 20 else (List.length d : Int))))) n9))] ⟨rfl, rfl, rfl, rfl, rfl, rfl, trivial⟩ ?_
        refine at_then ?_
        obtain rfl := Option.some.inj Z1
        exact at_mid ((([] : List api_Unit) ++ (sub' l 0 (if 20 < (List.length l : Int) then 20 else (List.length l : Int)))), (([] : List Int) ++ (sub' d 0 (if 20 < (List.length d : Int) then 20 else (List.length d : Int)))), a8, n8, H8, a9, n9, H9) [0, 0, 0] ⟨rfl, s8, s9⟩ ⟨rfl, rfl, rfl, rfl, rfl, rfl, trivial⟩ rfl
    · refine at_bs (k := (Fl.int .i64)) T ([] : List Int) rfl rfl rfl rfl rfl rfl rfl rfl rfl (fun a10 H10 s10 => ?_)
      refine atm_next (still_o [0] rfl) ?_
      refine atm_one 0 (by kernel_rfl) ?_
      refine at_bs (k := k_api_Unit) T ([] : List api_Unit) rfl rfl rfl rfl rfl rfl rfl rfl rfl (fun a11 H11 s11 => ?_)
      refine atm_next (still_o [0] rfl) ?_
      refine atm_one 6 (by kernel_rfl) ?_
      obtain ⟨c8, Z1⟩ := chk_e Z1
      refine at_ap (k := k_api_Unit) (xs := ([] : List api_Unit)) T (g := 2) rfl rfl rfl rfl rfl rfl rfl rfl rfl rfl s11 (sub_r (ro_of h_l (j := 0) rfl) c2 c_l) c8 rfl (fun a12 n12 H12 s12 => ?_)
      refine atm_next (still_o [0] rfl) ?_
      refine atm_one 13 (by kernel_rfl) ?_
      obtain ⟨c9, Z1⟩ := chk_e Z1
      refine at_ap (k := (Fl.int .i64)) (xs := ([] : List Int)) T (g := 1) rfl rfl rfl rfl rfl rfl rfl rfl rfl rfl s10 (sub_r (ro_of h_d (j := 0) rfl) c3 c_d) c9 rfl (fun a13 n13 H13 s13 => ?_)
      refine atm_next (still_o [0] rfl) ?_
      refine atm_s T 14 hg pf (by kernel_rfl) (still_o [0] rfl) rfl ?_
      refine atm_s T 15 hg pf (by kernel_rfl) (still_o [0] rfl) rfl ?_
      refine atm_end (by kernel_rfl) ?_
      refine at_sub [(0, (.int .i64 w)), (1, (.int .i64 h)), (4, (.slice a_k (List.length k) n_k)), (5, (.bool raw)), (13, (.slice a12 (List.length (([] : List api_Unit) ++ (sub' l 0 (if 20 < (List.length l : Int) then 20 else (List.length l : Int))))) n12)), (14, (.slice a13 (List.length (([] : List Int) ++ (sub' d 0 (if 20 < (List.length d : Int) then 20 else (List.length d : Int))))) n13))] ⟨rfl, rfl, rfl, rfl, rfl, rfl, trivial⟩ ?_
      refine at_then ?_
      obtain rfl := Option.some.inj Z1
      exact at_mid ((([] : List api_Unit) ++ (sub' l 0 (if 20 < (List.length l : Int) then 20 else (List.length l : Int)))), (([] : List Int) ++ (sub' d 0 (if 20 < (List.length d : Int) then 20 else (List.length d : Int)))), a12, n12, H12, a13, n13, H13) [0, 1, 0] ⟨rfl, s12, s13⟩ ⟨rfl, rfl, rfl, rfl, rfl, rfl, trivial⟩ rfl
  · rintro ⟨x1, x2, a1, n1, H1, a2, n2, H2⟩ ⟨rfl, s1, s2⟩
    obtain ⟨z8, Z10, H⟩ := bind_e H
    refine at_seq_mid (σ := Int × Int × List api_Unit × List Int × Option Addr × Nat × Hp × Option Addr × Nat × Hp) (fun ⟨x4, x5, x6, x7, a14, n14, H14, a15, n15, H15⟩ => (x4, x5, x6, x7) = z8 ∧ SliceO k_api_Unit 40 x6 a14 n14 H14 ∧ SliceO (Fl.int .i64) 3 x7 a15 n15 H15) (fun ⟨x4, x5, x6, x7, a14, n14, H14, a15, n15, H15⟩ => [(0, (.int .i64 x4)), (1, (.int .i64 x5)), (13, (.slice a14 (List.length x6) n14)), (14, (.slice a15 (List.length x7) n15))]) (fun ⟨x4, x5, x6, x7, a14, n14, H14, a15, n15, H15⟩ => [F, H14, H15]) ?_ ?_
    · refine at_seq ?_
      refine at_region [0, 1] rfl ?_
      iterate 2 refine at_s T rfl ?_
      refine at_end ?_
      refine at_sub [(0, (.int .i64 w)), (1, (.int .i64 h)), (4, (.slice a_k (List.length k) n_k)), (13, (.slice a1 (List.length x1) n1)), (14, (.slice a2 (List.length x2) n2)), (39, (.bool (!raw)))] ⟨rfl, rfl, rfl, rfl, rfl, rfl, trivial⟩ ?_
      refine at_then ?_
      refine at_cond rfl (fun c11 => ?_) (fun c11 => ?_)
      · replace Z10 := if_t c11 Z10
        refine at_seq ?_
        refine at_region [0, 1, 2, 3, 4, 5] rfl ?_
        refine at_s T rfl ?_
        obtain ⟨v9, V12, Z10⟩ := bind_e Z10
        refine at_cons (at_c (B := fun _ => []) [] rfl rfl rfl rfl has12 rfl rfl (ref1_Within.c w 1 8 v9 _ V12) (fun _ => ?_))
        refine at_s T rfl ?_
        obtain ⟨v10, V13, Z10⟩ := bind_e Z10
        refine at_cons (at_c (B := fun _ => []) [] rfl rfl rfl rfl has12 rfl rfl (ref1_Within.c h 1 8 v10 _ V13) (fun _ => ?_))
        iterate 2 refine at_s T rfl ?_
        refine at_end ?_
        refine at_to [(0, (.int .i64 v9)), (1, (.int .i64 v10)), (4, (.slice a_k (List.length k) n_k))] [0] [F] ⟨rfl, rfl, rfl, trivial⟩ rfl ?_
        refine at_then ?_
        refine at_seq ?_
        refine at_region [0, 1, 2, 3, 4] rfl ?_
        iterate 3 refine at_s T rfl ?_
        obtain ⟨v11, V14, Z10⟩ := bind_e Z10
        refine at_cons (at_cR (ref21_Made.R v11) [] [] rfl rfl rfl rfl has13 rfl rfl (ref21_Made.c v9 v10 k v11 _ V14 (ro_of h_k (j := 0) rfl) c_k) ?_)
        rintro _ _ ⟨a16, n16, H16, s16, rfl, rfl⟩
        refine at_s T rfl ?_
        refine at_end ?_
        refine at_sub [(0, (.int .i64 v9)), (1, (.int .i64 v10)), (4, (.slice a_k (List.length k) n_k)), (13, (.slice a16 (List.length v11) n16))] ⟨rfl, rfl, rfl, rfl, trivial⟩ ?_
        refine at_then ?_
        refine at_region [0, 1, 2, 3] rfl ?_
        iterate 2 refine at_s T rfl ?_
        obtain ⟨v12, V15, Z10⟩ := bind_e Z10
        refine at_cons (at_cR (law24_dirs.R v12) [] [] rfl rfl rfl rfl has14 rfl rfl (law24_dirs.c v11 k v12 _ V15 (own_of s16 (j := 1) rfl) s16.cap_le (ro_of h_k (j := 0) rfl) c_k) ?_)
        rintro _ _ ⟨a17, n17, H17, s17, rfl, rfl⟩
        refine at_s T rfl ?_
        refine at_end ?_
        refine at_sub [(0, (.int .i64 v9)), (1, (.int .i64 v10)), (13, (.slice a16 (List.length v11) n16)), (14, (.slice a17 (List.length v12) n17))] ⟨rfl, rfl, rfl, rfl, trivial⟩ ?_
        refine at_then ?_
        obtain rfl := Option.some.inj Z10
        exact at_mid (v9, v10, v11, v12, a16, n16, H16, a17, n17, H17) [0, 0, 0] ⟨rfl, s16, s17⟩ ⟨rfl, rfl, rfl, rfl, trivial⟩ rfl
      · replace Z10 := if_f (bf c11) Z10
        refine at_skip ?_
        refine at_then ?_
        obtain rfl := Option.some.inj Z10
        exact at_mid (w, h, x1, x2, a1, n1, H1, a2, n2, H2) [0, 0, 0] ⟨rfl, s1, s2⟩ ⟨rfl, rfl, rfl, rfl, trivial⟩ rfl
    · rintro ⟨x4, x5, x6, x7, a14, n14, H14, a15, n15, H15⟩ ⟨rfl, s14, s15⟩
      refine at_seq ?_
      refine at_region [0, 1, 2, 3, 4, 5, 6, 7] rfl ?_
      refine at_cons (at_bs (k := k_api_Unit) T ([] : List api_Unit) rfl rfl rfl rfl rfl rfl rfl rfl rfl (fun a18 H18 s18 => ?_))
      refine at_s T rfl ?_
      obtain ⟨c16, H⟩ := chk_e H
      refine at_cons (at_ap (k := k_api_Unit) (xs := ([] : List api_Unit)) T (g := 3) rfl rfl rfl rfl rfl rfl rfl rfl rfl rfl s18 (own_of s14 (j := 1) rfl) c16 rfl (fun a19 n19 H19 s19 => ?_))
      refine at_cons (at_bs (k := (Fl.int .i64)) T ([] : List Int) rfl rfl rfl rfl rfl rfl rfl rfl rfl (fun a20 H20 s20 => ?_))
      refine at_s T rfl ?_
      obtain ⟨c17, H⟩ := chk_e H
      refine at_cons (at_ap (k := (Fl.int .i64)) (xs := ([] : List Int)) T (g := 4) rfl rfl rfl rfl rfl rfl rfl rfl rfl rfl s20 (own_of s15 (j := 2) rfl) c17 rfl (fun a21 n21 H21 s21 => ?_))
      iterate 2 refine at_s T rfl ?_
      refine at_end ?_
      refine at_sub [(0, (.int .i64 x4)), (1, (.int .i64 x5)), (13, (.slice a14 (List.length x6) n14)), (14, (.slice a15 (List.length x7) n15)), (15, (.slice a19 (List.length (([] : List api_Unit) ++ x6)) n19)), (16, (.slice a21 (List.length (([] : List Int) ++ x7)) n21))] ⟨rfl, rfl, rfl, rfl, rfl, rfl, trivial⟩ ?_
      refine at_then ?_
      refine at_seq ?_
      refine at_region [0, 1, 2, 3, 4, 5, 6, 7, 8, 9, 10, 11, 12, 13] rfl ?_
      iterate 4 refine at_s T rfl ?_
      obtain ⟨v13, V18, H⟩ := bind_e H
      refine at_cons (at_cR (march_Go.R v13) [] [] rfl rfl rfl rfl has15 rfl rfl (march_Go.c x4 x5 x6 x7 v13 _ V18 (own_of s14 (j := 1) rfl) s14.cap_le (own_of s15 (j := 2) rfl) s15.cap_le) ?_)
      rintro _ _ ⟨a22, n22, H22, a23, n23, H23, a24, n24, H24, s22, s23, s24, rfl, rfl⟩
      iterate 9 refine at_s T rfl ?_
      refine at_end ?_
      refine at_sub [(0, (.int .i64 x4)), (1, (.int .i64 x5)), (13, (.slice a14 (List.length x6) n14)), (14, (.slice a15 (List.length x7) n15)), (15, (.slice a19 (List.length (([] : List api_Unit) ++ x6)) n19)), (16, (.slice a21 (List.length (([] : List Int) ++ x7)) n21)), (17, (.slice a22 (List.length v13.1) n22)), (18, (.slice a23 (List.length v13.2.1) n23)), (19, (.slice a24 (List.length v13.2.2.1) n24)), (20, (.int .i64 v13.2.2.2))] ⟨rfl, rfl, rfl, rfl, rfl, rfl, rfl, rfl, rfl, rfl, trivial⟩ ?_
      refine at_then ?_
      refine at_seq ?_
      obtain ⟨z15, Z19, H⟩ := bind_e H
      refine at_seq_mid (σ := Bool) (fun x14 => x14 = z15) (fun x14 => [(0, (.int .i64 x4)), (1, (.int .i64 x5)), (13, (.slice a14 (List.length x6) n14)), (14, (.slice a15 (List.length x7) n15)), (17, (.slice a22 (List.length v13.1) n22)), (18, (.slice a23 (List.length v13.2.1) n23)), (19, (.slice a24 (List.length v13.2.2.1) n24)), (20, (.int .i64 v13.2.2.2)), (76, (.bool x14))]) (fun x14 => [F, H14, H15, H22, H23, H24]) ?_ ?_
      · refine at_region [0, 1, 2, 3, 4, 5, 6, 7, 8, 9] rfl ?_
        iterate 2 refine at_s T rfl ?_
        obtain ⟨v16, V20, Z19⟩ := bind_e Z19
        refine at_cons (at_c (B := fun _ => []) [] rfl rfl rfl rfl has16 rfl rfl (ref21_Same.c x6 (([] : List api_Unit) ++ x6) v16 _ V20 (own_of s14 (j := 1) rfl) s14.cap_le (own_of s19 (j := 3) rfl) s19.cap_le) (fun _ => ?_))
        iterate 2 refine at_s T rfl ?_
        refine at_case (s := 71) rfl (fun c21 => ?_) (fun c21 => ?_)
        · replace Z19 := if_t c21 Z19
          iterate 5 refine at_s T rfl ?_
          refine at_end ?_
          refine at_to [(0, (.int .i64 x4)), (1, (.int .i64 x5)), (13, (.slice a14 (List.length x6) n14)), (14, (.slice a15 (List.length x7) n15)), (17, (.slice a22 (List.length v13.1) n22)), (18, (.slice a23 (List.length v13.2.1) n23)), (19, (.slice a24 (List.length v13.2.2.1) n24)), (20, (.int .i64 v13.2.2.2)), (76, (.bool true))] [0, 0, 0, 2, 2, 2] [F, H14, H15, H22, H23, H24] ⟨rfl, rfl, rfl, rfl, rfl, rfl, rfl, rfl, rfl, trivial⟩ rfl ?_
          refine at_then ?_
          obtain rfl := Option.some.inj Z19
          exact at_mid true [0, 0, 0, 0, 0, 0] rfl ⟨rfl, rfl, rfl, rfl, rfl, rfl, rfl, rfl, rfl, trivial⟩ rfl
        · replace Z19 := if_f (bf c21) Z19
          iterate 2 refine at_s T rfl ?_
          obtain ⟨v17, V22, Z19⟩ := bind_e Z19
          refine at_cons (at_c (B := fun _ => []) [] rfl rfl rfl rfl has17 rfl rfl (ref1_Ints.c x7 (([] : List Int) ++ x7) v17 _ V22 (own_of s15 (j := 2) rfl) s15.cap_le (own_of s21 (j := 4) rfl) s21.cap_le) (fun _ => ?_))
          iterate 2 refine at_s T rfl ?_
          refine at_end ?_
          refine at_to [(0, (.int .i64 x4)), (1, (.int .i64 x5)), (13, (.slice a14 (List.length x6) n14)), (14, (.slice a15 (List.length x7) n15)), (17, (.slice a22 (List.length v13.1) n22)), (18, (.slice a23 (List.length v13.2.1) n23)), (19, (.slice a24 (List.length v13.2.2.1) n24)), (20, (.int .i64 v13.2.2.2)), (76, (.bool (!v17)))] [0, 0, 0, 2, 2, 2] [F, H14, H15, H22, H23, H24] ⟨rfl, rfl, rfl, rfl, rfl, rfl, rfl, rfl, rfl, trivial⟩ rfl ?_
          refine at_then ?_
          obtain rfl := Option.some.inj Z19
          exact at_mid (!v17) [0, 0, 0, 0, 0, 0] rfl ⟨rfl, rfl, rfl, rfl, rfl, rfl, rfl, rfl, rfl, trivial⟩ rfl
      · rintro x14 rfl
        refine at_cond rfl (fun c23 => ?_) (fun c23 => ?_)
        · replace H := if_t c23 H
          refine at_seq ?_
          refine at_region [0] rfl ?_
          refine at_s T rfl ?_
          refine at_end ?_
          refine at_to [(12, (.bool false))] [0] [F] ⟨rfl, trivial⟩ rfl ?_
          refine at_then ?_
          refine at_ret ?_
          refine at_rt ?_
          obtain rfl := Option.some.inj H
          exact at_post (T := T) rfl (.tmp rfl .nil) (fun w o => ⟨(), rfl, own_to [0] rfl o⟩)
        · replace H := if_f (bf c23) H
          refine at_skip ?_
          refine at_then ?_
          refine at_seq ?_
          obtain ⟨z19, Z24, H⟩ := bind_e H
          refine at_seq_mid (σ := Bool) (fun x18 => x18 = z19) (fun x18 => [(0, (.int .i64 x4)), (1, (.int .i64 x5)), (13, (.slice a14 (List.length x6) n14)), (14, (.slice a15 (List.length x7) n15)), (17, (.slice a22 (List.length v13.1) n22)), (18, (.slice a23 (List.length v13.2.1) n23)), (19, (.slice a24 (List.length v13.2.2.1) n24)), (20, (.int .i64 v13.2.2.2)), (88, (.bool x18))]) (fun x18 => [F, H14, H15, H22, H23, H24]) ?_ ?_
          · refine at_region [0, 1, 2, 3, 4, 5, 6, 7, 8, 9, 10, 11] rfl ?_
            iterate 3 refine at_s T rfl ?_
            obtain ⟨v20, V25, Z24⟩ := bind_e Z24
            refine at_cons (at_c (B := fun _ => []) [] rfl rfl rfl rfl has18 rfl rfl (ref21_May.c x4 x5 x6 v20 _ V25 (own_of s14 (j := 1) rfl) s14.cap_le) (fun _ => ?_))
            iterate 2 refine at_s T rfl ?_
            refine at_case (s := 82) rfl (fun c26 => ?_) (fun c26 => ?_)
            · replace Z24 := if_t c26 Z24
              iterate 6 refine at_s T rfl ?_
              refine at_end ?_
              refine at_sub [(0, (.int .i64 x4)), (1, (.int .i64 x5)), (13, (.slice a14 (List.length x6) n14)), (14, (.slice a15 (List.length x7) n15)), (17, (.slice a22 (List.length v13.1) n22)), (18, (.slice a23 (List.length v13.2.1) n23)), (19, (.slice a24 (List.length v13.2.2.1) n24)), (20, (.int .i64 v13.2.2.2)), (88, (.bool true))] ⟨rfl, rfl, rfl, rfl, rfl, rfl, rfl, rfl, rfl, trivial⟩ ?_
              refine at_then ?_
              obtain rfl := Option.some.inj Z24
              exact at_mid true [0, 0, 0, 0, 0, 0] rfl ⟨rfl, rfl, rfl, rfl, rfl, rfl, rfl, rfl, rfl, trivial⟩ rfl
            · replace Z24 := if_f (bf c26) Z24
              iterate 3 refine at_s T rfl ?_
              obtain ⟨v21, V27, Z24⟩ := bind_e Z24
              refine at_cons (at_c (B := fun _ => []) [] rfl rfl rfl rfl has19 rfl rfl (ref21_Dirs.c x7 (List.length x6 : Int) v21 _ V27 (own_of s15 (j := 2) rfl) s15.cap_le) (fun _ => ?_))
              iterate 2 refine at_s T rfl ?_
              refine at_end ?_
              refine at_sub [(0, (.int .i64 x4)), (1, (.int .i64 x5)), (13, (.slice a14 (List.length x6) n14)), (14, (.slice a15 (List.length x7) n15)), (17, (.slice a22 (List.length v13.1) n22)), (18, (.slice a23 (List.length v13.2.1) n23)), (19, (.slice a24 (List.length v13.2.2.1) n24)), (20, (.int .i64 v13.2.2.2)), (88, (.bool (!v21)))] ⟨rfl, rfl, rfl, rfl, rfl, rfl, rfl, rfl, rfl, trivial⟩ ?_
              refine at_then ?_
              obtain rfl := Option.some.inj Z24
              exact at_mid (!v21) [0, 0, 0, 0, 0, 0] rfl ⟨rfl, rfl, rfl, rfl, rfl, rfl, rfl, rfl, rfl, trivial⟩ rfl
          · rintro x18 rfl
            refine at_cond rfl (fun c28 => ?_) (fun c28 => ?_)
            · replace H := if_t c28 H
              refine at_seq ?_
              refine at_region [0, 1, 2, 3, 4, 5, 6, 7, 8, 9, 10, 11, 12, 13, 14, 15, 16, 17, 18, 19, 20] rfl ?_
              obtain ⟨v22, V29, H⟩ := bind_e H
              refine at_cons (at_c (B := fun _ => []) [] rfl rfl rfl rfl has20 rfl rfl (law24_told.c  v22 _ V29) (fun _ => ?_))
              refine at_s T rfl ?_
              refine at_grp T [2, 3, 4] (s := 90) (c := v22) [(17, (.slice a22 (List.length v13.1) n22)), (18, (.slice a23 (List.length v13.2.1) n23)), (19, (.slice a24 (List.length v13.2.2.1) n24)), (93, (.bool (v22 && (v13.2.2.2 == 1))))] rfl rfl rfl (fun c30 => ⟨rfl, rfl, rfl, (by rw [c30]; rfl), trivial⟩) (fun c30 => ⟨rfl, rfl, rfl, (by rw [c30]; rfl), trivial⟩) ?_
              refine at_s T rfl ?_
              refine at_grp T [6, 7, 8, 9] (s := 94) (c := (v22 && (v13.2.2.2 == 1))) [(18, (.slice a23 (List.length v13.2.1) n23)), (19, (.slice a24 (List.length v13.2.2.1) n24)), (98, (.bool ((v22 && (v13.2.2.2 == 1)) && ((List.length v13.1 : Int) == 0))))] rfl rfl rfl (fun c31 => ⟨rfl, rfl, (by rw [c31]; rfl), trivial⟩) (fun c31 => ⟨rfl, rfl, (by rw [c31]; rfl), trivial⟩) ?_
              refine at_s T rfl ?_
              refine at_grp T [11, 12, 13, 14] (s := 99) (c := ((v22 && (v13.2.2.2 == 1)) && ((List.length v13.1 : Int) == 0))) [(19, (.slice a24 (List.length v13.2.2.1) n24)), (103, (.bool (((v22 && (v13.2.2.2 == 1)) && ((List.length v13.1 : Int) == 0)) && ((List.length v13.2.1 : Int) == 0))))] rfl rfl rfl (fun c32 => ⟨rfl, (by rw [c32]; rfl), trivial⟩) (fun c32 => ⟨rfl, (by rw [c32]; rfl), trivial⟩) ?_
              refine at_s T rfl ?_
              refine at_grp T [16, 17, 18, 19] (s := 104) (c := (((v22 && (v13.2.2.2 == 1)) && ((List.length v13.1 : Int) == 0)) && ((List.length v13.2.1 : Int) == 0))) [(108, (.bool ((((v22 && (v13.2.2.2 == 1)) && ((List.length v13.1 : Int) == 0)) && ((List.length v13.2.1 : Int) == 0)) && ((List.length v13.2.2.1 : Int) == 0))))] rfl rfl rfl (fun c33 => ⟨(by rw [c33]; rfl), trivial⟩) (fun c33 => ⟨(by rw [c33]; rfl), trivial⟩) ?_
              refine at_s T rfl ?_
              refine at_end ?_
              refine at_to [(12, (.bool ((((v22 && (v13.2.2.2 == 1)) && ((List.length v13.1 : Int) == 0)) && ((List.length v13.2.1 : Int) == 0)) && ((List.length v13.2.2.1 : Int) == 0))))] [0] [F] ⟨rfl, trivial⟩ rfl ?_
              refine at_then ?_
              refine at_ret ?_
              refine at_rt ?_
              obtain rfl := Option.some.inj H
              exact at_post (T := T) rfl (.tmp rfl .nil) (fun w o => ⟨(), rfl, own_to [0] rfl o⟩)
            · replace H := if_f (bf c28) H
              refine at_skip ?_
              refine at_then ?_
              refine at_seq ?_
              refine at_region [0, 1, 2, 3, 4, 5, 6, 7, 8, 9, 10, 11] rfl ?_
              iterate 4 refine at_s T rfl ?_
              obtain ⟨v23, V34, H⟩ := bind_e H
              refine at_cons (at_cR (ref21_Go.R v23) [] [] rfl rfl rfl rfl has21 rfl rfl (ref21_Go.c x4 x5 x6 x7 v23 _ V34 (own_of s14 (j := 1) rfl) s14.cap_le (own_of s15 (j := 2) rfl) s15.cap_le) ?_)
              rintro _ _ ⟨a25, n25, H25, a26, n26, H26, a27, n27, H27, s25, s26, s27, rfl, rfl⟩
              iterate 7 refine at_s T rfl ?_
              refine at_end ?_
              refine at_to [(17, (.slice a22 (List.length v13.1) n22)), (18, (.slice a23 (List.length v13.2.1) n23)), (19, (.slice a24 (List.length v13.2.2.1) n24)), (20, (.int .i64 v13.2.2.2)), (21, (.slice a25 (List.length v23.1) n25)), (22, (.slice a26 (List.length v23.2.1) n26)), (23, (.slice a27 (List.length v23.2.2) n27))] [0, 2, 2, 2, 2, 2, 2] [F, H22, H23, H24, H25, H26, H27] ⟨rfl, rfl, rfl, rfl, rfl, rfl, rfl, trivial⟩ rfl ?_
              refine at_then ?_
              obtain ⟨z25, Z35, H⟩ := bind_e H
              refine at_seq_mid (σ := Bool) (fun x24 => x24 = z25) (fun x24 => [(12, (.bool x24))]) (fun x24 => [F]) ?_ ?_
              · refine at_region [0, 1, 2, 3, 4, 5, 6, 7, 8, 9, 10, 11, 12, 13, 14, 15, 16, 17, 18, 19, 20] rfl ?_
                obtain ⟨v26, V36, Z35⟩ := bind_e Z35
                refine at_cons (at_c (B := fun _ => []) [] rfl rfl rfl rfl has20 rfl rfl (law24_told.c  v26 _ V36) (fun _ => ?_))
                refine at_s T rfl ?_
                refine at_grp T [2, 3, 4] (s := 119) (c := v26) [(17, (.slice a22 (List.length v13.1) n22)), (18, (.slice a23 (List.length v13.2.1) n23)), (19, (.slice a24 (List.length v13.2.2.1) n24)), (21, (.slice a25 (List.length v23.1) n25)), (22, (.slice a26 (List.length v23.2.1) n26)), (23, (.slice a27 (List.length v23.2.2) n27)), (122, (.bool (v26 && (v13.2.2.2 == 0))))] rfl rfl rfl (fun c37 => ⟨rfl, rfl, rfl, rfl, rfl, rfl, (by rw [c37]; rfl), trivial⟩) (fun c37 => ⟨rfl, rfl, rfl, rfl, rfl, rfl, (by rw [c37]; rfl), trivial⟩) ?_
                refine at_s T rfl ?_
                refine at_case (s := 123) rfl (fun c38 => ?_) (fun c38 => ?_)
                · replace Z35 := if_t c38 Z35
                  iterate 2 refine at_s T rfl ?_
                  obtain ⟨v27, V39, Z35⟩ := bind_e Z35
                  refine at_cons (at_c (B := fun _ => []) [] rfl rfl rfl rfl has16 rfl rfl (ref21_Same.c v13.1 v23.1 v27 _ V39 (own_of s22 (j := 1) rfl) s22.cap_le (own_of s25 (j := 4) rfl) s25.cap_le) (fun _ => ?_))
                  iterate 2 refine at_s T rfl ?_
                  refine at_case (s := 128) rfl (fun c40 => ?_) (fun c40 => ?_)
                  · replace Z35 := if_t c40 Z35
                    iterate 2 refine at_s T rfl ?_
                    obtain ⟨v28, V41, Z35⟩ := bind_e Z35
                    refine at_cons (at_c (B := fun _ => []) [] rfl rfl rfl rfl has22 rfl rfl (ref21_Moves.c v13.2.1 v23.2.1 v28 _ V41 (own_of s23 (j := 2) rfl) s23.cap_le (own_of s26 (j := 5) rfl) s26.cap_le) (fun _ => ?_))
                    iterate 2 refine at_s T rfl ?_
                    refine at_case (s := 133) rfl (fun c42 => ?_) (fun c42 => ?_)
                    · replace Z35 := if_t c42 Z35
                      iterate 2 refine at_s T rfl ?_
                      obtain ⟨v29, V43, Z35⟩ := bind_e Z35
                      refine at_cons (at_c (B := fun _ => []) [] rfl rfl rfl rfl has17 rfl rfl (ref1_Ints.c v13.2.2.1 v23.2.2 v29 _ V43 (own_of s24 (j := 3) rfl) s24.cap_le (own_of s27 (j := 6) rfl) s27.cap_le) (fun _ => ?_))
                      iterate 2 refine at_s T rfl ?_
                      refine at_end ?_
                      refine at_to [(12, (.bool v29))] [0] [F] ⟨rfl, trivial⟩ rfl ?_
                      refine at_then ?_
                      obtain rfl := Option.some.inj Z35
                      exact at_mid v29 [0] rfl ⟨rfl, trivial⟩ rfl
                    · replace Z35 := if_f (bf c42) Z35
                      iterate 5 refine at_s T rfl ?_
                      refine at_end ?_
                      refine at_to [(12, (.bool false))] [0] [F] ⟨rfl, trivial⟩ rfl ?_
                      refine at_then ?_
                      obtain rfl := Option.some.inj Z35
                      exact at_mid false [0] rfl ⟨rfl, trivial⟩ rfl
                  · replace Z35 := if_f (bf c40) Z35
                    iterate 10 refine at_s T rfl ?_
                    refine at_end ?_
                    refine at_to [(12, (.bool false))] [0] [F] ⟨rfl, trivial⟩ rfl ?_
                    refine at_then ?_
                    obtain rfl := Option.some.inj Z35
                    exact at_mid false [0] rfl ⟨rfl, trivial⟩ rfl
                · replace Z35 := if_f (bf c38) Z35
                  iterate 15 refine at_s T rfl ?_
                  refine at_end ?_
                  refine at_to [(12, (.bool false))] [0] [F] ⟨rfl, trivial⟩ rfl ?_
                  refine at_then ?_
                  obtain rfl := Option.some.inj Z35
                  exact at_mid false [0] rfl ⟨rfl, trivial⟩ rfl
              · rintro x24 rfl
                refine at_ret ?_
                obtain rfl := Option.some.inj H
                exact at_post (T := T) rfl (.tmp rfl .nil) (fun w o => ⟨(), rfl, own_to [0] rfl o⟩)
def law24_MarchAsks.Pure : Prop := ∀ (w : Int) (h : Int) (l : (List api_Unit)) (d : (List Int)) (k : (List Int)) (raw : Bool), inI64 w → inI64 h → (∀ y ∈ l, (inI64 y.Id ∧ inI64 y.Cell ∧ inI64 y.Goal)) → (∀ y ∈ d, inI64 y) → (∀ y ∈ k, inI64 y) → List.length l ≤ 9223372036854775807 → List.length d ≤ 9223372036854775807 → List.length k ≤ 9223372036854775807 → law24_MarchAsks.f w h l d k raw = some true
end Go.Proofs.Ytkidcebfpengmaa
