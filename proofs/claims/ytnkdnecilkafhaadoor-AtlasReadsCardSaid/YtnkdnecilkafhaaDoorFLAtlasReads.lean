import Derived.Test.YtnkdnecilkafhaaDoorT
import Derived.Test.YtnkdnecilkafhaaDoorFatlas
import Derived.Test.YtnkdnecilkafhaaDoorFlaw4
import Derived.Test.YtnkdnecilkafhaaDoorFref1
namespace Go.Proofs.YtnkdnecilkafhaaDoor
open Go.Hx
set_option maxRecDepth 100000
set_option linter.unusedVariables false
noncomputable section
/-! ### herdsman/herdsmanlaw4.AtlasReads: function 3 -/
def law4_AtlasReads.l0 : Nat → (List Int) → Int → List Int → Int → Option (List Int)
  | 0, _, _, _, _ => none
  | k10 + 1, b, p4, x8, x9 => if ((decide (x9 < (List.length b : Int))) && (decide (x9 < 3))) = true then (if (0 ≤ x9 ∧ x9 < (List.length b : Int)) then ((ref1_Within.f (w64 (p4 + x9)) 0 (w64 ((List.length x8 : Int) - 1))).bind fun v11 => if (0 ≤ v11 ∧ v11 < (List.length x8 : Int)) then (law4_AtlasReads.l0 k10 b p4 (List.set x8 (Int.toNat v11) (rd b x9)) (w64 (x9 + 1))) else none) else none) else (some x8)
def law4_AtlasReads.f (b : (List Int)) (w : Int) (h : Int) (c : (List Int)) (p4 : Int) (raw : Bool) : Option Bool := if (List.length b : Int) > 1500 then ((law4_told.f).bind fun v1 => some v1) else (if (List.length ([] : List Int) + List.length b ≤ 1099511627776) then ((if (!raw) = true then ((ref1_Made.f w h c).bind fun v4 => (ref1_PutMap.f v4).bind fun v5 => law4_AtlasReads.l0 fuel b p4 v5 0) else (some (([] : List Int) ++ b))).bind fun x2 => (if (List.length x2 : Int) ≥ 4 then (if (0 ≤ (0 : Int) ∧ (0 : Int) < (List.length x2 : Int)) then (if (0 ≤ (1 : Int) ∧ (1 : Int) < (List.length x2 : Int)) then (if (0 ≤ (2 : Int) ∧ (2 : Int) < (List.length x2 : Int)) then (if (0 ≤ (3 : Int) ∧ (3 : Int) < (List.length x2 : Int)) then (some (decide ((w64 ((w64 ((w64 (rd x2 0)) + (w64 (256 * (w64 (rd x2 1)))))) * (w64 ((w64 (rd x2 2)) + (w64 (256 * (w64 (rd x2 3)))))))) > 60000))) else none) else none) else none) else none) else (some false)).bind fun x12 => if x12 = true then ((law4_told.f).bind fun v14 => some v14) else (if (List.length ([] : List Int) + List.length x2 ≤ 1099511627776) then ((atlas_Get.f x2).bind fun v15 => (ref1_GetMap.f x2).bind fun v16 => ((law4_told.f).bind fun v19 => if (v19 && (v15.2 == v16.2)) = true then ((ref1_SameMap.f v15.1 v16.1).bind fun v20 => if v20 = true then ((ref1_Bytes.f x2 (([] : List Int) ++ x2)).bind fun v21 => some v21) else (some false)) else (some false)).bind fun x17 => some x17) else none)) else none)
set_option maxHeartbeats 4000000 in
theorem law4_AtlasReads.c {el : Nat → Addr} {a_b : Option Addr} {n_b : Nat} {a_c : Option Addr} {n_c : Nat} (b : (List Int)) (w : Int) (h : Int) (c : (List Int)) (p4 : Int) (raw : Bool) (r : Bool) (F : Hp) (H : law4_AtlasReads.f b w h c p4 raw = some r) (hG : Glb 142 gs_ lits_ el F) (h_b : SliceR (Fl.int .u8) b a_b F) (c_b : List.length b ≤ n_b) (h_c : SliceR (Fl.int .u8) c a_c F) (c_c : List.length c ≤ n_c) :
    CallsL Tryd.prog 3 [(.slice a_b (List.length b) n_b), (.int .i64 w), (.int .i64 h), (.slice a_c (List.length c) n_c), (.int .i64 p4), (.bool raw)] [F] (fun _ : Unit => (.bool r)) (fun _ => [F]) := by
  unfold law4_AtlasReads.f at H
  refine calls_atL [(0, (.slice a_b (List.length b) n_b)), (1, (.int .i64 w)), (2, (.int .i64 h)), (3, (.slice a_c (List.length c) n_c)), (4, (.int .i64 p4)), (5, (.bool raw))] Tryd.func3 rfl rfl ⟨rfl, rfl, rfl, rfl, rfl, rfl, trivial⟩ (fun W => ?_)
  refine at_seq ?_
  refine at_region [0] rfl ?_
  refine at_s T rfl ?_
  refine at_end ?_
  refine at_sub [(0, (.slice a_b (List.length b) n_b)), (1, (.int .i64 w)), (2, (.int .i64 h)), (3, (.slice a_c (List.length c) n_c)), (4, (.int .i64 p4)), (5, (.bool raw))] ⟨rfl, rfl, rfl, rfl, rfl, rfl, trivial⟩ ?_
  refine at_then ?_
  refine at_seq ?_
  refine at_seq ?_
  refine at_region [0, 1, 2] rfl ?_
  iterate 3 refine at_s T rfl ?_
  refine at_end ?_
  refine at_sub [(0, (.slice a_b (List.length b) n_b)), (1, (.int .i64 w)), (2, (.int .i64 h)), (3, (.slice a_c (List.length c) n_c)), (4, (.int .i64 p4)), (5, (.bool raw)), (22, (.bool (decide ((List.length b : Int) > 1500))))] ⟨rfl, rfl, rfl, rfl, rfl, rfl, rfl, trivial⟩ ?_
  refine at_then ?_
  refine at_cond rfl (fun c1 => ?_) (fun c1 => ?_)
  · replace H := if_t (of_decide_eq_true c1) H
    refine at_seq ?_
    refine at_region [0, 1] rfl ?_
    obtain ⟨v1, V2, H⟩ := bind_e H
    refine at_cons (at_c (B := fun _ => []) [] rfl rfl rfl rfl has9 rfl rfl (law4_told.c  v1 _ V2 (glb_of hG (j := 0) rfl)) (fun _ => ?_))
    refine at_s T rfl ?_
    refine at_end ?_
    refine at_sub [(12, (.bool v1))] ⟨rfl, trivial⟩ ?_
    refine at_then ?_
    refine at_ret ?_
    refine at_rt ?_
    obtain rfl := Option.some.inj H
    exact at_post (T := T) rfl (.tmp rfl .nil) (fun w o => ⟨(), rfl, own_to [0] rfl o⟩)
  · replace H := if_f (of_decide_eq_false c1) H
    refine at_skip ?_
    refine at_then ?_
    refine at_seq ?_
    refine at_region [0, 1, 2, 3] rfl ?_
    refine at_cons (at_bs (k := (Fl.int .u8)) T ([] : List Int) rfl rfl rfl rfl rfl rfl rfl rfl rfl (fun a1 H1 s1 => ?_))
    refine at_s T rfl ?_
    obtain ⟨c3, H⟩ := chk_e H
    refine at_cons (at_ap (k := (Fl.int .u8)) (xs := ([] : List Int)) T (g := 1) rfl rfl rfl rfl rfl rfl rfl rfl rfl rfl s1 (ro_of h_b (j := 0) rfl) c3 rfl (fun a2 n2 H2 s2 => ?_))
    refine at_s T rfl ?_
    refine at_end ?_
    refine at_sub [(0, (.slice a_b (List.length b) n_b)), (1, (.int .i64 w)), (2, (.int .i64 h)), (3, (.slice a_c (List.length c) n_c)), (4, (.int .i64 p4)), (5, (.bool raw)), (13, (.slice a2 (List.length (([] : List Int) ++ b)) n2))] ⟨rfl, rfl, rfl, rfl, rfl, rfl, rfl, trivial⟩ ?_
    refine at_then ?_
    obtain ⟨z3, Z4, H⟩ := bind_e H
    refine at_seq_mid (σ := List Int × Option Addr × Nat × Hp) (fun ⟨x2, a3, n3, H3⟩ => x2 = z3 ∧ SliceO (Fl.int .u8) 5 x2 a3 n3 H3) (fun ⟨x2, a3, n3, H3⟩ => [(13, (.slice a3 (List.length x2) n3))]) (fun ⟨x2, a3, n3, H3⟩ => [F, H3]) ?_ ?_
    · refine at_seq ?_
      refine at_region [0, 1] rfl ?_
      iterate 2 refine at_s T rfl ?_
      refine at_end ?_
      refine at_sub [(0, (.slice a_b (List.length b) n_b)), (1, (.int .i64 w)), (2, (.int .i64 h)), (3, (.slice a_c (List.length c) n_c)), (4, (.int .i64 p4)), (13, (.slice a2 (List.length (([] : List Int) ++ b)) n2)), (28, (.bool (!raw)))] ⟨rfl, rfl, rfl, rfl, rfl, rfl, rfl, trivial⟩ ?_
      refine at_then ?_
      refine at_cond rfl (fun c5 => ?_) (fun c5 => ?_)
      · replace Z4 := if_t c5 Z4
        refine at_seq ?_
        refine at_region [0, 1, 2, 3, 4, 5] rfl ?_
        iterate 3 refine at_s T rfl ?_
        obtain ⟨v4, V6, Z4⟩ := bind_e Z4
        refine at_cons (at_cR (ref1_Made.R v4) [] [] rfl rfl rfl rfl has11 rfl rfl (ref1_Made.c w h c v4 _ V6 (ro_of h_c (j := 0) rfl) c_c) ?_)
        rintro _ _ ⟨a4, n4, H4, s4, rfl, rfl⟩
        obtain ⟨v5, V7, Z4⟩ := bind_e Z4
        refine at_cons (at_cR (ref1_PutMap.R v5) [] [] rfl rfl rfl rfl has10 rfl rfl (ref1_PutMap.c v4 v5 _ V7 (own_of s4 (j := 2) rfl) s4.cap_le) ?_)
        rintro _ _ ⟨a5, n5, H5, s5, rfl, rfl⟩
        refine at_s T rfl ?_
        refine at_end ?_
        refine at_to [(0, (.slice a_b (List.length b) n_b)), (4, (.int .i64 p4)), (13, (.slice a5 (List.length v5) n5))] [0, 2] [F, H5] ⟨rfl, rfl, rfl, trivial⟩ rfl ?_
        refine at_then ?_
        refine at_seq ?_
        refine at_region [0] rfl ?_
        refine at_s T rfl ?_
        refine at_end ?_
        refine at_sub [(0, (.slice a_b (List.length b) n_b)), (4, (.int .i64 p4)), (13, (.slice a5 (List.length v5) n5)), (14, (.int .i64 0))] ⟨rfl, rfl, rfl, rfl, trivial⟩ ?_
        refine at_then ?_
        refine at_block ?_
        refine at_loopL (σ := Nat × List Int × Int × Option Addr × Nat × Hp) (fun ⟨k10, x8, x9, a7, n7, H7⟩ => law4_AtlasReads.l0 k10 b p4 x8 x9 = some z3 ∧ SliceO (Fl.int .u8) 5 x8 a7 n7 H7) (fun ⟨k10, x8, x9, a7, n7, H7⟩ => [(0, (.slice a_b (List.length b) n_b)), (4, (.int .i64 p4)), (13, (.slice a7 (List.length x8) n7)), (14, (.int .i64 x9))]) (fun ⟨k10, x8, x9, a7, n7, H7⟩ => [F, H7]) (fun s => s.1) (fuel, v5, 0, a5, n5, H5) [0, 0] ⟨Z4, s5⟩ ⟨rfl, rfl, rfl, rfl, trivial⟩ rfl ?_
        rintro ⟨k10, x8, x9, a7, n7, H7⟩ ⟨Z8, s7⟩
        replace Z8 : law4_AtlasReads.l0 k10 b p4 x8 x9 = some z3 := Z8
        rcases k10 with _ | k10
        · rw [law4_AtlasReads.l0] at Z8; cases Z8
        · rw [law4_AtlasReads.l0] at Z8
          refine at_seq ?_
          refine at_seq ?_
          refine at_region [0, 1, 2, 3, 4, 5, 6, 7] rfl ?_
          iterate 5 refine at_s T rfl ?_
          refine at_grp T [5, 6, 7] (s := 38) (c := (decide (x9 < (List.length b : Int)))) [(0, (.slice a_b (List.length b) n_b)), (4, (.int .i64 p4)), (13, (.slice a7 (List.length x8) n7)), (14, (.int .i64 x9)), (41, (.bool ((decide (x9 < (List.length b : Int))) && (decide (x9 < 3)))))] rfl rfl rfl (fun c9 => ⟨rfl, rfl, rfl, rfl, (by rw [c9]; rfl), trivial⟩) (fun c9 => ⟨rfl, rfl, rfl, rfl, (by rw [c9]; rfl), trivial⟩) ?_
          refine at_end ?_
          refine at_sub [(0, (.slice a_b (List.length b) n_b)), (4, (.int .i64 p4)), (13, (.slice a7 (List.length x8) n7)), (14, (.int .i64 x9)), (41, (.bool ((decide (x9 < (List.length b : Int))) && (decide (x9 < 3)))))] ⟨rfl, rfl, rfl, rfl, rfl, trivial⟩ ?_
          refine at_then ?_
          refine at_cond rfl (fun c10 => ?_) (fun c10 => ?_)
          · replace Z8 := if_t c10 Z8
            refine at_skip ?_
            refine at_then ?_
            refine at_seq ?_
            refine at_block ?_
            refine at_region_m [[], [], [], [1, 2], [], [4], [4, 5], [1, 2, 3, 4, 5, 6], [], [], [8, 9], [8, 9, 10], [0, 1, 2, 3, 4, 5, 6, 7, 8, 9, 10, 11], [0, 1, 2, 3, 4, 5, 6, 7, 8, 9, 10, 11, 12]] [13] [F, H7] mix (by kernel_rfl) (by repeat first | exact pf_body | refine pf_then ?_ | refine pf_block ?_) (fun hg pf => ?_)
            refine atm_s T 0 hg pf (by kernel_rfl) (still_o [0, 0] rfl) rfl ?_
            refine atm_s T 1 hg pf (by kernel_rfl) (still_o [0, 0] rfl) rfl ?_
            refine atm_s T 2 hg pf (by kernel_rfl) (still_o [0, 0] rfl) rfl ?_
            refine atm_s T 3 hg pf (by kernel_rfl) (still_o [0, 0] rfl) rfl ?_
            refine atm_s T 4 hg pf (by kernel_rfl) (still_o [0, 0] rfl) rfl ?_
            refine atm_s T 5 hg pf (by kernel_rfl) (still_o [0, 0] rfl) rfl ?_
            refine atm_s T 6 hg pf (by kernel_rfl) (still_o [0, 0] rfl) rfl ?_
            refine atm_s T 8 hg pf (by kernel_rfl) (still_o [0, 0] rfl) rfl ?_
            refine atm_s T 9 hg pf (by kernel_rfl) (still_o [0, 0] rfl) rfl ?_
            obtain ⟨c11, Z8⟩ := chk_e Z8
            obtain ⟨q8, o8, e8⟩ := h_b.addr c11.1 c11.2
            refine atm_v 10 hg pf (by kernel_rfl) (still_o [0, 0] rfl) rfl rfl (g_index T rfl rfl rfl rfl rfl e8 c11.1 c11.2) ?_
            refine atm_v 11 hg pf (by kernel_rfl) (still_o [0, 0] rfl) rfl rfl (g_load T rfl rfl rfl rfl (in_elem1 (k := (Fl.int .u8)) (ro_of h_b (j := 0) rfl) e8 c11 0 rfl)) ?_
            refine atm_one 7 (by kernel_rfl) ?_
            obtain ⟨v11, V12, Z8⟩ := bind_e Z8
            refine at_c (B := fun _ => []) [] rfl rfl rfl rfl has12 rfl rfl (ref1_Within.c (w64 (p4 + x9)) 0 (w64 ((List.length x8 : Int) - 1)) v11 _ V12) (fun _ => ?_)
            refine atm_next (still_o [0, 0] rfl) ?_
            obtain ⟨c13, Z8⟩ := chk_e Z8
            obtain ⟨q9, o9, e9⟩ := s7.r.addr c13.1 c13.2
            refine atm_v 12 hg pf (by kernel_rfl) (still_o [0, 0] rfl) rfl rfl (g_index T rfl rfl rfl rfl rfl e9 c13.1 c13.2) ?_
            refine atm_one 13 (by kernel_rfl) ?_
            refine at_se (k := (Fl.int .u8)) T 1 0 (rd b x9) rfl rfl rfl rfl rfl rfl s7 e9 c13 rfl rfl rfl (fun H10 s10 => ?_)
            refine at_to [(0, (.slice a_b (List.length b) n_b)), (4, (.int .i64 p4)), (13, (.slice a7 (List.length (List.set x8 (Int.toNat v11) (rd b x9))) n7)), (14, (.int .i64 x9)), (41, (.bool ((decide (x9 < (List.length b : Int))) && (decide (x9 < 3))))), (44, (.slice a7 (List.length (List.set x8 (Int.toNat v11) (rd b x9))) n7)), (45, (.int .i64 p4)), (46, (.int .i64 x9)), (47, (.int .i64 (w64 (p4 + x9)))), (48, (.slice a7 (List.length (List.set x8 (Int.toNat v11) (rd b x9))) n7)), (49, (.int .i64 (List.length x8 : Int))), (50, (.int .i64 (w64 ((List.length x8 : Int) - 1)))), (51, (.int .i64 v11)), (52, (.slice a_b (List.length b) n_b)), (53, (.int .i64 x9)), (54, (.pointer (some ⟨q8, o8 + Int.toNat x9 * 1, none⟩))), (55, (.int .u8 (rd b x9))), (56, (.pointer (some ⟨q9, o9 + Int.toNat v11 * 1, none⟩)))] [0, 0] [F, H10] ⟨rfl, rfl, (by first | rfl | (simp only [List.length_set]; rfl)), rfl, rfl, (by first | rfl | (simp only [List.length_set]; rfl)), rfl, rfl, rfl, (by first | rfl | (simp only [List.length_set]; rfl)), rfl, rfl, rfl, rfl, rfl, rfl, rfl, rfl, trivial⟩ rfl ?_
            refine atm_next (still_l (by kernel_rfl)) ?_
            refine atm_end (by kernel_rfl) ?_
            refine at_sub [(0, (.slice a_b (List.length b) n_b)), (4, (.int .i64 p4)), (13, (.slice a7 (List.length (List.set x8 (Int.toNat v11) (rd b x9))) n7)), (14, (.int .i64 x9))] ⟨rfl, rfl, rfl, rfl, trivial⟩ ?_
            refine at_nb ?_
            refine at_then ?_
            refine at_region [0, 1, 2] rfl ?_
            iterate 3 refine at_s T rfl ?_
            refine at_end ?_
            refine at_sub [(0, (.slice a_b (List.length b) n_b)), (4, (.int .i64 p4)), (13, (.slice a7 (List.length (List.set x8 (Int.toNat v11) (rd b x9))) n7)), (14, (.int .i64 (w64 (x9 + 1))))] ⟨rfl, rfl, rfl, rfl, trivial⟩ ?_
            refine at_then ?_
            exact at_roundL (k10, (List.set x8 (Int.toNat v11) (rd b x9)), (w64 (x9 + 1)), a7, n7, H10) [0, 0] ⟨Z8, s10⟩ (Nat.lt_succ_self _) ⟨rfl, rfl, rfl, rfl, trivial⟩ rfl
          · replace Z8 := if_f (bf c10) Z8
            refine at_exit ?_
            refine at_xt ?_
            refine at_xt ?_
            refine at_xb ?_
            refine at_then ?_
            obtain rfl := Option.some.inj Z8
            exact at_mid (x8, a7, n7, H7) [0, 0] ⟨rfl, s7⟩ ⟨rfl, trivial⟩ rfl
      · replace Z4 := if_f (bf c5) Z4
        refine at_skip ?_
        refine at_then ?_
        obtain rfl := Option.some.inj Z4
        exact at_mid ((([] : List Int) ++ b), a2, n2, H2) [0, 0] ⟨rfl, s2⟩ ⟨rfl, trivial⟩ rfl
    · rintro ⟨x2, a3, n3, H3⟩ ⟨rfl, s3⟩
      refine at_seq ?_
      obtain ⟨z13, Z14, H⟩ := bind_e H
      refine at_seq_mid (σ := Bool) (fun x12 => x12 = z13) (fun x12 => [(13, (.slice a3 (List.length x2) n3)), (83, (.bool x12))]) (fun x12 => [F, H3]) ?_ ?_
      · refine at_region_q mix (by kernel_rfl) ?_
        iterate 4 refine atq_s T rfl ?_
        refine atq_case (s := 60) rfl (fun c15 => ?_) (fun c15 => ?_)
        · replace Z14 := if_t (of_decide_eq_true c15) Z14
          refine atq_s T rfl ?_
          obtain ⟨c16, Z14⟩ := chk_e Z14
          obtain ⟨q11, o11, e11⟩ := s3.r.addr c16.1 c16.2
          refine atq_v rfl rfl rfl (g_index T rfl rfl rfl rfl rfl e11 c16.1 c16.2) ?_
          refine atq_v rfl rfl rfl (g_load T rfl rfl rfl rfl (in_elem1 (k := (Fl.int .u8)) (own_of s3 (j := 1) rfl) e11 c16 0 rfl)) ?_
          iterate 2 refine atq_s T rfl ?_
          obtain ⟨c17, Z14⟩ := chk_e Z14
          refine atq_v rfl rfl rfl (g_index T rfl rfl rfl rfl rfl e11 c17.1 c17.2) ?_
          refine atq_v rfl rfl rfl (g_load T rfl rfl rfl rfl (in_elem1 (k := (Fl.int .u8)) (own_of s3 (j := 1) rfl) e11 c17 0 rfl)) ?_
          iterate 4 refine atq_s T rfl ?_
          obtain ⟨c18, Z14⟩ := chk_e Z14
          refine atq_v rfl rfl rfl (g_index T rfl rfl rfl rfl rfl e11 c18.1 c18.2) ?_
          refine atq_v rfl rfl rfl (g_load T rfl rfl rfl rfl (in_elem1 (k := (Fl.int .u8)) (own_of s3 (j := 1) rfl) e11 c18 0 rfl)) ?_
          iterate 2 refine atq_s T rfl ?_
          obtain ⟨c19, Z14⟩ := chk_e Z14
          refine atq_v rfl rfl rfl (g_index T rfl rfl rfl rfl rfl e11 c19.1 c19.2) ?_
          refine atq_v rfl rfl rfl (g_load T rfl rfl rfl rfl (in_elem1 (k := (Fl.int .u8)) (own_of s3 (j := 1) rfl) e11 c19 0 rfl)) ?_
          iterate 6 refine atq_s T rfl ?_
          refine atq_end ?_
          refine at_sub [(13, (.slice a3 (List.length x2) n3)), (83, (.bool (decide ((w64 ((w64 ((w64 (rd x2 0)) + (w64 (256 * (w64 (rd x2 1)))))) * (w64 ((w64 (rd x2 2)) + (w64 (256 * (w64 (rd x2 3)))))))) > 60000))))] ⟨rfl, rfl, trivial⟩ ?_
          refine at_then ?_
          obtain rfl := Option.some.inj Z14
          exact at_mid (decide ((w64 ((w64 ((w64 (rd x2 0)) + (w64 (256 * (w64 (rd x2 1)))))) * (w64 ((w64 (rd x2 2)) + (w64 (256 * (w64 (rd x2 3)))))))) > 60000)) [0, 0] rfl ⟨rfl, rfl, trivial⟩ rfl
        · replace Z14 := if_f (of_decide_eq_false c15) Z14
          iterate 23 refine atq_s T rfl ?_
          refine atq_end ?_
          refine at_sub [(13, (.slice a3 (List.length x2) n3)), (83, (.bool false))] ⟨rfl, rfl, trivial⟩ ?_
          refine at_then ?_
          obtain rfl := Option.some.inj Z14
          exact at_mid false [0, 0] rfl ⟨rfl, rfl, trivial⟩ rfl
      · rintro x12 rfl
        refine at_cond rfl (fun c20 => ?_) (fun c20 => ?_)
        · replace H := if_t c20 H
          refine at_seq ?_
          refine at_region [0, 1] rfl ?_
          obtain ⟨v14, V21, H⟩ := bind_e H
          refine at_cons (at_c (B := fun _ => []) [] rfl rfl rfl rfl has9 rfl rfl (law4_told.c  v14 _ V21 (glb_of hG (j := 0) rfl)) (fun _ => ?_))
          refine at_s T rfl ?_
          refine at_end ?_
          refine at_to [(12, (.bool v14))] [0] [F] ⟨rfl, trivial⟩ rfl ?_
          refine at_then ?_
          refine at_ret ?_
          refine at_rt ?_
          obtain rfl := Option.some.inj H
          exact at_post (T := T) rfl (.tmp rfl .nil) (fun w o => ⟨(), rfl, own_to [0] rfl o⟩)
        · replace H := if_f (bf c20) H
          refine at_skip ?_
          refine at_then ?_
          refine at_seq ?_
          refine at_region [0, 1, 2, 3] rfl ?_
          refine at_cons (at_bs (k := (Fl.int .u8)) T ([] : List Int) rfl rfl rfl rfl rfl rfl rfl rfl rfl (fun a12 H12 s12 => ?_))
          refine at_s T rfl ?_
          obtain ⟨c22, H⟩ := chk_e H
          refine at_cons (at_ap (k := (Fl.int .u8)) (xs := ([] : List Int)) T (g := 2) rfl rfl rfl rfl rfl rfl rfl rfl rfl rfl s12 (own_of s3 (j := 1) rfl) c22 rfl (fun a13 n13 H13 s13 => ?_))
          refine at_s T rfl ?_
          refine at_end ?_
          refine at_sub [(13, (.slice a3 (List.length x2) n3)), (15, (.slice a13 (List.length (([] : List Int) ++ x2)) n13))] ⟨rfl, rfl, trivial⟩ ?_
          refine at_then ?_
          refine at_seq ?_
          refine at_region [0, 1, 2, 3, 4, 5, 6, 7] rfl ?_
          refine at_s T rfl ?_
          obtain ⟨v15, V23, H⟩ := bind_e H
          refine at_cons (at_cR (atlas_Get.R el v15) [] [] rfl rfl rfl rfl has13 rfl rfl (atlas_Get.c x2 v15 _ V23 (glb_of hG (j := 0) rfl) (own_of s3 (j := 1) rfl) s3.cap_le) ?_)
          rintro _ _ ⟨a14, n14, H14, s14, rfl, rfl⟩
          iterate 3 refine at_s T rfl ?_
          refine at_cons (at_al T [(.int .i64 0), (.int .i64 0), (.slice none 0 0)] rfl rfl rfl rfl (fun b15 => ?_))
          refine at_cons (at_st T 4 [(.int .i64 v15.1.W), (.int .i64 v15.1.H), (.slice a14 (List.length v15.1.C) n14)] rfl rfl rfl rfl rfl rfl rfl rfl rfl rfl ?_)
          refine at_s T rfl ?_
          refine at_end ?_
          refine at_sub [(13, (.slice a3 (List.length x2) n3)), (15, (.slice a13 (List.length (([] : List Int) ++ x2)) n13)), (16, (.pointer (some ⟨b15, 0, none⟩))), (17, (.int .i64 v15.2))] ⟨rfl, rfl, rfl, rfl, trivial⟩ ?_
          refine at_then ?_
          refine at_seq ?_
          refine at_region [0, 1, 2, 3, 4, 5, 6, 7] rfl ?_
          refine at_s T rfl ?_
          obtain ⟨v16, V24, H⟩ := bind_e H
          refine at_cons (at_cR (ref1_GetMap.R v16) [] [] rfl rfl rfl rfl has14 rfl rfl (ref1_GetMap.c x2 v16 _ V24 (own_of s3 (j := 1) rfl) s3.cap_le) ?_)
          rintro _ _ ⟨a16, n16, H16, s16, rfl, rfl⟩
          iterate 3 refine at_s T rfl ?_
          refine at_cons (at_al T [(.int .i64 0), (.int .i64 0), (.slice none 0 0)] rfl rfl rfl rfl (fun b17 => ?_))
          refine at_cons (at_st T 6 [(.int .i64 v16.1.W), (.int .i64 v16.1.H), (.slice a16 (List.length v16.1.C) n16)] rfl rfl rfl rfl rfl rfl rfl rfl rfl rfl ?_)
          refine at_s T rfl ?_
          refine at_end ?_
          refine at_sub [(13, (.slice a3 (List.length x2) n3)), (15, (.slice a13 (List.length (([] : List Int) ++ x2)) n13)), (16, (.pointer (some ⟨b15, 0, none⟩))), (17, (.int .i64 v15.2)), (18, (.pointer (some ⟨b17, 0, none⟩))), (19, (.int .i64 v16.2))] ⟨rfl, rfl, rfl, rfl, rfl, rfl, trivial⟩ ?_
          refine at_then ?_
          obtain ⟨z18, Z25, H⟩ := bind_e H
          refine at_seq_mid (σ := Bool) (fun x17 => x17 = z18) (fun x17 => [(12, (.bool x17))]) (fun x17 => [F]) ?_ ?_
          · refine at_region [0, 1, 2, 3, 4, 5, 6, 7, 8, 9, 10, 11, 12, 13, 14, 15, 16] rfl ?_
            obtain ⟨v19, V26, Z25⟩ := bind_e Z25
            refine at_cons (at_c (B := fun _ => []) [] rfl rfl rfl rfl has9 rfl rfl (law4_told.c  v19 _ V26 (glb_of hG (j := 0) rfl)) (fun _ => ?_))
            refine at_s T rfl ?_
            refine at_grp T [2, 3, 4, 5] (s := 99) (c := v19) [(13, (.slice a3 (List.length x2) n3)), (15, (.slice a13 (List.length (([] : List Int) ++ x2)) n13)), (16, (.pointer (some ⟨b15, 0, none⟩))), (18, (.pointer (some ⟨b17, 0, none⟩))), (103, (.bool (v19 && (v15.2 == v16.2))))] rfl rfl rfl (fun c27 => ⟨rfl, rfl, rfl, rfl, (by rw [c27]; rfl), trivial⟩) (fun c27 => ⟨rfl, rfl, rfl, rfl, (by rw [c27]; rfl), trivial⟩) ?_
            refine at_s T rfl ?_
            refine at_case (s := 104) rfl (fun c28 => ?_) (fun c28 => ?_)
            · replace Z25 := if_t c28 Z25
              refine at_v rfl (g_loadA T (cs := [(.int .i64 v15.1.W), (.int .i64 v15.1.H), (.slice a14 (List.length v15.1.C) n14)]) rfl rfl rfl rfl rfl rfl (in_varA (j := 4) rfl rfl)) ?_
              refine at_v rfl (g_loadA T (cs := [(.int .i64 v16.1.W), (.int .i64 v16.1.H), (.slice a16 (List.length v16.1.C) n16)]) rfl rfl rfl rfl rfl rfl (in_varA (j := 6) rfl rfl)) ?_
              obtain ⟨v20, V29, Z25⟩ := bind_e Z25
              refine at_cons (at_c (B := fun _ => []) [] rfl rfl rfl rfl has15 rfl rfl (ref1_SameMap.c v15.1 v16.1 v20 _ V29 (own_of s14 (j := 3) rfl) s14.cap_le (own_of s16 (j := 5) rfl) s16.cap_le) (fun _ => ?_))
              iterate 2 refine at_s T rfl ?_
              refine at_case (s := 109) rfl (fun c30 => ?_) (fun c30 => ?_)
              · replace Z25 := if_t c30 Z25
                iterate 2 refine at_s T rfl ?_
                obtain ⟨v21, V31, Z25⟩ := bind_e Z25
                refine at_cons (at_c (B := fun _ => []) [] rfl rfl rfl rfl has16 rfl rfl (ref1_Bytes.c x2 (([] : List Int) ++ x2) v21 _ V31 (own_of s3 (j := 1) rfl) s3.cap_le (own_of s13 (j := 2) rfl) s13.cap_le) (fun _ => ?_))
                iterate 2 refine at_s T rfl ?_
                refine at_end ?_
                refine at_to [(12, (.bool v21))] [0] [F] ⟨rfl, trivial⟩ rfl ?_
                refine at_then ?_
                obtain rfl := Option.some.inj Z25
                exact at_mid v21 [0] rfl ⟨rfl, trivial⟩ rfl
              · replace Z25 := if_f (bf c30) Z25
                iterate 5 refine at_s T rfl ?_
                refine at_end ?_
                refine at_to [(12, (.bool false))] [0] [F] ⟨rfl, trivial⟩ rfl ?_
                refine at_then ?_
                obtain rfl := Option.some.inj Z25
                exact at_mid false [0] rfl ⟨rfl, trivial⟩ rfl
            · replace Z25 := if_f (bf c28) Z25
              iterate 10 refine at_s T rfl ?_
              refine at_end ?_
              refine at_to [(12, (.bool false))] [0] [F] ⟨rfl, trivial⟩ rfl ?_
              refine at_then ?_
              obtain rfl := Option.some.inj Z25
              exact at_mid false [0] rfl ⟨rfl, trivial⟩ rfl
          · rintro x17 rfl
            refine at_ret ?_
            obtain rfl := Option.some.inj H
            exact at_post (T := T) rfl (.tmp rfl .nil) (fun w o => ⟨(), rfl, own_to [0] rfl o⟩)
def law4_AtlasReads.Pure : Prop := ∀ (b : (List Int)) (w : Int) (h : Int) (c : (List Int)) (p4 : Int) (raw : Bool), (∀ y ∈ b, inU8 y) → inI64 w → inI64 h → (∀ y ∈ c, inU8 y) → inI64 p4 → List.length b ≤ 9223372036854775807 → List.length c ≤ 9223372036854775807 → law4_AtlasReads.f b w h c p4 raw = some true
end

end Go.Proofs.YtnkdnecilkafhaaDoor
