import Derived.Test.YticdodeoljodiaaT
import Derived.Test.YticdodeoljodiaaFflat
import Derived.Test.YticdodeoljodiaaFlaw30
import Derived.Test.YticdodeoljodiaaFref1
import Derived.Test.YticdodeoljodiaaFref11
import Derived.Test.YticdodeoljodiaaFref21
import Derived.Test.YticdodeoljodiaaFtrail
namespace Go.Proofs.Yticdodeoljodiaa
open Go.Hx
set_option maxRecDepth 100000
set_option linter.unusedVariables false
noncomputable section
/-! ### herdsman/herdsmanlaw30.TrailMoves: function 12 -/
def law30_TrailMoves.f (w : Int) (h : Int) (c : (List Int)) (k : (List Int)) (which : Int) : Option Bool := (ref1_Made.f w h c).bind fun v1 => if (0 ≤ (0 : Int) ∧ (0 : Int) ≤ (if 8 < (List.length k : Int) then 8 else (List.length k : Int)) ∧ (if 8 < (List.length k : Int) then 8 else (List.length k : Int)) ≤ (List.length k : Int)) then ((ref21_Made.f v1.W v1.H (sub' k 0 (if 8 < (List.length k : Int) then 8 else (List.length k : Int)))).bind fun v2 => (trail_Rest.f v1 v2).bind fun v3 => if ((List.length v2 : Int) == 0) = true then (((law30_told.f).bind fun v6 => if ((v6 && v3.2) && (v3.1 == 0)) = true then ((trail_First.f v1 v2).bind fun v7 => some (v7 == (-1))) else (some false)).bind fun x4 => some x4) else ((ref1_Within.f which 0 (w64 ((List.length v2 : Int) - 1))).bind fun v8 => if (0 ≤ v8 ∧ v8 < (List.length v2 : Int)) then ((flat_Query.f v1 ((rd v2 v8).Goal) ((rd v2 v8).Cell)).bind fun v9 => if (((!v3.2) || (v9.2.2 != 0)) || (decide (v3.1 < 0))) = true then (some false) else (if v9.2.1 > 3 then (((law30_told.f).bind fun v12 => if v12 = true then (if (v9.1 == 0) = true then (some true) else (some (v9.1 == 1099511627776))) else (some false)).bind fun x10 => some x10) else (if (List.length ([] : List api_Unit) + List.length v2 ≤ 1099511627776) then ((ref1_Step.f v1.W v1.H ((rd v2 v8).Cell) v9.2.1).bind fun v13 => if (0 ≤ v8 ∧ v8 < (List.length (([] : List api_Unit) ++ v2) : Int)) then (if (0 ≤ v8 ∧ v8 < (List.length (List.set (([] : List api_Unit) ++ v2) (Int.toNat v8) (api_Unit.mk ((rd (([] : List api_Unit) ++ v2) v8).Id) v13 ((rd (([] : List api_Unit) ++ v2) v8).Goal))) : Int)) then (if (rd (List.set (([] : List api_Unit) ++ v2) (Int.toNat v8) (api_Unit.mk ((rd (([] : List api_Unit) ++ v2) v8).Id) v13 ((rd (([] : List api_Unit) ++ v2) v8).Goal))) v8).Cell < 0 then (some false) else ((trail_Rest.f v1 (List.set (([] : List api_Unit) ++ v2) (Int.toNat v8) (api_Unit.mk ((rd (([] : List api_Unit) ++ v2) v8).Id) v13 ((rd (([] : List api_Unit) ++ v2) v8).Goal)))).bind fun v14 => ((law30_told.f).bind fun v17 => if v17 = true then (if v14.2 = true then (if (0 ≤ (rd (List.set (([] : List api_Unit) ++ v2) (Int.toNat v8) (api_Unit.mk ((rd (([] : List api_Unit) ++ v2) v8).Id) v13 ((rd (([] : List api_Unit) ++ v2) v8).Goal))) v8).Cell ∧ (rd (List.set (([] : List api_Unit) ++ v2) (Int.toNat v8) (api_Unit.mk ((rd (([] : List api_Unit) ++ v2) v8).Id) v13 ((rd (([] : List api_Unit) ++ v2) v8).Goal))) v8).Cell < (List.length v1.C : Int)) then (if (v14.1 == (w64 (v3.1 - (w64 (rd v1.C ((rd (List.set (([] : List api_Unit) ++ v2) (Int.toNat v8) (api_Unit.mk ((rd (([] : List api_Unit) ++ v2) v8).Id) v13 ((rd (([] : List api_Unit) ++ v2) v8).Goal))) v8).Cell)))))) = true then (if (0 ≤ v8 ∧ v8 < (List.length v2 : Int)) then ((ref11_Flat.f v1 ((rd v2 v8).Goal)).bind fun v18 => some ((List.length v18 : Int) == (List.length v1.C : Int))) else none) else (some false)) else none) else (some false)) else (some false)).bind fun x15 => some x15)) else none) else none) else none))) else none)) else none
set_option maxHeartbeats 4000000 in
theorem law30_TrailMoves.c {a_c : Option Addr} {n_c : Nat} {a_k : Option Addr} {n_k : Nat} (w : Int) (h : Int) (c : (List Int)) (k : (List Int)) (which : Int) (r : Bool) (F : Hp) (H : law30_TrailMoves.f w h c k which = some r) (h_c : SliceR (Fl.int .u8) c a_c F) (c_c : List.length c ≤ n_c) (h_k : SliceR (Fl.int .i64) k a_k F) (c_k : List.length k ≤ n_k) :
    CallsL Try.prog 12 [(.int .i64 w), (.int .i64 h), (.slice a_c (List.length c) n_c), (.slice a_k (List.length k) n_k), (.int .i64 which)] [F] (fun _ : Unit => (.bool r)) (fun _ => [F]) := by
  unfold law30_TrailMoves.f at H
  refine calls_atL [(0, (.int .i64 w)), (1, (.int .i64 h)), (2, (.slice a_c (List.length c) n_c)), (3, (.slice a_k (List.length k) n_k)), (4, (.int .i64 which))] Try.func12 rfl rfl ⟨rfl, rfl, rfl, rfl, rfl, trivial⟩ (fun W => ?_)
  refine at_seq ?_
  refine at_region [0] rfl ?_
  refine at_s T rfl ?_
  refine at_end ?_
  refine at_sub [(0, (.int .i64 w)), (1, (.int .i64 h)), (2, (.slice a_c (List.length c) n_c)), (3, (.slice a_k (List.length k) n_k)), (4, (.int .i64 which))] ⟨rfl, rfl, rfl, rfl, rfl, trivial⟩ ?_
  refine at_then ?_
  refine at_seq ?_
  refine at_region [0, 1, 2, 3, 4, 5] rfl ?_
  iterate 3 refine at_s T rfl ?_
  obtain ⟨v1, V1, H⟩ := bind_e H
  refine at_cons (at_cR (ref1_Made.R v1) [] [] rfl rfl rfl rfl has13 rfl rfl (ref1_Made.c w h c v1 _ V1 (ro_of h_c (j := 0) rfl) c_c) ?_)
  rintro _ _ ⟨a1, n1, H1, s1, rfl, rfl⟩
  refine at_cons (at_al T [(.int .i64 0), (.int .i64 0), (.slice none 0 0)] rfl rfl rfl rfl (fun b2 => ?_))
  refine at_cons (at_st T 2 [(.int .i64 v1.W), (.int .i64 v1.H), (.slice a1 (List.length v1.C) n1)] rfl rfl rfl rfl rfl rfl rfl rfl rfl rfl ?_)
  refine at_end ?_
  refine at_sub [(3, (.slice a_k (List.length k) n_k)), (4, (.int .i64 which)), (11, (.pointer (some ⟨b2, 0, none⟩)))] ⟨rfl, rfl, rfl, trivial⟩ ?_
  refine at_then ?_
  refine at_seq ?_
  refine at_region_m [[], [0], [], [2], [], [], [5], [5, 6], [4, 5, 6, 7], [0, 1, 2, 3, 4, 5, 6, 7, 8], [0, 1, 2, 3, 4, 5, 6, 7, 8, 9]] [] [F, H1, [(b2, Obj.cells #[(.int .i64 v1.W), (.int .i64 v1.H), (.slice a1 (List.length v1.C) n1)] 24 (0, 0))]] mix (by kernel_rfl) (by repeat first | exact pf_body | refine pf_then ?_ | refine pf_block ?_) (fun hg pf => ?_)
  refine atm_s T 0 hg pf (by kernel_rfl) (still_o [0, 0, 0] rfl) rfl ?_
  refine atm_v 1 hg pf (by kernel_rfl) (still_o [0, 0, 0] rfl) rfl rfl (g_load T rfl rfl rfl rfl (in_var (j := 2) rfl rfl)) ?_
  refine atm_s T 2 hg pf (by kernel_rfl) (still_o [0, 0, 0] rfl) rfl ?_
  refine atm_v 3 hg pf (by kernel_rfl) (still_o [0, 0, 0] rfl) rfl rfl (g_load T rfl rfl rfl rfl (in_var (j := 2) rfl rfl)) ?_
  refine atm_s T 4 hg pf (by kernel_rfl) (still_o [0, 0, 0] rfl) rfl ?_
  refine atm_s T 5 hg pf (by kernel_rfl) (still_o [0, 0, 0] rfl) rfl ?_
  refine atm_s T 6 hg pf (by kernel_rfl) (still_o [0, 0, 0] rfl) rfl ?_
  refine atm_s T 7 hg pf (by kernel_rfl) (still_o [0, 0, 0] rfl) rfl ?_
  obtain ⟨c2, H⟩ := chk_e H
  refine atm_v 8 hg pf (by kernel_rfl) (still_o [0, 0, 0] rfl) rfl rfl (g_sub T rfl rfl rfl rfl rfl rfl c2 c_k) ?_
  refine atm_one 9 (by kernel_rfl) ?_
  obtain ⟨v2, V3, H⟩ := bind_e H
  refine at_cR (ref21_Made.R v2) [] [] rfl rfl rfl rfl has42 rfl rfl (ref21_Made.c v1.W v1.H (sub' k 0 (if 8 < (List.length k : Int) then 8 else (List.length k : Int))) v2 _ V3 (sub_r (ro_of h_k (j := 0) rfl) c2 c_k) (sub_cap c2 c_k)) ?_
  rintro _ _ ⟨a3, n3, H3, s3, rfl, rfl⟩
  refine atm_next (still_o [0, 0, 0] rfl) ?_
  refine atm_s T 10 hg pf (by kernel_rfl) (still_o [0, 0, 0] rfl) rfl ?_
  refine atm_end (by kernel_rfl) ?_
  refine at_sub [(4, (.int .i64 which)), (11, (.pointer (some ⟨b2, 0, none⟩))), (12, (.slice a3 (List.length v2) n3))] ⟨rfl, rfl, rfl, trivial⟩ ?_
  refine at_then ?_
  refine at_seq ?_
  refine at_region [0, 1, 2, 3, 4, 5, 6, 7] rfl ?_
  refine at_v rfl (g_loadA T (cs := [(.int .i64 v1.W), (.int .i64 v1.H), (.slice a1 (List.length v1.C) n1)]) rfl rfl rfl rfl rfl rfl (in_varA (j := 2) rfl rfl)) ?_
  refine at_s T rfl ?_
  obtain ⟨v3, V4, H⟩ := bind_e H
  refine at_cons (at_c (B := fun _ => []) [] rfl rfl rfl rfl has43 rfl rfl (trail_Rest.c v1 v2 v3 _ V4 (own_of s1 (j := 1) rfl) s1.cap_le (own_of s3 (j := 3) rfl) s3.cap_le) (fun _ => ?_))
  iterate 5 refine at_s T rfl ?_
  refine at_end ?_
  refine at_sub [(4, (.int .i64 which)), (11, (.pointer (some ⟨b2, 0, none⟩))), (12, (.slice a3 (List.length v2) n3)), (13, (.int .i64 v3.1)), (14, (.bool v3.2))] ⟨rfl, rfl, rfl, rfl, rfl, trivial⟩ ?_
  refine at_then ?_
  refine at_seq ?_
  refine at_seq ?_
  refine at_region [0, 1, 2] rfl ?_
  iterate 3 refine at_s T rfl ?_
  refine at_end ?_
  refine at_sub [(4, (.int .i64 which)), (11, (.pointer (some ⟨b2, 0, none⟩))), (12, (.slice a3 (List.length v2) n3)), (13, (.int .i64 v3.1)), (14, (.bool v3.2)), (44, (.bool ((List.length v2 : Int) == 0)))] ⟨rfl, rfl, rfl, rfl, rfl, rfl, trivial⟩ ?_
  refine at_then ?_
  refine at_cond rfl (fun c5 => ?_) (fun c5 => ?_)
  · replace H := if_t c5 H
    obtain ⟨z5, Z6, H⟩ := bind_e H
    refine at_seq_mid (σ := Bool) (fun x4 => x4 = z5) (fun x4 => [(10, (.bool x4))]) (fun x4 => [F]) ?_ ?_
    · refine at_region [0, 1, 2, 3, 4, 5, 6, 7, 8, 9, 10, 11, 12, 13, 14] rfl ?_
      obtain ⟨v6, V7, Z6⟩ := bind_e Z6
      refine at_cons (at_c (B := fun _ => []) [] rfl rfl rfl rfl has34 rfl rfl (law30_told.c  v6 _ V7) (fun _ => ?_))
      refine at_s T rfl ?_
      refine at_grp T [2, 3] (s := 46) (c := v6) [(11, (.pointer (some ⟨b2, 0, none⟩))), (12, (.slice a3 (List.length v2) n3)), (13, (.int .i64 v3.1)), (48, (.bool (v6 && v3.2)))] rfl rfl rfl (fun c8 => ⟨rfl, rfl, rfl, (by rw [c8]; rfl), trivial⟩) (fun c8 => ⟨rfl, rfl, rfl, (by rw [c8]; rfl), trivial⟩) ?_
      refine at_s T rfl ?_
      refine at_grp T [5, 6, 7] (s := 49) (c := (v6 && v3.2)) [(11, (.pointer (some ⟨b2, 0, none⟩))), (12, (.slice a3 (List.length v2) n3)), (52, (.bool ((v6 && v3.2) && (v3.1 == 0))))] rfl rfl rfl (fun c9 => ⟨rfl, rfl, (by rw [c9]; rfl), trivial⟩) (fun c9 => ⟨rfl, rfl, (by rw [c9]; rfl), trivial⟩) ?_
      refine at_s T rfl ?_
      refine at_case (s := 53) rfl (fun c10 => ?_) (fun c10 => ?_)
      · replace Z6 := if_t c10 Z6
        refine at_v rfl (g_loadA T (cs := [(.int .i64 v1.W), (.int .i64 v1.H), (.slice a1 (List.length v1.C) n1)]) rfl rfl rfl rfl rfl rfl (in_varA (j := 2) rfl rfl)) ?_
        refine at_s T rfl ?_
        obtain ⟨v7, V11, Z6⟩ := bind_e Z6
        refine at_cons (at_c (B := fun _ => []) [] rfl rfl rfl rfl has46 rfl rfl (trail_First.c v1 v2 v7 _ V11 (own_of s1 (j := 1) rfl) s1.cap_le (own_of s3 (j := 3) rfl) s3.cap_le) (fun _ => ?_))
        iterate 3 refine at_s T rfl ?_
        refine at_end ?_
        refine at_to [(10, (.bool (v7 == (-1))))] [0] [F] ⟨rfl, trivial⟩ rfl ?_
        refine at_then ?_
        obtain rfl := Option.some.inj Z6
        exact at_mid (v7 == (-1)) [0] rfl ⟨rfl, trivial⟩ rfl
      · replace Z6 := if_f (bf c10) Z6
        iterate 6 refine at_s T rfl ?_
        refine at_end ?_
        refine at_to [(10, (.bool false))] [0] [F] ⟨rfl, trivial⟩ rfl ?_
        refine at_then ?_
        obtain rfl := Option.some.inj Z6
        exact at_mid false [0] rfl ⟨rfl, trivial⟩ rfl
    · rintro x4 rfl
      refine at_ret ?_
      refine at_rt ?_
      obtain rfl := Option.some.inj H
      exact at_post (T := T) rfl (.tmp rfl .nil) (fun w o => ⟨(), rfl, own_to [0] rfl o⟩)
  · replace H := if_f (bf c5) H
    refine at_skip ?_
    refine at_then ?_
    refine at_seq ?_
    refine at_region [0, 1, 2, 3, 4, 5] rfl ?_
    iterate 4 refine at_s T rfl ?_
    obtain ⟨v8, V12, H⟩ := bind_e H
    refine at_cons (at_c (B := fun _ => []) [] rfl rfl rfl rfl has15 rfl rfl (ref1_Within.c which 0 (w64 ((List.length v2 : Int) - 1)) v8 _ V12) (fun _ => ?_))
    refine at_s T rfl ?_
    refine at_end ?_
    refine at_sub [(11, (.pointer (some ⟨b2, 0, none⟩))), (12, (.slice a3 (List.length v2) n3)), (13, (.int .i64 v3.1)), (14, (.bool v3.2)), (15, (.int .i64 v8))] ⟨rfl, rfl, rfl, rfl, rfl, trivial⟩ ?_
    refine at_then ?_
    refine at_seq ?_
    refine at_region_q mix (by kernel_rfl) ?_
    refine atq_v rfl rfl rfl (g_loadA T (cs := [(.int .i64 v1.W), (.int .i64 v1.H), (.slice a1 (List.length v1.C) n1)]) rfl rfl rfl rfl rfl rfl (in_varA (j := 2) rfl rfl)) ?_
    iterate 2 refine atq_s T rfl ?_
    obtain ⟨c13, H⟩ := chk_e H
    obtain ⟨q4, o4, e4⟩ := s3.r.addr c13.1 c13.2
    refine atq_v rfl rfl rfl (g_index T rfl rfl rfl rfl rfl e4 c13.1 c13.2) ?_
    refine atq_s T rfl ?_
    refine atq_v rfl rfl rfl (g_load T rfl rfl rfl rfl (in_elem1 (k := k_api_Unit) (own_of s3 (j := 3) rfl) e4 c13 2 rfl)) ?_
    iterate 2 refine atq_s T rfl ?_
    refine atq_v rfl rfl rfl (g_index T rfl rfl rfl rfl rfl e4 c13.1 c13.2) ?_
    refine atq_s T rfl ?_
    refine atq_v rfl rfl rfl (g_load T rfl rfl rfl rfl (in_elem1 (k := k_api_Unit) (own_of s3 (j := 3) rfl) e4 c13 1 rfl)) ?_
    obtain ⟨v9, V14, H⟩ := bind_e H
    refine atq_c rfl rfl rfl rfl rfl rfl has41 rfl (flat_Query.c v1 ((rd v2 v8).Goal) ((rd v2 v8).Cell) v9 _ V14 (own_of s1 (j := 1) rfl) s1.cap_le) ?_
    iterate 7 refine atq_s T rfl ?_
    refine atq_end ?_
    refine at_sub [(11, (.pointer (some ⟨b2, 0, none⟩))), (12, (.slice a3 (List.length v2) n3)), (13, (.int .i64 v3.1)), (14, (.bool v3.2)), (15, (.int .i64 v8)), (16, (.int .i64 v9.1)), (17, (.int .i64 v9.2.1)), (18, (.int .i64 v9.2.2))] ⟨rfl, rfl, rfl, rfl, rfl, rfl, rfl, rfl, trivial⟩ ?_
    refine at_then ?_
    refine at_seq ?_
    refine at_seq ?_
    refine at_region [0, 1, 2, 3, 4, 5, 6, 7, 8, 9] rfl ?_
    iterate 3 refine at_s T rfl ?_
    refine at_grp T [3, 4, 5] (s := 82) (c := (!v3.2)) [(11, (.pointer (some ⟨b2, 0, none⟩))), (12, (.slice a3 (List.length v2) n3)), (13, (.int .i64 v3.1)), (15, (.int .i64 v8)), (16, (.int .i64 v9.1)), (17, (.int .i64 v9.2.1)), (85, (.bool ((!v3.2) || (v9.2.2 != 0))))] rfl rfl rfl (fun c15 => ⟨rfl, rfl, rfl, rfl, rfl, rfl, (by rw [c15]; rfl), trivial⟩) (fun c15 => ⟨rfl, rfl, rfl, rfl, rfl, rfl, (by rw [c15]; rfl), trivial⟩) ?_
    refine at_s T rfl ?_
    refine at_grp T [7, 8, 9] (s := 86) (c := ((!v3.2) || (v9.2.2 != 0))) [(11, (.pointer (some ⟨b2, 0, none⟩))), (12, (.slice a3 (List.length v2) n3)), (13, (.int .i64 v3.1)), (15, (.int .i64 v8)), (16, (.int .i64 v9.1)), (17, (.int .i64 v9.2.1)), (89, (.bool (((!v3.2) || (v9.2.2 != 0)) || (decide (v3.1 < 0)))))] rfl rfl rfl (fun c16 => ⟨rfl, rfl, rfl, rfl, rfl, rfl, (by rw [c16]; rfl), trivial⟩) (fun c16 => ⟨rfl, rfl, rfl, rfl, rfl, rfl, (by rw [c16]; rfl), trivial⟩) ?_
    refine at_end ?_
    refine at_sub [(11, (.pointer (some ⟨b2, 0, none⟩))), (12, (.slice a3 (List.length v2) n3)), (13, (.int .i64 v3.1)), (15, (.int .i64 v8)), (16, (.int .i64 v9.1)), (17, (.int .i64 v9.2.1)), (89, (.bool (((!v3.2) || (v9.2.2 != 0)) || (decide (v3.1 < 0)))))] ⟨rfl, rfl, rfl, rfl, rfl, rfl, rfl, trivial⟩ ?_
    refine at_then ?_
    refine at_cond rfl (fun c17 => ?_) (fun c17 => ?_)
    · replace H := if_t c17 H
      refine at_seq ?_
      refine at_region [0] rfl ?_
      refine at_s T rfl ?_
      refine at_end ?_
      refine at_to [(10, (.bool false))] [0] [F] ⟨rfl, trivial⟩ rfl ?_
      refine at_then ?_
      refine at_ret ?_
      refine at_rt ?_
      obtain rfl := Option.some.inj H
      exact at_post (T := T) rfl (.tmp rfl .nil) (fun w o => ⟨(), rfl, own_to [0] rfl o⟩)
    · replace H := if_f (bf c17) H
      refine at_skip ?_
      refine at_then ?_
      refine at_seq ?_
      refine at_seq ?_
      refine at_region [0, 1] rfl ?_
      iterate 2 refine at_s T rfl ?_
      refine at_end ?_
      refine at_sub [(11, (.pointer (some ⟨b2, 0, none⟩))), (12, (.slice a3 (List.length v2) n3)), (13, (.int .i64 v3.1)), (15, (.int .i64 v8)), (16, (.int .i64 v9.1)), (17, (.int .i64 v9.2.1)), (91, (.bool (decide (v9.2.1 > 3))))] ⟨rfl, rfl, rfl, rfl, rfl, rfl, rfl, trivial⟩ ?_
      refine at_then ?_
      refine at_cond rfl (fun c18 => ?_) (fun c18 => ?_)
      · replace H := if_t (of_decide_eq_true c18) H
        obtain ⟨z11, Z19, H⟩ := bind_e H
        refine at_seq_mid (σ := Bool) (fun x10 => x10 = z11) (fun x10 => [(10, (.bool x10))]) (fun x10 => [F]) ?_ ?_
        · refine at_region [0, 1, 2, 3, 4, 5, 6, 7, 8, 9] rfl ?_
          obtain ⟨v12, V20, Z19⟩ := bind_e Z19
          refine at_cons (at_c (B := fun _ => []) [] rfl rfl rfl rfl has34 rfl rfl (law30_told.c  v12 _ V20) (fun _ => ?_))
          refine at_s T rfl ?_
          refine at_case (s := 93) rfl (fun c21 => ?_) (fun c21 => ?_)
          · replace Z19 := if_t c21 Z19
            iterate 3 refine at_s T rfl ?_
            refine at_case (s := 96) rfl (fun c22 => ?_) (fun c22 => ?_)
            · replace Z19 := if_t c22 Z19
              iterate 5 refine at_s T rfl ?_
              refine at_end ?_
              refine at_to [(10, (.bool true))] [0] [F] ⟨rfl, trivial⟩ rfl ?_
              refine at_then ?_
              obtain rfl := Option.some.inj Z19
              exact at_mid true [0] rfl ⟨rfl, trivial⟩ rfl
            · replace Z19 := if_f (bf c22) Z19
              iterate 5 refine at_s T rfl ?_
              refine at_end ?_
              refine at_to [(10, (.bool (v9.1 == 1099511627776)))] [0] [F] ⟨rfl, trivial⟩ rfl ?_
              refine at_then ?_
              obtain rfl := Option.some.inj Z19
              exact at_mid (v9.1 == 1099511627776) [0] rfl ⟨rfl, trivial⟩ rfl
          · replace Z19 := if_f (bf c21) Z19
            iterate 8 refine at_s T rfl ?_
            refine at_end ?_
            refine at_to [(10, (.bool false))] [0] [F] ⟨rfl, trivial⟩ rfl ?_
            refine at_then ?_
            obtain rfl := Option.some.inj Z19
            exact at_mid false [0] rfl ⟨rfl, trivial⟩ rfl
        · rintro x10 rfl
          refine at_ret ?_
          refine at_rt ?_
          obtain rfl := Option.some.inj H
          exact at_post (T := T) rfl (.tmp rfl .nil) (fun w o => ⟨(), rfl, own_to [0] rfl o⟩)
      · replace H := if_f (of_decide_eq_false c18) H
        refine at_skip ?_
        refine at_then ?_
        refine at_seq ?_
        refine at_region [0, 1, 2, 3] rfl ?_
        refine at_cons (at_bs (k := k_api_Unit) T ([] : List api_Unit) rfl rfl rfl rfl rfl rfl rfl rfl rfl (fun a5 H5 s5 => ?_))
        refine at_s T rfl ?_
        obtain ⟨c23, H⟩ := chk_e H
        refine at_cons (at_ap (k := k_api_Unit) (xs := ([] : List api_Unit)) T (g := 4) rfl rfl rfl rfl rfl rfl rfl rfl rfl rfl s5 (own_of s3 (j := 3) rfl) c23 rfl (fun a6 n6 H6 s6 => ?_))
        refine at_s T rfl ?_
        refine at_end ?_
        refine at_sub [(11, (.pointer (some ⟨b2, 0, none⟩))), (12, (.slice a3 (List.length v2) n3)), (13, (.int .i64 v3.1)), (15, (.int .i64 v8)), (17, (.int .i64 v9.2.1)), (19, (.slice a6 (List.length (([] : List api_Unit) ++ v2)) n6))] ⟨rfl, rfl, rfl, rfl, rfl, rfl, trivial⟩ ?_
        refine at_then ?_
        refine at_seq ?_
        refine at_region_m [[], [], [], [2], [], [4], [], [], [6, 7], [6, 7, 8], [6, 7, 8, 9], [], [2, 3, 4, 5, 6, 7, 8, 9, 10, 11], [0, 1, 2, 3, 4, 5, 6, 7, 8, 9, 10, 11, 12], [0, 1, 2, 3, 4, 5, 6, 7, 8, 9, 10, 11, 12, 13], [0, 1, 2, 3, 4, 5, 6, 7, 8, 9, 10, 11, 12, 13, 14]] [15] [F, H1, [(b2, Obj.cells #[(.int .i64 v1.W), (.int .i64 v1.H), (.slice a1 (List.length v1.C) n1)] 24 (0, 0))], H3, H6] mix (by kernel_rfl) (by repeat first | exact pf_body | refine pf_then ?_ | refine pf_block ?_) (fun hg pf => ?_)
        refine atm_s T 0 hg pf (by kernel_rfl) (still_o [0, 0, 0, 0, 0] rfl) rfl ?_
        refine atm_s T 1 hg pf (by kernel_rfl) (still_o [0, 0, 0, 0, 0] rfl) rfl ?_
        refine atm_s T 2 hg pf (by kernel_rfl) (still_o [0, 0, 0, 0, 0] rfl) rfl ?_
        refine atm_v 3 hg pf (by kernel_rfl) (still_o [0, 0, 0, 0, 0] rfl) rfl rfl (g_load T rfl rfl rfl rfl (in_var (j := 2) rfl rfl)) ?_
        refine atm_s T 4 hg pf (by kernel_rfl) (still_o [0, 0, 0, 0, 0] rfl) rfl ?_
        refine atm_v 5 hg pf (by kernel_rfl) (still_o [0, 0, 0, 0, 0] rfl) rfl rfl (g_load T rfl rfl rfl rfl (in_var (j := 2) rfl rfl)) ?_
        refine atm_s T 6 hg pf (by kernel_rfl) (still_o [0, 0, 0, 0, 0] rfl) rfl ?_
        refine atm_s T 7 hg pf (by kernel_rfl) (still_o [0, 0, 0, 0, 0] rfl) rfl ?_
        refine atm_v 8 hg pf (by kernel_rfl) (still_o [0, 0, 0, 0, 0] rfl) rfl rfl (g_index T rfl rfl rfl rfl rfl e4 c13.1 c13.2) ?_
        refine atm_s T 9 hg pf (by kernel_rfl) (still_o [0, 0, 0, 0, 0] rfl) rfl ?_
        refine atm_v 10 hg pf (by kernel_rfl) (still_o [0, 0, 0, 0, 0] rfl) rfl rfl (g_load T rfl rfl rfl rfl (in_elem1 (k := k_api_Unit) (own_of s3 (j := 3) rfl) e4 c13 1 rfl)) ?_
        refine atm_s T 11 hg pf (by kernel_rfl) (still_o [0, 0, 0, 0, 0] rfl) rfl ?_
        refine atm_one 12 (by kernel_rfl) ?_
        obtain ⟨v13, V24, H⟩ := bind_e H
        refine at_c (B := fun _ => []) [] rfl rfl rfl rfl has36 rfl rfl (ref1_Step.c v1.W v1.H ((rd v2 v8).Cell) v9.2.1 v13 _ V24) (fun _ => ?_)
        refine atm_next (still_o [0, 0, 0, 0, 0] rfl) ?_
        obtain ⟨c25, H⟩ := chk_e H
        obtain ⟨q7, o7, e7⟩ := s6.r.addr c25.1 c25.2
        refine atm_v 13 hg pf (by kernel_rfl) (still_o [0, 0, 0, 0, 0] rfl) rfl rfl (g_index T rfl rfl rfl rfl rfl e7 c25.1 c25.2) ?_
        refine atm_s T 14 hg pf (by kernel_rfl) (still_o [0, 0, 0, 0, 0] rfl) rfl ?_
        refine atm_one 15 (by kernel_rfl) ?_
        refine at_se (k := k_api_Unit) T 4 1 (api_Unit.mk ((rd (([] : List api_Unit) ++ v2) v8).Id) v13 ((rd (([] : List api_Unit) ++ v2) v8).Goal)) rfl rfl rfl rfl rfl rfl s6 e7 c25 rfl rfl rfl (fun H8 s8 => ?_)
        refine at_to [(11, (.pointer (some ⟨b2, 0, none⟩))), (12, (.slice a3 (List.length v2) n3)), (13, (.int .i64 v3.1)), (15, (.int .i64 v8)), (17, (.int .i64 v9.2.1)), (19, (.slice a6 (List.length (List.set (([] : List api_Unit) ++ v2) (Int.toNat v8) (api_Unit.mk ((rd (([] : List api_Unit) ++ v2) v8).Id) v13 ((rd (([] : List api_Unit) ++ v2) v8).Goal)))) n6)), (104, (.slice a6 (List.length (List.set (([] : List api_Unit) ++ v2) (Int.toNat v8) (api_Unit.mk ((rd (([] : List api_Unit) ++ v2) v8).Id) v13 ((rd (([] : List api_Unit) ++ v2) v8).Goal)))) n6)), (105, (.int .i64 v8)), (106, (.pointer (some ⟨b2, 0, none⟩))), (107, (.int .i64 v1.W)), (108, (.pointer (some ⟨b2, 1, none⟩))), (109, (.int .i64 v1.H)), (110, (.slice a3 (List.length v2) n3)), (111, (.int .i64 v8)), (112, (.pointer (some ⟨q4, o4 + Int.toNat v8 * 3, none⟩))), (113, (.pointer (some ⟨q4, o4 + Int.toNat v8 * 3 + 1, none⟩))), (114, (.int .i64 (rd v2 v8).Cell)), (115, (.int .i64 v9.2.1)), (116, (.int .i64 v13)), (117, (.pointer (some ⟨q7, o7 + Int.toNat v8 * 3, none⟩))), (118, (.pointer (some ⟨q7, o7 + Int.toNat v8 * 3 + 1, none⟩)))] [0, 0, 0, 0, 0] [F, H1, [(b2, Obj.cells #[(.int .i64 v1.W), (.int .i64 v1.H), (.slice a1 (List.length v1.C) n1)] 24 (0, 0))], H3, H8] ⟨rfl, rfl, rfl, rfl, rfl, (by first | rfl | (simp only [List.length_set]; rfl)), (by first | rfl | (simp only [List.length_set]; rfl)), rfl, rfl, rfl, rfl, rfl, rfl, rfl, rfl, rfl, rfl, rfl, rfl, rfl, rfl, trivial⟩ rfl ?_
        refine atm_next (still_l (by kernel_rfl)) ?_
        refine atm_end (by kernel_rfl) ?_
        refine at_sub [(11, (.pointer (some ⟨b2, 0, none⟩))), (12, (.slice a3 (List.length v2) n3)), (13, (.int .i64 v3.1)), (15, (.int .i64 v8)), (19, (.slice a6 (List.length (List.set (([] : List api_Unit) ++ v2) (Int.toNat v8) (api_Unit.mk ((rd (([] : List api_Unit) ++ v2) v8).Id) v13 ((rd (([] : List api_Unit) ++ v2) v8).Goal)))) n6))] ⟨rfl, rfl, rfl, rfl, rfl, trivial⟩ ?_
        refine at_then ?_
        refine at_seq ?_
        refine at_seq ?_
        refine at_region [0, 1, 2, 3, 4, 5] rfl ?_
        iterate 2 refine at_s T rfl ?_
        obtain ⟨c26, H⟩ := chk_e H
        refine at_v rfl (g_index T rfl rfl rfl rfl rfl e7 c26.1 c26.2) ?_
        refine at_s T rfl ?_
        refine at_v rfl (g_load T rfl rfl rfl rfl (in_elem1 (k := k_api_Unit) (own_of s8 (j := 4) rfl) e7 c26 1 rfl)) ?_
        refine at_s T rfl ?_
        refine at_end ?_
        refine at_sub [(11, (.pointer (some ⟨b2, 0, none⟩))), (12, (.slice a3 (List.length v2) n3)), (13, (.int .i64 v3.1)), (15, (.int .i64 v8)), (19, (.slice a6 (List.length (List.set (([] : List api_Unit) ++ v2) (Int.toNat v8) (api_Unit.mk ((rd (([] : List api_Unit) ++ v2) v8).Id) v13 ((rd (([] : List api_Unit) ++ v2) v8).Goal)))) n6)), (124, (.bool (decide ((rd (List.set (([] : List api_Unit) ++ v2) (Int.toNat v8) (api_Unit.mk ((rd (([] : List api_Unit) ++ v2) v8).Id) v13 ((rd (([] : List api_Unit) ++ v2) v8).Goal))) v8).Cell < 0))))] ⟨rfl, rfl, rfl, rfl, rfl, rfl, trivial⟩ ?_
        refine at_then ?_
        refine at_cond rfl (fun c27 => ?_) (fun c27 => ?_)
        · replace H := if_t (of_decide_eq_true c27) H
          refine at_seq ?_
          refine at_region [0] rfl ?_
          refine at_s T rfl ?_
          refine at_end ?_
          refine at_to [(10, (.bool false))] [0] [F] ⟨rfl, trivial⟩ rfl ?_
          refine at_then ?_
          refine at_ret ?_
          refine at_rt ?_
          obtain rfl := Option.some.inj H
          exact at_post (T := T) rfl (.tmp rfl .nil) (fun w o => ⟨(), rfl, own_to [0] rfl o⟩)
        · replace H := if_f (of_decide_eq_false c27) H
          refine at_skip ?_
          refine at_then ?_
          refine at_seq ?_
          refine at_region [0, 1, 2, 3, 4, 5, 6, 7] rfl ?_
          refine at_v rfl (g_loadA T (cs := [(.int .i64 v1.W), (.int .i64 v1.H), (.slice a1 (List.length v1.C) n1)]) rfl rfl rfl rfl rfl rfl (in_varA (j := 2) rfl rfl)) ?_
          refine at_s T rfl ?_
          obtain ⟨v14, V28, H⟩ := bind_e H
          refine at_cons (at_c (B := fun _ => []) [] rfl rfl rfl rfl has43 rfl rfl (trail_Rest.c v1 (List.set (([] : List api_Unit) ++ v2) (Int.toNat v8) (api_Unit.mk ((rd (([] : List api_Unit) ++ v2) v8).Id) v13 ((rd (([] : List api_Unit) ++ v2) v8).Goal))) v14 _ V28 (own_of s1 (j := 1) rfl) s1.cap_le (own_of s8 (j := 4) rfl) s8.cap_le) (fun _ => ?_))
          iterate 5 refine at_s T rfl ?_
          refine at_end ?_
          refine at_sub [(11, (.pointer (some ⟨b2, 0, none⟩))), (12, (.slice a3 (List.length v2) n3)), (13, (.int .i64 v3.1)), (15, (.int .i64 v8)), (19, (.slice a6 (List.length (List.set (([] : List api_Unit) ++ v2) (Int.toNat v8) (api_Unit.mk ((rd (([] : List api_Unit) ++ v2) v8).Id) v13 ((rd (([] : List api_Unit) ++ v2) v8).Goal)))) n6)), (20, (.int .i64 v14.1)), (21, (.bool v14.2))] ⟨rfl, rfl, rfl, rfl, rfl, rfl, rfl, trivial⟩ ?_
          refine at_then ?_
          obtain ⟨z16, Z29, H⟩ := bind_e H
          refine at_seq_mid (σ := Bool) (fun x15 => x15 = z16) (fun x15 => [(10, (.bool x15))]) (fun x15 => [F]) ?_ ?_
          · refine at_region_m [[], [0], [0, 1], [0, 1, 2], [0, 1, 2, 3], [0, 1, 2, 3, 4], [0, 1, 2, 3, 4], [0, 1, 2, 3, 4], [0, 1, 2, 3, 4, 7], [0, 1, 2, 3, 4], [0, 1, 2, 3, 4], [0, 1, 2, 3, 4, 9, 10], [0, 1, 2, 3, 4, 9, 10, 11], [0, 1, 2, 3, 4, 9, 10, 11, 12], [0, 1, 2, 3, 4, 7, 8, 9, 10, 11, 12, 13], [0, 1, 2, 3, 4, 7, 8, 9, 10, 11, 12, 13, 14], [0, 1, 2, 3, 4, 7, 8, 9, 10, 11, 12, 13, 14, 15], [0, 1, 2, 3, 4, 6, 7, 8, 9, 10, 11, 12, 13, 14, 15, 16], [0, 1, 2, 3, 4, 5, 6, 7, 8, 9, 10, 11, 12, 13, 14, 15, 16, 17], [0, 1, 2, 3, 4, 5, 6, 7, 8, 9, 10, 11, 12, 13, 14, 15, 16, 17, 18], [0, 1, 2, 3, 4, 5, 6, 7, 8, 9, 10, 11, 12, 13, 14, 15, 16, 17, 18, 19], [0, 1, 2, 3, 4, 5, 6, 7, 8, 9, 10, 11, 12, 13, 14, 15, 16, 17, 18, 19, 20], [0, 1, 2, 3, 4, 5, 6, 7, 8, 9, 10, 11, 12, 13, 14, 15, 16, 17, 18, 19, 20], [0, 1, 2, 3, 4, 5, 6, 7, 8, 9, 10, 11, 12, 13, 14, 15, 16, 17, 18, 19, 20], [0, 1, 2, 3, 4, 5, 6, 7, 8, 9, 10, 11, 12, 13, 14, 15, 16, 17, 18, 19, 20, 22, 23], [0, 1, 2, 3, 4, 5, 6, 7, 8, 9, 10, 11, 12, 13, 14, 15, 16, 17, 18, 19, 20, 22, 23, 24], [0, 1, 2, 3, 4, 5, 6, 7, 8, 9, 10, 11, 12, 13, 14, 15, 16, 17, 18, 19, 20, 22, 23, 24, 25], [0, 1, 2, 3, 4, 5, 6, 7, 8, 9, 10, 11, 12, 13, 14, 15, 16, 17, 18, 19, 20, 21, 22, 23, 24, 25, 26], [0, 1, 2, 3, 4, 5, 6, 7, 8, 9, 10, 11, 12, 13, 14, 15, 16, 17, 18, 19, 20, 21, 22, 23, 24, 25, 26, 27], [0, 1, 2, 3, 4, 5, 6, 7, 8, 9, 10, 11, 12, 13, 14, 15, 16, 17, 18, 19, 20], [0, 1, 2, 3, 4, 5, 6, 7, 8, 9, 10, 11, 12, 13, 14, 15, 16, 17, 18, 19, 20, 29], [0, 1, 2, 3, 4, 5, 6, 7, 8, 9, 10, 11, 12, 13, 14, 15, 16, 17, 18, 19, 20, 29, 30], [0, 1, 2, 3, 4, 5, 6, 7, 8, 9, 10, 11, 12, 13, 14, 15, 16, 17, 18, 19, 20, 21, 22, 23, 24, 25, 26, 27, 28, 29, 30, 31], [0, 1, 2, 3, 4, 5, 6, 7, 8, 9, 10, 11, 12, 13, 14, 15, 16, 17, 18, 19, 20, 21, 22, 23, 24, 25, 26, 27, 28, 29, 30, 31, 32], [0, 1, 2, 3, 4, 5, 6, 7, 8, 9, 10, 11, 12, 13, 14, 15, 16, 17, 18, 19, 20, 21, 22, 23, 24, 25, 26, 27, 28, 29, 30, 31, 32, 33]] [] [F, H1, [(b2, Obj.cells #[(.int .i64 v1.W), (.int .i64 v1.H), (.slice a1 (List.length v1.C) n1)] 24 (0, 0))], H3, H8] mix (by kernel_rfl) (by repeat first | exact pf_body | refine pf_then ?_ | refine pf_block ?_) (fun hg pf => ?_)
            refine atm_one 0 (by kernel_rfl) ?_
            obtain ⟨v17, V30, Z29⟩ := bind_e Z29
            refine at_c (B := fun _ => []) [] rfl rfl rfl rfl has34 rfl rfl (law30_told.c  v17 _ V30) (fun _ => ?_)
            refine atm_next (still_o [0, 0, 0, 0, 0] rfl) ?_
            refine atm_s T 1 hg pf (by kernel_rfl) (still_o [0, 0, 0, 0, 0] rfl) rfl ?_
            refine at_case (s := 132) rfl (fun c31 => ?_) (fun c31 => ?_)
            · replace Z29 := if_t c31 Z29
              refine atm_s T 2 hg pf (by kernel_rfl) (still_o [0, 0, 0, 0, 0] rfl) rfl ?_
              refine atm_s T 3 hg pf (by kernel_rfl) (still_o [0, 0, 0, 0, 0] rfl) rfl ?_
              refine atm_s T 4 hg pf (by kernel_rfl) (still_o [0, 0, 0, 0, 0] rfl) rfl ?_
              refine at_case (s := 135) rfl (fun c32 => ?_) (fun c32 => ?_)
              · replace Z29 := if_t c32 Z29
                refine atm_s T 5 hg pf (by kernel_rfl) (still_o [0, 0, 0, 0, 0] rfl) rfl ?_
                refine atm_s T 6 hg pf (by kernel_rfl) (still_o [0, 0, 0, 0, 0] rfl) rfl ?_
                refine atm_s T 7 hg pf (by kernel_rfl) (still_o [0, 0, 0, 0, 0] rfl) rfl ?_
                refine atm_v 8 hg pf (by kernel_rfl) (still_o [0, 0, 0, 0, 0] rfl) rfl rfl (g_load T rfl rfl rfl rfl (in_var (j := 2) rfl rfl)) ?_
                refine atm_s T 9 hg pf (by kernel_rfl) (still_o [0, 0, 0, 0, 0] rfl) rfl ?_
                refine atm_s T 10 hg pf (by kernel_rfl) (still_o [0, 0, 0, 0, 0] rfl) rfl ?_
                refine atm_v 11 hg pf (by kernel_rfl) (still_o [0, 0, 0, 0, 0] rfl) rfl rfl (g_index T rfl rfl rfl rfl rfl e7 c26.1 c26.2) ?_
                refine atm_s T 12 hg pf (by kernel_rfl) (still_o [0, 0, 0, 0, 0] rfl) rfl ?_
                refine atm_v 13 hg pf (by kernel_rfl) (still_o [0, 0, 0, 0, 0] rfl) rfl rfl (g_load T rfl rfl rfl rfl (in_elem1 (k := k_api_Unit) (own_of s8 (j := 4) rfl) e7 c26 1 rfl)) ?_
                obtain ⟨c33, Z29⟩ := chk_e Z29
                obtain ⟨q9, o9, e9⟩ := s1.r.addr c33.1 c33.2
                refine atm_v 14 hg pf (by kernel_rfl) (still_o [0, 0, 0, 0, 0] rfl) rfl rfl (g_index T rfl rfl rfl rfl rfl e9 c33.1 c33.2) ?_
                refine atm_v 15 hg pf (by kernel_rfl) (still_o [0, 0, 0, 0, 0] rfl) rfl rfl (g_load T rfl rfl rfl rfl (in_elem1 (k := (Fl.int .u8)) (own_of s1 (j := 1) rfl) e9 c33 0 rfl)) ?_
                refine atm_s T 16 hg pf (by kernel_rfl) (still_o [0, 0, 0, 0, 0] rfl) rfl ?_
                refine atm_s T 17 hg pf (by kernel_rfl) (still_o [0, 0, 0, 0, 0] rfl) rfl ?_
                refine atm_s T 18 hg pf (by kernel_rfl) (still_o [0, 0, 0, 0, 0] rfl) rfl ?_
                refine atm_s T 19 hg pf (by kernel_rfl) (still_o [0, 0, 0, 0, 0] rfl) rfl ?_
                refine atm_s T 20 hg pf (by kernel_rfl) (still_o [0, 0, 0, 0, 0] rfl) rfl ?_
                refine at_case (s := 151) rfl (fun c34 => ?_) (fun c34 => ?_)
                · replace Z29 := if_t c34 Z29
                  refine atm_v 21 hg pf (by kernel_rfl) (still_o [0, 0, 0, 0, 0] rfl) rfl rfl (g_loadA T (cs := [(.int .i64 v1.W), (.int .i64 v1.H), (.slice a1 (List.length v1.C) n1)]) rfl rfl rfl rfl rfl rfl (in_varA (j := 2) rfl rfl)) ?_
                  refine atm_s T 22 hg pf (by kernel_rfl) (still_o [0, 0, 0, 0, 0] rfl) rfl ?_
                  refine atm_s T 23 hg pf (by kernel_rfl) (still_o [0, 0, 0, 0, 0] rfl) rfl ?_
                  obtain ⟨c35, Z29⟩ := chk_e Z29
                  refine atm_v 24 hg pf (by kernel_rfl) (still_o [0, 0, 0, 0, 0] rfl) rfl rfl (g_index T rfl rfl rfl rfl rfl e4 c35.1 c35.2) ?_
                  refine atm_s T 25 hg pf (by kernel_rfl) (still_o [0, 0, 0, 0, 0] rfl) rfl ?_
                  refine atm_v 26 hg pf (by kernel_rfl) (still_o [0, 0, 0, 0, 0] rfl) rfl rfl (g_load T rfl rfl rfl rfl (in_elem1 (k := k_api_Unit) (own_of s3 (j := 3) rfl) e4 c35 2 rfl)) ?_
                  refine atm_s T 29 hg pf (by kernel_rfl) (still_o [0, 0, 0, 0, 0] rfl) rfl ?_
                  refine atm_v 30 hg pf (by kernel_rfl) (still_o [0, 0, 0, 0, 0] rfl) rfl rfl (g_load T rfl rfl rfl rfl (in_var (j := 2) rfl rfl)) ?_
                  refine atm_s T 31 hg pf (by kernel_rfl) (still_o [0, 0, 0, 0, 0] rfl) rfl ?_
                  refine atm_one 27 (by kernel_rfl) ?_
                  obtain ⟨v18, V36, Z29⟩ := bind_e Z29
                  refine at_cR (ref11_Flat.R v18) [] [] rfl rfl rfl rfl has47 rfl rfl (ref11_Flat.c v1 ((rd v2 v8).Goal) v18 _ V36 (own_of s1 (j := 1) rfl) s1.cap_le) ?_
                  rintro _ _ ⟨a10, n10, H10, s10, rfl, rfl⟩
                  refine atm_next (still_o [0, 0, 0, 0, 0] rfl) ?_
                  refine atm_s T 28 hg pf (by kernel_rfl) (still_o [0, 0, 0, 0, 0] rfl) rfl ?_
                  refine atm_s T 32 hg pf (by kernel_rfl) (still_o [0, 0, 0, 0, 0] rfl) rfl ?_
                  refine atm_s T 33 hg pf (by kernel_rfl) (still_o [0, 0, 0, 0, 0] rfl) rfl ?_
                  refine atm_s T 34 hg pf (by kernel_rfl) (still_o [0, 0, 0, 0, 0] rfl) rfl ?_
                  refine atm_end (by kernel_rfl) ?_
                  refine at_to [(10, (.bool ((List.length v18 : Int) == (List.length v1.C : Int))))] [0] [F] ⟨rfl, trivial⟩ rfl ?_
                  refine at_then ?_
                  obtain rfl := Option.some.inj Z29
                  exact at_mid ((List.length v18 : Int) == (List.length v1.C : Int)) [0] rfl ⟨rfl, trivial⟩ rfl
                · replace Z29 := if_f (bf c34) Z29
                  refine atm_s T 21 hg pf (by kernel_rfl) (still_o [0, 0, 0, 0, 0] rfl) rfl ?_
                  refine atm_s T 22 hg pf (by kernel_rfl) (still_o [0, 0, 0, 0, 0] rfl) rfl ?_
                  refine atm_s T 23 hg pf (by kernel_rfl) (still_o [0, 0, 0, 0, 0] rfl) rfl ?_
                  refine atm_s T 24 hg pf (by kernel_rfl) (still_o [0, 0, 0, 0, 0] rfl) rfl ?_
                  refine atm_s T 25 hg pf (by kernel_rfl) (still_o [0, 0, 0, 0, 0] rfl) rfl ?_
                  refine atm_s T 26 hg pf (by kernel_rfl) (still_o [0, 0, 0, 0, 0] rfl) rfl ?_
                  refine atm_s T 27 hg pf (by kernel_rfl) (still_o [0, 0, 0, 0, 0] rfl) rfl ?_
                  refine atm_s T 28 hg pf (by kernel_rfl) (still_o [0, 0, 0, 0, 0] rfl) rfl ?_
                  refine atm_s T 29 hg pf (by kernel_rfl) (still_o [0, 0, 0, 0, 0] rfl) rfl ?_
                  refine atm_s T 30 hg pf (by kernel_rfl) (still_o [0, 0, 0, 0, 0] rfl) rfl ?_
                  refine atm_s T 31 hg pf (by kernel_rfl) (still_o [0, 0, 0, 0, 0] rfl) rfl ?_
                  refine atm_s T 32 hg pf (by kernel_rfl) (still_o [0, 0, 0, 0, 0] rfl) rfl ?_
                  refine atm_s T 33 hg pf (by kernel_rfl) (still_o [0, 0, 0, 0, 0] rfl) rfl ?_
                  refine atm_s T 34 hg pf (by kernel_rfl) (still_o [0, 0, 0, 0, 0] rfl) rfl ?_
                  refine atm_end (by kernel_rfl) ?_
                  refine at_to [(10, (.bool false))] [0] [F] ⟨rfl, trivial⟩ rfl ?_
                  refine at_then ?_
                  obtain rfl := Option.some.inj Z29
                  exact at_mid false [0] rfl ⟨rfl, trivial⟩ rfl
              · replace Z29 := if_f (bf c32) Z29
                refine atm_s T 5 hg pf (by kernel_rfl) (still_o [0, 0, 0, 0, 0] rfl) rfl ?_
                refine atm_s T 6 hg pf (by kernel_rfl) (still_o [0, 0, 0, 0, 0] rfl) rfl ?_
                refine atm_s T 7 hg pf (by kernel_rfl) (still_o [0, 0, 0, 0, 0] rfl) rfl ?_
                refine atm_s T 8 hg pf (by kernel_rfl) (still_o [0, 0, 0, 0, 0] rfl) rfl ?_
                refine atm_s T 9 hg pf (by kernel_rfl) (still_o [0, 0, 0, 0, 0] rfl) rfl ?_
                refine atm_s T 10 hg pf (by kernel_rfl) (still_o [0, 0, 0, 0, 0] rfl) rfl ?_
                refine atm_s T 11 hg pf (by kernel_rfl) (still_o [0, 0, 0, 0, 0] rfl) rfl ?_
                refine atm_s T 12 hg pf (by kernel_rfl) (still_o [0, 0, 0, 0, 0] rfl) rfl ?_
                refine atm_s T 13 hg pf (by kernel_rfl) (still_o [0, 0, 0, 0, 0] rfl) rfl ?_
                refine atm_s T 14 hg pf (by kernel_rfl) (still_o [0, 0, 0, 0, 0] rfl) rfl ?_
                refine atm_s T 15 hg pf (by kernel_rfl) (still_o [0, 0, 0, 0, 0] rfl) rfl ?_
                refine atm_s T 16 hg pf (by kernel_rfl) (still_o [0, 0, 0, 0, 0] rfl) rfl ?_
                refine atm_s T 17 hg pf (by kernel_rfl) (still_o [0, 0, 0, 0, 0] rfl) rfl ?_
                refine atm_s T 18 hg pf (by kernel_rfl) (still_o [0, 0, 0, 0, 0] rfl) rfl ?_
                refine atm_s T 19 hg pf (by kernel_rfl) (still_o [0, 0, 0, 0, 0] rfl) rfl ?_
                refine atm_s T 20 hg pf (by kernel_rfl) (still_o [0, 0, 0, 0, 0] rfl) rfl ?_
                refine atm_s T 21 hg pf (by kernel_rfl) (still_o [0, 0, 0, 0, 0] rfl) rfl ?_
                refine atm_s T 22 hg pf (by kernel_rfl) (still_o [0, 0, 0, 0, 0] rfl) rfl ?_
                refine atm_s T 23 hg pf (by kernel_rfl) (still_o [0, 0, 0, 0, 0] rfl) rfl ?_
                refine atm_s T 24 hg pf (by kernel_rfl) (still_o [0, 0, 0, 0, 0] rfl) rfl ?_
                refine atm_s T 25 hg pf (by kernel_rfl) (still_o [0, 0, 0, 0, 0] rfl) rfl ?_
                refine atm_s T 26 hg pf (by kernel_rfl) (still_o [0, 0, 0, 0, 0] rfl) rfl ?_
                refine atm_s T 27 hg pf (by kernel_rfl) (still_o [0, 0, 0, 0, 0] rfl) rfl ?_
                refine atm_s T 28 hg pf (by kernel_rfl) (still_o [0, 0, 0, 0, 0] rfl) rfl ?_
                refine atm_s T 29 hg pf (by kernel_rfl) (still_o [0, 0, 0, 0, 0] rfl) rfl ?_
                refine atm_s T 30 hg pf (by kernel_rfl) (still_o [0, 0, 0, 0, 0] rfl) rfl ?_
                refine atm_s T 31 hg pf (by kernel_rfl) (still_o [0, 0, 0, 0, 0] rfl) rfl ?_
                refine atm_s T 32 hg pf (by kernel_rfl) (still_o [0, 0, 0, 0, 0] rfl) rfl ?_
                refine atm_s T 33 hg pf (by kernel_rfl) (still_o [0, 0, 0, 0, 0] rfl) rfl ?_
                refine atm_s T 34 hg pf (by kernel_rfl) (still_o [0, 0, 0, 0, 0] rfl) rfl ?_
                refine atm_end (by kernel_rfl) ?_
                refine at_to [(10, (.bool false))] [0] [F] ⟨rfl, trivial⟩ rfl ?_
                refine at_then ?_
                obtain rfl := Option.some.inj Z29
                exact at_mid false [0] rfl ⟨rfl, trivial⟩ rfl
            · replace Z29 := if_f (bf c31) Z29
              refine atm_s T 2 hg pf (by kernel_rfl) (still_o [0, 0, 0, 0, 0] rfl) rfl ?_
              refine atm_s T 3 hg pf (by kernel_rfl) (still_o [0, 0, 0, 0, 0] rfl) rfl ?_
              refine atm_s T 4 hg pf (by kernel_rfl) (still_o [0, 0, 0, 0, 0] rfl) rfl ?_
              refine atm_s T 5 hg pf (by kernel_rfl) (still_o [0, 0, 0, 0, 0] rfl) rfl ?_
              refine atm_s T 6 hg pf (by kernel_rfl) (still_o [0, 0, 0, 0, 0] rfl) rfl ?_
              refine atm_s T 7 hg pf (by kernel_rfl) (still_o [0, 0, 0, 0, 0] rfl) rfl ?_
              refine atm_s T 8 hg pf (by kernel_rfl) (still_o [0, 0, 0, 0, 0] rfl) rfl ?_
              refine atm_s T 9 hg pf (by kernel_rfl) (still_o [0, 0, 0, 0, 0] rfl) rfl ?_
              refine atm_s T 10 hg pf (by kernel_rfl) (still_o [0, 0, 0, 0, 0] rfl) rfl ?_
              refine atm_s T 11 hg pf (by kernel_rfl) (still_o [0, 0, 0, 0, 0] rfl) rfl ?_
              refine atm_s T 12 hg pf (by kernel_rfl) (still_o [0, 0, 0, 0, 0] rfl) rfl ?_
              refine atm_s T 13 hg pf (by kernel_rfl) (still_o [0, 0, 0, 0, 0] rfl) rfl ?_
              refine atm_s T 14 hg pf (by kernel_rfl) (still_o [0, 0, 0, 0, 0] rfl) rfl ?_
              refine atm_s T 15 hg pf (by kernel_rfl) (still_o [0, 0, 0, 0, 0] rfl) rfl ?_
              refine atm_s T 16 hg pf (by kernel_rfl) (still_o [0, 0, 0, 0, 0] rfl) rfl ?_
              refine atm_s T 17 hg pf (by kernel_rfl) (still_o [0, 0, 0, 0, 0] rfl) rfl ?_
              refine atm_s T 18 hg pf (by kernel_rfl) (still_o [0, 0, 0, 0, 0] rfl) rfl ?_
              refine atm_s T 19 hg pf (by kernel_rfl) (still_o [0, 0, 0, 0, 0] rfl) rfl ?_
              refine atm_s T 20 hg pf (by kernel_rfl) (still_o [0, 0, 0, 0, 0] rfl) rfl ?_
              refine atm_s T 21 hg pf (by kernel_rfl) (still_o [0, 0, 0, 0, 0] rfl) rfl ?_
              refine atm_s T 22 hg pf (by kernel_rfl) (still_o [0, 0, 0, 0, 0] rfl) rfl ?_
              refine atm_s T 23 hg pf (by kernel_rfl) (still_o [0, 0, 0, 0, 0] rfl) rfl ?_
              refine atm_s T 24 hg pf (by kernel_rfl) (still_o [0, 0, 0, 0, 0] rfl) rfl ?_
              refine atm_s T 25 hg pf (by kernel_rfl) (still_o [0, 0, 0, 0, 0] rfl) rfl ?_
              refine atm_s T 26 hg pf (by kernel_rfl) (still_o [0, 0, 0, 0, 0] rfl) rfl ?_
              refine atm_s T 27 hg pf (by kernel_rfl) (still_o [0, 0, 0, 0, 0] rfl) rfl ?_
              refine atm_s T 28 hg pf (by kernel_rfl) (still_o [0, 0, 0, 0, 0] rfl) rfl ?_
              refine atm_s T 29 hg pf (by kernel_rfl) (still_o [0, 0, 0, 0, 0] rfl) rfl ?_
              refine atm_s T 30 hg pf (by kernel_rfl) (still_o [0, 0, 0, 0, 0] rfl) rfl ?_
              refine atm_s T 31 hg pf (by kernel_rfl) (still_o [0, 0, 0, 0, 0] rfl) rfl ?_
              refine atm_s T 32 hg pf (by kernel_rfl) (still_o [0, 0, 0, 0, 0] rfl) rfl ?_
              refine atm_s T 33 hg pf (by kernel_rfl) (still_o [0, 0, 0, 0, 0] rfl) rfl ?_
              refine atm_s T 34 hg pf (by kernel_rfl) (still_o [0, 0, 0, 0, 0] rfl) rfl ?_
              refine atm_end (by kernel_rfl) ?_
              refine at_to [(10, (.bool false))] [0] [F] ⟨rfl, trivial⟩ rfl ?_
              refine at_then ?_
              obtain rfl := Option.some.inj Z29
              exact at_mid false [0] rfl ⟨rfl, trivial⟩ rfl
          · rintro x15 rfl
            refine at_ret ?_
            obtain rfl := Option.some.inj H
            exact at_post (T := T) rfl (.tmp rfl .nil) (fun w o => ⟨(), rfl, own_to [0] rfl o⟩)
def law30_TrailMoves.Pure : Prop := ∀ (w : Int) (h : Int) (c : (List Int)) (k : (List Int)) (which : Int), inI64 w → inI64 h → (∀ y ∈ c, inU8 y) → (∀ y ∈ k, inI64 y) → inI64 which → List.length c ≤ 9223372036854775807 → List.length k ≤ 9223372036854775807 → law30_TrailMoves.f w h c k which = some true
end

end Go.Proofs.Yticdodeoljodiaa
