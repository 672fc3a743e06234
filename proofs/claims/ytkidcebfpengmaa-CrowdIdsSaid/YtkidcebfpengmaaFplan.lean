import Derived.Test.YtkidcebfpengmaaT
import Derived.Test.YtkidcebfpengmaaFwhere
namespace Go.Proofs.Ytkidcebfpengmaa
open Go.Hx
set_option maxRecDepth 100000
set_option linter.unusedVariables false
/-! ### herdsman/plan.May: function 44 -/
def plan_May.l0 : Nat → Int → Int → (List api_Unit) → Int → (List (Int × Bool)) → Int → Option Bool
  | 0, _, _, _, _, _, _ => none
  | k8 + 1, w, h, l, x5, x6, x7 => if x7 < (List.length l : Int) then (if (0 ≤ x7 ∧ x7 < (List.length l : Int)) then ((if (rd l x7).Id ≤ x5 then (some true) else ((where_Sector.f w h ((rd l x7).Cell)).bind fun v11 => if v11 < 0 then (some true) else ((where_Sector.f w h ((rd l x7).Goal)).bind fun v12 => if v12 < 0 then (some true) else (some (mval x6 ((rd l x7).Cell)))))).bind fun x9 => if x9 = true then (some false) else (plan_May.l0 k8 w h l ((rd l x7).Id) (mset x6 ((rd l x7).Cell) true) (w64 (x7 + 1)))) else none) else (some true)
def plan_May.f (w : Int) (h : Int) (l : (List api_Unit)) : Option Bool := (where_May.f w h).bind fun v1 => if (!v1) = true then (some false) else (plan_May.l0 fuel w h l (-1) ([] : (List (Int × Bool))) 0)
set_option maxHeartbeats 4000000 in
theorem plan_May.c {a_l : Option Addr} {n_l : Nat} (w : Int) (h : Int) (l : (List api_Unit)) (r : Bool) (F : Hp) (H : plan_May.f w h l = some r) (h_l : SliceR k_api_Unit l a_l F) (c_l : List.length l ≤ n_l) :
    CallsL Try.prog 44 [(.int .i64 w), (.int .i64 h), (.slice a_l (List.length l) n_l)] [F] (fun _ : Unit => (.bool r)) (fun _ => [F]) := by
  unfold plan_May.f at H
  refine calls_atL [(0, (.int .i64 w)), (1, (.int .i64 h)), (2, (.slice a_l (List.length l) n_l))] Try.func44 rfl rfl ⟨rfl, rfl, rfl, trivial⟩ (fun W => ?_)
  refine at_seq ?_
  refine at_region [0] rfl ?_
  refine at_s T rfl ?_
  refine at_end ?_
  refine at_sub [(0, (.int .i64 w)), (1, (.int .i64 h)), (2, (.slice a_l (List.length l) n_l))] ⟨rfl, rfl, rfl, trivial⟩ ?_
  refine at_then ?_
  refine at_seq ?_
  refine at_seq ?_
  refine at_region [0, 1, 2, 3] rfl ?_
  iterate 2 refine at_s T rfl ?_
  obtain ⟨v1, V1, H⟩ := bind_e H
  refine at_cons (at_c (B := fun _ => []) [] rfl rfl rfl rfl has29 rfl rfl (where_May.c w h v1 _ V1) (fun _ => ?_))
  refine at_s T rfl ?_
  refine at_end ?_
  refine at_sub [(0, (.int .i64 w)), (1, (.int .i64 h)), (2, (.slice a_l (List.length l) n_l)), (14, (.bool (!v1)))] ⟨rfl, rfl, rfl, rfl, trivial⟩ ?_
  refine at_then ?_
  refine at_cond rfl (fun c2 => ?_) (fun c2 => ?_)
  · replace H := if_t c2 H
    refine at_seq ?_
    refine at_region [0] rfl ?_
    refine at_s T rfl ?_
    refine at_end ?_
    refine at_sub [(6, (.bool false))] ⟨rfl, trivial⟩ ?_
    refine at_then ?_
    refine at_ret ?_
    refine at_rt ?_
    obtain rfl := Option.some.inj H
    exact at_post (T := T) rfl (.tmp rfl .nil) (fun w o => ⟨(), rfl, own_to [0] rfl o⟩)
  · replace H := if_f (bf c2) H
    refine at_skip ?_
    refine at_then ?_
    refine at_seq ?_
    refine at_region [0] rfl ?_
    refine at_s T rfl ?_
    refine at_end ?_
    refine at_sub [(0, (.int .i64 w)), (1, (.int .i64 h)), (2, (.slice a_l (List.length l) n_l)), (7, (.int .i64 (-1)))] ⟨rfl, rfl, rfl, rfl, trivial⟩ ?_
    refine at_then ?_
    refine at_seq ?_
    refine at_region [0, 1, 2, 3] rfl ?_
    iterate 2 refine at_s T rfl ?_
    refine at_cons (at_mm T (Ky.int .i64 u3) (fun x : Bool => Value.bool x) rfl rfl rfl ⟨_, _, rfl⟩ (fun a1 H1 s1 => ?_))
    refine at_s T rfl ?_
    refine at_end ?_
    refine at_sub [(0, (.int .i64 w)), (1, (.int .i64 h)), (2, (.slice a_l (List.length l) n_l)), (7, (.int .i64 (-1))), (8, (.map (some a1)))] ⟨rfl, rfl, rfl, rfl, rfl, trivial⟩ ?_
    refine at_then ?_
    refine at_seq ?_
    refine at_seq ?_
    refine at_region [0, 1, 2] rfl ?_
    iterate 3 refine at_s T rfl ?_
    refine at_end ?_
    refine at_sub [(0, (.int .i64 w)), (1, (.int .i64 h)), (7, (.int .i64 (-1))), (8, (.map (some a1))), (18, (.slice a_l (List.length l) n_l)), (19, (.int .i64 (List.length l : Int))), (20, (.int .i64 0))] ⟨rfl, rfl, rfl, rfl, rfl, rfl, rfl, trivial⟩ ?_
    refine at_then ?_
    refine at_block ?_
    refine at_loopL (σ := Nat × Int × (List (Int × Bool)) × Int × Nat × Hp) (fun ⟨k8, x5, x6, x7, a3, H3⟩ => plan_May.l0 k8 w h l x5 x6 x7 = some r ∧ MapO (Ky.int .i64 u3) (fun x : Bool => Value.bool x) x6 a3 H3) (fun ⟨k8, x5, x6, x7, a3, H3⟩ => [(0, (.int .i64 w)), (1, (.int .i64 h)), (7, (.int .i64 x5)), (8, (.map (some a3))), (18, (.slice a_l (List.length l) n_l)), (19, (.int .i64 (List.length l : Int))), (20, (.int .i64 x7))]) (fun ⟨k8, x5, x6, x7, a3, H3⟩ => [F, H3]) (fun s => s.1) (fuel, (-1), ([] : (List (Int × Bool))), 0, a1, H1) [0, 0] ⟨H, s1⟩ ⟨rfl, rfl, rfl, rfl, rfl, rfl, rfl, trivial⟩ rfl ?_
    rintro ⟨k8, x5, x6, x7, a3, H3⟩ ⟨Z3, s3⟩
    replace Z3 : plan_May.l0 k8 w h l x5 x6 x7 = some r := Z3
    rcases k8 with _ | k8
    · rw [plan_May.l0] at Z3; cases Z3
    · rw [plan_May.l0] at Z3
      refine at_seq ?_
      refine at_region [0] rfl ?_
      refine at_s T rfl ?_
      refine at_end ?_
      refine at_sub [(0, (.int .i64 w)), (1, (.int .i64 h)), (7, (.int .i64 x5)), (8, (.map (some a3))), (18, (.slice a_l (List.length l) n_l)), (19, (.int .i64 (List.length l : Int))), (20, (.int .i64 x7)), (21, (.bool (decide (x7 < (List.length l : Int)))))] ⟨rfl, rfl, rfl, rfl, rfl, rfl, rfl, rfl, trivial⟩ ?_
      refine at_then ?_
      refine at_seq ?_
      refine at_cond rfl (fun c4 => ?_) (fun c4 => ?_)
      · replace Z3 := if_t (of_decide_eq_true c4) Z3
        refine at_skip ?_
        refine at_then ?_
        refine at_seq ?_
        refine at_block ?_
        refine at_seq ?_
        refine at_region [0, 1, 2, 3] rfl ?_
        obtain ⟨c5, Z3⟩ := chk_e Z3
        obtain ⟨q4, o4, e4⟩ := h_l.addr c5.1 c5.2
        refine at_v rfl (g_index T rfl rfl rfl rfl rfl e4 c5.1 c5.2) ?_
        refine at_v rfl (g_loadA T (cs := [(.int .i64 (rd l x7).Id), (.int .i64 (rd l x7).Cell), (.int .i64 (rd l x7).Goal)]) rfl rfl rfl rfl rfl rfl (in_elemA (k := k_api_Unit) (ro_of h_l (j := 0) rfl) e4 c5 rfl)) ?_
        refine at_cons (at_al T [(.int .i64 0), (.int .i64 0), (.int .i64 0)] rfl rfl rfl rfl (fun b5 => ?_))
        refine at_cons (at_st T 2 [(.int .i64 (rd l x7).Id), (.int .i64 (rd l x7).Cell), (.int .i64 (rd l x7).Goal)] rfl rfl rfl rfl rfl rfl rfl rfl rfl rfl ?_)
        refine at_end ?_
        refine at_sub [(0, (.int .i64 w)), (1, (.int .i64 h)), (7, (.int .i64 x5)), (8, (.map (some a3))), (10, (.pointer (some ⟨b5, 0, none⟩))), (18, (.slice a_l (List.length l) n_l)), (19, (.int .i64 (List.length l : Int))), (20, (.int .i64 x7))] ⟨rfl, rfl, rfl, rfl, rfl, rfl, rfl, rfl, trivial⟩ ?_
        refine at_then ?_
        refine at_seq ?_
        obtain ⟨z10, Z6, Z3⟩ := bind_e Z3
        refine at_seq_mid (σ := Bool) (fun x9 => x9 = z10) (fun x9 => [(0, (.int .i64 w)), (1, (.int .i64 h)), (8, (.map (some a3))), (10, (.pointer (some ⟨b5, 0, none⟩))), (18, (.slice a_l (List.length l) n_l)), (19, (.int .i64 (List.length l : Int))), (20, (.int .i64 x7)), (49, (.bool x9))]) (fun x9 => [F, H3, [(b5, Obj.cells #[(.int .i64 (rd l x7).Id), (.int .i64 (rd l x7).Cell), (.int .i64 (rd l x7).Goal)] 40 (0, 0))]]) ?_ ?_
        · refine at_region [0, 1, 2, 3, 4, 5, 6, 7, 8, 9, 10, 11, 12, 13, 14, 15, 16, 17, 18, 19, 20, 21, 22, 23, 24, 25] rfl ?_
          refine at_s T rfl ?_
          refine at_v rfl (g_load T rfl rfl rfl rfl (in_var (j := 2) rfl rfl)) ?_
          iterate 3 refine at_s T rfl ?_
          refine at_case (s := 28) rfl (fun c7 => ?_) (fun c7 => ?_)
          · replace Z6 := if_t (of_decide_eq_true c7) Z6
            iterate 21 refine at_s T rfl ?_
            refine at_end ?_
            refine at_sub [(0, (.int .i64 w)), (1, (.int .i64 h)), (8, (.map (some a3))), (10, (.pointer (some ⟨b5, 0, none⟩))), (18, (.slice a_l (List.length l) n_l)), (19, (.int .i64 (List.length l : Int))), (20, (.int .i64 x7)), (49, (.bool true))] ⟨rfl, rfl, rfl, rfl, rfl, rfl, rfl, rfl, trivial⟩ ?_
            refine at_then ?_
            obtain rfl := Option.some.inj Z6
            exact at_mid true [0, 0, 0] rfl ⟨rfl, rfl, rfl, rfl, rfl, rfl, rfl, rfl, trivial⟩ rfl
          · replace Z6 := if_f (of_decide_eq_false c7) Z6
            iterate 3 refine at_s T rfl ?_
            refine at_v rfl (g_load T rfl rfl rfl rfl (in_var (j := 2) rfl rfl)) ?_
            obtain ⟨v11, V8, Z6⟩ := bind_e Z6
            refine at_cons (at_c (B := fun _ => []) [] rfl rfl rfl rfl has71 rfl rfl (where_Sector.c w h ((rd l x7).Cell) v11 _ V8) (fun _ => ?_))
            iterate 3 refine at_s T rfl ?_
            refine at_case (s := 36) rfl (fun c9 => ?_) (fun c9 => ?_)
            · replace Z6 := if_t (of_decide_eq_true c9) Z6
              iterate 13 refine at_s T rfl ?_
              refine at_end ?_
              refine at_sub [(0, (.int .i64 w)), (1, (.int .i64 h)), (8, (.map (some a3))), (10, (.pointer (some ⟨b5, 0, none⟩))), (18, (.slice a_l (List.length l) n_l)), (19, (.int .i64 (List.length l : Int))), (20, (.int .i64 x7)), (49, (.bool true))] ⟨rfl, rfl, rfl, rfl, rfl, rfl, rfl, rfl, trivial⟩ ?_
              refine at_then ?_
              obtain rfl := Option.some.inj Z6
              exact at_mid true [0, 0, 0] rfl ⟨rfl, rfl, rfl, rfl, rfl, rfl, rfl, rfl, trivial⟩ rfl
            · replace Z6 := if_f (of_decide_eq_false c9) Z6
              iterate 3 refine at_s T rfl ?_
              refine at_v rfl (g_load T rfl rfl rfl rfl (in_var (j := 2) rfl rfl)) ?_
              obtain ⟨v12, V10, Z6⟩ := bind_e Z6
              refine at_cons (at_c (B := fun _ => []) [] rfl rfl rfl rfl has71 rfl rfl (where_Sector.c w h ((rd l x7).Goal) v12 _ V10) (fun _ => ?_))
              iterate 3 refine at_s T rfl ?_
              refine at_case (s := 44) rfl (fun c11 => ?_) (fun c11 => ?_)
              · replace Z6 := if_t (of_decide_eq_true c11) Z6
                iterate 5 refine at_s T rfl ?_
                refine at_end ?_
                refine at_sub [(0, (.int .i64 w)), (1, (.int .i64 h)), (8, (.map (some a3))), (10, (.pointer (some ⟨b5, 0, none⟩))), (18, (.slice a_l (List.length l) n_l)), (19, (.int .i64 (List.length l : Int))), (20, (.int .i64 x7)), (49, (.bool true))] ⟨rfl, rfl, rfl, rfl, rfl, rfl, rfl, rfl, trivial⟩ ?_
                refine at_then ?_
                obtain rfl := Option.some.inj Z6
                exact at_mid true [0, 0, 0] rfl ⟨rfl, rfl, rfl, rfl, rfl, rfl, rfl, rfl, trivial⟩ rfl
              · replace Z6 := if_f (of_decide_eq_false c11) Z6
                iterate 2 refine at_s T rfl ?_
                refine at_v rfl (g_load T rfl rfl rfl rfl (in_var (j := 2) rfl rfl)) ?_
                refine at_v rfl (g_look T (Ky.int .i64 u3) (fun x : Bool => Value.bool x) rfl rfl rfl rfl rfl (mown_of s3 (j := 1) rfl)) ?_
                refine at_s T rfl ?_
                refine at_end ?_
                refine at_sub [(0, (.int .i64 w)), (1, (.int .i64 h)), (8, (.map (some a3))), (10, (.pointer (some ⟨b5, 0, none⟩))), (18, (.slice a_l (List.length l) n_l)), (19, (.int .i64 (List.length l : Int))), (20, (.int .i64 x7)), (49, (.bool (mval x6 ((rd l x7).Cell))))] ⟨rfl, rfl, rfl, rfl, rfl, rfl, rfl, rfl, trivial⟩ ?_
                refine at_then ?_
                obtain rfl := Option.some.inj Z6
                exact at_mid (mval x6 ((rd l x7).Cell)) [0, 0, 0] rfl ⟨rfl, rfl, rfl, rfl, rfl, rfl, rfl, rfl, trivial⟩ rfl
        · rintro x9 rfl
          refine at_cond rfl (fun c12 => ?_) (fun c12 => ?_)
          · replace Z3 := if_t c12 Z3
            refine at_seq ?_
            refine at_region [0] rfl ?_
            refine at_s T rfl ?_
            refine at_end ?_
            refine at_to [(6, (.bool false))] [0] [F] ⟨rfl, trivial⟩ rfl ?_
            refine at_then ?_
            refine at_ret ?_
            refine at_rt ?_
            refine at_rb ?_
            refine at_rt ?_
            refine at_rt ?_
            refine at_rb ?_
            refine at_rt ?_
            obtain rfl := Option.some.inj Z3
            exact at_post (T := T) rfl (.tmp rfl .nil) (fun w o => ⟨(), rfl, own_to [0] rfl o⟩)
          · replace Z3 := if_f (bf c12) Z3
            refine at_skip ?_
            refine at_then ?_
            refine at_region_m [[], [], [1], [], [3], [3, 4], [0, 1, 2, 3, 4, 5]] [6] [F, H3, [(b5, Obj.cells #[(.int .i64 (rd l x7).Id), (.int .i64 (rd l x7).Cell), (.int .i64 (rd l x7).Goal)] 40 (0, 0))]] mix (by kernel_rfl) (by repeat first | exact pf_body | refine pf_then ?_ | refine pf_block ?_) (fun hg pf => ?_)
            refine atm_s T 0 hg pf (by kernel_rfl) (still_o [0, 0, 0] rfl) rfl ?_
            refine atm_s T 1 hg pf (by kernel_rfl) (still_o [0, 0, 0] rfl) rfl ?_
            refine atm_v 2 hg pf (by kernel_rfl) (still_o [0, 0, 0] rfl) rfl rfl (g_load T rfl rfl rfl rfl (in_var (j := 2) rfl rfl)) ?_
            refine atm_s T 3 hg pf (by kernel_rfl) (still_o [0, 0, 0] rfl) rfl ?_
            refine atm_v 4 hg pf (by kernel_rfl) (still_o [0, 0, 0] rfl) rfl rfl (g_load T rfl rfl rfl rfl (in_var (j := 2) rfl rfl)) ?_
            refine atm_s T 5 hg pf (by kernel_rfl) (still_o [0, 0, 0] rfl) rfl ?_
            refine atm_one 6 (by kernel_rfl) ?_
            refine at_mu (g := 1) (m := x6) (k := (rd l x7).Cell) (v := true) T (Ky.int .i64 u3) (fun x : Bool => Value.bool x) rfl rfl rfl rfl rfl rfl rfl s3 (fun H6 s6 => ?_)
            refine atm_next (still_l (by kernel_rfl)) ?_
            refine atm_end (by kernel_rfl) ?_
            refine at_to [(0, (.int .i64 w)), (1, (.int .i64 h)), (7, (.int .i64 (rd l x7).Id)), (8, (.map (some a3))), (18, (.slice a_l (List.length l) n_l)), (19, (.int .i64 (List.length l : Int))), (20, (.int .i64 x7))] [0, 0] [F, H6] ⟨rfl, rfl, rfl, rfl, rfl, rfl, rfl, trivial⟩ rfl ?_
            refine at_nb ?_
            refine at_then ?_
            refine at_region [0, 1] rfl ?_
            iterate 2 refine at_s T rfl ?_
            refine at_end ?_
            refine at_sub [(0, (.int .i64 w)), (1, (.int .i64 h)), (7, (.int .i64 (rd l x7).Id)), (8, (.map (some a3))), (18, (.slice a_l (List.length l) n_l)), (19, (.int .i64 (List.length l : Int))), (20, (.int .i64 (w64 (x7 + 1))))] ⟨rfl, rfl, rfl, rfl, rfl, rfl, rfl, trivial⟩ ?_
            refine at_then ?_
            exact at_roundL (k8, (rd l x7).Id, (mset x6 ((rd l x7).Cell) true), (w64 (x7 + 1)), a3, H6) [0, 0] ⟨Z3, s6⟩ (Nat.lt_succ_self _) ⟨rfl, rfl, rfl, rfl, rfl, rfl, rfl, trivial⟩ rfl
      · replace Z3 := if_f (of_decide_eq_false c4) Z3
        refine at_exit ?_
        refine at_xt ?_
        refine at_xt ?_
        refine at_xb ?_
        refine at_then ?_
        refine at_seq ?_
        refine at_region [0] rfl ?_
        refine at_s T rfl ?_
        refine at_end ?_
        refine at_to [(6, (.bool true))] [0] [F] ⟨rfl, trivial⟩ rfl ?_
        refine at_then ?_
        refine at_ret ?_
        obtain rfl := Option.some.inj Z3
        exact at_post (T := T) rfl (.tmp rfl .nil) (fun w o => ⟨(), rfl, own_to [0] rfl o⟩)
end Go.Proofs.Ytkidcebfpengmaa
