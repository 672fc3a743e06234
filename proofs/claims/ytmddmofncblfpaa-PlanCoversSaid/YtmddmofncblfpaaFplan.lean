import Derived.Test.YtmddmofncblfpaaT
import Derived.Test.YtmddmofncblfpaaFwhere
namespace Go.Proofs.Ytmddmofncblfpaa
open Go.Hx
set_option maxRecDepth 100000
set_option linter.unusedVariables false
/-! ### herdsman/plan.May: function 44 -/
def plan_May.l0 : Nat → Int → Int → (List api_Unit) → Int → (List (Int × Bool)) → Int → Option Bool
  | 0, _, _, _, _, _, _ => none
  | k8 + 1, w, h, l, x5, x6, x7 => if x7 < (List.length l : Int) then (if (0 ≤ x7 ∧ x7 < (List.length l : Int)) then ((if (rd l x7).Id ≤ x5 then (some true) else ((where_Sector.f w h ((rd l x7).Cell)).bind fun v11 => if v11 < 0 then (some true) else ((where_Sector.f w h ((rd l x7).Goal)).bind fun v12 => if v12 < 0 then (some true) else (some (mval x6 ((rd l x7).Cell)))))).bind fun x9 => if x9 = true then (some false) else (plan_May.l0 k8 w h l ((rd l x7).Id) (mset x6 ((rd l x7).Cell) true) (w64 (x7 + 1)))) else none) else (some true)
def plan_May.f (w : Int) (h : Int) (l : (List api_Unit)) : Option Bool := (where_May.f w h).bind fun v1 => if (!v1) = true then (some false) else (plan_May.l0 fuel w h l (-1) ([] : (List (Int × Bool))) 0)
set_option maxHeartbeats 4000000 in
theorem plan_May.c {a_l : Option Addr} {n_l : Nat} (w : Int) (h : Int) (l : (List api_Unit)) (r : Bool) (F : Hp) (H : plan_May.f w h l = some r) (h_l : SliceR k_api_Unit l a_l F) (c_l : List.length l ≤ n_l) :
    CallsL Try.prog 44 [(.int .i64 w), (.int .i64 h), (.slice a_l (List.length l) n_l)] [F] (fun _ : Unit => (.bool r)) (fun _ => [F]) := by
  unfold plan_May.f at H
  refine calls_atL [(0, (.int .i64 w)), (1, (.int .i64 h)), (2, (.slice a_l (List.length l) n_l))] Try.func44 rfl rfl ⟨rfl, rfl, rfl, trivial⟩ (fun W => ?_)
  refine at_seq ?_
  refine at_region [0] rfl ?_
  refine at_s T rfl ?_
  refine at_end ?_
  refine at_sub [(0, (.int .i64 w)), (1, (.int .i64 h)), (2, (.slice a_l (List.length l) n_l))] ⟨rfl, rfl, rfl, trivial⟩ ?_
  refine at_then ?_
  refine at_seq ?_
  refine at_seq ?_
  refine at_region [0, 1, 2, 3] rfl ?_
  iterate 2 refine at_s T rfl ?_
  obtain ⟨v1, V1, H⟩ := bind_e H
  refine at_cons (at_c (B := fun _ => []) [] rfl rfl rfl rfl has60 rfl rfl (where_May.c w h v1 _ V1) (fun _ => ?_))
  refine at_s T rfl ?_
  refine at_end ?_
  refine at_sub [(0, (.int .i64 w)), (1, (.int .i64 h)), (2, (.slice a_l (List.length l) n_l)), (14, (.bool (!v1)))] ⟨rfl, rfl, rfl, rfl, trivial⟩ ?_
  refine at_then ?_
  refine at_cond rfl (fun c2 => ?_) (fun c2 => ?_)
  · replace H := if_t c2 H
    refine at_seq ?_
    refine at_region [0] rfl ?_
    refine at_s T rfl ?_
    refine at_end ?_
    refine at_sub [(6, (.bool false))] ⟨rfl, trivial⟩ ?_
    refine at_then ?_
    refine at_ret ?_
    refine at_rt ?_
    obtain rfl := Option.some.inj H
    exact at_post (T := T) rfl (.tmp rfl .nil) (fun w o => ⟨(), rfl, own_to [0] rfl o⟩)
  · replace H := if_f (bf c2) H
    refine at_skip ?_
    refine at_then ?_
    refine at_seq ?_
    refine at_region [0] rfl ?_
    refine at_s T rfl ?_
    refine at_end ?_
    refine at_sub [(0, (.int .i64 w)), (1, (.int .i64 h)), (2, (.slice a_l (List.length l) n_l)), (7, (.int .i64 (-1)))] ⟨rfl, rfl, rfl, rfl, trivial⟩ ?_
    refine at_then ?_
    refine at_seq ?_
    refine at_region [0, 1, 2, 3] rfl ?_
    iterate 2 refine at_s T rfl ?_
    refine at_cons (at_mm T (Ky.int .i64 u3) (fun x : Bool => Value.bool x) rfl rfl rfl ⟨_, _, rfl⟩ (fun a1 H1 s1 => ?_))
    refine at_s T rfl ?_
    refine at_end ?_
    refine at_sub [(0, (.int .i64 w)), (1, (.int .i64 h)), (2, (.slice a_l (List.length l) n_l)), (7, (.int .i64 (-1))), (8, (.map (some a1)))] ⟨rfl, rfl, rfl, rfl, rfl, trivial⟩ ?_
    refine at_then ?_
    refine at_seq ?_
    refine at_seq ?_
    refine at_region [0, 1, 2] rfl ?_
    iterate 3 refine at_s T rfl ?_
    refine at_end ?_
    refine at_sub [(0, (.int .i64 w)), (1, (.int .i64 h)), (7, (.int .i64 (-1))), (8, (.map (some a1))), (18, (.slice a_l (List.length l) n_l)), (19, (.int .i64 (List.length l : Int))), (20, (.int .i64 0))] ⟨rfl, rfl, rfl, rfl, rfl, rfl, rfl, trivial⟩ ?_
    refine at_then ?_
    refine at_block ?_
    refine at_loopL (σ := Nat × Int × (List (Int × Bool)) × Int × Nat × Hp) (fun ⟨k8, x5, x6, x7, a3, H3⟩ => plan_May.l0 k8 w h l x5 x6 x7 = some r ∧ MapO (Ky.int .i64 u3) (fun x : Bool => Value.bool x) x6 a3 H3) (fun ⟨k8, x5, x6, x7, a3, H3⟩ => [(0, (.int .i64 w)), (1, (.int .i64 h)), (7, (.int .i64 x5)), (8, (.map (some a3))), (18, (.slice a_l (List.length l) n_l)), (19, (.int .i64 (List.length l : Int))), (20, (.int .i64 x7))]) (fun ⟨k8, x5, x6, x7, a3, H3⟩ => [F, H3]) (fun s => s.1) (fuel, (-1), ([] : (List (Int × Bool))), 0, a1, H1) [0, 0] ⟨H, s1⟩ ⟨rfl, rfl, rfl, rfl, rfl, rfl, rfl, trivial⟩ rfl ?_
    rintro ⟨k8, x5, x6, x7, a3, H3⟩ ⟨Z3, s3⟩
    replace Z3 : plan_May.l0 k8 w h l x5 x6 x7 = some r := Z3
    rcases k8 with _ | k8
    · rw [plan_May.l0] at Z3; cases Z3
    · rw [plan_May.l0] at Z3
      refine at_seq ?_
      refine at_region [0] rfl ?_
      refine at_s T rfl ?_
      refine at_end ?_
      refine at_sub [(0, (.int .i64 w)), (1, (.int .i64 h)), (7, (.int .i64 x5)), (8, (.map (some a3))), (18, (.slice a_l (List.length l) n_l)), (19, (.int .i64 (List.length l : Int))), (20, (.int .i64 x7)), (21, (.bool (decide (x7 < (List.length l : Int)))))] ⟨rfl, rfl, rfl, rfl, rfl, rfl, rfl, rfl, trivial⟩ ?_
      refine at_then ?_
      refine at_seq ?_
      refine at_cond rfl (fun c4 => ?_) (fun c4 => ?_)
      · replace Z3 := if_t (of_decide_eq_true c4) Z3
        refine at_skip ?_
        refine at_then ?_
        refine at_seq ?_
        refine at_block ?_
        refine at_seq ?_
        refine at_region [0, 1, 2, 3] rfl ?_
        obtain ⟨c5, Z3⟩ := chk_e Z3
        obtain ⟨q4, o4, e4⟩ := h_l.addr c5.1 c5.2
        refine at_v rfl (g_index T rfl rfl rfl rfl rfl e4 c5.1 c5.2) ?_
        refine at_v rfl (g_loadA T (cs := [(.int .i64 (rd l x7).Id), (.int .i64 (rd l x7).Cell), (.int .i64 (rd l x7).Goal)]) rfl rfl rfl rfl rfl rfl (in_elemA (k := k_api_Unit) (ro_of h_l (j := 0) rfl) e4 c5 rfl)) ?_
        refine at_cons (at_al T [(.int .i64 0), (.int .i64 0), (.int .i64 0)] rfl rfl rfl rfl (fun b5 => ?_))
        refine at_cons (at_st T 2 [(.int .i64 (rd l x7).Id), (.int .i64 (rd l x7).Cell), (.int .i64 (rd l x7).Goal)] rfl rfl rfl rfl rfl rfl rfl rfl rfl rfl ?_)
        refine at_end ?_
        refine at_sub [(0, (.int .i64 w)), (1, (.int .i64 h)), (7, (.int .i64 x5)), (8, (.map (some a3))), (10, (.pointer (some ⟨b5, 0, none⟩))), (18, (.slice a_l (List.length l) n_l)), (19, (.int .i64 (List.length l : Int))), (20, (.int .i64 x7))] ⟨rfl, rfl, rfl, rfl, rfl, rfl, rfl, rfl, trivial⟩ ?_
        refine at_then ?_
        refine at_seq ?_
        obtain ⟨z10, Z6, Z3⟩ := bind_e Z3
        refine at_seq_mid (σ := Bool) (fun x9 => x9 = z10) (fun x9 => [(0, (.int .i64 w)), (1, (.int .i64 h)), (8, (.map (some a3))), (10, (.pointer (some ⟨b5, 0, none⟩))), (18, (.slice a_l (List.length l) n_l)), (19, (.int .i64 (List.length l : Int))), (20, (.int .i64 x7)), (49, (.bool x9))]) (fun x9 => [F, H3, [(b5, Obj.cells #[(.int .i64 (rd l x7).Id), (.int .i64 (rd l x7).Cell), (.int .i64 (rd l x7).Goal)] 47 (0, 0))]]) ?_ ?_
        · refine at_region [0, 1, 2, 3, 4, 5, 6, 7, 8, 9, 10, 11, 12, 13, 14, 15, 16, 17, 18, 19, 20, 21, 22, 23, 24, 25] rfl ?_
          refine at_s T rfl ?_
          refine at_v rfl (g_load T rfl rfl rfl rfl (in_var (j := 2) rfl rfl)) ?_
          iterate 3 refine at_s T rfl ?_
          refine at_case (s := 28) rfl (fun c7 => ?_) (fun c7 => ?_)
          · replace Z6 := if_t (of_decide_eq_true c7) Z6
            iterate 21 refine at_s T rfl ?_
            refine at_end ?_
            refine at_sub [(0, (.int .i64 w)), (1, (.int .i64 h)), (8, (.map (some a3))), (10, (.pointer (some ⟨b5, 0, none⟩))), (18, (.slice a_l (List.length l) n_l)), (19, (.int .i64 (List.length l : Int))), (20, (.int .i64 x7)), (49, (.bool true))] ⟨rfl, rfl, rfl, rfl, rfl, rfl, rfl, rfl, trivial⟩ ?_
            refine at_then ?_
            obtain rfl := Option.some.inj Z6
            exact at_mid true [0, 0, 0] rfl ⟨rfl, rfl, rfl, rfl, rfl, rfl, rfl, rfl, trivial⟩ rfl
          · replace Z6 := if_f (of_decide_eq_false c7) Z6
            iterate 3 refine at_s T rfl ?_
            refine at_v rfl (g_load T rfl rfl rfl rfl (in_var (j := 2) rfl rfl)) ?_
            obtain ⟨v11, V8, Z6⟩ := bind_e Z6
            refine at_cons (at_c (B := fun _ => []) [] rfl rfl rfl rfl has51 rfl rfl (where_Sector.c w h ((rd l x7).Cell) v11 _ V8) (fun _ => ?_))
            iterate 3 refine at_s T rfl ?_
            refine at_case (s := 36) rfl (fun c9 => ?_) (fun c9 => ?_)
            · replace Z6 := if_t (of_decide_eq_true c9) Z6
              iterate 13 refine at_s T rfl ?_
              refine at_end ?_
              refine at_sub [(0, (.int .i64 w)), (1, (.int .i64 h)), (8, (.map (some a3))), (10, (.pointer (some ⟨b5, 0, none⟩))), (18, (.slice a_l (List.length l) n_l)), (19, (.int .i64 (List.length l : Int))), (20, (.int .i64 x7)), (49, (.bool true))] ⟨rfl, rfl, rfl, rfl, rfl, rfl, rfl, rfl, trivial⟩ ?_
              refine at_then ?_
              obtain rfl := Option.some.inj Z6
              exact at_mid true [0, 0, 0] rfl ⟨rfl, rfl, rfl, rfl, rfl, rfl, rfl, rfl, trivial⟩ rfl
            · replace Z6 := if_f (of_decide_eq_false c9) Z6
              iterate 3 refine at_s T rfl ?_
              refine at_v rfl (g_load T rfl rfl rfl rfl (in_var (j := 2) rfl rfl)) ?_
              obtain ⟨v12, V10, Z6⟩ := bind_e Z6
              refine at_cons (at_c (B := fun _ => []) [] rfl rfl rfl rfl has51 rfl rfl (where_Sector.c w h ((rd l x7).Goal) v12 _ V10) (fun _ => ?_))
              iterate 3 refine at_s T rfl ?_
              refine at_case (s := 44) rfl (fun c11 => ?_) (fun c11 => ?_)
              · replace Z6 := if_t (of_decide_eq_true c11) Z6
                iterate 5 refine at_s T rfl ?_
                refine at_end ?_
                refine at_sub [(0, (.int .i64 w)), (1, (.int .i64 h)), (8, (.map (some a3))), (10, (.pointer (some ⟨b5, 0, none⟩))), (18, (.slice a_l (List.length l) n_l)), (19, (.int .i64 (List.length l : Int))), (20, (.int .i64 x7)), (49, (.bool true))] ⟨rfl, rfl, rfl, rfl, rfl, rfl, rfl, rfl, trivial⟩ ?_
                refine at_then ?_
                obtain rfl := Option.some.inj Z6
                exact at_mid true [0, 0, 0] rfl ⟨rfl, rfl, rfl, rfl, rfl, rfl, rfl, rfl, trivial⟩ rfl
              · replace Z6 := if_f (of_decide_eq_false c11) Z6
                iterate 2 refine at_s T rfl ?_
                refine at_v rfl (g_load T rfl rfl rfl rfl (in_var (j := 2) rfl rfl)) ?_
                refine at_v rfl (g_look (k := (rd l x7).Cell) T (Ky.int .i64 u3) (fun x : Bool => Value.bool x) rfl rfl rfl rfl rfl (mown_of s3 (j := 1) rfl)) ?_
                refine at_s T rfl ?_
                refine at_end ?_
                refine at_sub [(0, (.int .i64 w)), (1, (.int .i64 h)), (8, (.map (some a3))), (10, (.pointer (some ⟨b5, 0, none⟩))), (18, (.slice a_l (List.length l) n_l)), (19, (.int .i64 (List.length l : Int))), (20, (.int .i64 x7)), (49, (.bool (mval x6 ((rd l x7).Cell))))] ⟨rfl, rfl, rfl, rfl, rfl, rfl, rfl, rfl, trivial⟩ ?_
                refine at_then ?_
                obtain rfl := Option.some.inj Z6
                exact at_mid (mval x6 ((rd l x7).Cell)) [0, 0, 0] rfl ⟨rfl, rfl, rfl, rfl, rfl, rfl, rfl, rfl, trivial⟩ rfl
        · rintro x9 rfl
          refine at_cond rfl (fun c12 => ?_) (fun c12 => ?_)
          · replace Z3 := if_t c12 Z3
            refine at_seq ?_
            refine at_region [0] rfl ?_
            refine at_s T rfl ?_
            refine at_end ?_
            refine at_to [(6, (.bool false))] [0] [F] ⟨rfl, trivial⟩ rfl ?_
            refine at_then ?_
            refine at_ret ?_
            refine at_rt ?_
            refine at_rb ?_
            refine at_rt ?_
            refine at_rt ?_
            refine at_rb ?_
            refine at_rt ?_
            obtain rfl := Option.some.inj Z3
            exact at_post (T := T) rfl (.tmp rfl .nil) (fun w o => ⟨(), rfl, own_to [0] rfl o⟩)
          · replace Z3 := if_f (bf c12) Z3
            refine at_skip ?_
            refine at_then ?_
            refine at_region_m [[], [], [1], [], [3], [3, 4], [0, 1, 2, 3, 4, 5]] [6] [F, H3, [(b5, Obj.cells #[(.int .i64 (rd l x7).Id), (.int .i64 (rd l x7).Cell), (.int .i64 (rd l x7).Goal)] 47 (0, 0))]] mix (by kernel_rfl) (by repeat first | exact pf_body | refine pf_then ?_ | refine pf_block ?_) (fun hg pf => ?_)
            refine atm_s T 0 hg pf (by kernel_rfl) (still_o [0, 0, 0] rfl) rfl ?_
            refine atm_s T 1 hg pf (by kernel_rfl) (still_o [0, 0, 0] rfl) rfl ?_
            refine atm_v 2 hg pf (by kernel_rfl) (still_o [0, 0, 0] rfl) rfl rfl (g_load T rfl rfl rfl rfl (in_var (j := 2) rfl rfl)) ?_
            refine atm_s T 3 hg pf (by kernel_rfl) (still_o [0, 0, 0] rfl) rfl ?_
            refine atm_v 4 hg pf (by kernel_rfl) (still_o [0, 0, 0] rfl) rfl rfl (g_load T rfl rfl rfl rfl (in_var (j := 2) rfl rfl)) ?_
            refine atm_s T 5 hg pf (by kernel_rfl) (still_o [0, 0, 0] rfl) rfl ?_
            refine atm_one 6 (by kernel_rfl) ?_
            refine at_mu (g := 1) (m := x6) (k := (rd l x7).Cell) (v := true) T (Ky.int .i64 u3) (fun x : Bool => Value.bool x) rfl rfl rfl rfl rfl rfl rfl s3 (fun H6 s6 => ?_)
            refine atm_next (still_l (by kernel_rfl)) ?_
            refine atm_end (by kernel_rfl) ?_
            refine at_to [(0, (.int .i64 w)), (1, (.int .i64 h)), (7, (.int .i64 (rd l x7).Id)), (8, (.map (some a3))), (18, (.slice a_l (List.length l) n_l)), (19, (.int .i64 (List.length l : Int))), (20, (.int .i64 x7))] [0, 0] [F, H6] ⟨rfl, rfl, rfl, rfl, rfl, rfl, rfl, trivial⟩ rfl ?_
            refine at_nb ?_
            refine at_then ?_
            refine at_region [0, 1] rfl ?_
            iterate 2 refine at_s T rfl ?_
            refine at_end ?_
            refine at_sub [(0, (.int .i64 w)), (1, (.int .i64 h)), (7, (.int .i64 (rd l x7).Id)), (8, (.map (some a3))), (18, (.slice a_l (List.length l) n_l)), (19, (.int .i64 (List.length l : Int))), (20, (.int .i64 (w64 (x7 + 1))))] ⟨rfl, rfl, rfl, rfl, rfl, rfl, rfl, trivial⟩ ?_
            refine at_then ?_
            exact at_roundL (k8, (rd l x7).Id, (mset x6 ((rd l x7).Cell) true), (w64 (x7 + 1)), a3, H6) [0, 0] ⟨Z3, s6⟩ (Nat.lt_succ_self _) ⟨rfl, rfl, rfl, rfl, rfl, rfl, rfl, trivial⟩ rfl
      · replace Z3 := if_f (of_decide_eq_false c4) Z3
        refine at_exit ?_
        refine at_xt ?_
        refine at_xt ?_
        refine at_xb ?_
        refine at_then ?_
        refine at_seq ?_
        refine at_region [0] rfl ?_
        refine at_s T rfl ?_
        refine at_end ?_
        refine at_to [(6, (.bool true))] [0] [F] ⟨rfl, trivial⟩ rfl ?_
        refine at_then ?_
        refine at_ret ?_
        obtain rfl := Option.some.inj Z3
        exact at_post (T := T) rfl (.tmp rfl .nil) (fun w o => ⟨(), rfl, own_to [0] rfl o⟩)

/-! ### herdsman/plan.Goals: function 49 -/
def plan_Goals.l0 : Nat → (List api_Unit) → List Int → (List (Int × Bool)) → Int → Option (List Int)
  | 0, _, _, _, _ => none
  | k7 + 1, l, x4, x5, x6 => if x6 < (List.length l : Int) then (if (0 ≤ x6 ∧ x6 < (List.length l : Int)) then (if (!(mval x5 ((rd l x6).Goal))) = true then (if (List.length x4 + 1 ≤ 1099511627776) then (plan_Goals.l0 k7 l (x4 ++ [(rd l x6).Goal]) (mset x5 ((rd l x6).Goal) true) (w64 (x6 + 1))) else none) else (plan_Goals.l0 k7 l x4 x5 (w64 (x6 + 1)))) else none) else (some x4)
def plan_Goals.f (l : (List api_Unit)) : Option (List Int) := plan_Goals.l0 fuel l [] ([] : (List (Int × Bool))) 0
def plan_Goals.R (r : (List Int)) (u : Value) (G : List Hp) : Prop := ∃ (a0 : Option Addr) (n0 : Nat) (H0 : Hp), SliceO (Fl.int .i64) 3 r a0 n0 H0 ∧ u = (.slice a0 (List.length r) n0) ∧ G = [H0]
set_option maxHeartbeats 4000000 in
theorem plan_Goals.c {a_l : Option Addr} {n_l : Nat} (l : (List api_Unit)) (r : (List Int)) (F : Hp) (H : plan_Goals.f l = some r) (h_l : SliceR k_api_Unit l a_l F) (c_l : List.length l ≤ n_l) :
    CallsL Try.prog 49 [(.slice a_l (List.length l) n_l)] [F] (fun qp : { qp : Value × List Hp // plan_Goals.R r qp.1 qp.2 } => qp.1.1) (fun qp => (qp.1.2 ++ []) ++ [F]) := by
  unfold plan_Goals.f at H
  refine calls_atL [(0, (.slice a_l (List.length l) n_l))] Try.func49 rfl rfl ⟨rfl, trivial⟩ (fun W => ?_)
  refine at_seq ?_
  refine at_region [0] rfl ?_
  refine at_s T rfl ?_
  refine at_end ?_
  refine at_sub [(0, (.slice a_l (List.length l) n_l))] ⟨rfl, trivial⟩ ?_
  refine at_then ?_
  refine at_seq ?_
  refine at_region [0] rfl ?_
  refine at_s T rfl ?_
  refine at_end ?_
  refine at_sub [(0, (.slice a_l (List.length l) n_l)), (3, (.slice none 0 0))] ⟨rfl, rfl, trivial⟩ ?_
  refine at_then ?_
  refine at_seq ?_
  refine at_region [0, 1] rfl ?_
  refine at_cons (at_mm T (Ky.int .i64 u3) (fun x : Bool => Value.bool x) rfl rfl rfl trivial (fun a1 H1 s1 => ?_))
  refine at_s T rfl ?_
  refine at_end ?_
  refine at_sub [(0, (.slice a_l (List.length l) n_l)), (3, (.slice none 0 0)), (4, (.map (some a1)))] ⟨rfl, rfl, rfl, trivial⟩ ?_
  refine at_then ?_
  refine at_seq ?_
  refine at_seq ?_
  refine at_region [0, 1, 2] rfl ?_
  iterate 3 refine at_s T rfl ?_
  refine at_end ?_
  refine at_sub [(3, (.slice none 0 0)), (4, (.map (some a1))), (8, (.slice a_l (List.length l) n_l)), (9, (.int .i64 (List.length l : Int))), (10, (.int .i64 0))] ⟨rfl, rfl, rfl, rfl, rfl, trivial⟩ ?_
  refine at_then ?_
  refine at_block ?_
  refine at_addnil ?_
  refine at_loopL (σ := Nat × List Int × (List (Int × Bool)) × Int × Option Addr × Nat × Hp × Nat × Hp) (fun ⟨k7, x4, x5, x6, a4, n4, H4, a5, H5⟩ => plan_Goals.l0 k7 l x4 x5 x6 = some r ∧ SliceO (Fl.int .i64) 3 x4 a4 n4 H4 ∧ MapO (Ky.int .i64 u3) (fun x : Bool => Value.bool x) x5 a5 H5) (fun ⟨k7, x4, x5, x6, a4, n4, H4, a5, H5⟩ => [(3, (.slice a4 (List.length x4) n4)), (4, (.map (some a5))), (8, (.slice a_l (List.length l) n_l)), (9, (.int .i64 (List.length l : Int))), (10, (.int .i64 x6))]) (fun ⟨k7, x4, x5, x6, a4, n4, H4, a5, H5⟩ => [F, H4, H5]) (fun s => s.1) (fuel, [], ([] : (List (Int × Bool))), 0, none, 0, [], a1, H1) [0, 1, 0] ⟨H, SliceO.nil, s1⟩ ⟨rfl, rfl, rfl, rfl, rfl, trivial⟩ rfl ?_
  rintro ⟨k7, x4, x5, x6, a4, n4, H4, a5, H5⟩ ⟨Z1, s4, s5⟩
  replace Z1 : plan_Goals.l0 k7 l x4 x5 x6 = some r := Z1
  rcases k7 with _ | k7
  · rw [plan_Goals.l0] at Z1; cases Z1
  · rw [plan_Goals.l0] at Z1
    refine at_seq ?_
    refine at_region [0] rfl ?_
    refine at_s T rfl ?_
    refine at_end ?_
    refine at_sub [(3, (.slice a4 (List.length x4) n4)), (4, (.map (some a5))), (8, (.slice a_l (List.length l) n_l)), (9, (.int .i64 (List.length l : Int))), (10, (.int .i64 x6)), (11, (.bool (decide (x6 < (List.length l : Int)))))] ⟨rfl, rfl, rfl, rfl, rfl, rfl, trivial⟩ ?_
    refine at_then ?_
    refine at_seq ?_
    refine at_cond rfl (fun c2 => ?_) (fun c2 => ?_)
    · replace Z1 := if_t (of_decide_eq_true c2) Z1
      refine at_skip ?_
      refine at_then ?_
      refine at_seq ?_
      refine at_block ?_
      refine at_seq ?_
      refine at_region [0, 1, 2, 3] rfl ?_
      obtain ⟨c3, Z1⟩ := chk_e Z1
      obtain ⟨q6, o6, e6⟩ := h_l.addr c3.1 c3.2
      refine at_v rfl (g_index T rfl rfl rfl rfl rfl e6 c3.1 c3.2) ?_
      refine at_v rfl (g_loadA T (cs := [(.int .i64 (rd l x6).Id), (.int .i64 (rd l x6).Cell), (.int .i64 (rd l x6).Goal)]) rfl rfl rfl rfl rfl rfl (in_elemA (k := k_api_Unit) (ro_of h_l (j := 0) rfl) e6 c3 rfl)) ?_
      refine at_cons (at_al T [(.int .i64 0), (.int .i64 0), (.int .i64 0)] rfl rfl rfl rfl (fun b7 => ?_))
      refine at_cons (at_st T 3 [(.int .i64 (rd l x6).Id), (.int .i64 (rd l x6).Cell), (.int .i64 (rd l x6).Goal)] rfl rfl rfl rfl rfl rfl rfl rfl rfl rfl ?_)
      refine at_end ?_
      refine at_sub [(3, (.slice a4 (List.length x4) n4)), (4, (.map (some a5))), (6, (.pointer (some ⟨b7, 0, none⟩))), (8, (.slice a_l (List.length l) n_l)), (9, (.int .i64 (List.length l : Int))), (10, (.int .i64 x6))] ⟨rfl, rfl, rfl, rfl, rfl, rfl, trivial⟩ ?_
      refine at_then ?_
      refine at_seq ?_
      refine at_region [0, 1, 2, 3, 4] rfl ?_
      iterate 2 refine at_s T rfl ?_
      refine at_v rfl (g_load T rfl rfl rfl rfl (in_var (j := 3) rfl rfl)) ?_
      refine at_v rfl (g_look (k := (rd l x6).Goal) T (Ky.int .i64 u3) (fun x : Bool => Value.bool x) rfl rfl rfl rfl rfl (mown_of s5 (j := 2) rfl)) ?_
      refine at_s T rfl ?_
      refine at_end ?_
      refine at_sub [(3, (.slice a4 (List.length x4) n4)), (4, (.map (some a5))), (6, (.pointer (some ⟨b7, 0, none⟩))), (8, (.slice a_l (List.length l) n_l)), (9, (.int .i64 (List.length l : Int))), (10, (.int .i64 x6)), (18, (.bool (!(mval x5 ((rd l x6).Goal)))))] ⟨rfl, rfl, rfl, rfl, rfl, rfl, rfl, trivial⟩ ?_
      refine at_then ?_
      refine at_cond rfl (fun c4 => ?_) (fun c4 => ?_)
      · replace Z1 := if_t c4 Z1
        refine at_seq ?_
        refine at_region [0, 1, 2, 3] rfl ?_
        iterate 2 refine at_s T rfl ?_
        refine at_v rfl (g_load T rfl rfl rfl rfl (in_var (j := 3) rfl rfl)) ?_
        refine at_cons (at_mu (g := 2) (m := x5) (k := (rd l x6).Goal) (v := true) T (Ky.int .i64 u3) (fun x : Bool => Value.bool x) rfl rfl rfl rfl rfl rfl rfl s5 (fun H8 s8 => ?_))
        refine at_end ?_
        refine at_sub [(3, (.slice a4 (List.length x4) n4)), (4, (.map (some a5))), (6, (.pointer (some ⟨b7, 0, none⟩))), (8, (.slice a_l (List.length l) n_l)), (9, (.int .i64 (List.length l : Int))), (10, (.int .i64 x6))] ⟨rfl, rfl, rfl, rfl, rfl, rfl, trivial⟩ ?_
        refine at_then ?_
        refine at_region [0, 1, 2, 3, 4, 5] rfl ?_
        iterate 2 refine at_s T rfl ?_
        refine at_v rfl (g_load T rfl rfl rfl rfl (in_var (j := 3) rfl rfl)) ?_
        refine at_cons (at_bs (k := (Fl.int .i64)) T [(rd l x6).Goal] rfl rfl rfl rfl rfl rfl rfl rfl rfl (fun a9 H9 s9 => ?_))
        obtain ⟨c5, Z1⟩ := chk_e Z1
        refine at_cons (at_ap (k := (Fl.int .i64)) (xs := x4) T (g := 1) rfl rfl rfl rfl rfl rfl rfl rfl rfl rfl s4 (own_of s9 (j := 4) rfl) c5 rfl (fun a10 n10 H10 s10 => ?_))
        refine at_s T rfl ?_
        refine at_end ?_
        refine at_to [(3, (.slice a10 (List.length (x4 ++ [(rd l x6).Goal])) n10)), (4, (.map (some a5))), (8, (.slice a_l (List.length l) n_l)), (9, (.int .i64 (List.length l : Int))), (10, (.int .i64 x6))] [0, 0, 0] [F, H10, H8] ⟨rfl, rfl, rfl, rfl, rfl, trivial⟩ rfl ?_
        refine at_nb ?_
        refine at_then ?_
        refine at_region [0, 1] rfl ?_
        iterate 2 refine at_s T rfl ?_
        refine at_end ?_
        refine at_sub [(3, (.slice a10 (List.length (x4 ++ [(rd l x6).Goal])) n10)), (4, (.map (some a5))), (8, (.slice a_l (List.length l) n_l)), (9, (.int .i64 (List.length l : Int))), (10, (.int .i64 (w64 (x6 + 1))))] ⟨rfl, rfl, rfl, rfl, rfl, trivial⟩ ?_
        refine at_then ?_
        exact at_roundL (k7, (x4 ++ [(rd l x6).Goal]), (mset x5 ((rd l x6).Goal) true), (w64 (x6 + 1)), a10, n10, H10, a5, H8) [0, 0, 0] ⟨Z1, s10, s8⟩ (Nat.lt_succ_self _) ⟨rfl, rfl, rfl, rfl, rfl, trivial⟩ rfl
      · replace Z1 := if_f (bf c4) Z1
        refine at_skip ?_
        refine at_nb ?_
        refine at_then ?_
        refine at_region [0, 1] rfl ?_
        iterate 2 refine at_s T rfl ?_
        refine at_end ?_
        refine at_to [(3, (.slice a4 (List.length x4) n4)), (4, (.map (some a5))), (8, (.slice a_l (List.length l) n_l)), (9, (.int .i64 (List.length l : Int))), (10, (.int .i64 (w64 (x6 + 1))))] [0, 0, 0] [F, H4, H5] ⟨rfl, rfl, rfl, rfl, rfl, trivial⟩ rfl ?_
        refine at_then ?_
        exact at_roundL (k7, x4, x5, (w64 (x6 + 1)), a4, n4, H4, a5, H5) [0, 0, 0] ⟨Z1, s4, s5⟩ (Nat.lt_succ_self _) ⟨rfl, rfl, rfl, rfl, rfl, trivial⟩ rfl
    · replace Z1 := if_f (of_decide_eq_false c2) Z1
      refine at_exit ?_
      refine at_xt ?_
      refine at_xt ?_
      refine at_xb ?_
      refine at_then ?_
      refine at_seq ?_
      refine at_region [0, 1] rfl ?_
      iterate 2 refine at_s T rfl ?_
      refine at_end ?_
      refine at_to [(2, (.slice a4 (List.length x4) n4))] [0, 0] [F, H4] ⟨rfl, trivial⟩ rfl ?_
      refine at_then ?_
      refine at_ret ?_
      obtain rfl := Option.some.inj Z1
      exact at_post (T := T) rfl (.tmp rfl .nil) (fun w o => ⟨⟨(_, _), ⟨a4, n4, H4, s4, rfl, rfl⟩⟩, rfl, own_to [1, 0] rfl o⟩)

/-! ### herdsman/plan.Pairs: function 42 -/
def plan_Pairs.l1 : Nat → (List Int) → (List (Int × (List api_Pair))) → List Int → List api_Pair → Int → Option (List api_Pair)
  | 0, _, _, _, _, _ => none
  | k26 + 1, v17, x22, x23, x24, x25 => if x25 < (List.length v17 : Int) then (if (0 ≤ x25 ∧ x25 < (List.length v17 : Int)) then (if (¬ (rd v17 x25) ∈ x23) then (if (List.length x24 + List.length (mval x22 (rd v17 x25)) ≤ 1099511627776) then (plan_Pairs.l1 k26 v17 x22 ((rd v17 x25) :: x23) (x24 ++ (mval x22 (rd v17 x25))) (w64 (x25 + 1))) else none) else none) else none) else (some x24)
def plan_Pairs.l0 : Nat → Int → Int → (List api_Unit) → (List (Int × (List api_Pair))) → (List ((Int × Int) × Int)) → Int → Option (List api_Pair)
  | 0, _, _, _, _, _, _ => none
  | k8 + 1, w, h, l, x5, x6, x7 => if x7 < (List.length l : Int) then ((if (0 ≤ x7 ∧ x7 < (List.length l : Int)) then ((where_Sector.f w h ((rd l x7).Cell)).bind fun v12 => (if (!(mhas x6 ((rd l x7).Goal, v12))) = true then (if (List.length (mval x5 ((rd l x7).Goal)) + 1 ≤ 1099511627776) then (some ((mset x5 ((rd l x7).Goal) ((mval x5 ((rd l x7).Goal)) ++ [(api_Pair.mk ((rd l x7).Goal) v12 [])])), (mset x6 ((rd l x7).Goal, v12) (List.length (mval x5 ((rd l x7).Goal)) : Int)), (List.length (mval x5 ((rd l x7).Goal)) : Int))) else none) else (some (x5, x6, (mval x6 ((rd l x7).Goal, v12))))).bind fun (x13, x14, x15) => if (0 ≤ x15 ∧ x15 < (List.length (mval x13 ((rd l x7).Goal)) : Int)) then (if (List.length ((rd (mval x13 ((rd l x7).Goal)) x15).Ids) + 1 ≤ 1099511627776) then (some ((mput x13 ((rd l x7).Goal) (List.set (mval x13 ((rd l x7).Goal)) (Int.toNat x15) (api_Pair.mk ((rd (mval x13 ((rd l x7).Goal)) x15).Goal) ((rd (mval x13 ((rd l x7).Goal)) x15).Sector) ((rd (mval x13 ((rd l x7).Goal)) x15).Ids ++ [(rd l x7).Id])))), x14)) else none) else none) else none).bind fun (x9, x10) => plan_Pairs.l0 k8 w h l x9 x10 (w64 (x7 + 1))) else ((plan_Goals.f l).bind fun v17 => plan_Pairs.l1 fuel v17 x5 [] [] 0)
def plan_Pairs.f (w : Int) (h : Int) (l : (List api_Unit)) : Option (List api_Pair) := (plan_May.f w h l).bind fun v1 => if (!v1) = true then (some []) else (plan_Pairs.l0 fuel w h l ([] : (List (Int × (List api_Pair)))) ([] : (List ((Int × Int) × Int))) 0)
def plan_Pairs.R (r : (List api_Pair)) (u : Value) (G : List Hp) : Prop := ∃ (a0 : Option Addr) (n0 : Nat) (H0 : Hp), SliceD q_api_Pair 72 r a0 n0 H0 ∧ u = (.slice a0 (List.length r) n0) ∧ G = [H0]
set_option maxHeartbeats 4000000 in
theorem plan_Pairs.c {a_l : Option Addr} {n_l : Nat} (w : Int) (h : Int) (l : (List api_Unit)) (r : (List api_Pair)) (F : Hp) (H : plan_Pairs.f w h l = some r) (h_l : SliceR k_api_Unit l a_l F) (c_l : List.length l ≤ n_l) :
    CallsL Try.prog 42 [(.int .i64 w), (.int .i64 h), (.slice a_l (List.length l) n_l)] [F] (fun qp : { qp : Value × List Hp // plan_Pairs.R r qp.1 qp.2 } => qp.1.1) (fun qp => (qp.1.2 ++ []) ++ [F]) := by
  unfold plan_Pairs.f at H
  refine calls_atL [(0, (.int .i64 w)), (1, (.int .i64 h)), (2, (.slice a_l (List.length l) n_l))] Try.func42 rfl rfl ⟨rfl, rfl, rfl, trivial⟩ (fun W => ?_)
  refine at_seq ?_
  refine at_region [0] rfl ?_
  refine at_s T rfl ?_
  refine at_end ?_
  refine at_sub [(0, (.int .i64 w)), (1, (.int .i64 h)), (2, (.slice a_l (List.length l) n_l))] ⟨rfl, rfl, rfl, trivial⟩ ?_
  refine at_then ?_
  refine at_seq ?_
  refine at_seq ?_
  refine at_region [0, 1, 2, 3, 4] rfl ?_
  iterate 3 refine at_s T rfl ?_
  obtain ⟨v1, V1, H⟩ := bind_e H
  refine at_cons (at_c (B := fun _ => []) [] rfl rfl rfl rfl has44 rfl rfl (plan_May.c w h l v1 _ V1 (ro_of h_l (j := 0) rfl) c_l) (fun _ => ?_))
  refine at_s T rfl ?_
  refine at_end ?_
  refine at_sub [(0, (.int .i64 w)), (1, (.int .i64 h)), (2, (.slice a_l (List.length l) n_l)), (23, (.bool (!v1)))] ⟨rfl, rfl, rfl, rfl, trivial⟩ ?_
  refine at_then ?_
  refine at_cond rfl (fun c2 => ?_) (fun c2 => ?_)
  · replace H := if_t c2 H
    refine at_seq ?_
    refine at_region [0] rfl ?_
    refine at_s T rfl ?_
    refine at_end ?_
    refine at_sub [(6, (.slice none 0 0))] ⟨rfl, trivial⟩ ?_
    refine at_then ?_
    refine at_ret ?_
    refine at_rt ?_
    obtain rfl := Option.some.inj H
    refine at_addnil ?_
    exact at_post (T := T) rfl (.tmp rfl .nil) (fun w o => ⟨⟨(_, _), ⟨none, 0, [], SliceD.nil, rfl, rfl⟩⟩, rfl, own_to [1, 0] rfl o⟩)
  · replace H := if_f (bf c2) H
    refine at_skip ?_
    refine at_then ?_
    refine at_seq ?_
    refine at_region [0, 1] rfl ?_
    refine at_cons (at_mm T (Ky.int .i64 u3) hdv rfl rfl rfl trivial (fun a2 H2 s2 => ?_))
    refine at_s T rfl ?_
    refine at_end ?_
    refine at_sub [(0, (.int .i64 w)), (1, (.int .i64 h)), (2, (.slice a_l (List.length l) n_l)), (7, (.map (some a2)))] ⟨rfl, rfl, rfl, rfl, trivial⟩ ?_
    refine at_then ?_
    refine at_seq ?_
    refine at_region [0, 1] rfl ?_
    refine at_cons (at_mm T (Ky.pair T .i64 rfl rfl rfl u87 u3) (fun x : Int => Value.int .i64 x) rfl rfl rfl trivial (fun a3 H3 s3 => ?_))
    refine at_s T rfl ?_
    refine at_end ?_
    refine at_sub [(0, (.int .i64 w)), (1, (.int .i64 h)), (2, (.slice a_l (List.length l) n_l)), (7, (.map (some a2))), (8, (.map (some a3)))] ⟨rfl, rfl, rfl, rfl, rfl, trivial⟩ ?_
    refine at_then ?_
    refine at_seq ?_
    refine at_seq ?_
    refine at_region [0, 1, 2] rfl ?_
    iterate 3 refine at_s T rfl ?_
    refine at_end ?_
    refine at_sub [(0, (.int .i64 w)), (1, (.int .i64 h)), (2, (.slice a_l (List.length l) n_l)), (7, (.map (some a2))), (8, (.map (some a3))), (26, (.slice a_l (List.length l) n_l)), (27, (.int .i64 (List.length l : Int))), (28, (.int .i64 0))] ⟨rfl, rfl, rfl, rfl, rfl, rfl, rfl, rfl, trivial⟩ ?_
    refine at_then ?_
    refine at_block ?_
    refine at_loopL (σ := Nat × (List (Int × (List api_Pair))) × (List ((Int × Int) × Int)) × Int × Nat × Hp × Nat × Hp) (fun ⟨k8, x5, x6, x7, a6, H6, a7, H7⟩ => plan_Pairs.l0 k8 w h l x5 x6 x7 = some r ∧ MgO (SliceD q_api_Pair 72) (Ky.int .i64 u3) [] x5 a6 H6 ∧ MapO (Ky.pair T .i64 rfl rfl rfl u87 u3) (fun x : Int => Value.int .i64 x) x6 a7 H7) (fun ⟨k8, x5, x6, x7, a6, H6, a7, H7⟩ => [(0, (.int .i64 w)), (1, (.int .i64 h)), (2, (.slice a_l (List.length l) n_l)), (7, (.map (some a6))), (8, (.map (some a7))), (26, (.slice a_l (List.length l) n_l)), (27, (.int .i64 (List.length l : Int))), (28, (.int .i64 x7))]) (fun ⟨k8, x5, x6, x7, a6, H6, a7, H7⟩ => [F, H6, H7]) (fun s => s.1) (fuel, ([] : (List (Int × (List api_Pair)))), ([] : (List ((Int × Int) × Int))), 0, a2, H2, a3, H3) [0, 0, 0] ⟨H, (mgo_nil (S := (SliceD q_api_Pair 72)) s2), s3⟩ ⟨rfl, rfl, rfl, rfl, rfl, rfl, rfl, rfl, trivial⟩ rfl ?_
    rintro ⟨k8, x5, x6, x7, a6, H6, a7, H7⟩ ⟨Z3, s6, s7⟩
    replace Z3 : plan_Pairs.l0 k8 w h l x5 x6 x7 = some r := Z3
    rcases k8 with _ | k8
    · rw [plan_Pairs.l0] at Z3; cases Z3
    · rw [plan_Pairs.l0] at Z3
      refine at_seq ?_
      refine at_region [0] rfl ?_
      refine at_s T rfl ?_
      refine at_end ?_
      refine at_sub [(0, (.int .i64 w)), (1, (.int .i64 h)), (2, (.slice a_l (List.length l) n_l)), (7, (.map (some a6))), (8, (.map (some a7))), (26, (.slice a_l (List.length l) n_l)), (27, (.int .i64 (List.length l : Int))), (28, (.int .i64 x7)), (29, (.bool (decide (x7 < (List.length l : Int)))))] ⟨rfl, rfl, rfl, rfl, rfl, rfl, rfl, rfl, rfl, trivial⟩ ?_
      refine at_then ?_
      refine at_seq ?_
      refine at_cond rfl (fun c4 => ?_) (fun c4 => ?_)
      · replace Z3 := if_t (of_decide_eq_true c4) Z3
        refine at_skip ?_
        refine at_then ?_
        obtain ⟨z11, Z5, Z3⟩ := bind_e Z3
        refine at_seq_mid (σ := (List (Int × (List api_Pair))) × (List ((Int × Int) × Int)) × Nat × Hp × Nat × Hp) (fun ⟨x9, x10, a8, H8, a9, H9⟩ => (x9, x10) = z11 ∧ MgO (SliceD q_api_Pair 72) (Ky.int .i64 u3) [] x9 a8 H8 ∧ MapO (Ky.pair T .i64 rfl rfl rfl u87 u3) (fun x : Int => Value.int .i64 x) x10 a9 H9) (fun ⟨x9, x10, a8, H8, a9, H9⟩ => [(0, (.int .i64 w)), (1, (.int .i64 h)), (2, (.slice a_l (List.length l) n_l)), (7, (.map (some a8))), (8, (.map (some a9))), (26, (.slice a_l (List.length l) n_l)), (27, (.int .i64 (List.length l : Int))), (28, (.int .i64 x7))]) (fun ⟨x9, x10, a8, H8, a9, H9⟩ => [F, H8, H9]) ?_ ?_
        · refine at_block ?_
          refine at_seq ?_
          refine at_region [0, 1, 2, 3] rfl ?_
          obtain ⟨c6, Z5⟩ := chk_e Z5
          obtain ⟨q10, o10, e10⟩ := h_l.addr c6.1 c6.2
          refine at_v rfl (g_index T rfl rfl rfl rfl rfl e10 c6.1 c6.2) ?_
          refine at_v rfl (g_loadA T (cs := [(.int .i64 (rd l x7).Id), (.int .i64 (rd l x7).Cell), (.int .i64 (rd l x7).Goal)]) rfl rfl rfl rfl rfl rfl (in_elemA (k := k_api_Unit) (ro_of h_l (j := 0) rfl) e10 c6 rfl)) ?_
          refine at_cons (at_al T [(.int .i64 0), (.int .i64 0), (.int .i64 0)] rfl rfl rfl rfl (fun b11 => ?_))
          refine at_cons (at_st T 3 [(.int .i64 (rd l x7).Id), (.int .i64 (rd l x7).Cell), (.int .i64 (rd l x7).Goal)] rfl rfl rfl rfl rfl rfl rfl rfl rfl rfl ?_)
          refine at_end ?_
          refine at_sub [(0, (.int .i64 w)), (1, (.int .i64 h)), (2, (.slice a_l (List.length l) n_l)), (7, (.map (some a6))), (8, (.map (some a7))), (10, (.pointer (some ⟨b11, 0, none⟩))), (26, (.slice a_l (List.length l) n_l)), (27, (.int .i64 (List.length l : Int))), (28, (.int .i64 x7))] ⟨rfl, rfl, rfl, rfl, rfl, rfl, rfl, rfl, rfl, trivial⟩ ?_
          refine at_then ?_
          refine at_seq ?_
          refine at_region [0, 1, 2, 3, 4, 5] rfl ?_
          iterate 3 refine at_s T rfl ?_
          refine at_v rfl (g_load T rfl rfl rfl rfl (in_var (j := 3) rfl rfl)) ?_
          obtain ⟨v12, V7, Z5⟩ := bind_e Z5
          refine at_cons (at_c (B := fun _ => []) [] rfl rfl rfl rfl has51 rfl rfl (where_Sector.c w h ((rd l x7).Cell) v12 _ V7) (fun _ => ?_))
          refine at_s T rfl ?_
          refine at_end ?_
          refine at_sub [(0, (.int .i64 w)), (1, (.int .i64 h)), (2, (.slice a_l (List.length l) n_l)), (7, (.map (some a6))), (8, (.map (some a7))), (10, (.pointer (some ⟨b11, 0, none⟩))), (11, (.int .i64 v12)), (26, (.slice a_l (List.length l) n_l)), (27, (.int .i64 (List.length l : Int))), (28, (.int .i64 x7))] ⟨rfl, rfl, rfl, rfl, rfl, rfl, rfl, rfl, rfl, rfl, trivial⟩ ?_
          refine at_then ?_
          refine at_seq ?_
          refine at_region [0, 1, 2, 3, 4, 5] rfl ?_
          refine at_s T rfl ?_
          refine at_v rfl (g_load T rfl rfl rfl rfl (in_var (j := 3) rfl rfl)) ?_
          refine at_s T rfl ?_
          refine at_v rfl (g_abuild T rfl rfl rfl rfl rfl rfl) ?_
          refine at_cons (at_al T [(.int .i64 0), (.int .i64 0)] rfl rfl rfl rfl (fun b12 => ?_))
          refine at_cons (at_st T 4 [(.int .i64 (rd l x7).Goal), (.int .i64 v12)] rfl rfl rfl rfl rfl rfl rfl rfl rfl rfl ?_)
          refine at_end ?_
          refine at_sub [(0, (.int .i64 w)), (1, (.int .i64 h)), (2, (.slice a_l (List.length l) n_l)), (7, (.map (some a6))), (8, (.map (some a7))), (10, (.pointer (some ⟨b11, 0, none⟩))), (11, (.int .i64 v12)), (12, (.pointer (some ⟨b12, 0, none⟩))), (26, (.slice a_l (List.length l) n_l)), (27, (.int .i64 (List.length l : Int))), (28, (.int .i64 x7))] ⟨rfl, rfl, rfl, rfl, rfl, rfl, rfl, rfl, rfl, rfl, rfl, trivial⟩ ?_
          refine at_then ?_
          refine at_seq ?_
          refine at_region [0, 1, 2, 3, 4, 5, 6, 7] rfl ?_
          refine at_s T rfl ?_
          refine at_v rfl (g_loadA T (cs := [(.int .i64 (rd l x7).Goal), (.int .i64 v12)]) rfl rfl rfl rfl rfl rfl (in_varA (j := 4) rfl rfl)) ?_
          refine at_v rfl (g_look (k := ((rd l x7).Goal, v12)) T (Ky.pair T .i64 rfl rfl rfl u87 u3) (fun x : Int => Value.int .i64 x) rfl rfl rfl rfl rfl (mown_of s7 (j := 2) rfl)) ?_
          iterate 5 refine at_s T rfl ?_
          refine at_end ?_
          refine at_sub [(0, (.int .i64 w)), (1, (.int .i64 h)), (2, (.slice a_l (List.length l) n_l)), (7, (.map (some a6))), (8, (.map (some a7))), (10, (.pointer (some ⟨b11, 0, none⟩))), (11, (.int .i64 v12)), (12, (.pointer (some ⟨b12, 0, none⟩))), (13, (.int .i64 (mval x6 ((rd l x7).Goal, v12)))), (14, (.bool (mhas x6 ((rd l x7).Goal, v12)))), (26, (.slice a_l (List.length l) n_l)), (27, (.int .i64 (List.length l : Int))), (28, (.int .i64 x7))] ⟨rfl, rfl, rfl, rfl, rfl, rfl, rfl, rfl, rfl, rfl, rfl, rfl, rfl, trivial⟩ ?_
          refine at_then ?_
          obtain ⟨z16, Z8, Z5⟩ := bind_e Z5
          refine at_seq_mid (σ := (List (Int × (List api_Pair))) × (List ((Int × Int) × Int)) × Int × Nat × Hp × Nat × Hp) (fun ⟨x13, x14, x15, a13, H13, a14, H14⟩ => (x13, x14, x15) = z16 ∧ MgO (SliceD q_api_Pair 72) (Ky.int .i64 u3) [] x13 a13 H13 ∧ MapO (Ky.pair T .i64 rfl rfl rfl u87 u3) (fun x : Int => Value.int .i64 x) x14 a14 H14) (fun ⟨x13, x14, x15, a13, H13, a14, H14⟩ => [(0, (.int .i64 w)), (1, (.int .i64 h)), (2, (.slice a_l (List.length l) n_l)), (7, (.map (some a13))), (8, (.map (some a14))), (10, (.pointer (some ⟨b11, 0, none⟩))), (13, (.int .i64 x15)), (26, (.slice a_l (List.length l) n_l)), (27, (.int .i64 (List.length l : Int))), (28, (.int .i64 x7))]) (fun ⟨x13, x14, x15, a13, H13, a14, H14⟩ => [F, H13, H14, [(b11, Obj.cells #[(.int .i64 (rd l x7).Id), (.int .i64 (rd l x7).Cell), (.int .i64 (rd l x7).Goal)] 47 (0, 0))]]) ?_ ?_
          · refine at_seq ?_
            refine at_region [0, 1] rfl ?_
            iterate 2 refine at_s T rfl ?_
            refine at_end ?_
            refine at_sub [(0, (.int .i64 w)), (1, (.int .i64 h)), (2, (.slice a_l (List.length l) n_l)), (7, (.map (some a6))), (8, (.map (some a7))), (10, (.pointer (some ⟨b11, 0, none⟩))), (11, (.int .i64 v12)), (12, (.pointer (some ⟨b12, 0, none⟩))), (13, (.int .i64 (mval x6 ((rd l x7).Goal, v12)))), (26, (.slice a_l (List.length l) n_l)), (27, (.int .i64 (List.length l : Int))), (28, (.int .i64 x7)), (48, (.bool (!(mhas x6 ((rd l x7).Goal, v12)))))] ⟨rfl, rfl, rfl, rfl, rfl, rfl, rfl, rfl, rfl, rfl, rfl, rfl, rfl, trivial⟩ ?_
            refine at_then ?_
            refine at_cond rfl (fun c9 => ?_) (fun c9 => ?_)
            · replace Z8 := if_t c9 Z8
              refine at_seq ?_
              refine at_region [0, 1, 2, 3, 4, 5] rfl ?_
              iterate 2 refine at_s T rfl ?_
              refine at_v rfl (g_load T rfl rfl rfl rfl (in_var (j := 3) rfl rfl)) ?_
              refine at_mgopen (j := 1) (SliceD.nil (kd := q_api_Pair) (E := 72)) ((rd l x7).Goal) (by simp) rfl s6 (fun a15 n15 H15 H16 s15 s16 => ?_)
              refine at_v rfl (g_lookms (kx := (rd l x7).Goal) (v := (a15, List.length (mval x5 ((rd l x7).Goal)), n15)) T (Ky.int .i64 u3) rfl rfl rfl rfl rfl (in_mgh (j := 1) rfl s16)) ?_
              iterate 2 refine at_s T rfl ?_
              refine at_end ?_
              refine at_mgback (j := 1) (q := 5) rfl s16 rfl rfl s15 rfl (fun H17 s17 => ?_)
              refine at_to [(0, (.int .i64 w)), (1, (.int .i64 h)), (2, (.slice a_l (List.length l) n_l)), (7, (.map (some a6))), (8, (.map (some a7))), (10, (.pointer (some ⟨b11, 0, none⟩))), (11, (.int .i64 v12)), (12, (.pointer (some ⟨b12, 0, none⟩))), (13, (.int .i64 (List.length (mval x5 ((rd l x7).Goal)) : Int))), (26, (.slice a_l (List.length l) n_l)), (27, (.int .i64 (List.length l : Int))), (28, (.int .i64 x7))] [0, 0, 0, 0, 0] [F, H17, H7, [(b11, Obj.cells #[(.int .i64 (rd l x7).Id), (.int .i64 (rd l x7).Cell), (.int .i64 (rd l x7).Goal)] 47 (0, 0))], [(b12, Obj.cells #[(.int .i64 (rd l x7).Goal), (.int .i64 v12)] 87 (0, 0))]] ⟨rfl, rfl, rfl, rfl, rfl, rfl, rfl, rfl, rfl, rfl, rfl, rfl, trivial⟩ rfl ?_
              refine at_then ?_
              refine at_seq ?_
              refine at_region [0, 1, 2, 3] rfl ?_
              refine at_s T rfl ?_
              refine at_v rfl (g_loadA T (cs := [(.int .i64 (rd l x7).Goal), (.int .i64 v12)]) rfl rfl rfl rfl rfl rfl (in_varA (j := 4) rfl rfl)) ?_
              refine at_s T rfl ?_
              refine at_cons (at_mu (g := 2) (m := x6) (k := ((rd l x7).Goal, v12)) (v := (List.length (mval x5 ((rd l x7).Goal)) : Int)) T (Ky.pair T .i64 rfl rfl rfl u87 u3) (fun x : Int => Value.int .i64 x) rfl rfl rfl rfl rfl rfl rfl s7 (fun H18 s18 => ?_))
              refine at_end ?_
              refine at_to [(0, (.int .i64 w)), (1, (.int .i64 h)), (2, (.slice a_l (List.length l) n_l)), (7, (.map (some a6))), (8, (.map (some a7))), (10, (.pointer (some ⟨b11, 0, none⟩))), (11, (.int .i64 v12)), (13, (.int .i64 (List.length (mval x5 ((rd l x7).Goal)) : Int))), (26, (.slice a_l (List.length l) n_l)), (27, (.int .i64 (List.length l : Int))), (28, (.int .i64 x7))] [0, 0, 0, 0] [F, H17, H18, [(b11, Obj.cells #[(.int .i64 (rd l x7).Id), (.int .i64 (rd l x7).Cell), (.int .i64 (rd l x7).Goal)] 47 (0, 0))]] ⟨rfl, rfl, rfl, rfl, rfl, rfl, rfl, rfl, rfl, rfl, rfl, trivial⟩ rfl ?_
              refine at_then ?_
              refine at_region_m [[], [], [1], [], [], [4], [3, 4, 5], [], [7], [], [7, 8, 9], [7, 8, 9, 10], [3, 4, 5, 6, 7, 8, 9, 10, 11], [0, 1, 2, 3, 4, 5, 6, 7, 8, 9, 10, 11, 12]] [13] [F, H18, [(b11, Obj.cells #[(.int .i64 (rd l x7).Id), (.int .i64 (rd l x7).Cell), (.int .i64 (rd l x7).Goal)] 47 (0, 0))]] mix (by kernel_rfl) (by repeat first | exact pf_body | refine pf_then ?_ | refine pf_block ?_) (fun hg pf => ?_)
              refine atm_s T 0 hg pf (by kernel_rfl) (still_o [0, 1, 1] rfl) rfl ?_
              refine atm_s T 1 hg pf (by kernel_rfl) (still_o [0, 1, 1] rfl) rfl ?_
              refine atm_v 2 hg pf (by kernel_rfl) (still_o [0, 1, 1] rfl) rfl rfl (g_load T rfl rfl rfl rfl (in_var (j := 2) rfl rfl)) ?_
              refine atm_s T 3 hg pf (by kernel_rfl) (still_o [0, 1, 1] rfl) rfl ?_
              refine atm_s T 4 hg pf (by kernel_rfl) (still_o [0, 1, 1] rfl) rfl ?_
              refine atm_v 5 hg pf (by kernel_rfl) (still_o [0, 1, 1] rfl) rfl rfl (g_load T rfl rfl rfl rfl (in_var (j := 2) rfl rfl)) ?_
              refine atm_s T 7 hg pf (by kernel_rfl) (still_o [0, 1, 1] rfl) rfl ?_
              refine atm_v 8 hg pf (by kernel_rfl) (still_o [0, 1, 1] rfl) rfl rfl (g_load T rfl rfl rfl rfl (in_var (j := 2) rfl rfl)) ?_
              refine atm_s T 9 hg pf (by kernel_rfl) (still_o [0, 1, 1] rfl) rfl ?_
              refine atm_s T 10 hg pf (by kernel_rfl) (still_o [0, 1, 1] rfl) rfl ?_
              refine atm_two 6 11 (by kernel_rfl) ?_ ?_
              · refine at_mgopen (j := 1) (SliceD.nil (kd := q_api_Pair) (E := 72)) ((rd l x7).Goal) (by simp) rfl s17 (fun a19 n19 H19 H20 s19 s20 => ?_)
                refine at_g rfl (g_lookms (kx := (rd l x7).Goal) (v := (a19, List.length (mval x5 ((rd l x7).Goal)), n19)) T (Ky.int .i64 u3) rfl rfl rfl rfl rfl (in_mgh (j := 1) rfl s20)) ?_
                refine atm_next (still_o [0, 1, 1] rfl) ?_
                refine atm_one 11 (by kernel_rfl) ?_
                refine at_addnil ?_
                refine at_gather [5] rfl ?_
                refine at_dbs (kd := q_api_Pair) (E := 72) (q := 5) (c := [(.int .i64 (rd l x7).Goal), (.int .i64 v12), (.slice none 0 0)]) T (api_Pair.mk ((rd l x7).Goal) v12 []) rfl rfl rfl rfl rfl rfl rfl rfl rfl rfl ⟨none, 0, [], (SliceO.nil (k := (Fl.int .i64)) (E := 3)), rfl, rfl⟩ (fun a23 H23 s23 => ?_)
                refine atm_next (still_o [0, 1, 1] rfl) ?_
                refine atm_one 12 (by kernel_rfl) ?_
                obtain ⟨c10, Z8⟩ := chk_e Z8
                refine at_dap (kd := q_api_Pair) (xs := (mval x5 ((rd l x7).Goal))) (ys := [(api_Pair.mk ((rd l x7).Goal) v12 [])]) T (g := 4) (q := 6) rfl rfl rfl rfl rfl rfl rfl rfl rfl rfl s19 rfl rfl s23 c10 rfl (fun a24 n24 H24 s24 => ?_)
                refine atm_next (still_o [0, 1, 1] rfl) ?_
                refine atm_one 13 (by kernel_rfl) ?_
                refine at_mgput (q := 4) (kx := (rd l x7).Goal) (ys := ((mval x5 ((rd l x7).Goal)) ++ [(api_Pair.mk ((rd l x7).Goal) v12 [])])) T (Ky.int .i64 u3) 1 rfl rfl rfl rfl rfl rfl rfl s20 rfl rfl s24 (fun H25 s25 => ?_)
                refine atm_next (still_l (by kernel_rfl)) ?_
                refine atm_end (by kernel_rfl) ?_
                refine at_to [(0, (.int .i64 w)), (1, (.int .i64 h)), (2, (.slice a_l (List.length l) n_l)), (7, (.map (some a6))), (8, (.map (some a7))), (10, (.pointer (some ⟨b11, 0, none⟩))), (13, (.int .i64 (List.length (mval x5 ((rd l x7).Goal)) : Int))), (26, (.slice a_l (List.length l) n_l)), (27, (.int .i64 (List.length l : Int))), (28, (.int .i64 x7))] [0, 0, 0, 0] [F, H25, H18, [(b11, Obj.cells #[(.int .i64 (rd l x7).Id), (.int .i64 (rd l x7).Cell), (.int .i64 (rd l x7).Goal)] 47 (0, 0))]] ⟨rfl, rfl, rfl, rfl, rfl, rfl, rfl, rfl, rfl, rfl, trivial⟩ rfl ?_
                refine at_then ?_
                obtain rfl := Option.some.inj Z8
                exact at_mid ((mset x5 ((rd l x7).Goal) ((mval x5 ((rd l x7).Goal)) ++ [(api_Pair.mk ((rd l x7).Goal) v12 [])])), (mset x6 ((rd l x7).Goal, v12) (List.length (mval x5 ((rd l x7).Goal)) : Int)), (List.length (mval x5 ((rd l x7).Goal)) : Int), a6, H25, a7, H18) [0, 0, 0, 0] ⟨rfl, s25, s18⟩ ⟨rfl, rfl, rfl, rfl, rfl, rfl, rfl, rfl, rfl, rfl, trivial⟩ rfl
              · refine at_addnil ?_
                refine at_gather [4] rfl ?_
                refine at_dbs (kd := q_api_Pair) (E := 72) (q := 4) (c := [(.int .i64 (rd l x7).Goal), (.int .i64 v12), (.slice none 0 0)]) T (api_Pair.mk ((rd l x7).Goal) v12 []) rfl rfl rfl rfl rfl rfl rfl rfl rfl rfl ⟨none, 0, [], (SliceO.nil (k := (Fl.int .i64)) (E := 3)), rfl, rfl⟩ (fun a28 H28 s28 => ?_)
                refine atm_next (still_o [0, 1, 1] rfl) ?_
                refine atm_one 6 (by kernel_rfl) ?_
                refine at_mgopen (j := 1) (SliceD.nil (kd := q_api_Pair) (E := 72)) ((rd l x7).Goal) (by simp) rfl s17 (fun a29 n29 H29 H30 s29 s30 => ?_)
                refine at_g rfl (g_lookms (kx := (rd l x7).Goal) (v := (a29, List.length (mval x5 ((rd l x7).Goal)), n29)) T (Ky.int .i64 u3) rfl rfl rfl rfl rfl (in_mgh (j := 1) rfl s30)) ?_
                refine atm_next (still_o [0, 1, 1] rfl) ?_
                refine atm_one 12 (by kernel_rfl) ?_
                obtain ⟨c11, Z8⟩ := chk_e Z8
                refine at_dap (kd := q_api_Pair) (xs := (mval x5 ((rd l x7).Goal))) (ys := [(api_Pair.mk ((rd l x7).Goal) v12 [])]) T (g := 6) (q := 5) rfl rfl rfl rfl rfl rfl rfl rfl rfl rfl s29 rfl rfl s28 c11 rfl (fun a31 n31 H31 s31 => ?_)
                refine atm_next (still_o [0, 1, 1] rfl) ?_
                refine atm_one 13 (by kernel_rfl) ?_
                refine at_mgput (q := 6) (kx := (rd l x7).Goal) (ys := ((mval x5 ((rd l x7).Goal)) ++ [(api_Pair.mk ((rd l x7).Goal) v12 [])])) T (Ky.int .i64 u3) 1 rfl rfl rfl rfl rfl rfl rfl s30 rfl rfl s31 (fun H32 s32 => ?_)
                refine atm_next (still_l (by kernel_rfl)) ?_
                refine atm_end (by kernel_rfl) ?_
                refine at_to [(0, (.int .i64 w)), (1, (.int .i64 h)), (2, (.slice a_l (List.length l) n_l)), (7, (.map (some a6))), (8, (.map (some a7))), (10, (.pointer (some ⟨b11, 0, none⟩))), (13, (.int .i64 (List.length (mval x5 ((rd l x7).Goal)) : Int))), (26, (.slice a_l (List.length l) n_l)), (27, (.int .i64 (List.length l : Int))), (28, (.int .i64 x7))] [0, 0, 0, 0] [F, H32, H18, [(b11, Obj.cells #[(.int .i64 (rd l x7).Id), (.int .i64 (rd l x7).Cell), (.int .i64 (rd l x7).Goal)] 47 (0, 0))]] ⟨rfl, rfl, rfl, rfl, rfl, rfl, rfl, rfl, rfl, rfl, trivial⟩ rfl ?_
                refine at_then ?_
                obtain rfl := Option.some.inj Z8
                exact at_mid ((mset x5 ((rd l x7).Goal) ((mval x5 ((rd l x7).Goal)) ++ [(api_Pair.mk ((rd l x7).Goal) v12 [])])), (mset x6 ((rd l x7).Goal, v12) (List.length (mval x5 ((rd l x7).Goal)) : Int)), (List.length (mval x5 ((rd l x7).Goal)) : Int), a6, H32, a7, H18) [0, 0, 0, 0] ⟨rfl, s32, s18⟩ ⟨rfl, rfl, rfl, rfl, rfl, rfl, rfl, rfl, rfl, rfl, trivial⟩ rfl
            · replace Z8 := if_f (bf c9) Z8
              refine at_skip ?_
              refine at_then ?_
              obtain rfl := Option.some.inj Z8
              exact at_mid (x5, x6, (mval x6 ((rd l x7).Goal, v12)), a6, H6, a7, H7) [0, 0, 0, 0] ⟨rfl, s6, s7⟩ ⟨rfl, rfl, rfl, rfl, rfl, rfl, rfl, rfl, rfl, rfl, trivial⟩ rfl
          · rintro ⟨x13, x14, x15, a13, H13, a14, H14⟩ ⟨rfl, s13, s14⟩
            refine at_seq ?_
            refine at_region [0, 1, 2, 3, 4, 5, 6] rfl ?_
            iterate 2 refine at_s T rfl ?_
            refine at_v rfl (g_load T rfl rfl rfl rfl (in_var (j := 3) rfl rfl)) ?_
            refine at_mgopen (j := 1) (SliceD.nil (kd := q_api_Pair) (E := 72)) ((rd l x7).Goal) (by simp) rfl s13 (fun a33 n33 H33 H34 s33 s34 => ?_)
            refine at_v rfl (g_lookms (kx := (rd l x7).Goal) (v := (a33, List.length (mval x13 ((rd l x7).Goal)), n33)) T (Ky.int .i64 u3) rfl rfl rfl rfl rfl (in_mgh (j := 1) rfl s34)) ?_
            refine at_s T rfl ?_
            obtain ⟨c12, Z5⟩ := chk_e Z5
            obtain ⟨q35, o35, e35⟩ := s33.r.addr c12.1 c12.2
            refine at_v rfl (g_index T rfl rfl rfl rfl rfl e35 c12.1 c12.2) ?_
            refine at_s T rfl ?_
            refine at_end ?_
            refine at_sub [(0, (.int .i64 w)), (1, (.int .i64 h)), (2, (.slice a_l (List.length l) n_l)), (7, (.map (some a13))), (8, (.map (some a14))), (10, (.pointer (some ⟨b11, 0, none⟩))), (15, (.pointer (some ⟨q35, o35 + Int.toNat x15 * 3, none⟩))), (26, (.slice a_l (List.length l) n_l)), (27, (.int .i64 (List.length l : Int))), (28, (.int .i64 x7))] ⟨rfl, rfl, rfl, rfl, rfl, rfl, rfl, rfl, rfl, rfl, trivial⟩ ?_
            refine at_then ?_
            refine at_dsopen (j := 4) rfl s33 c12 (fun _ _ H37 o37 s37 => ?_)
            obtain ⟨a36, n36, H36, s36, rfl, rfl⟩ := o37
            refine at_spread ?_
            refine at_region_m [[], [], [1], [1, 2], [1, 2, 3], [], [5], [5, 6], [1, 2, 3, 4, 5, 6, 7], [0, 1, 2, 3, 4, 5, 6, 7, 8], [0, 1, 2, 3, 4, 5, 6, 7, 8, 9], [0, 1, 2, 3, 4, 5, 6, 7, 8, 9, 10]] [8, 11] [F, H34, H14, [(b11, Obj.cells #[(.int .i64 (rd l x7).Id), (.int .i64 (rd l x7).Cell), (.int .i64 (rd l x7).Goal)] 47 (0, 0))], H37, H36] mix (by kernel_rfl) (by repeat first | exact pf_body | refine pf_then ?_ | refine pf_block ?_) (fun hg pf => ?_)
            refine atm_s T 0 hg pf (by kernel_rfl) (still_o [0, 0, 0, 0, 0, 0] rfl) rfl ?_
            refine atm_s T 1 hg pf (by kernel_rfl) (still_o [0, 0, 0, 0, 0, 0] rfl) rfl ?_
            refine atm_s T 2 hg pf (by kernel_rfl) (still_o [0, 0, 0, 0, 0, 0] rfl) rfl ?_
            refine atm_s T 3 hg pf (by kernel_rfl) (still_o [0, 0, 0, 0, 0, 0] rfl) rfl ?_
            refine atm_v 4 hg pf (by kernel_rfl) (still_o [0, 0, 0, 0, 0, 0] rfl) rfl rfl (g_load T rfl rfl rfl rfl (in_view (j := 4) rfl (SliceDH.cells s37) e35 2 rfl)) ?_
            refine atm_s T 5 hg pf (by kernel_rfl) (still_o [0, 0, 0, 0, 0, 0] rfl) rfl ?_
            refine atm_v 6 hg pf (by kernel_rfl) (still_o [0, 0, 0, 0, 0, 0] rfl) rfl rfl (g_load T rfl rfl rfl rfl (in_var (j := 3) rfl rfl)) ?_
            refine atm_one 7 (by kernel_rfl) ?_
            refine at_bs (k := (Fl.int .i64)) T [(rd l x7).Id] rfl rfl rfl rfl rfl rfl rfl rfl rfl (fun a38 H38 s38 => ?_)
            refine atm_next (still_o [0, 0, 0, 0, 0, 0] rfl) ?_
            refine atm_one 8 (by kernel_rfl) ?_
            obtain ⟨c13, Z5⟩ := chk_e Z5
            refine at_ap (k := (Fl.int .i64)) (xs := (rd (mval x13 ((rd l x7).Goal)) x15).Ids) T (g := 5) rfl rfl rfl rfl rfl rfl rfl rfl rfl rfl s36 (own_of s38 (j := 6) rfl) c13 rfl (fun a39 n39 H39 s39 => ?_)
            refine atm_next (still_l (by kernel_rfl)) ?_
            refine atm_s T 9 hg pf (by kernel_rfl) (still_l (by kernel_rfl)) rfl ?_
            refine atm_s T 10 hg pf (by kernel_rfl) (still_l (by kernel_rfl)) rfl ?_
            refine atm_one 11 (by kernel_rfl) ?_
            refine at_dst T 4 2 [(.int .i64 (rd (mval x13 ((rd l x7).Goal)) x15).Goal), (.int .i64 (rd (mval x13 ((rd l x7).Goal)) x15).Sector), (.slice a39 (List.length ((rd (mval x13 ((rd l x7).Goal)) x15).Ids ++ [(rd l x7).Id])) n39)] rfl rfl rfl rfl rfl rfl s37 e35 rfl rfl rfl rfl (fun H40 s40 => ?_)
            refine atm_next (still_l (by kernel_rfl)) ?_
            refine atm_end (by kernel_rfl) ?_
            refine at_gather [5] rfl ?_
            refine at_dsclose (j := 4) (q := 6) (api_Pair.mk ((rd (mval x13 ((rd l x7).Goal)) x15).Goal) ((rd (mval x13 ((rd l x7).Goal)) x15).Sector) ((rd (mval x13 ((rd l x7).Goal)) x15).Ids ++ [(rd l x7).Id])) rfl s40 rfl rfl ⟨a39, n39, H39, s39, rfl, rfl⟩ (fun H43 s43 => ?_)
            refine at_mgshut (j := 1) (q := 4) (List.set (mval x13 ((rd l x7).Goal)) (Int.toNat x15) (api_Pair.mk ((rd (mval x13 ((rd l x7).Goal)) x15).Goal) ((rd (mval x13 ((rd l x7).Goal)) x15).Sector) ((rd (mval x13 ((rd l x7).Goal)) x15).Ids ++ [(rd l x7).Id]))) rfl s34 rfl rfl s43 (by simp only [List.length_set]) (fun H41 s41 => ?_)
            refine at_to [(0, (.int .i64 w)), (1, (.int .i64 h)), (2, (.slice a_l (List.length l) n_l)), (7, (.map (some a13))), (8, (.map (some a14))), (26, (.slice a_l (List.length l) n_l)), (27, (.int .i64 (List.length l : Int))), (28, (.int .i64 x7))] [0, 0, 0] [F, H41, H14] ⟨rfl, rfl, rfl, rfl, rfl, rfl, rfl, rfl, trivial⟩ rfl ?_
            refine at_nb ?_
            refine at_then ?_
            obtain rfl := Option.some.inj Z5
            exact at_mid ((mput x13 ((rd l x7).Goal) (List.set (mval x13 ((rd l x7).Goal)) (Int.toNat x15) (api_Pair.mk ((rd (mval x13 ((rd l x7).Goal)) x15).Goal) ((rd (mval x13 ((rd l x7).Goal)) x15).Sector) ((rd (mval x13 ((rd l x7).Goal)) x15).Ids ++ [(rd l x7).Id])))), x14, a13, H41, a14, H14) [0, 0, 0] ⟨rfl, s41, s14⟩ ⟨rfl, rfl, rfl, rfl, rfl, rfl, rfl, rfl, trivial⟩ rfl
        · rintro ⟨x9, x10, a8, H8, a9, H9⟩ ⟨rfl, s8, s9⟩
          refine at_region [0, 1] rfl ?_
          iterate 2 refine at_s T rfl ?_
          refine at_end ?_
          refine at_sub [(0, (.int .i64 w)), (1, (.int .i64 h)), (2, (.slice a_l (List.length l) n_l)), (7, (.map (some a8))), (8, (.map (some a9))), (26, (.slice a_l (List.length l) n_l)), (27, (.int .i64 (List.length l : Int))), (28, (.int .i64 (w64 (x7 + 1))))] ⟨rfl, rfl, rfl, rfl, rfl, rfl, rfl, rfl, trivial⟩ ?_
          refine at_then ?_
          exact at_roundL (k8, x9, x10, (w64 (x7 + 1)), a8, H8, a9, H9) [0, 0, 0] ⟨Z3, s8, s9⟩ (Nat.lt_succ_self _) ⟨rfl, rfl, rfl, rfl, rfl, rfl, rfl, rfl, trivial⟩ rfl
      · replace Z3 := if_f (of_decide_eq_false c4) Z3
        refine at_exit ?_
        refine at_xt ?_
        refine at_xt ?_
        refine at_xb ?_
        refine at_then ?_
        refine at_seq ?_
        refine at_region [0] rfl ?_
        refine at_s T rfl ?_
        refine at_end ?_
        refine at_to [(2, (.slice a_l (List.length l) n_l)), (7, (.map (some a6))), (16, (.slice none 0 0))] [0, 0] [F, H6] ⟨rfl, rfl, rfl, trivial⟩ rfl ?_
        refine at_then ?_
        refine at_seq ?_
        refine at_seq ?_
        refine at_region [0, 1, 2, 3] rfl ?_
        refine at_s T rfl ?_
        obtain ⟨v17, V14, Z3⟩ := bind_e Z3
        refine at_cons (at_cR (plan_Goals.R v17) [] [] rfl rfl rfl rfl has49 rfl rfl (plan_Goals.c l v17 _ V14 (ro_of h_l (j := 0) rfl) c_l) ?_)
        rintro _ _ ⟨a44, n44, H44, s44, rfl, rfl⟩
        iterate 2 refine at_s T rfl ?_
        refine at_end ?_
        refine at_sub [(7, (.map (some a6))), (16, (.slice none 0 0)), (89, (.slice a44 (List.length v17) n44)), (90, (.int .i64 (List.length v17 : Int))), (91, (.int .i64 0))] ⟨rfl, rfl, rfl, rfl, rfl, trivial⟩ ?_
        refine at_then ?_
        refine at_block ?_
        refine at_addnil ?_
        refine at_loopL (σ := Nat × (List (Int × (List api_Pair))) × List Int × List api_Pair × Int × Nat × Hp × Option Addr × Nat × Hp) (fun ⟨k26, x22, x23, x24, x25, a47, H47, a48, n48, H48⟩ => plan_Pairs.l1 k26 v17 x22 x23 x24 x25 = some r ∧ MgO (SliceD q_api_Pair 72) (Ky.int .i64 u3) x23 x22 a47 H47 ∧ SliceD q_api_Pair 72 x24 a48 n48 H48) (fun ⟨k26, x22, x23, x24, x25, a47, H47, a48, n48, H48⟩ => [(7, (.map (some a47))), (16, (.slice a48 (List.length x24) n48)), (89, (.slice a44 (List.length v17) n44)), (90, (.int .i64 (List.length v17 : Int))), (91, (.int .i64 x25))]) (fun ⟨k26, x22, x23, x24, x25, a47, H47, a48, n48, H48⟩ => [F, H47, H48, H44]) (fun s => s.1) (fuel, x5, [], [], 0, a6, H6, none, 0, []) [0, 0, 1, 0] ⟨Z3, s6, SliceD.nil⟩ ⟨rfl, rfl, rfl, rfl, rfl, trivial⟩ rfl ?_
        rintro ⟨k26, x22, x23, x24, x25, a47, H47, a48, n48, H48⟩ ⟨Z15, s47, s48⟩
        replace Z15 : plan_Pairs.l1 k26 v17 x22 x23 x24 x25 = some r := Z15
        rcases k26 with _ | k26
        · rw [plan_Pairs.l1] at Z15; cases Z15
        · rw [plan_Pairs.l1] at Z15
          refine at_seq ?_
          refine at_region [0] rfl ?_
          refine at_s T rfl ?_
          refine at_end ?_
          refine at_sub [(7, (.map (some a47))), (16, (.slice a48 (List.length x24) n48)), (89, (.slice a44 (List.length v17) n44)), (90, (.int .i64 (List.length v17 : Int))), (91, (.int .i64 x25)), (92, (.bool (decide (x25 < (List.length v17 : Int)))))] ⟨rfl, rfl, rfl, rfl, rfl, rfl, trivial⟩ ?_
          refine at_then ?_
          refine at_seq ?_
          refine at_cond rfl (fun c16 => ?_) (fun c16 => ?_)
          · replace Z15 := if_t (of_decide_eq_true c16) Z15
            refine at_skip ?_
            refine at_then ?_
            refine at_seq ?_
            refine at_block ?_
            refine at_seq ?_
            refine at_region [0, 1, 2] rfl ?_
            obtain ⟨c17, Z15⟩ := chk_e Z15
            obtain ⟨q49, o49, e49⟩ := s44.r.addr c17.1 c17.2
            refine at_v rfl (g_index T rfl rfl rfl rfl rfl e49 c17.1 c17.2) ?_
            refine at_v rfl (g_load T rfl rfl rfl rfl (in_elem1 (k := (Fl.int .i64)) (own_of s44 (j := 3) rfl) e49 c17 0 rfl)) ?_
            refine at_s T rfl ?_
            refine at_end ?_
            refine at_sub [(7, (.map (some a47))), (16, (.slice a48 (List.length x24) n48)), (18, (.int .i64 (rd v17 x25))), (89, (.slice a44 (List.length v17) n44)), (90, (.int .i64 (List.length v17 : Int))), (91, (.int .i64 x25))] ⟨rfl, rfl, rfl, rfl, rfl, rfl, trivial⟩ ?_
            refine at_then ?_
            refine at_region [0, 1, 2, 3, 4, 5] rfl ?_
            iterate 3 refine at_s T rfl ?_
            obtain ⟨c18, Z15⟩ := chk_e Z15
            refine at_mgopen (j := 1) (SliceD.nil (kd := q_api_Pair) (E := 72)) (rd v17 x25) c18 rfl s47 (fun a50 n50 H50 H51 s50 s51 => ?_)
            refine at_v rfl (g_lookms (kx := (rd v17 x25)) (v := (a50, List.length (mval x22 (rd v17 x25)), n50)) T (Ky.int .i64 u3) rfl rfl rfl rfl rfl (in_mgh (j := 1) rfl s51)) ?_
            obtain ⟨c19, Z15⟩ := chk_e Z15
            refine at_cons (at_dap (kd := q_api_Pair) (xs := x24) (ys := (mval x22 (rd v17 x25))) T (g := 2) (q := 4) rfl rfl rfl rfl rfl rfl rfl rfl rfl rfl s48 rfl rfl s50 c19 rfl (fun a52 n52 H52 s52 => ?_))
            refine at_s T rfl ?_
            refine at_end ?_
            refine at_mggone (j := 1) rfl s51 (fun H53 s53 => ?_)
            refine at_to [(7, (.map (some a47))), (16, (.slice a52 (List.length (x24 ++ (mval x22 (rd v17 x25)))) n52)), (89, (.slice a44 (List.length v17) n44)), (90, (.int .i64 (List.length v17 : Int))), (91, (.int .i64 x25))] [0, 0, 0, 0] [F, H53, H52, H44] ⟨rfl, rfl, rfl, rfl, rfl, trivial⟩ rfl ?_
            refine at_nb ?_
            refine at_then ?_
            refine at_region [0, 1] rfl ?_
            iterate 2 refine at_s T rfl ?_
            refine at_end ?_
            refine at_sub [(7, (.map (some a47))), (16, (.slice a52 (List.length (x24 ++ (mval x22 (rd v17 x25)))) n52)), (89, (.slice a44 (List.length v17) n44)), (90, (.int .i64 (List.length v17 : Int))), (91, (.int .i64 (w64 (x25 + 1))))] ⟨rfl, rfl, rfl, rfl, rfl, trivial⟩ ?_
            refine at_then ?_
            exact at_roundL (k26, x22, ((rd v17 x25) :: x23), (x24 ++ (mval x22 (rd v17 x25))), (w64 (x25 + 1)), a47, H53, a52, n52, H52) [0, 0, 0, 0] ⟨Z15, s53, s52⟩ (Nat.lt_succ_self _) ⟨rfl, rfl, rfl, rfl, rfl, trivial⟩ rfl
          · replace Z15 := if_f (of_decide_eq_false c16) Z15
            refine at_exit ?_
            refine at_xt ?_
            refine at_xt ?_
            refine at_xb ?_
            refine at_then ?_
            refine at_seq ?_
            refine at_region [0, 1] rfl ?_
            iterate 2 refine at_s T rfl ?_
            refine at_end ?_
            refine at_to [(6, (.slice a48 (List.length x24) n48))] [0, 1] [F, H48] ⟨rfl, trivial⟩ rfl ?_
            refine at_then ?_
            refine at_ret ?_
            obtain rfl := Option.some.inj Z15
            exact at_post (T := T) rfl (.tmp rfl .nil) (fun w o => ⟨⟨(_, _), ⟨a48, n48, H48, s48, rfl, rfl⟩⟩, rfl, own_to [1, 0] rfl o⟩)
end Go.Proofs.Ytmddmofncblfpaa
