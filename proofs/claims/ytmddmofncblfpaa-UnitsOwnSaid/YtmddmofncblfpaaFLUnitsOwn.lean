import Derived.Test.YtmddmofncblfpaaT
import Derived.Test.YtmddmofncblfpaaFlaw21
import Derived.Test.YtmddmofncblfpaaFref21
import Derived.Test.YtmddmofncblfpaaFunits
namespace Go.Proofs.Ytmddmofncblfpaa
open Go.Hx
set_option maxRecDepth 100000
set_option linter.unusedVariables false
/-! ### herdsman/herdsmanlaw21.UnitsOwn: function 7 -/
def law21_UnitsOwn.l1 : Nat → (List Int) → Int → (List (Int × api_Unit)) → List Int → (List api_Unit) → Int → List api_Unit → Int → Option Bool
  | 0, _, _, _, _, _, _, _, _ => none
  | k19 + 1, cells, x7, x9, x10, v14, x8, x17, x18 => if x18 < (List.length x17 : Int) then (if (0 ≤ x18 ∧ x18 < (List.length x17 : Int)) then (law21_UnitsOwn.l1 k19 cells x7 x9 x10 v14 x8 (List.set x17 (Int.toNat x18) (api_Unit.mk 99 (-5) (-6))) (w64 (x18 + 1))) else none) else (((law21_told.f).bind fun v22 => if (v22 && ((List.length (([] : List api_Unit) ++ v14) : Int) == (if 20 < (List.length cells : Int) then 20 else (List.length cells : Int)))) = true then ((units_Units_All.f (units_Units.mk x7 x8 x9 x10)).bind fun v23 => (ref21_Same.f v23 (([] : List api_Unit) ++ v14)).bind fun v24 => some v24) else (some false)).bind fun x20 => some x20)
def law21_UnitsOwn.l0 : Nat → (List Int) → Int → Int → Int → (List (Int × api_Unit)) → List Int → Int → Option Bool
  | 0, _, _, _, _, _, _, _ => none
  | k12 + 1, cells, goal, x7, x8, x9, x10, x11 => if ((decide (x11 < (List.length cells : Int))) && (decide (x11 < 20))) = true then (if (0 ≤ x11 ∧ x11 < (List.length cells : Int)) then ((units_Units_Add.f (units_Units.mk x7 x8 x9 x10) (rd cells x11) goal).bind fun v13 => law21_UnitsOwn.l0 k12 cells goal v13.2.2.most v13.2.2.next v13.2.2.live v13.2.2.order (w64 (x11 + 1))) else none) else ((units_Units_All.f (units_Units.mk x7 x8 x9 x10)).bind fun v14 => if (List.length ([] : List api_Unit) + List.length v14 ≤ 1099511627776) then (law21_UnitsOwn.l1 fuel cells x7 x9 x10 v14 x8 v14 0) else none)
def law21_UnitsOwn.f (cells : (List Int)) (goal : Int) : Option Bool := (units_New.f 30).bind fun v1 => optm v1 (some false) (fun yv1 => law21_UnitsOwn.l0 fuel cells goal yv1.most yv1.next yv1.live yv1.order 0)
set_option maxHeartbeats 4000000 in
theorem law21_UnitsOwn.c {a_cells : Option Addr} {n_cells : Nat} (cells : (List Int)) (goal : Int) (r : Bool) (F : Hp) (H : law21_UnitsOwn.f cells goal = some r) (h_cells : SliceR (Fl.int .i64) cells a_cells F) (c_cells : List.length cells ≤ n_cells) :
    CallsL Try.prog 7 [(.slice a_cells (List.length cells) n_cells), (.int .i64 goal)] [F] (fun _ : Unit => (.bool r)) (fun _ => [F]) := by
  unfold law21_UnitsOwn.f at H
  refine calls_atL [(0, (.slice a_cells (List.length cells) n_cells)), (1, (.int .i64 goal))] Try.func7 rfl rfl ⟨rfl, rfl, trivial⟩ (fun W => ?_)
  refine at_seq ?_
  refine at_region [0] rfl ?_
  refine at_s T rfl ?_
  refine at_end ?_
  refine at_sub [(0, (.slice a_cells (List.length cells) n_cells)), (1, (.int .i64 goal))] ⟨rfl, rfl, trivial⟩ ?_
  refine at_then ?_
  refine at_seq ?_
  refine at_region [0, 1] rfl ?_
  obtain ⟨v1, V1, H⟩ := bind_e H
  refine at_cons (at_cR (units_New.R v1) [] [] rfl rfl rfl rfl has26 rfl rfl (units_New.c 30 v1 _ V1) ?_)
  rintro _ _ ⟨_, _, O2, rfl, rfl⟩
  rcases v1 with _ | yv1
  · replace H := optm_n rfl H
    obtain ⟨rfl, rfl⟩ := O2
    refine at_s T rfl ?_
    refine at_end ?_
    refine at_sub [(0, (.slice a_cells (List.length cells) n_cells)), (1, (.int .i64 goal)), (5, (.pointer none))] ⟨rfl, rfl, rfl, trivial⟩ ?_
    refine at_then ?_
    refine at_seq ?_
    refine at_seq ?_
    refine at_region [0, 1] rfl ?_
    iterate 2 refine at_s T rfl ?_
    refine at_end ?_
    refine at_sub [(0, (.slice a_cells (List.length cells) n_cells)), (1, (.int .i64 goal)), (5, (.pointer none)), (12, (.bool true))] ⟨rfl, rfl, rfl, rfl, trivial⟩ ?_
    refine at_then ?_
    refine at_cond_t rfl ?_
    refine at_seq ?_
    refine at_region [0] rfl ?_
    refine at_s T rfl ?_
    refine at_end ?_
    refine at_sub [(4, (.bool false))] ⟨rfl, trivial⟩ ?_
    refine at_then ?_
    refine at_ret ?_
    refine at_rt ?_
    obtain rfl := Option.some.inj H
    exact at_post (T := T) rfl (.tmp rfl .nil) (fun w o => ⟨(), rfl, own_to [0] rfl o⟩)
  · replace H := optm_s rfl H
    obtain ⟨b1, a2, H2, a3, n3, H3, s2, s3, rfl, rfl⟩ := O2
    refine at_s T rfl ?_
    refine at_end ?_
    refine at_sub [(0, (.slice a_cells (List.length cells) n_cells)), (1, (.int .i64 goal)), (5, (.pointer (some ⟨b1, 0, none⟩)))] ⟨rfl, rfl, rfl, trivial⟩ ?_
    refine at_then ?_
    refine at_seq ?_
    refine at_seq ?_
    refine at_region [0, 1] rfl ?_
    iterate 2 refine at_s T rfl ?_
    refine at_end ?_
    refine at_sub [(0, (.slice a_cells (List.length cells) n_cells)), (1, (.int .i64 goal)), (5, (.pointer (some ⟨b1, 0, none⟩))), (12, (.bool false))] ⟨rfl, rfl, rfl, rfl, trivial⟩ ?_
    refine at_then ?_
    refine at_cond_f rfl ?_
    refine at_skip ?_
    refine at_then ?_
    refine at_seq ?_
    refine at_seq ?_
    refine at_region [0] rfl ?_
    refine at_s T rfl ?_
    refine at_end ?_
    refine at_sub [(0, (.slice a_cells (List.length cells) n_cells)), (1, (.int .i64 goal)), (5, (.pointer (some ⟨b1, 0, none⟩))), (6, (.int .i64 0))] ⟨rfl, rfl, rfl, rfl, trivial⟩ ?_
    refine at_then ?_
    refine at_block ?_
    refine at_loopL (σ := Nat × Int × Int × (List (Int × api_Unit)) × List Int × Int × Nat × Hp × Option Addr × Nat × Hp) (fun ⟨k12, x7, x8, x9, x10, x11, a6, H6, a7, n7, H7⟩ => law21_UnitsOwn.l0 k12 cells goal x7 x8 x9 x10 x11 = some r ∧ MapO (Ky.int .i64 u3) (fun x : api_Unit => Value.agg #[.int .i64 x.Id, .int .i64 x.Cell, .int .i64 x.Goal]) x9 a6 H6 ∧ SliceO (Fl.int .i64) 3 x10 a7 n7 H7) (fun ⟨k12, x7, x8, x9, x10, x11, a6, H6, a7, n7, H7⟩ => [(0, (.slice a_cells (List.length cells) n_cells)), (1, (.int .i64 goal)), (5, (.pointer (some ⟨b1, 0, none⟩))), (6, (.int .i64 x11))]) (fun ⟨k12, x7, x8, x9, x10, x11, a6, H6, a7, n7, H7⟩ => [F, [(b1, Obj.cells #[(.int .i64 x7), (.int .i64 x8), (.map (some a6)), (.slice a7 (List.length x10) n7)] 80 (0, 0))], H6, H7]) (fun s => s.1) (fuel, yv1.most, yv1.next, yv1.live, yv1.order, 0, a2, H2, a3, n3, H3) [0, 0, 0, 0] ⟨H, s2, s3⟩ ⟨rfl, rfl, rfl, rfl, trivial⟩ rfl ?_
    rintro ⟨k12, x7, x8, x9, x10, x11, a6, H6, a7, n7, H7⟩ ⟨Z3, s6, s7⟩
    replace Z3 : law21_UnitsOwn.l0 k12 cells goal x7 x8 x9 x10 x11 = some r := Z3
    rcases k12 with _ | k12
    · rw [law21_UnitsOwn.l0] at Z3; cases Z3
    · rw [law21_UnitsOwn.l0] at Z3
      refine at_seq ?_
      refine at_seq ?_
      refine at_region [0, 1, 2, 3, 4, 5, 6, 7] rfl ?_
      iterate 5 refine at_s T rfl ?_
      refine at_grp T [5, 6, 7] (s := 17) (c := (decide (x11 < (List.length cells : Int)))) [(0, (.slice a_cells (List.length cells) n_cells)), (1, (.int .i64 goal)), (5, (.pointer (some ⟨b1, 0, none⟩))), (6, (.int .i64 x11)), (20, (.bool ((decide (x11 < (List.length cells : Int))) && (decide (x11 < 20)))))] rfl rfl rfl (fun c4 => ⟨rfl, rfl, rfl, rfl, (by rw [c4]; rfl), trivial⟩) (fun c4 => ⟨rfl, rfl, rfl, rfl, (by rw [c4]; rfl), trivial⟩) ?_
      refine at_end ?_
      refine at_sub [(0, (.slice a_cells (List.length cells) n_cells)), (1, (.int .i64 goal)), (5, (.pointer (some ⟨b1, 0, none⟩))), (6, (.int .i64 x11)), (20, (.bool ((decide (x11 < (List.length cells : Int))) && (decide (x11 < 20)))))] ⟨rfl, rfl, rfl, rfl, rfl, trivial⟩ ?_
      refine at_then ?_
      refine at_cond rfl (fun c5 => ?_) (fun c5 => ?_)
      · replace Z3 := if_t c5 Z3
        refine at_skip ?_
        refine at_then ?_
        refine at_seq ?_
        refine at_block ?_
        refine at_region [0, 1, 2, 3, 4, 5, 6] rfl ?_
        iterate 3 refine at_s T rfl ?_
        obtain ⟨c6, Z3⟩ := chk_e Z3
        obtain ⟨q8, o8, e8⟩ := h_cells.addr c6.1 c6.2
        refine at_v rfl (g_index T rfl rfl rfl rfl rfl e8 c6.1 c6.2) ?_
        refine at_v rfl (g_load T rfl rfl rfl rfl (in_elem1 (k := (Fl.int .i64)) (ro_of h_cells (j := 0) rfl) e8 c6 0 rfl)) ?_
        refine at_s T rfl ?_
        obtain ⟨v13, V7, Z3⟩ := bind_e Z3
        refine at_cons (at_cR (As := [[(b1, Obj.cells #[(.int .i64 x7), (.int .i64 x8), (.map (some a6)), (.slice a7 (List.length x10) n7)] 80 (0, 0))], H6, H7]) (R := [F]) (units_Units_Add.R b1 v13) [] [1, 1, 1] rfl rfl rfl rfl has27 rfl rfl (units_Units_Add.c (units_Units.mk x7 x8 x9 x10) (rd cells x11) goal v13 _ V7 s6 s7) ?_)
        rintro _ _ ⟨a9, H9, a10, n10, H10, s9, s10, rfl, rfl⟩
        refine at_end ?_
        refine at_sub [(0, (.slice a_cells (List.length cells) n_cells)), (1, (.int .i64 goal)), (5, (.pointer (some ⟨b1, 0, none⟩))), (6, (.int .i64 x11))] ⟨rfl, rfl, rfl, rfl, trivial⟩ ?_
        refine at_nb ?_
        refine at_then ?_
        refine at_region [0, 1, 2] rfl ?_
        iterate 3 refine at_s T rfl ?_
        refine at_end ?_
        refine at_sub [(0, (.slice a_cells (List.length cells) n_cells)), (1, (.int .i64 goal)), (5, (.pointer (some ⟨b1, 0, none⟩))), (6, (.int .i64 (w64 (x11 + 1))))] ⟨rfl, rfl, rfl, rfl, trivial⟩ ?_
        refine at_then ?_
        exact at_roundL (k12, v13.2.2.most, v13.2.2.next, v13.2.2.live, v13.2.2.order, (w64 (x11 + 1)), a9, H9, a10, n10, H10) [0, 0, 0, 0] ⟨Z3, s9, s10⟩ (Nat.lt_succ_self _) ⟨rfl, rfl, rfl, rfl, trivial⟩ rfl
      · replace Z3 := if_f (bf c5) Z3
        refine at_exit ?_
        refine at_xt ?_
        refine at_xt ?_
        refine at_xb ?_
        refine at_then ?_
        refine at_seq ?_
        refine at_region [0, 1, 2] rfl ?_
        refine at_s T rfl ?_
        obtain ⟨v14, V8, Z3⟩ := bind_e Z3
        refine at_cons (at_cR (As := [[(b1, Obj.cells #[(.int .i64 x7), (.int .i64 x8), (.map (some a6)), (.slice a7 (List.length x10) n7)] 80 (0, 0))], H6, H7]) (R := [F]) (units_Units_All.R v14) [[(b1, Obj.cells #[(.int .i64 x7), (.int .i64 x8), (.map (some a6)), (.slice a7 (List.length x10) n7)] 80 (0, 0))], H6, H7] [1, 1, 1] rfl rfl rfl rfl has28 rfl rfl (units_Units_All.c (units_Units.mk x7 x8 x9 x10) v14 _ V8 s6 s7) ?_)
        rintro _ _ ⟨a11, n11, H11, s11, rfl, rfl⟩
        refine at_s T rfl ?_
        refine at_end ?_
        refine at_sub [(0, (.slice a_cells (List.length cells) n_cells)), (5, (.pointer (some ⟨b1, 0, none⟩))), (7, (.slice a11 (List.length v14) n11))] ⟨rfl, rfl, rfl, trivial⟩ ?_
        refine at_then ?_
        refine at_seq ?_
        refine at_region [0, 1, 2, 3] rfl ?_
        refine at_cons (at_bs (k := k_api_Unit) T ([] : List api_Unit) rfl rfl rfl rfl rfl rfl rfl rfl rfl (fun a12 H12 s12 => ?_))
        refine at_s T rfl ?_
        obtain ⟨c9, Z3⟩ := chk_e Z3
        refine at_cons (at_ap (k := k_api_Unit) (xs := ([] : List api_Unit)) T (g := 5) rfl rfl rfl rfl rfl rfl rfl rfl rfl rfl s12 (own_of s11 (j := 1) rfl) c9 rfl (fun a13 n13 H13 s13 => ?_))
        refine at_s T rfl ?_
        refine at_end ?_
        refine at_sub [(0, (.slice a_cells (List.length cells) n_cells)), (5, (.pointer (some ⟨b1, 0, none⟩))), (7, (.slice a11 (List.length v14) n11)), (8, (.slice a13 (List.length (([] : List api_Unit) ++ v14)) n13))] ⟨rfl, rfl, rfl, rfl, trivial⟩ ?_
        refine at_then ?_
        refine at_seq ?_
        refine at_seq ?_
        refine at_region [0] rfl ?_
        refine at_s T rfl ?_
        refine at_end ?_
        refine at_sub [(0, (.slice a_cells (List.length cells) n_cells)), (5, (.pointer (some ⟨b1, 0, none⟩))), (7, (.slice a11 (List.length v14) n11)), (8, (.slice a13 (List.length (([] : List api_Unit) ++ v14)) n13)), (9, (.int .i64 0))] ⟨rfl, rfl, rfl, rfl, rfl, trivial⟩ ?_
        refine at_then ?_
        refine at_block ?_
        refine at_loopL (σ := Nat × List api_Unit × Int × Option Addr × Nat × Hp) (fun ⟨k19, x17, x18, a15, n15, H15⟩ => law21_UnitsOwn.l1 k19 cells x7 x9 x10 v14 x8 x17 x18 = some r ∧ SliceO k_api_Unit 47 x17 a15 n15 H15) (fun ⟨k19, x17, x18, a15, n15, H15⟩ => [(0, (.slice a_cells (List.length cells) n_cells)), (5, (.pointer (some ⟨b1, 0, none⟩))), (7, (.slice a15 (List.length x17) n15)), (8, (.slice a13 (List.length (([] : List api_Unit) ++ v14)) n13)), (9, (.int .i64 x18))]) (fun ⟨k19, x17, x18, a15, n15, H15⟩ => [F, [(b1, Obj.cells #[(.int .i64 x7), (.int .i64 x8), (.map (some a6)), (.slice a7 (List.length x10) n7)] 80 (0, 0))], H6, H7, H15, H13]) (fun s => s.1) (fuel, v14, 0, a11, n11, H11) [0, 1, 1, 1, 0, 0] ⟨Z3, s11⟩ ⟨rfl, rfl, rfl, rfl, rfl, trivial⟩ rfl ?_
        rintro ⟨k19, x17, x18, a15, n15, H15⟩ ⟨Z10, s15⟩
        replace Z10 : law21_UnitsOwn.l1 k19 cells x7 x9 x10 v14 x8 x17 x18 = some r := Z10
        rcases k19 with _ | k19
        · rw [law21_UnitsOwn.l1] at Z10; cases Z10
        · rw [law21_UnitsOwn.l1] at Z10
          refine at_seq ?_
          refine at_seq ?_
          refine at_region [0, 1, 2, 3] rfl ?_
          iterate 4 refine at_s T rfl ?_
          refine at_end ?_
          refine at_sub [(0, (.slice a_cells (List.length cells) n_cells)), (5, (.pointer (some ⟨b1, 0, none⟩))), (7, (.slice a15 (List.length x17) n15)), (8, (.slice a13 (List.length (([] : List api_Unit) ++ v14)) n13)), (9, (.int .i64 x18)), (38, (.bool (decide (x18 < (List.length x17 : Int)))))] ⟨rfl, rfl, rfl, rfl, rfl, rfl, trivial⟩ ?_
          refine at_then ?_
          refine at_cond rfl (fun c11 => ?_) (fun c11 => ?_)
          · replace Z10 := if_t (of_decide_eq_true c11) Z10
            refine at_skip ?_
            refine at_then ?_
            refine at_seq ?_
            refine at_block ?_
            refine at_region [0, 1, 2, 3, 4] rfl ?_
            iterate 3 refine at_s T rfl ?_
            obtain ⟨c12, Z10⟩ := chk_e Z10
            obtain ⟨q16, o16, e16⟩ := s15.r.addr c12.1 c12.2
            refine at_v rfl (g_index T rfl rfl rfl rfl rfl e16 c12.1 c12.2) ?_
            refine at_cons (at_se (k := k_api_Unit) T 4 0 (api_Unit.mk 99 (-5) (-6)) rfl rfl rfl rfl rfl rfl s15 e16 c12 rfl rfl rfl (fun H17 s17 => ?_))
            refine at_to [(0, (.slice a_cells (List.length cells) n_cells)), (5, (.pointer (some ⟨b1, 0, none⟩))), (7, (.slice a15 (List.length (List.set x17 (Int.toNat x18) (api_Unit.mk 99 (-5) (-6)))) n15)), (8, (.slice a13 (List.length (([] : List api_Unit) ++ v14)) n13)), (9, (.int .i64 x18))] [0, 0, 0, 0, 0, 0] [F, [(b1, Obj.cells #[(.int .i64 x7), (.int .i64 x8), (.map (some a6)), (.slice a7 (List.length x10) n7)] 80 (0, 0))], H6, H7, H17, H13] ⟨rfl, rfl, (by first | rfl | (simp only [List.length_set]; rfl)), rfl, rfl, trivial⟩ rfl ?_
            refine at_end ?_
            refine at_sub [(0, (.slice a_cells (List.length cells) n_cells)), (5, (.pointer (some ⟨b1, 0, none⟩))), (7, (.slice a15 (List.length (List.set x17 (Int.toNat x18) (api_Unit.mk 99 (-5) (-6)))) n15)), (8, (.slice a13 (List.length (([] : List api_Unit) ++ v14)) n13)), (9, (.int .i64 x18))] ⟨rfl, rfl, rfl, rfl, rfl, trivial⟩ ?_
            refine at_nb ?_
            refine at_then ?_
            refine at_region [0, 1, 2] rfl ?_
            iterate 3 refine at_s T rfl ?_
            refine at_end ?_
            refine at_sub [(0, (.slice a_cells (List.length cells) n_cells)), (5, (.pointer (some ⟨b1, 0, none⟩))), (7, (.slice a15 (List.length (List.set x17 (Int.toNat x18) (api_Unit.mk 99 (-5) (-6)))) n15)), (8, (.slice a13 (List.length (([] : List api_Unit) ++ v14)) n13)), (9, (.int .i64 (w64 (x18 + 1))))] ⟨rfl, rfl, rfl, rfl, rfl, trivial⟩ ?_
            refine at_then ?_
            exact at_roundL (k19, (List.set x17 (Int.toNat x18) (api_Unit.mk 99 (-5) (-6))), (w64 (x18 + 1)), a15, n15, H17) [0, 0, 0, 0, 0, 0] ⟨Z10, s17⟩ (Nat.lt_succ_self _) ⟨rfl, rfl, rfl, rfl, rfl, trivial⟩ rfl
          · replace Z10 := if_f (of_decide_eq_false c11) Z10
            refine at_exit ?_
            refine at_xt ?_
            refine at_xt ?_
            refine at_xb ?_
            refine at_then ?_
            obtain ⟨z21, Z13, Z10⟩ := bind_e Z10
            refine at_seq_mid (σ := Bool) (fun x20 => x20 = z21) (fun x20 => [(4, (.bool x20))]) (fun x20 => [F]) ?_ ?_
            · refine at_region [0, 1, 2, 3, 4, 5, 6, 7, 8, 9, 10, 11, 12, 13, 14, 15] rfl ?_
              obtain ⟨v22, V14, Z13⟩ := bind_e Z13
              refine at_cons (at_c (B := fun _ => []) [] rfl rfl rfl rfl has29 rfl rfl (law21_told.c  v22 _ V14) (fun _ => ?_))
              refine at_s T rfl ?_
              refine at_grp T [2, 3, 4, 5, 6, 7, 8] (s := 46) (c := v22) [(5, (.pointer (some ⟨b1, 0, none⟩))), (8, (.slice a13 (List.length (([] : List api_Unit) ++ v14)) n13)), (53, (.bool (v22 && ((List.length (([] : List api_Unit) ++ v14) : Int) == (if 20 < (List.length cells : Int) then 20 else (List.length cells : Int))))))] rfl rfl rfl (fun c15 => ⟨rfl, rfl, (by rw [c15]; rfl), trivial⟩) (fun c15 => ⟨rfl, rfl, (by rw [c15]; rfl), trivial⟩) ?_
              refine at_s T rfl ?_
              refine at_case (s := 54) rfl (fun c16 => ?_) (fun c16 => ?_)
              · replace Z13 := if_t c16 Z13
                refine at_s T rfl ?_
                obtain ⟨v23, V17, Z13⟩ := bind_e Z13
                refine at_cons (at_cR (As := [[(b1, Obj.cells #[(.int .i64 x7), (.int .i64 x8), (.map (some a6)), (.slice a7 (List.length x10) n7)] 80 (0, 0))], H6, H7]) (R := [F, H15, H13]) (units_Units_All.R v23) [[(b1, Obj.cells #[(.int .i64 x7), (.int .i64 x8), (.map (some a6)), (.slice a7 (List.length x10) n7)] 80 (0, 0))], H6, H7] [1, 1, 1] rfl rfl rfl rfl has28 rfl rfl (units_Units_All.c (units_Units.mk x7 x8 x9 x10) v23 _ V17 s6 s7) ?_)
                rintro _ _ ⟨a18, n18, H18, s18, rfl, rfl⟩
                refine at_s T rfl ?_
                obtain ⟨v24, V18, Z13⟩ := bind_e Z13
                refine at_cons (at_c (B := fun _ => []) [] rfl rfl rfl rfl has30 rfl rfl (ref21_Same.c v23 (([] : List api_Unit) ++ v14) v24 _ V18 (own_of s18 (j := 3) rfl) s18.cap_le (own_of s13 (j := 2) rfl) s13.cap_le) (fun _ => ?_))
                iterate 2 refine at_s T rfl ?_
                refine at_end ?_
                refine at_to [(4, (.bool v24))] [0] [F] ⟨rfl, trivial⟩ rfl ?_
                refine at_then ?_
                obtain rfl := Option.some.inj Z13
                exact at_mid v24 [0] rfl ⟨rfl, trivial⟩ rfl
              · replace Z13 := if_f (bf c16) Z13
                iterate 6 refine at_s T rfl ?_
                refine at_end ?_
                refine at_to [(4, (.bool false))] [0] [F] ⟨rfl, trivial⟩ rfl ?_
                refine at_then ?_
                obtain rfl := Option.some.inj Z13
                exact at_mid false [0] rfl ⟨rfl, trivial⟩ rfl
            · rintro x20 rfl
              refine at_ret ?_
              obtain rfl := Option.some.inj Z10
              exact at_post (T := T) rfl (.tmp rfl .nil) (fun w o => ⟨(), rfl, own_to [0] rfl o⟩)
def law21_UnitsOwn.Pure : Prop := ∀ (cells : (List Int)) (goal : Int), (∀ y ∈ cells, inI64 y) → inI64 goal → law21_UnitsOwn.f cells goal = some true
end Go.Proofs.Ytmddmofncblfpaa
