import Derived.Test.YtmddmofncblfpaaT
import Derived.Test.YtmddmofncblfpaaFlaw23
import Derived.Test.YtmddmofncblfpaaFplan
import Derived.Test.YtmddmofncblfpaaFref1
namespace Go.Proofs.Ytmddmofncblfpaa
open Go.Hx
set_option maxRecDepth 100000
set_option linter.unusedVariables false
/-! ### herdsman/herdsmanlaw23.PlanGoals: function 14 -/
def law23_PlanGoals.l2 : Nat → List api_Unit → Int → Int → (List Int) → Bool → Int → Option (Sum Bool Int)
  | 0, _, _, _, _, _, _ => none
  | k19 + 1, x3, x10, x11, v7, x17, x18 => if x18 < x11 then (if x17 = true then (if (0 ≤ x18 ∧ x18 < (List.length x3 : Int)) then (if (0 ≤ x11 ∧ x11 < (List.length x3 : Int)) then (law23_PlanGoals.l2 k19 x3 x10 x11 v7 ((rd x3 x18).Goal != (rd x3 x11).Goal) (w64 (x18 + 1))) else none) else none) else (law23_PlanGoals.l2 k19 x3 x10 x11 v7 false (w64 (x18 + 1)))) else (if x17 = true then ((if x10 ≥ (List.length v7 : Int) then (some true) else (if (0 ≤ x10 ∧ x10 < (List.length v7 : Int)) then (if (0 ≤ x11 ∧ x11 < (List.length x3 : Int)) then (some ((rd v7 x10) != (rd x3 x11).Goal)) else none) else none)).bind fun x20 => if x20 = true then (some (Sum.inl false)) else (some (Sum.inr (w64 (x10 + 1))))) else (some (Sum.inr x10)))
def law23_PlanGoals.l1 : Nat → List api_Unit → (List Int) → Int → Int → Option Bool
  | 0, _, _, _, _ => none
  | k12 + 1, x3, v7, x10, x11 => if x11 < (List.length x3 : Int) then ((law23_PlanGoals.l2 fuel x3 x10 x11 v7 true 0).bind fun zz => match zz with | Sum.inl q => some q | Sum.inr x13 => law23_PlanGoals.l1 k12 x3 v7 x13 (w64 (x11 + 1))) else ((law23_told.f).bind fun v22 => some (v22 && (x10 == (List.length v7 : Int))))
def law23_PlanGoals.l0 : Nat → Bool → List api_Unit → Int → Option Bool
  | 0, _, _, _ => none
  | k5 + 1, few, x3, x4 => if ((decide (x4 < (List.length x3 : Int))) && few) = true then (if (0 ≤ x4 ∧ x4 < (List.length x3 : Int)) then ((ref1_Within.f ((rd x3 x4).Goal) (-2) 2).bind fun v6 => law23_PlanGoals.l0 k5 few (List.set x3 (Int.toNat x4) (api_Unit.mk ((rd x3 x4).Id) ((rd x3 x4).Cell) v6)) (w64 (x4 + 1))) else none) else ((plan_Goals.f x3).bind fun v7 => law23_PlanGoals.l1 fuel x3 v7 0 0)
def law23_PlanGoals.f (l : (List api_Unit)) (few : Bool) : Option Bool := if (0 ≤ (0 : Int) ∧ (0 : Int) ≤ (if 40 < (List.length l : Int) then 40 else (List.length l : Int)) ∧ (if 40 < (List.length l : Int) then 40 else (List.length l : Int)) ≤ (List.length l : Int)) then (if (List.length ([] : List api_Unit) + List.length (sub' l 0 (if 40 < (List.length l : Int) then 40 else (List.length l : Int))) ≤ 1099511627776) then (law23_PlanGoals.l0 fuel few (([] : List api_Unit) ++ (sub' l 0 (if 40 < (List.length l : Int) then 40 else (List.length l : Int)))) 0) else none) else none
set_option maxHeartbeats 4000000 in
theorem law23_PlanGoals.c {a_l : Option Addr} {n_l : Nat} (l : (List api_Unit)) (few : Bool) (r : Bool) (F : Hp) (H : law23_PlanGoals.f l few = some r) (h_l : SliceR k_api_Unit l a_l F) (c_l : List.length l ≤ n_l) :
    CallsL Try.prog 14 [(.slice a_l (List.length l) n_l), (.bool few)] [F] (fun _ : Unit => (.bool r)) (fun _ => [F]) := by
  unfold law23_PlanGoals.f at H
  refine calls_atL [(0, (.slice a_l (List.length l) n_l)), (1, (.bool few))] Try.func14 rfl rfl ⟨rfl, rfl, trivial⟩ (fun W => ?_)
  refine at_seq ?_
  refine at_region [0] rfl ?_
  refine at_s T rfl ?_
  refine at_end ?_
  refine at_sub [(0, (.slice a_l (List.length l) n_l)), (1, (.bool few))] ⟨rfl, rfl, trivial⟩ ?_
  refine at_then ?_
  refine at_seq ?_
  refine at_region [0, 1, 2, 3, 4, 5, 6, 7] rfl ?_
  refine at_cons (at_bs (k := k_api_Unit) T ([] : List api_Unit) rfl rfl rfl rfl rfl rfl rfl rfl rfl (fun a1 H1 s1 => ?_))
  iterate 4 refine at_s T rfl ?_
  obtain ⟨c1, H⟩ := chk_e H
  refine at_v rfl (g_sub T rfl rfl rfl rfl rfl rfl c1 c_l) ?_
  obtain ⟨c2, H⟩ := chk_e H
  refine at_cons (at_ap (k := k_api_Unit) (xs := ([] : List api_Unit)) T (g := 1) rfl rfl rfl rfl rfl rfl rfl rfl rfl rfl s1 (sub_r (ro_of h_l (j := 0) rfl) c1 c_l) c2 rfl (fun a2 n2 H2 s2 => ?_))
  refine at_s T rfl ?_
  refine at_end ?_
  refine at_sub [(1, (.bool few)), (5, (.slice a2 (List.length (([] : List api_Unit) ++ (sub' l 0 (if 40 < (List.length l : Int) then 40 else (List.length l : Int))))) n2))] ⟨rfl, rfl, trivial⟩ ?_
  refine at_then ?_
  refine at_seq ?_
  refine at_seq ?_
  refine at_region [0] rfl ?_
  refine at_s T rfl ?_
  refine at_end ?_
  refine at_sub [(1, (.bool few)), (5, (.slice a2 (List.length (([] : List api_Unit) ++ (sub' l 0 (if 40 < (List.length l : Int) then 40 else (List.length l : Int))))) n2)), (6, (.int .i64 0))] ⟨rfl, rfl, rfl, trivial⟩ ?_
  refine at_then ?_
  refine at_block ?_
  refine at_loopL (σ := Nat × List api_Unit × Int × Option Addr × Nat × Hp) (fun ⟨k5, x3, x4, a4, n4, H4⟩ => law23_PlanGoals.l0 k5 few x3 x4 = some r ∧ SliceO k_api_Unit 47 x3 a4 n4 H4) (fun ⟨k5, x3, x4, a4, n4, H4⟩ => [(1, (.bool few)), (5, (.slice a4 (List.length x3) n4)), (6, (.int .i64 x4))]) (fun ⟨k5, x3, x4, a4, n4, H4⟩ => [F, H4]) (fun s => s.1) (fuel, (([] : List api_Unit) ++ (sub' l 0 (if 40 < (List.length l : Int) then 40 else (List.length l : Int)))), 0, a2, n2, H2) [0, 0] ⟨H, s2⟩ ⟨rfl, rfl, rfl, trivial⟩ rfl ?_
  rintro ⟨k5, x3, x4, a4, n4, H4⟩ ⟨Z3, s4⟩
  replace Z3 : law23_PlanGoals.l0 k5 few x3 x4 = some r := Z3
  rcases k5 with _ | k5
  · rw [law23_PlanGoals.l0] at Z3; cases Z3
  · rw [law23_PlanGoals.l0] at Z3
    refine at_seq ?_
    refine at_seq ?_
    refine at_region [0, 1, 2, 3, 4, 5, 6] rfl ?_
    iterate 5 refine at_s T rfl ?_
    refine at_grp T [5, 6] (s := 23) (c := (decide (x4 < (List.length x3 : Int)))) [(1, (.bool few)), (5, (.slice a4 (List.length x3) n4)), (6, (.int .i64 x4)), (25, (.bool ((decide (x4 < (List.length x3 : Int))) && few)))] rfl rfl rfl (fun c4 => ⟨rfl, rfl, rfl, (by rw [c4]; rfl), trivial⟩) (fun c4 => ⟨rfl, rfl, rfl, (by rw [c4]; rfl), trivial⟩) ?_
    refine at_end ?_
    refine at_sub [(1, (.bool few)), (5, (.slice a4 (List.length x3) n4)), (6, (.int .i64 x4)), (25, (.bool ((decide (x4 < (List.length x3 : Int))) && few)))] ⟨rfl, rfl, rfl, rfl, trivial⟩ ?_
    refine at_then ?_
    refine at_cond rfl (fun c5 => ?_) (fun c5 => ?_)
    · replace Z3 := if_t c5 Z3
      refine at_skip ?_
      refine at_then ?_
      refine at_seq ?_
      refine at_block ?_
      refine at_region [0, 1, 2, 3, 4, 5, 6, 7, 8, 9, 10] rfl ?_
      iterate 4 refine at_s T rfl ?_
      obtain ⟨c6, Z3⟩ := chk_e Z3
      obtain ⟨q5, o5, e5⟩ := s4.r.addr c6.1 c6.2
      refine at_v rfl (g_index T rfl rfl rfl rfl rfl e5 c6.1 c6.2) ?_
      refine at_s T rfl ?_
      refine at_v rfl (g_load T rfl rfl rfl rfl (in_elem1 (k := k_api_Unit) (own_of s4 (j := 1) rfl) e5 c6 2 rfl)) ?_
      obtain ⟨v6, V7, Z3⟩ := bind_e Z3
      refine at_cons (at_c (B := fun _ => []) [] rfl rfl rfl rfl has15 rfl rfl (ref1_Within.c ((rd x3 x4).Goal) (-2) 2 v6 _ V7) (fun _ => ?_))
      refine at_v rfl (g_index T rfl rfl rfl rfl rfl e5 c6.1 c6.2) ?_
      refine at_s T rfl ?_
      refine at_cons (at_se (k := k_api_Unit) T 1 2 (api_Unit.mk ((rd x3 x4).Id) ((rd x3 x4).Cell) v6) rfl rfl rfl rfl rfl rfl s4 e5 c6 rfl rfl rfl (fun H6 s6 => ?_))
      refine at_to [(1, (.bool few)), (5, (.slice a4 (List.length (List.set x3 (Int.toNat x4) (api_Unit.mk ((rd x3 x4).Id) ((rd x3 x4).Cell) v6))) n4)), (6, (.int .i64 x4))] [0, 0] [F, H6] ⟨rfl, (by first | rfl | (simp only [List.length_set]; rfl)), rfl, trivial⟩ rfl ?_
      refine at_end ?_
      refine at_sub [(1, (.bool few)), (5, (.slice a4 (List.length (List.set x3 (Int.toNat x4) (api_Unit.mk ((rd x3 x4).Id) ((rd x3 x4).Cell) v6))) n4)), (6, (.int .i64 x4))] ⟨rfl, rfl, rfl, trivial⟩ ?_
      refine at_nb ?_
      refine at_then ?_
      refine at_region [0, 1, 2] rfl ?_
      iterate 3 refine at_s T rfl ?_
      refine at_end ?_
      refine at_sub [(1, (.bool few)), (5, (.slice a4 (List.length (List.set x3 (Int.toNat x4) (api_Unit.mk ((rd x3 x4).Id) ((rd x3 x4).Cell) v6))) n4)), (6, (.int .i64 (w64 (x4 + 1))))] ⟨rfl, rfl, rfl, trivial⟩ ?_
      refine at_then ?_
      exact at_roundL (k5, (List.set x3 (Int.toNat x4) (api_Unit.mk ((rd x3 x4).Id) ((rd x3 x4).Cell) v6)), (w64 (x4 + 1)), a4, n4, H6) [0, 0] ⟨Z3, s6⟩ (Nat.lt_succ_self _) ⟨rfl, rfl, rfl, trivial⟩ rfl
    · replace Z3 := if_f (bf c5) Z3
      refine at_exit ?_
      refine at_xt ?_
      refine at_xt ?_
      refine at_xb ?_
      refine at_then ?_
      refine at_seq ?_
      refine at_region [0, 1, 2] rfl ?_
      refine at_s T rfl ?_
      obtain ⟨v7, V8, Z3⟩ := bind_e Z3
      refine at_cons (at_cR (plan_Goals.R v7) [] [] rfl rfl rfl rfl has49 rfl rfl (plan_Goals.c x3 v7 _ V8 (own_of s4 (j := 1) rfl) s4.cap_le) ?_)
      rintro _ _ ⟨a7, n7, H7, s7, rfl, rfl⟩
      refine at_s T rfl ?_
      refine at_end ?_
      refine at_sub [(5, (.slice a4 (List.length x3) n4)), (7, (.slice a7 (List.length v7) n7))] ⟨rfl, rfl, trivial⟩ ?_
      refine at_then ?_
      refine at_seq ?_
      refine at_region [0] rfl ?_
      refine at_s T rfl ?_
      refine at_end ?_
      refine at_sub [(5, (.slice a4 (List.length x3) n4)), (7, (.slice a7 (List.length v7) n7)), (8, (.int .i64 0))] ⟨rfl, rfl, rfl, trivial⟩ ?_
      refine at_then ?_
      refine at_seq ?_
      refine at_seq ?_
      refine at_region [0] rfl ?_
      refine at_s T rfl ?_
      refine at_end ?_
      refine at_sub [(5, (.slice a4 (List.length x3) n4)), (7, (.slice a7 (List.length v7) n7)), (8, (.int .i64 0)), (9, (.int .i64 0))] ⟨rfl, rfl, rfl, rfl, trivial⟩ ?_
      refine at_then ?_
      refine at_block ?_
      refine at_loopL (σ := Nat × Int × Int) (fun ⟨k12, x10, x11⟩ => law23_PlanGoals.l1 k12 x3 v7 x10 x11 = some r) (fun ⟨k12, x10, x11⟩ => [(5, (.slice a4 (List.length x3) n4)), (7, (.slice a7 (List.length v7) n7)), (8, (.int .i64 x10)), (9, (.int .i64 x11))]) (fun ⟨k12, x10, x11⟩ => [F, H4, H7]) (fun s => s.1) (fuel, 0, 0) [0, 0, 0] Z3 ⟨rfl, rfl, rfl, rfl, trivial⟩ rfl ?_
      rintro ⟨k12, x10, x11⟩ Z9
      replace Z9 : law23_PlanGoals.l1 k12 x3 v7 x10 x11 = some r := Z9
      rcases k12 with _ | k12
      · rw [law23_PlanGoals.l1] at Z9; cases Z9
      · rw [law23_PlanGoals.l1] at Z9
        refine at_seq ?_
        refine at_seq ?_
        refine at_region [0, 1, 2, 3] rfl ?_
        iterate 4 refine at_s T rfl ?_
        refine at_end ?_
        refine at_sub [(5, (.slice a4 (List.length x3) n4)), (7, (.slice a7 (List.length v7) n7)), (8, (.int .i64 x10)), (9, (.int .i64 x11)), (43, (.bool (decide (x11 < (List.length x3 : Int)))))] ⟨rfl, rfl, rfl, rfl, rfl, trivial⟩ ?_
        refine at_then ?_
        refine at_cond rfl (fun c10 => ?_) (fun c10 => ?_)
        · replace Z9 := if_t (of_decide_eq_true c10) Z9
          refine at_skip ?_
          refine at_then ?_
          obtain ⟨z14, Z11, Z9⟩ := bind_e Z9
          refine at_seq_mid (σ := Int) (fun x13 => (Sum.inr x13) = z14) (fun x13 => [(5, (.slice a4 (List.length x3) n4)), (7, (.slice a7 (List.length v7) n7)), (8, (.int .i64 x13)), (9, (.int .i64 x11))]) (fun x13 => [F, H4, H7]) ?_ ?_
          · refine at_block ?_
            refine at_seq ?_
            refine at_region [0] rfl ?_
            refine at_s T rfl ?_
            refine at_end ?_
            refine at_sub [(5, (.slice a4 (List.length x3) n4)), (7, (.slice a7 (List.length v7) n7)), (8, (.int .i64 x10)), (9, (.int .i64 x11)), (10, (.bool true))] ⟨rfl, rfl, rfl, rfl, rfl, trivial⟩ ?_
            refine at_then ?_
            refine at_seq ?_
            refine at_seq ?_
            refine at_region [0] rfl ?_
            refine at_s T rfl ?_
            refine at_end ?_
            refine at_sub [(5, (.slice a4 (List.length x3) n4)), (7, (.slice a7 (List.length v7) n7)), (8, (.int .i64 x10)), (9, (.int .i64 x11)), (10, (.bool true)), (11, (.int .i64 0))] ⟨rfl, rfl, rfl, rfl, rfl, rfl, trivial⟩ ?_
            refine at_then ?_
            refine at_block ?_
            refine at_loopL (σ := Nat × Bool × Int) (fun ⟨k19, x17, x18⟩ => law23_PlanGoals.l2 k19 x3 x10 x11 v7 x17 x18 = some z14) (fun ⟨k19, x17, x18⟩ => [(5, (.slice a4 (List.length x3) n4)), (7, (.slice a7 (List.length v7) n7)), (8, (.int .i64 x10)), (9, (.int .i64 x11)), (10, (.bool x17)), (11, (.int .i64 x18))]) (fun ⟨k19, x17, x18⟩ => [F, H4, H7]) (fun s => s.1) (fuel, true, 0) [0, 0, 0] Z11 ⟨rfl, rfl, rfl, rfl, rfl, rfl, trivial⟩ rfl ?_
            rintro ⟨k19, x17, x18⟩ Z12
            replace Z12 : law23_PlanGoals.l2 k19 x3 x10 x11 v7 x17 x18 = some z14 := Z12
            rcases k19 with _ | k19
            · rw [law23_PlanGoals.l2] at Z12; cases Z12
            · rw [law23_PlanGoals.l2] at Z12
              refine at_seq ?_
              refine at_seq ?_
              refine at_region [0, 1, 2] rfl ?_
              iterate 3 refine at_s T rfl ?_
              refine at_end ?_
              refine at_sub [(5, (.slice a4 (List.length x3) n4)), (7, (.slice a7 (List.length v7) n7)), (8, (.int .i64 x10)), (9, (.int .i64 x11)), (10, (.bool x17)), (11, (.int .i64 x18)), (48, (.bool (decide (x18 < x11))))] ⟨rfl, rfl, rfl, rfl, rfl, rfl, rfl, trivial⟩ ?_
              refine at_then ?_
              refine at_cond rfl (fun c13 => ?_) (fun c13 => ?_)
              · replace Z12 := if_t (of_decide_eq_true c13) Z12
                refine at_skip ?_
                refine at_then ?_
                refine at_seq ?_
                refine at_block ?_
                refine at_region_q mix (by kernel_rfl) ?_
                iterate 2 refine atq_s T rfl ?_
                refine atq_case (s := 52) rfl (fun c14 => ?_) (fun c14 => ?_)
                · replace Z12 := if_t c14 Z12
                  iterate 2 refine atq_s T rfl ?_
                  obtain ⟨c15, Z12⟩ := chk_e Z12
                  obtain ⟨q8, o8, e8⟩ := s4.r.addr c15.1 c15.2
                  refine atq_v rfl rfl rfl (g_index T rfl rfl rfl rfl rfl e8 c15.1 c15.2) ?_
                  refine atq_s T rfl ?_
                  refine atq_v rfl rfl rfl (g_load T rfl rfl rfl rfl (in_elem1 (k := k_api_Unit) (own_of s4 (j := 1) rfl) e8 c15 2 rfl)) ?_
                  iterate 2 refine atq_s T rfl ?_
                  obtain ⟨c16, Z12⟩ := chk_e Z12
                  refine atq_v rfl rfl rfl (g_index T rfl rfl rfl rfl rfl e8 c16.1 c16.2) ?_
                  refine atq_s T rfl ?_
                  refine atq_v rfl rfl rfl (g_load T rfl rfl rfl rfl (in_elem1 (k := k_api_Unit) (own_of s4 (j := 1) rfl) e8 c16 2 rfl)) ?_
                  iterate 3 refine atq_s T rfl ?_
                  refine atq_end ?_
                  refine at_sub [(5, (.slice a4 (List.length x3) n4)), (7, (.slice a7 (List.length v7) n7)), (8, (.int .i64 x10)), (9, (.int .i64 x11)), (10, (.bool ((rd x3 x18).Goal != (rd x3 x11).Goal))), (11, (.int .i64 x18))] ⟨rfl, rfl, rfl, rfl, rfl, rfl, trivial⟩ ?_
                  refine at_nb ?_
                  refine at_then ?_
                  refine at_region [0, 1, 2] rfl ?_
                  iterate 3 refine at_s T rfl ?_
                  refine at_end ?_
                  refine at_sub [(5, (.slice a4 (List.length x3) n4)), (7, (.slice a7 (List.length v7) n7)), (8, (.int .i64 x10)), (9, (.int .i64 x11)), (10, (.bool ((rd x3 x18).Goal != (rd x3 x11).Goal))), (11, (.int .i64 (w64 (x18 + 1))))] ⟨rfl, rfl, rfl, rfl, rfl, rfl, trivial⟩ ?_
                  refine at_then ?_
                  exact at_roundL (k19, ((rd x3 x18).Goal != (rd x3 x11).Goal), (w64 (x18 + 1))) [0, 0, 0] Z12 (Nat.lt_succ_self _) ⟨rfl, rfl, rfl, rfl, rfl, rfl, trivial⟩ rfl
                · replace Z12 := if_f (bf c14) Z12
                  iterate 13 refine atq_s T rfl ?_
                  refine atq_end ?_
                  refine at_sub [(5, (.slice a4 (List.length x3) n4)), (7, (.slice a7 (List.length v7) n7)), (8, (.int .i64 x10)), (9, (.int .i64 x11)), (10, (.bool false)), (11, (.int .i64 x18))] ⟨rfl, rfl, rfl, rfl, rfl, rfl, trivial⟩ ?_
                  refine at_nb ?_
                  refine at_then ?_
                  refine at_region [0, 1, 2] rfl ?_
                  iterate 3 refine at_s T rfl ?_
                  refine at_end ?_
                  refine at_sub [(5, (.slice a4 (List.length x3) n4)), (7, (.slice a7 (List.length v7) n7)), (8, (.int .i64 x10)), (9, (.int .i64 x11)), (10, (.bool false)), (11, (.int .i64 (w64 (x18 + 1))))] ⟨rfl, rfl, rfl, rfl, rfl, rfl, trivial⟩ ?_
                  refine at_then ?_
                  exact at_roundL (k19, false, (w64 (x18 + 1))) [0, 0, 0] Z12 (Nat.lt_succ_self _) ⟨rfl, rfl, rfl, rfl, rfl, rfl, trivial⟩ rfl
              · replace Z12 := if_f (of_decide_eq_false c13) Z12
                refine at_exit ?_
                refine at_xt ?_
                refine at_xt ?_
                refine at_xb ?_
                refine at_then ?_
                refine at_seq ?_
                refine at_region [0] rfl ?_
                refine at_s T rfl ?_
                refine at_end ?_
                refine at_sub [(5, (.slice a4 (List.length x3) n4)), (7, (.slice a7 (List.length v7) n7)), (8, (.int .i64 x10)), (9, (.int .i64 x11)), (65, (.bool x17))] ⟨rfl, rfl, rfl, rfl, rfl, trivial⟩ ?_
                refine at_then ?_
                refine at_cond rfl (fun c17 => ?_) (fun c17 => ?_)
                · replace Z12 := if_t c17 Z12
                  refine at_seq ?_
                  obtain ⟨z21, Z18, Z12⟩ := bind_e Z12
                  refine at_seq_mid (σ := Bool) (fun x20 => x20 = z21) (fun x20 => [(5, (.slice a4 (List.length x3) n4)), (7, (.slice a7 (List.length v7) n7)), (8, (.int .i64 x10)), (9, (.int .i64 x11)), (81, (.bool x20))]) (fun x20 => [F, H4, H7]) ?_ ?_
                  · refine at_region_q mix (by kernel_rfl) ?_
                    iterate 5 refine atq_s T rfl ?_
                    refine atq_case (s := 70) rfl (fun c19 => ?_) (fun c19 => ?_)
                    · replace Z18 := if_t (of_decide_eq_true c19) Z18
                      iterate 11 refine atq_s T rfl ?_
                      refine atq_end ?_
                      refine at_sub [(5, (.slice a4 (List.length x3) n4)), (7, (.slice a7 (List.length v7) n7)), (8, (.int .i64 x10)), (9, (.int .i64 x11)), (81, (.bool true))] ⟨rfl, rfl, rfl, rfl, rfl, trivial⟩ ?_
                      refine at_then ?_
                      obtain rfl := Option.some.inj Z18
                      exact at_mid true [0, 0, 0] rfl ⟨rfl, rfl, rfl, rfl, rfl, trivial⟩ rfl
                    · replace Z18 := if_f (of_decide_eq_false c19) Z18
                      iterate 2 refine atq_s T rfl ?_
                      obtain ⟨c20, Z18⟩ := chk_e Z18
                      obtain ⟨q9, o9, e9⟩ := s7.r.addr c20.1 c20.2
                      refine atq_v rfl rfl rfl (g_index T rfl rfl rfl rfl rfl e9 c20.1 c20.2) ?_
                      refine atq_v rfl rfl rfl (g_load T rfl rfl rfl rfl (in_elem1 (k := (Fl.int .i64)) (own_of s7 (j := 2) rfl) e9 c20 0 rfl)) ?_
                      iterate 2 refine atq_s T rfl ?_
                      obtain ⟨c21, Z18⟩ := chk_e Z18
                      obtain ⟨q10, o10, e10⟩ := s4.r.addr c21.1 c21.2
                      refine atq_v rfl rfl rfl (g_index T rfl rfl rfl rfl rfl e10 c21.1 c21.2) ?_
                      refine atq_s T rfl ?_
                      refine atq_v rfl rfl rfl (g_load T rfl rfl rfl rfl (in_elem1 (k := k_api_Unit) (own_of s4 (j := 1) rfl) e10 c21 2 rfl)) ?_
                      iterate 2 refine atq_s T rfl ?_
                      refine atq_end ?_
                      refine at_sub [(5, (.slice a4 (List.length x3) n4)), (7, (.slice a7 (List.length v7) n7)), (8, (.int .i64 x10)), (9, (.int .i64 x11)), (81, (.bool ((rd v7 x10) != (rd x3 x11).Goal)))] ⟨rfl, rfl, rfl, rfl, rfl, trivial⟩ ?_
                      refine at_then ?_
                      obtain rfl := Option.some.inj Z18
                      exact at_mid ((rd v7 x10) != (rd x3 x11).Goal) [0, 0, 0] rfl ⟨rfl, rfl, rfl, rfl, rfl, trivial⟩ rfl
                  · rintro x20 rfl
                    refine at_cond rfl (fun c22 => ?_) (fun c22 => ?_)
                    · replace Z12 := if_t c22 Z12
                      refine at_seq ?_
                      refine at_region [0] rfl ?_
                      refine at_s T rfl ?_
                      refine at_end ?_
                      refine at_to [(4, (.bool false))] [0] [F] ⟨rfl, trivial⟩ rfl ?_
                      refine at_then ?_
                      refine at_ret ?_
                      refine at_rt ?_
                      refine at_rb ?_
                      refine at_rt ?_
                      refine at_rt ?_
                      refine at_rb ?_
                      refine at_rt ?_
                      obtain rfl := Option.some.inj Z12
                      obtain rfl := Option.some.inj (show some false = some r from Z9)
                      exact at_post (T := T) rfl (.tmp rfl .nil) (fun w o => ⟨(), rfl, own_to [0] rfl o⟩)
                    · replace Z12 := if_f (bf c22) Z12
                      refine at_skip ?_
                      refine at_then ?_
                      refine at_region [0, 1, 2] rfl ?_
                      iterate 3 refine at_s T rfl ?_
                      refine at_end ?_
                      refine at_sub [(5, (.slice a4 (List.length x3) n4)), (7, (.slice a7 (List.length v7) n7)), (8, (.int .i64 (w64 (x10 + 1)))), (9, (.int .i64 x11))] ⟨rfl, rfl, rfl, rfl, trivial⟩ ?_
                      refine at_nb ?_
                      refine at_then ?_
                      obtain rfl := Option.some.inj Z12
                      exact at_mid (w64 (x10 + 1)) [0, 0, 0] rfl ⟨rfl, rfl, rfl, rfl, trivial⟩ rfl
                · replace Z12 := if_f (bf c17) Z12
                  refine at_skip ?_
                  refine at_nb ?_
                  refine at_then ?_
                  obtain rfl := Option.some.inj Z12
                  exact at_mid x10 [0, 0, 0] rfl ⟨rfl, rfl, rfl, rfl, trivial⟩ rfl
          · rintro x13 rfl
            refine at_region [0, 1, 2] rfl ?_
            iterate 3 refine at_s T rfl ?_
            refine at_end ?_
            refine at_sub [(5, (.slice a4 (List.length x3) n4)), (7, (.slice a7 (List.length v7) n7)), (8, (.int .i64 x13)), (9, (.int .i64 (w64 (x11 + 1))))] ⟨rfl, rfl, rfl, rfl, trivial⟩ ?_
            refine at_then ?_
            exact at_roundL (k12, x13, (w64 (x11 + 1))) [0, 0, 0] Z9 (Nat.lt_succ_self _) ⟨rfl, rfl, rfl, rfl, trivial⟩ rfl
        · replace Z9 := if_f (of_decide_eq_false c10) Z9
          refine at_exit ?_
          refine at_xt ?_
          refine at_xt ?_
          refine at_xb ?_
          refine at_then ?_
          refine at_seq ?_
          refine at_region [0, 1, 2, 3, 4, 5, 6, 7] rfl ?_
          obtain ⟨v22, V23, Z9⟩ := bind_e Z9
          refine at_cons (at_c (B := fun _ => []) [] rfl rfl rfl rfl has43 rfl rfl (law23_told.c  v22 _ V23) (fun _ => ?_))
          refine at_s T rfl ?_
          refine at_grp T [2, 3, 4, 5, 6] (s := 85) (c := v22) [(90, (.bool (v22 && (x10 == (List.length v7 : Int)))))] rfl rfl rfl (fun c24 => ⟨(by rw [c24]; rfl), trivial⟩) (fun c24 => ⟨(by rw [c24]; rfl), trivial⟩) ?_
          refine at_s T rfl ?_
          refine at_end ?_
          refine at_to [(4, (.bool (v22 && (x10 == (List.length v7 : Int)))))] [0] [F] ⟨rfl, trivial⟩ rfl ?_
          refine at_then ?_
          refine at_ret ?_
          obtain rfl := Option.some.inj Z9
          exact at_post (T := T) rfl (.tmp rfl .nil) (fun w o => ⟨(), rfl, own_to [0] rfl o⟩)
def law23_PlanGoals.Pure : Prop := ∀ (l : (List api_Unit)) (few : Bool), (∀ y ∈ l, (inI64 y.Id ∧ inI64 y.Cell ∧ inI64 y.Goal)) → List.length l ≤ 9223372036854775807 → law23_PlanGoals.f l few = some true
end Go.Proofs.Ytmddmofncblfpaa
