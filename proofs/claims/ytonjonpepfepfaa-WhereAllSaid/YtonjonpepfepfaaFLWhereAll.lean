import Derived.Test.YtonjonpepfepfaaT
import Derived.Test.YtonjonpepfepfaaFlaw1
import Derived.Test.YtonjonpepfepfaaFref1
import Derived.Test.YtonjonpepfepfaaFwhere
namespace Go.Proofs.Ytonjonpepfepfaa
open Go.Hx
set_option maxRecDepth 100000
set_option linter.unusedVariables false
/-! ### herdsman/herdsmanlaw1.WhereAll: function 5 -/
def law1_WhereAll.l1 : Nat → Int → Int → Int → (Int × Int) → List Bool → Int → Int → Option (Sum Bool ((List Bool) × Int))
  | 0, _, _, _, _, _, _, _ => none
  | k21 + 1, v1, v2, x9, v14, x18, x19, x20 => if x20 < (w64 (v14.1 * v14.2)) then ((where_Global.f v1 v2 x9 x20).bind fun v22 => (if ((decide (v22 < 0)) || (decide (v22 ≥ (w64 (v1 * v2))))) = true then (some true) else (if (0 ≤ v22 ∧ v22 < (List.length x18 : Int)) then (if (rd x18 v22) = true then (some true) else ((where_Sector.f v1 v2 v22).bind fun v25 => some (v25 != x9))) else none)).bind fun x23 => if x23 = true then (some (Sum.inl false)) else (if (0 ≤ v22 ∧ v22 < (List.length x18 : Int)) then (law1_WhereAll.l1 k21 v1 v2 x9 v14 (List.set x18 (Int.toNat v22) true) (w64 (x19 + 1)) (w64 (x20 + 1))) else none)) else (some (Sum.inr (x18, x19)))
def law1_WhereAll.l0 : Nat → Int → Int → (Int × Int) → List Bool → Int → Int → Option Bool
  | 0, _, _, _, _, _, _ => none
  | k10 + 1, v1, v2, v3, x7, x8, x9 => if x9 < (w64 (v3.1 * v3.2)) then (((where_Size.f v1 v2 x9).bind fun v14 => law1_WhereAll.l1 fuel v1 v2 x9 v14 x7 x8 0).bind fun zz => match zz with | Sum.inl q => some q | Sum.inr (x11, x12) => law1_WhereAll.l0 k10 v1 v2 v3 x11 x12 (w64 (x9 + 1))) else ((where_Size.f v1 v2 (w64 (v3.1 * v3.2))).bind fun v26 => (law1_told.f).bind fun v27 => some (((v27 && (x8 == (w64 (v1 * v2)))) && (v26.1 == 0)) && (v26.2 == 0)))
def law1_WhereAll.f (w : Int) (h : Int) : Option Bool := (ref1_Within.f w 1 70).bind fun v1 => (ref1_Within.f h 1 70).bind fun v2 => if (0 ≤ (w64 (v1 * v2)) ∧ (w64 (v1 * v2)) ≤ 1099511627776) then ((where_Sectors.f v1 v2).bind fun v3 => law1_WhereAll.l0 fuel v1 v2 v3 (List.replicate (Int.toNat (w64 (v1 * v2))) false) 0 0) else none
set_option maxHeartbeats 4000000 in
theorem law1_WhereAll.c (w : Int) (h : Int) (r : Bool) (F : Hp) (H : law1_WhereAll.f w h = some r) :
    CallsL Try.prog 5 [(.int .i64 w), (.int .i64 h)] [F] (fun _ : Unit => (.bool r)) (fun _ => [F]) := by
  unfold law1_WhereAll.f at H
  refine calls_atL [(0, (.int .i64 w)), (1, (.int .i64 h))] Try.func5 rfl rfl ⟨rfl, rfl, trivial⟩ (fun W => ?_)
  refine at_seq ?_
  refine at_region [0] rfl ?_
  refine at_s T rfl ?_
  refine at_end ?_
  refine at_sub [(0, (.int .i64 w)), (1, (.int .i64 h))] ⟨rfl, rfl, trivial⟩ ?_
  refine at_then ?_
  refine at_seq ?_
  refine at_region [0, 1, 2, 3, 4, 5] rfl ?_
  refine at_s T rfl ?_
  obtain ⟨v1, V1, H⟩ := bind_e H
  refine at_cons (at_c (B := fun _ => []) [] rfl rfl rfl rfl has11 rfl rfl (ref1_Within.c w 1 70 v1 _ V1) (fun _ => ?_))
  refine at_s T rfl ?_
  obtain ⟨v2, V2, H⟩ := bind_e H
  refine at_cons (at_c (B := fun _ => []) [] rfl rfl rfl rfl has11 rfl rfl (ref1_Within.c h 1 70 v2 _ V2) (fun _ => ?_))
  iterate 2 refine at_s T rfl ?_
  refine at_end ?_
  refine at_sub [(0, (.int .i64 v1)), (1, (.int .i64 v2))] ⟨rfl, rfl, trivial⟩ ?_
  refine at_then ?_
  refine at_seq ?_
  refine at_region [0, 1, 2, 3, 4] rfl ?_
  iterate 3 refine at_s T rfl ?_
  obtain ⟨c3, H⟩ := chk_e H
  refine at_cons (at_mk (k := Fl.bool) T false rfl rfl rfl rfl rfl rfl rfl rfl c3 rfl (fun a1 n1 H1 s1 => ?_))
  refine at_s T rfl ?_
  refine at_end ?_
  refine at_sub [(0, (.int .i64 v1)), (1, (.int .i64 v2)), (5, (.slice a1 (List.length (List.replicate (Int.toNat (w64 (v1 * v2))) false)) n1))] ⟨rfl, rfl, rfl, trivial⟩ ?_
  refine at_then ?_
  refine at_seq ?_
  refine at_region [0, 1, 2, 3, 4, 5, 6, 7] rfl ?_
  iterate 2 refine at_s T rfl ?_
  obtain ⟨v3, V4, H⟩ := bind_e H
  refine at_cons (at_c (B := fun _ => []) [] rfl rfl rfl rfl has22 rfl rfl (where_Sectors.c v1 v2 v3 _ V4) (fun _ => ?_))
  iterate 5 refine at_s T rfl ?_
  refine at_end ?_
  refine at_sub [(0, (.int .i64 v1)), (1, (.int .i64 v2)), (5, (.slice a1 (List.length (List.replicate (Int.toNat (w64 (v1 * v2))) false)) n1)), (6, (.int .i64 v3.1)), (7, (.int .i64 v3.2))] ⟨rfl, rfl, rfl, rfl, rfl, trivial⟩ ?_
  refine at_then ?_
  refine at_seq ?_
  refine at_region [0] rfl ?_
  refine at_s T rfl ?_
  refine at_end ?_
  refine at_sub [(0, (.int .i64 v1)), (1, (.int .i64 v2)), (5, (.slice a1 (List.length (List.replicate (Int.toNat (w64 (v1 * v2))) false)) n1)), (6, (.int .i64 v3.1)), (7, (.int .i64 v3.2)), (8, (.int .i64 0))] ⟨rfl, rfl, rfl, rfl, rfl, rfl, trivial⟩ ?_
  refine at_then ?_
  refine at_seq ?_
  refine at_seq ?_
  refine at_region [0] rfl ?_
  refine at_s T rfl ?_
  refine at_end ?_
  refine at_sub [(0, (.int .i64 v1)), (1, (.int .i64 v2)), (5, (.slice a1 (List.length (List.replicate (Int.toNat (w64 (v1 * v2))) false)) n1)), (6, (.int .i64 v3.1)), (7, (.int .i64 v3.2)), (8, (.int .i64 0)), (9, (.int .i64 0))] ⟨rfl, rfl, rfl, rfl, rfl, rfl, rfl, trivial⟩ ?_
  refine at_then ?_
  refine at_block ?_
  refine at_loopL (σ := Nat × List Bool × Int × Int × Option Addr × Nat × Hp) (fun ⟨k10, x7, x8, x9, a3, n3, H3⟩ => law1_WhereAll.l0 k10 v1 v2 v3 x7 x8 x9 = some r ∧ SliceO Fl.bool 4 x7 a3 n3 H3) (fun ⟨k10, x7, x8, x9, a3, n3, H3⟩ => [(0, (.int .i64 v1)), (1, (.int .i64 v2)), (5, (.slice a3 (List.length x7) n3)), (6, (.int .i64 v3.1)), (7, (.int .i64 v3.2)), (8, (.int .i64 x8)), (9, (.int .i64 x9))]) (fun ⟨k10, x7, x8, x9, a3, n3, H3⟩ => [F, H3]) (fun s => s.1) (fuel, (List.replicate (Int.toNat (w64 (v1 * v2))) false), 0, 0, a1, n1, H1) [0, 0] ⟨H, s1⟩ ⟨rfl, rfl, rfl, rfl, rfl, rfl, rfl, trivial⟩ rfl ?_
  rintro ⟨k10, x7, x8, x9, a3, n3, H3⟩ ⟨Z5, s3⟩
  replace Z5 : law1_WhereAll.l0 k10 v1 v2 v3 x7 x8 x9 = some r := Z5
  rcases k10 with _ | k10
  · rw [law1_WhereAll.l0] at Z5; cases Z5
  · rw [law1_WhereAll.l0] at Z5
    refine at_seq ?_
    refine at_seq ?_
    refine at_region [0, 1, 2, 3, 4] rfl ?_
    iterate 5 refine at_s T rfl ?_
    refine at_end ?_
    refine at_sub [(0, (.int .i64 v1)), (1, (.int .i64 v2)), (5, (.slice a3 (List.length x7) n3)), (6, (.int .i64 v3.1)), (7, (.int .i64 v3.2)), (8, (.int .i64 x8)), (9, (.int .i64 x9)), (34, (.bool (decide (x9 < (w64 (v3.1 * v3.2))))))] ⟨rfl, rfl, rfl, rfl, rfl, rfl, rfl, rfl, trivial⟩ ?_
    refine at_then ?_
    refine at_cond rfl (fun c6 => ?_) (fun c6 => ?_)
    · replace Z5 := if_t (of_decide_eq_true c6) Z5
      refine at_skip ?_
      refine at_then ?_
      obtain ⟨z13, Z7, Z5⟩ := bind_e Z5
      refine at_seq_mid (σ := List Bool × Int × Option Addr × Nat × Hp) (fun ⟨x11, x12, a4, n4, H4⟩ => (Sum.inr (x11, x12)) = z13 ∧ SliceO Fl.bool 4 x11 a4 n4 H4) (fun ⟨x11, x12, a4, n4, H4⟩ => [(0, (.int .i64 v1)), (1, (.int .i64 v2)), (5, (.slice a4 (List.length x11) n4)), (6, (.int .i64 v3.1)), (7, (.int .i64 v3.2)), (8, (.int .i64 x12)), (9, (.int .i64 x9))]) (fun ⟨x11, x12, a4, n4, H4⟩ => [F, H4]) ?_ ?_
      · refine at_block ?_
        refine at_seq ?_
        refine at_region [0, 1, 2, 3, 4, 5, 6, 7, 8] rfl ?_
        iterate 3 refine at_s T rfl ?_
        obtain ⟨v14, V8, Z7⟩ := bind_e Z7
        refine at_cons (at_c (B := fun _ => []) [] rfl rfl rfl rfl has13 rfl rfl (where_Size.c v1 v2 x9 v14 _ V8) (fun _ => ?_))
        iterate 5 refine at_s T rfl ?_
        refine at_end ?_
        refine at_sub [(0, (.int .i64 v1)), (1, (.int .i64 v2)), (5, (.slice a3 (List.length x7) n3)), (6, (.int .i64 v3.1)), (7, (.int .i64 v3.2)), (8, (.int .i64 x8)), (9, (.int .i64 x9)), (10, (.int .i64 v14.1)), (11, (.int .i64 v14.2))] ⟨rfl, rfl, rfl, rfl, rfl, rfl, rfl, rfl, rfl, trivial⟩ ?_
        refine at_then ?_
        refine at_seq ?_
        refine at_region [0] rfl ?_
        refine at_s T rfl ?_
        refine at_end ?_
        refine at_sub [(0, (.int .i64 v1)), (1, (.int .i64 v2)), (5, (.slice a3 (List.length x7) n3)), (6, (.int .i64 v3.1)), (7, (.int .i64 v3.2)), (8, (.int .i64 x8)), (9, (.int .i64 x9)), (10, (.int .i64 v14.1)), (11, (.int .i64 v14.2)), (12, (.int .i64 0))] ⟨rfl, rfl, rfl, rfl, rfl, rfl, rfl, rfl, rfl, rfl, trivial⟩ ?_
        refine at_then ?_
        refine at_block ?_
        refine at_loopL (σ := Nat × List Bool × Int × Int × Option Addr × Nat × Hp) (fun ⟨k21, x18, x19, x20, a6, n6, H6⟩ => law1_WhereAll.l1 k21 v1 v2 x9 v14 x18 x19 x20 = some z13 ∧ SliceO Fl.bool 4 x18 a6 n6 H6) (fun ⟨k21, x18, x19, x20, a6, n6, H6⟩ => [(0, (.int .i64 v1)), (1, (.int .i64 v2)), (5, (.slice a6 (List.length x18) n6)), (6, (.int .i64 v3.1)), (7, (.int .i64 v3.2)), (8, (.int .i64 x19)), (9, (.int .i64 x9)), (10, (.int .i64 v14.1)), (11, (.int .i64 v14.2)), (12, (.int .i64 x20))]) (fun ⟨k21, x18, x19, x20, a6, n6, H6⟩ => [F, H6]) (fun s => s.1) (fuel, x7, x8, 0, a3, n3, H3) [0, 0] ⟨Z7, s3⟩ ⟨rfl, rfl, rfl, rfl, rfl, rfl, rfl, rfl, rfl, rfl, trivial⟩ rfl ?_
        rintro ⟨k21, x18, x19, x20, a6, n6, H6⟩ ⟨Z9, s6⟩
        replace Z9 : law1_WhereAll.l1 k21 v1 v2 x9 v14 x18 x19 x20 = some z13 := Z9
        rcases k21 with _ | k21
        · rw [law1_WhereAll.l1] at Z9; cases Z9
        · rw [law1_WhereAll.l1] at Z9
          refine at_seq ?_
          refine at_seq ?_
          refine at_region [0, 1, 2, 3, 4] rfl ?_
          iterate 5 refine at_s T rfl ?_
          refine at_end ?_
          refine at_sub [(0, (.int .i64 v1)), (1, (.int .i64 v2)), (5, (.slice a6 (List.length x18) n6)), (6, (.int .i64 v3.1)), (7, (.int .i64 v3.2)), (8, (.int .i64 x19)), (9, (.int .i64 x9)), (10, (.int .i64 v14.1)), (11, (.int .i64 v14.2)), (12, (.int .i64 x20)), (48, (.bool (decide (x20 < (w64 (v14.1 * v14.2))))))] ⟨rfl, rfl, rfl, rfl, rfl, rfl, rfl, rfl, rfl, rfl, rfl, trivial⟩ ?_
          refine at_then ?_
          refine at_cond rfl (fun c10 => ?_) (fun c10 => ?_)
          · replace Z9 := if_t (of_decide_eq_true c10) Z9
            refine at_skip ?_
            refine at_then ?_
            refine at_seq ?_
            refine at_block ?_
            refine at_seq ?_
            refine at_region [0, 1, 2, 3, 4, 5] rfl ?_
            iterate 4 refine at_s T rfl ?_
            obtain ⟨v22, V11, Z9⟩ := bind_e Z9
            refine at_cons (at_c (B := fun _ => []) [] rfl rfl rfl rfl has16 rfl rfl (where_Global.c v1 v2 x9 x20 v22 _ V11) (fun _ => ?_))
            refine at_s T rfl ?_
            refine at_end ?_
            refine at_sub [(0, (.int .i64 v1)), (1, (.int .i64 v2)), (5, (.slice a6 (List.length x18) n6)), (6, (.int .i64 v3.1)), (7, (.int .i64 v3.2)), (8, (.int .i64 x19)), (9, (.int .i64 x9)), (10, (.int .i64 v14.1)), (11, (.int .i64 v14.2)), (12, (.int .i64 x20)), (13, (.int .i64 v22))] ⟨rfl, rfl, rfl, rfl, rfl, rfl, rfl, rfl, rfl, rfl, rfl, trivial⟩ ?_
            refine at_then ?_
            refine at_seq ?_
            obtain ⟨z24, Z12, Z9⟩ := bind_e Z9
            refine at_seq_mid (σ := Bool) (fun x23 => x23 = z24) (fun x23 => [(0, (.int .i64 v1)), (1, (.int .i64 v2)), (5, (.slice a6 (List.length x18) n6)), (6, (.int .i64 v3.1)), (7, (.int .i64 v3.2)), (8, (.int .i64 x19)), (9, (.int .i64 x9)), (10, (.int .i64 v14.1)), (11, (.int .i64 v14.2)), (12, (.int .i64 x20)), (13, (.int .i64 v22)), (78, (.bool x23))]) (fun x23 => [F, H6]) ?_ ?_
            · refine at_region [0, 1, 2, 3, 4, 5, 6, 7, 8, 9, 10, 11, 12, 13, 14, 15, 16, 17, 18, 19, 20, 21, 22] rfl ?_
              iterate 3 refine at_s T rfl ?_
              refine at_grp T [3, 4, 5, 6, 7, 8] (s := 58) (c := (decide (v22 < 0))) [(0, (.int .i64 v1)), (1, (.int .i64 v2)), (5, (.slice a6 (List.length x18) n6)), (6, (.int .i64 v3.1)), (7, (.int .i64 v3.2)), (8, (.int .i64 x19)), (9, (.int .i64 x9)), (10, (.int .i64 v14.1)), (11, (.int .i64 v14.2)), (12, (.int .i64 x20)), (13, (.int .i64 v22)), (64, (.bool ((decide (v22 < 0)) || (decide (v22 ≥ (w64 (v1 * v2)))))))] rfl rfl rfl (fun c13 => ⟨rfl, rfl, rfl, rfl, rfl, rfl, rfl, rfl, rfl, rfl, rfl, (by rw [c13]; rfl), trivial⟩) (fun c13 => ⟨rfl, rfl, rfl, rfl, rfl, rfl, rfl, rfl, rfl, rfl, rfl, (by rw [c13]; rfl), trivial⟩) ?_
              refine at_s T rfl ?_
              refine at_case (s := 65) rfl (fun c14 => ?_) (fun c14 => ?_)
              · replace Z12 := if_t c14 Z12
                iterate 13 refine at_s T rfl ?_
                refine at_end ?_
                refine at_sub [(0, (.int .i64 v1)), (1, (.int .i64 v2)), (5, (.slice a6 (List.length x18) n6)), (6, (.int .i64 v3.1)), (7, (.int .i64 v3.2)), (8, (.int .i64 x19)), (9, (.int .i64 x9)), (10, (.int .i64 v14.1)), (11, (.int .i64 v14.2)), (12, (.int .i64 x20)), (13, (.int .i64 v22)), (78, (.bool true))] ⟨rfl, rfl, rfl, rfl, rfl, rfl, rfl, rfl, rfl, rfl, rfl, rfl, trivial⟩ ?_
                refine at_then ?_
                obtain rfl := Option.some.inj Z12
                exact at_mid true [0, 0] rfl ⟨rfl, rfl, rfl, rfl, rfl, rfl, rfl, rfl, rfl, rfl, rfl, rfl, trivial⟩ rfl
              · replace Z12 := if_f (bf c14) Z12
                iterate 2 refine at_s T rfl ?_
                obtain ⟨c15, Z12⟩ := chk_e Z12
                obtain ⟨q7, o7, e7⟩ := s6.r.addr c15.1 c15.2
                refine at_v rfl (g_index T rfl rfl rfl rfl rfl e7 c15.1 c15.2) ?_
                refine at_v rfl (g_load T rfl rfl rfl rfl (in_elem1 (k := Fl.bool) (own_of s6 (j := 1) rfl) e7 c15 0 rfl)) ?_
                iterate 2 refine at_s T rfl ?_
                refine at_case (s := 71) rfl (fun c16 => ?_) (fun c16 => ?_)
                · replace Z12 := if_t c16 Z12
                  iterate 7 refine at_s T rfl ?_
                  refine at_end ?_
                  refine at_sub [(0, (.int .i64 v1)), (1, (.int .i64 v2)), (5, (.slice a6 (List.length x18) n6)), (6, (.int .i64 v3.1)), (7, (.int .i64 v3.2)), (8, (.int .i64 x19)), (9, (.int .i64 x9)), (10, (.int .i64 v14.1)), (11, (.int .i64 v14.2)), (12, (.int .i64 x20)), (13, (.int .i64 v22)), (78, (.bool true))] ⟨rfl, rfl, rfl, rfl, rfl, rfl, rfl, rfl, rfl, rfl, rfl, rfl, trivial⟩ ?_
                  refine at_then ?_
                  obtain rfl := Option.some.inj Z12
                  exact at_mid true [0, 0] rfl ⟨rfl, rfl, rfl, rfl, rfl, rfl, rfl, rfl, rfl, rfl, rfl, rfl, trivial⟩ rfl
                · replace Z12 := if_f (bf c16) Z12
                  iterate 3 refine at_s T rfl ?_
                  obtain ⟨v25, V17, Z12⟩ := bind_e Z12
                  refine at_cons (at_c (B := fun _ => []) [] rfl rfl rfl rfl has19 rfl rfl (where_Sector.c v1 v2 v22 v25 _ V17) (fun _ => ?_))
                  iterate 3 refine at_s T rfl ?_
                  refine at_end ?_
                  refine at_sub [(0, (.int .i64 v1)), (1, (.int .i64 v2)), (5, (.slice a6 (List.length x18) n6)), (6, (.int .i64 v3.1)), (7, (.int .i64 v3.2)), (8, (.int .i64 x19)), (9, (.int .i64 x9)), (10, (.int .i64 v14.1)), (11, (.int .i64 v14.2)), (12, (.int .i64 x20)), (13, (.int .i64 v22)), (78, (.bool (v25 != x9)))] ⟨rfl, rfl, rfl, rfl, rfl, rfl, rfl, rfl, rfl, rfl, rfl, rfl, trivial⟩ ?_
                  refine at_then ?_
                  obtain rfl := Option.some.inj Z12
                  exact at_mid (v25 != x9) [0, 0] rfl ⟨rfl, rfl, rfl, rfl, rfl, rfl, rfl, rfl, rfl, rfl, rfl, rfl, trivial⟩ rfl
            · rintro x23 rfl
              refine at_cond rfl (fun c18 => ?_) (fun c18 => ?_)
              · replace Z9 := if_t c18 Z9
                refine at_seq ?_
                refine at_region [0] rfl ?_
                refine at_s T rfl ?_
                refine at_end ?_
                refine at_to [(4, (.bool false))] [0] [F] ⟨rfl, trivial⟩ rfl ?_
                refine at_then ?_
                refine at_ret ?_
                refine at_rt ?_
                refine at_rb ?_
                refine at_rt ?_
                refine at_rt ?_
                refine at_rb ?_
                refine at_rb ?_
                refine at_rt ?_
                refine at_rt ?_
                refine at_rb ?_
                refine at_rt ?_
                obtain rfl := Option.some.inj Z9
                obtain rfl := Option.some.inj (show some false = some r from Z5)
                exact at_post (T := T) rfl (.tmp rfl .nil) (fun w o => ⟨(), rfl, own_to [0] rfl o⟩)
              · replace Z9 := if_f (bf c18) Z9
                refine at_skip ?_
                refine at_then ?_
                refine at_seq ?_
                refine at_region [0, 1, 2, 3] rfl ?_
                iterate 2 refine at_s T rfl ?_
                obtain ⟨c19, Z9⟩ := chk_e Z9
                obtain ⟨q8, o8, e8⟩ := s6.r.addr c19.1 c19.2
                refine at_v rfl (g_index T rfl rfl rfl rfl rfl e8 c19.1 c19.2) ?_
                refine at_cons (at_se (k := Fl.bool) T 1 0 true rfl rfl rfl rfl rfl rfl s6 e8 c19 rfl rfl rfl (fun H9 s9 => ?_))
                refine at_to [(0, (.int .i64 v1)), (1, (.int .i64 v2)), (5, (.slice a6 (List.length (List.set x18 (Int.toNat v22) true)) n6)), (6, (.int .i64 v3.1)), (7, (.int .i64 v3.2)), (8, (.int .i64 x19)), (9, (.int .i64 x9)), (10, (.int .i64 v14.1)), (11, (.int .i64 v14.2)), (12, (.int .i64 x20))] [0, 0] [F, H9] ⟨rfl, rfl, (by simp only [List.length_set]; rfl), rfl, rfl, rfl, rfl, rfl, rfl, rfl, trivial⟩ rfl ?_
                refine at_end ?_
                refine at_sub [(0, (.int .i64 v1)), (1, (.int .i64 v2)), (5, (.slice a6 (List.length (List.set x18 (Int.toNat v22) true)) n6)), (6, (.int .i64 v3.1)), (7, (.int .i64 v3.2)), (8, (.int .i64 x19)), (9, (.int .i64 x9)), (10, (.int .i64 v14.1)), (11, (.int .i64 v14.2)), (12, (.int .i64 x20))] ⟨rfl, rfl, rfl, rfl, rfl, rfl, rfl, rfl, rfl, rfl, trivial⟩ ?_
                refine at_then ?_
                refine at_region [0, 1, 2] rfl ?_
                iterate 3 refine at_s T rfl ?_
                refine at_end ?_
                refine at_sub [(0, (.int .i64 v1)), (1, (.int .i64 v2)), (5, (.slice a6 (List.length (List.set x18 (Int.toNat v22) true)) n6)), (6, (.int .i64 v3.1)), (7, (.int .i64 v3.2)), (8, (.int .i64 (w64 (x19 + 1)))), (9, (.int .i64 x9)), (10, (.int .i64 v14.1)), (11, (.int .i64 v14.2)), (12, (.int .i64 x20))] ⟨rfl, rfl, rfl, rfl, rfl, rfl, rfl, rfl, rfl, rfl, trivial⟩ ?_
                refine at_nb ?_
                refine at_then ?_
                refine at_region [0, 1, 2] rfl ?_
                iterate 3 refine at_s T rfl ?_
                refine at_end ?_
                refine at_sub [(0, (.int .i64 v1)), (1, (.int .i64 v2)), (5, (.slice a6 (List.length (List.set x18 (Int.toNat v22) true)) n6)), (6, (.int .i64 v3.1)), (7, (.int .i64 v3.2)), (8, (.int .i64 (w64 (x19 + 1)))), (9, (.int .i64 x9)), (10, (.int .i64 v14.1)), (11, (.int .i64 v14.2)), (12, (.int .i64 (w64 (x20 + 1))))] ⟨rfl, rfl, rfl, rfl, rfl, rfl, rfl, rfl, rfl, rfl, trivial⟩ ?_
                refine at_then ?_
                exact at_roundL (k21, (List.set x18 (Int.toNat v22) true), (w64 (x19 + 1)), (w64 (x20 + 1)), a6, n6, H9) [0, 0] ⟨Z9, s9⟩ (Nat.lt_succ_self _) ⟨rfl, rfl, rfl, rfl, rfl, rfl, rfl, rfl, rfl, rfl, trivial⟩ rfl
          · replace Z9 := if_f (of_decide_eq_false c10) Z9
            refine at_exit ?_
            refine at_xt ?_
            refine at_xt ?_
            refine at_xb ?_
            refine at_nb ?_
            refine at_then ?_
            obtain rfl := Option.some.inj Z9
            exact at_mid (x18, x19, a6, n6, H6) [0, 0] ⟨rfl, s6⟩ ⟨rfl, rfl, rfl, rfl, rfl, rfl, rfl, trivial⟩ rfl
      · rintro ⟨x11, x12, a4, n4, H4⟩ ⟨rfl, s4⟩
        refine at_region [0, 1, 2] rfl ?_
        iterate 3 refine at_s T rfl ?_
        refine at_end ?_
        refine at_sub [(0, (.int .i64 v1)), (1, (.int .i64 v2)), (5, (.slice a4 (List.length x11) n4)), (6, (.int .i64 v3.1)), (7, (.int .i64 v3.2)), (8, (.int .i64 x12)), (9, (.int .i64 (w64 (x9 + 1))))] ⟨rfl, rfl, rfl, rfl, rfl, rfl, rfl, trivial⟩ ?_
        refine at_then ?_
        exact at_roundL (k10, x11, x12, (w64 (x9 + 1)), a4, n4, H4) [0, 0] ⟨Z5, s4⟩ (Nat.lt_succ_self _) ⟨rfl, rfl, rfl, rfl, rfl, rfl, rfl, trivial⟩ rfl
    · replace Z5 := if_f (of_decide_eq_false c6) Z5
      refine at_exit ?_
      refine at_xt ?_
      refine at_xt ?_
      refine at_xb ?_
      refine at_then ?_
      refine at_seq ?_
      refine at_region [0, 1, 2, 3, 4, 5, 6, 7, 8, 9, 10] rfl ?_
      iterate 5 refine at_s T rfl ?_
      obtain ⟨v26, V20, Z5⟩ := bind_e Z5
      refine at_cons (at_c (B := fun _ => []) [] rfl rfl rfl rfl has13 rfl rfl (where_Size.c v1 v2 (w64 (v3.1 * v3.2)) v26 _ V20) (fun _ => ?_))
      iterate 5 refine at_s T rfl ?_
      refine at_end ?_
      refine at_to [(0, (.int .i64 v1)), (1, (.int .i64 v2)), (8, (.int .i64 x8)), (14, (.int .i64 v26.1)), (15, (.int .i64 v26.2))] [0] [F] ⟨rfl, rfl, rfl, rfl, rfl, trivial⟩ rfl ?_
      refine at_then ?_
      refine at_seq ?_
      refine at_region [0, 1, 2, 3, 4, 5, 6, 7, 8, 9, 10, 11, 12, 13, 14, 15, 16] rfl ?_
      obtain ⟨v27, V21, Z5⟩ := bind_e Z5
      refine at_cons (at_c (B := fun _ => []) [] rfl rfl rfl rfl has15 rfl rfl (law1_told.c  v27 _ V21) (fun _ => ?_))
      refine at_s T rfl ?_
      refine at_grp T [2, 3, 4, 5, 6, 7] (s := 94) (c := v27) [(14, (.int .i64 v26.1)), (15, (.int .i64 v26.2)), (100, (.bool (v27 && (x8 == (w64 (v1 * v2))))))] rfl rfl rfl (fun c22 => ⟨rfl, rfl, (by rw [c22]; rfl), trivial⟩) (fun c22 => ⟨rfl, rfl, (by rw [c22]; rfl), trivial⟩) ?_
      refine at_s T rfl ?_
      refine at_grp T [9, 10, 11] (s := 101) (c := (v27 && (x8 == (w64 (v1 * v2))))) [(15, (.int .i64 v26.2)), (104, (.bool ((v27 && (x8 == (w64 (v1 * v2)))) && (v26.1 == 0))))] rfl rfl rfl (fun c23 => ⟨rfl, (by rw [c23]; rfl), trivial⟩) (fun c23 => ⟨rfl, (by rw [c23]; rfl), trivial⟩) ?_
      refine at_s T rfl ?_
      refine at_grp T [13, 14, 15] (s := 105) (c := ((v27 && (x8 == (w64 (v1 * v2)))) && (v26.1 == 0))) [(108, (.bool (((v27 && (x8 == (w64 (v1 * v2)))) && (v26.1 == 0)) && (v26.2 == 0))))] rfl rfl rfl (fun c24 => ⟨(by rw [c24]; rfl), trivial⟩) (fun c24 => ⟨(by rw [c24]; rfl), trivial⟩) ?_
      refine at_s T rfl ?_
      refine at_end ?_
      refine at_sub [(4, (.bool (((v27 && (x8 == (w64 (v1 * v2)))) && (v26.1 == 0)) && (v26.2 == 0))))] ⟨rfl, trivial⟩ ?_
      refine at_then ?_
      refine at_ret ?_
      obtain rfl := Option.some.inj Z5
      exact at_post (T := T) rfl (.tmp rfl .nil) (fun w o => ⟨(), rfl, own_to [0] rfl o⟩)
def law1_WhereAll.Pure : Prop := ∀ (w : Int) (h : Int), inI64 w → inI64 h → law1_WhereAll.f w h = some true
end Go.Proofs.Ytonjonpepfepfaa
