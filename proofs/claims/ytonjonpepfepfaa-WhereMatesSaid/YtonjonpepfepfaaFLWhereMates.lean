import Derived.Test.YtonjonpepfepfaaT
import Derived.Test.YtonjonpepfepfaaFlaw1
import Derived.Test.YtonjonpepfepfaaFref1
import Derived.Test.YtonjonpepfepfaaFwhere
namespace Go.Proofs.Ytonjonpepfepfaa
open Go.Hx
set_option maxRecDepth 100000
set_option linter.unusedVariables false
/-! ### herdsman/herdsmanlaw1.WhereMates: function 7 -/
def law1_WhereMates.f (w : Int) (h : Int) (c : Int) (side : Int) (other : Int) : Option Bool := (law1_near.f w h).bind fun v1 => (ref1_Within.f c 0 (w64 ((w64 (v1.1 * v1.2)) - 1))).bind fun v2 => (ref1_Within.f side 0 3).bind fun v3 => (ref1_Within.f other 0 3).bind fun v4 => (where_Step.f v1.1 v1.2 v2 v3).bind fun v5 => ((where_Back.f v3).bind fun v8 => (where_Back.f v8).bind fun v9 => if (v9 != v3) = true then (some true) else ((where_Back.f v3).bind fun v10 => if (v10 == v3) = true then (some true) else ((where_Step.f v1.1 v1.2 v2 4).bind fun v11 => if (v11 != v2) = true then (some true) else ((where_Side.f v1.1 v1.2 v2 v2).bind fun v12 => if (v12 != 4) = true then (some true) else ((where_Back.f 4).bind fun v13 => if (v13 != 4) = true then (some true) else ((where_Back.f 5).bind fun v14 => some (v14 != 5))))))).bind fun x6 => if x6 = true then (some false) else ((where_Place.f v1.1 v1.2 v2).bind fun v15 => if v5 < 0 then (((law1_told.f).bind fun v18 => if (v18 && (v5 == (-1))) = true then (if (v3 == 0) = true then (if (v15.2 == 0) = true then (some true) else (if (v3 == 2) = true then (if (v15.2 == (w64 (v1.2 - 1))) = true then (some true) else (if (v3 == 3) = true then (if (v15.1 == 0) = true then (some true) else (if (v3 == 1) = true then (some (v15.1 == (w64 (v1.1 - 1)))) else (some false))) else (if (v3 == 1) = true then (some (v15.1 == (w64 (v1.1 - 1)))) else (some false)))) else (if (v3 == 3) = true then (if (v15.1 == 0) = true then (some true) else (if (v3 == 1) = true then (some (v15.1 == (w64 (v1.1 - 1)))) else (some false))) else (if (v3 == 1) = true then (some (v15.1 == (w64 (v1.1 - 1)))) else (some false))))) else (if (v3 == 2) = true then (if (v15.2 == (w64 (v1.2 - 1))) = true then (some true) else (if (v3 == 3) = true then (if (v15.1 == 0) = true then (some true) else (if (v3 == 1) = true then (some (v15.1 == (w64 (v1.1 - 1)))) else (some false))) else (if (v3 == 1) = true then (some (v15.1 == (w64 (v1.1 - 1)))) else (some false)))) else (if (v3 == 3) = true then (if (v15.1 == 0) = true then (some true) else (if (v3 == 1) = true then (some (v15.1 == (w64 (v1.1 - 1)))) else (some false))) else (if (v3 == 1) = true then (some (v15.1 == (w64 (v1.1 - 1)))) else (some false))))) else (some false)).bind fun x16 => some x16) else (((law1_told.f).bind fun v21 => if (v21 && (v5 != v2)) = true then ((where_Back.f v3).bind fun v22 => (where_Step.f v1.1 v1.2 v5 v22).bind fun v23 => if (v23 == v2) = true then ((where_Side.f v1.1 v1.2 v2 v5).bind fun v24 => if (v24 == v3) = true then (if (v3 == v4) = true then (some true) else ((where_Step.f v1.1 v1.2 v2 v4).bind fun v25 => some (v25 != v5))) else (some false)) else (some false)) else (some false)).bind fun x19 => some x19))
set_option maxHeartbeats 4000000 in
theorem law1_WhereMates.c (w : Int) (h : Int) (c : Int) (side : Int) (other : Int) (r : Bool) (F : Hp) (H : law1_WhereMates.f w h c side other = some r) :
    CallsL Try.prog 7 [(.int .i64 w), (.int .i64 h), (.int .i64 c), (.int .i64 side), (.int .i64 other)] [F] (fun _ : Unit => (.bool r)) (fun _ => [F]) := by
  unfold law1_WhereMates.f at H
  refine calls_atL [(0, (.int .i64 w)), (1, (.int .i64 h)), (2, (.int .i64 c)), (3, (.int .i64 side)), (4, (.int .i64 other))] Try.func7 rfl rfl ⟨rfl, rfl, rfl, rfl, rfl, trivial⟩ (fun W => ?_)
  refine at_seq ?_
  refine at_region [0] rfl ?_
  refine at_s T rfl ?_
  refine at_end ?_
  refine at_sub [(0, (.int .i64 w)), (1, (.int .i64 h)), (2, (.int .i64 c)), (3, (.int .i64 side)), (4, (.int .i64 other))] ⟨rfl, rfl, rfl, rfl, rfl, trivial⟩ ?_
  refine at_then ?_
  refine at_seq ?_
  refine at_region [0, 1, 2, 3, 4, 5, 6, 7] rfl ?_
  iterate 2 refine at_s T rfl ?_
  obtain ⟨v1, V1, H⟩ := bind_e H
  refine at_cons (at_c (B := fun _ => []) [] rfl rfl rfl rfl has10 rfl rfl (law1_near.c w h v1 _ V1) (fun _ => ?_))
  iterate 5 refine at_s T rfl ?_
  refine at_end ?_
  refine at_sub [(0, (.int .i64 v1.1)), (1, (.int .i64 v1.2)), (2, (.int .i64 c)), (3, (.int .i64 side)), (4, (.int .i64 other))] ⟨rfl, rfl, rfl, rfl, rfl, trivial⟩ ?_
  refine at_then ?_
  refine at_seq ?_
  refine at_region [0, 1, 2, 3, 4, 5, 6] rfl ?_
  iterate 5 refine at_s T rfl ?_
  obtain ⟨v2, V2, H⟩ := bind_e H
  refine at_cons (at_c (B := fun _ => []) [] rfl rfl rfl rfl has11 rfl rfl (ref1_Within.c c 0 (w64 ((w64 (v1.1 * v1.2)) - 1)) v2 _ V2) (fun _ => ?_))
  refine at_s T rfl ?_
  refine at_end ?_
  refine at_sub [(0, (.int .i64 v1.1)), (1, (.int .i64 v1.2)), (2, (.int .i64 v2)), (3, (.int .i64 side)), (4, (.int .i64 other))] ⟨rfl, rfl, rfl, rfl, rfl, trivial⟩ ?_
  refine at_then ?_
  refine at_seq ?_
  refine at_region [0, 1, 2, 3, 4, 5] rfl ?_
  refine at_s T rfl ?_
  obtain ⟨v3, V3, H⟩ := bind_e H
  refine at_cons (at_c (B := fun _ => []) [] rfl rfl rfl rfl has11 rfl rfl (ref1_Within.c side 0 3 v3 _ V3) (fun _ => ?_))
  refine at_s T rfl ?_
  obtain ⟨v4, V4, H⟩ := bind_e H
  refine at_cons (at_c (B := fun _ => []) [] rfl rfl rfl rfl has11 rfl rfl (ref1_Within.c other 0 3 v4 _ V4) (fun _ => ?_))
  iterate 2 refine at_s T rfl ?_
  refine at_end ?_
  refine at_sub [(0, (.int .i64 v1.1)), (1, (.int .i64 v1.2)), (2, (.int .i64 v2)), (3, (.int .i64 v3)), (4, (.int .i64 v4))] ⟨rfl, rfl, rfl, rfl, rfl, trivial⟩ ?_
  refine at_then ?_
  refine at_seq ?_
  refine at_region [0, 1, 2, 3, 4, 5] rfl ?_
  iterate 4 refine at_s T rfl ?_
  obtain ⟨v5, V5, H⟩ := bind_e H
  refine at_cons (at_c (B := fun _ => []) [] rfl rfl rfl rfl has28 rfl rfl (where_Step.c v1.1 v1.2 v2 v3 v5 _ V5) (fun _ => ?_))
  refine at_s T rfl ?_
  refine at_end ?_
  refine at_sub [(0, (.int .i64 v1.1)), (1, (.int .i64 v1.2)), (2, (.int .i64 v2)), (3, (.int .i64 v3)), (4, (.int .i64 v4)), (11, (.int .i64 v5))] ⟨rfl, rfl, rfl, rfl, rfl, rfl, trivial⟩ ?_
  refine at_then ?_
  refine at_seq ?_
  obtain ⟨z7, Z6, H⟩ := bind_e H
  refine at_seq_mid (σ := Bool) (fun x6 => x6 = z7) (fun x6 => [(0, (.int .i64 v1.1)), (1, (.int .i64 v1.2)), (2, (.int .i64 v2)), (3, (.int .i64 v3)), (4, (.int .i64 v4)), (11, (.int .i64 v5)), (69, (.bool x6))]) (fun x6 => [F]) ?_ ?_
  · refine at_region [0, 1, 2, 3, 4, 5, 6, 7, 8, 9, 10, 11, 12, 13, 14, 15, 16, 17, 18, 19, 20, 21, 22, 23, 24, 25, 26, 27, 28, 29, 30, 31, 32, 33, 34] rfl ?_
    refine at_s T rfl ?_
    obtain ⟨v8, V7, Z6⟩ := bind_e Z6
    refine at_cons (at_c (B := fun _ => []) [] rfl rfl rfl rfl has34 rfl rfl (where_Back.c v3 v8 _ V7) (fun _ => ?_))
    obtain ⟨v9, V8, Z6⟩ := bind_e Z6
    refine at_cons (at_c (B := fun _ => []) [] rfl rfl rfl rfl has34 rfl rfl (where_Back.c v8 v9 _ V8) (fun _ => ?_))
    iterate 3 refine at_s T rfl ?_
    refine at_case (s := 40) rfl (fun c9 => ?_) (fun c9 => ?_)
    · replace Z6 := if_t c9 Z6
      iterate 29 refine at_s T rfl ?_
      refine at_end ?_
      refine at_sub [(0, (.int .i64 v1.1)), (1, (.int .i64 v1.2)), (2, (.int .i64 v2)), (3, (.int .i64 v3)), (4, (.int .i64 v4)), (11, (.int .i64 v5)), (69, (.bool true))] ⟨rfl, rfl, rfl, rfl, rfl, rfl, rfl, trivial⟩ ?_
      refine at_then ?_
      obtain rfl := Option.some.inj Z6
      exact at_mid true [0] rfl ⟨rfl, rfl, rfl, rfl, rfl, rfl, rfl, trivial⟩ rfl
    · replace Z6 := if_f (bf c9) Z6
      refine at_s T rfl ?_
      obtain ⟨v10, V10, Z6⟩ := bind_e Z6
      refine at_cons (at_c (B := fun _ => []) [] rfl rfl rfl rfl has34 rfl rfl (where_Back.c v3 v10 _ V10) (fun _ => ?_))
      iterate 4 refine at_s T rfl ?_
      refine at_case (s := 46) rfl (fun c11 => ?_) (fun c11 => ?_)
      · replace Z6 := if_t c11 Z6
        iterate 23 refine at_s T rfl ?_
        refine at_end ?_
        refine at_sub [(0, (.int .i64 v1.1)), (1, (.int .i64 v1.2)), (2, (.int .i64 v2)), (3, (.int .i64 v3)), (4, (.int .i64 v4)), (11, (.int .i64 v5)), (69, (.bool true))] ⟨rfl, rfl, rfl, rfl, rfl, rfl, rfl, trivial⟩ ?_
        refine at_then ?_
        obtain rfl := Option.some.inj Z6
        exact at_mid true [0] rfl ⟨rfl, rfl, rfl, rfl, rfl, rfl, rfl, trivial⟩ rfl
      · replace Z6 := if_f (bf c11) Z6
        iterate 3 refine at_s T rfl ?_
        obtain ⟨v11, V12, Z6⟩ := bind_e Z6
        refine at_cons (at_c (B := fun _ => []) [] rfl rfl rfl rfl has28 rfl rfl (where_Step.c v1.1 v1.2 v2 4 v11 _ V12) (fun _ => ?_))
        iterate 4 refine at_s T rfl ?_
        refine at_case (s := 54) rfl (fun c13 => ?_) (fun c13 => ?_)
        · replace Z6 := if_t c13 Z6
          iterate 15 refine at_s T rfl ?_
          refine at_end ?_
          refine at_sub [(0, (.int .i64 v1.1)), (1, (.int .i64 v1.2)), (2, (.int .i64 v2)), (3, (.int .i64 v3)), (4, (.int .i64 v4)), (11, (.int .i64 v5)), (69, (.bool true))] ⟨rfl, rfl, rfl, rfl, rfl, rfl, rfl, trivial⟩ ?_
          refine at_then ?_
          obtain rfl := Option.some.inj Z6
          exact at_mid true [0] rfl ⟨rfl, rfl, rfl, rfl, rfl, rfl, rfl, trivial⟩ rfl
        · replace Z6 := if_f (bf c13) Z6
          iterate 4 refine at_s T rfl ?_
          obtain ⟨v12, V14, Z6⟩ := bind_e Z6
          refine at_cons (at_c (B := fun _ => []) [] rfl rfl rfl rfl has30 rfl rfl (where_Side.c v1.1 v1.2 v2 v2 v12 _ V14) (fun _ => ?_))
          iterate 3 refine at_s T rfl ?_
          refine at_case (s := 62) rfl (fun c15 => ?_) (fun c15 => ?_)
          · replace Z6 := if_t c15 Z6
            iterate 7 refine at_s T rfl ?_
            refine at_end ?_
            refine at_sub [(0, (.int .i64 v1.1)), (1, (.int .i64 v1.2)), (2, (.int .i64 v2)), (3, (.int .i64 v3)), (4, (.int .i64 v4)), (11, (.int .i64 v5)), (69, (.bool true))] ⟨rfl, rfl, rfl, rfl, rfl, rfl, rfl, trivial⟩ ?_
            refine at_then ?_
            obtain rfl := Option.some.inj Z6
            exact at_mid true [0] rfl ⟨rfl, rfl, rfl, rfl, rfl, rfl, rfl, trivial⟩ rfl
          · replace Z6 := if_f (bf c15) Z6
            obtain ⟨v13, V16, Z6⟩ := bind_e Z6
            refine at_cons (at_c (B := fun _ => []) [] rfl rfl rfl rfl has34 rfl rfl (where_Back.c 4 v13 _ V16) (fun _ => ?_))
            iterate 3 refine at_s T rfl ?_
            refine at_case (s := 66) rfl (fun c17 => ?_) (fun c17 => ?_)
            · replace Z6 := if_t c17 Z6
              iterate 3 refine at_s T rfl ?_
              refine at_end ?_
              refine at_sub [(0, (.int .i64 v1.1)), (1, (.int .i64 v1.2)), (2, (.int .i64 v2)), (3, (.int .i64 v3)), (4, (.int .i64 v4)), (11, (.int .i64 v5)), (69, (.bool true))] ⟨rfl, rfl, rfl, rfl, rfl, rfl, rfl, trivial⟩ ?_
              refine at_then ?_
              obtain rfl := Option.some.inj Z6
              exact at_mid true [0] rfl ⟨rfl, rfl, rfl, rfl, rfl, rfl, rfl, trivial⟩ rfl
            · replace Z6 := if_f (bf c17) Z6
              obtain ⟨v14, V18, Z6⟩ := bind_e Z6
              refine at_cons (at_c (B := fun _ => []) [] rfl rfl rfl rfl has34 rfl rfl (where_Back.c 5 v14 _ V18) (fun _ => ?_))
              iterate 2 refine at_s T rfl ?_
              refine at_end ?_
              refine at_sub [(0, (.int .i64 v1.1)), (1, (.int .i64 v1.2)), (2, (.int .i64 v2)), (3, (.int .i64 v3)), (4, (.int .i64 v4)), (11, (.int .i64 v5)), (69, (.bool (v14 != 5)))] ⟨rfl, rfl, rfl, rfl, rfl, rfl, rfl, trivial⟩ ?_
              refine at_then ?_
              obtain rfl := Option.some.inj Z6
              exact at_mid (v14 != 5) [0] rfl ⟨rfl, rfl, rfl, rfl, rfl, rfl, rfl, trivial⟩ rfl
  · rintro x6 rfl
    refine at_cond rfl (fun c19 => ?_) (fun c19 => ?_)
    · replace H := if_t c19 H
      refine at_seq ?_
      refine at_region [0] rfl ?_
      refine at_s T rfl ?_
      refine at_end ?_
      refine at_sub [(10, (.bool false))] ⟨rfl, trivial⟩ ?_
      refine at_then ?_
      refine at_ret ?_
      refine at_rt ?_
      obtain rfl := Option.some.inj H
      exact at_post (T := T) rfl (.tmp rfl .nil) (fun w o => ⟨(), rfl, own_to [0] rfl o⟩)
    · replace H := if_f (bf c19) H
      refine at_skip ?_
      refine at_then ?_
      refine at_seq ?_
      refine at_region [0, 1, 2, 3, 4, 5, 6, 7, 8] rfl ?_
      iterate 3 refine at_s T rfl ?_
      obtain ⟨v15, V20, H⟩ := bind_e H
      refine at_cons (at_c (B := fun _ => []) [] rfl rfl rfl rfl has18 rfl rfl (where_Place.c v1.1 v1.2 v2 v15 _ V20) (fun _ => ?_))
      iterate 5 refine at_s T rfl ?_
      refine at_end ?_
      refine at_sub [(0, (.int .i64 v1.1)), (1, (.int .i64 v1.2)), (2, (.int .i64 v2)), (3, (.int .i64 v3)), (4, (.int .i64 v4)), (11, (.int .i64 v5)), (12, (.int .i64 v15.1)), (13, (.int .i64 v15.2))] ⟨rfl, rfl, rfl, rfl, rfl, rfl, rfl, rfl, trivial⟩ ?_
      refine at_then ?_
      refine at_seq ?_
      refine at_seq ?_
      refine at_region [0, 1] rfl ?_
      iterate 2 refine at_s T rfl ?_
      refine at_end ?_
      refine at_sub [(0, (.int .i64 v1.1)), (1, (.int .i64 v1.2)), (2, (.int .i64 v2)), (3, (.int .i64 v3)), (4, (.int .i64 v4)), (11, (.int .i64 v5)), (12, (.int .i64 v15.1)), (13, (.int .i64 v15.2)), (78, (.bool (decide (v5 < 0))))] ⟨rfl, rfl, rfl, rfl, rfl, rfl, rfl, rfl, rfl, trivial⟩ ?_
      refine at_then ?_
      refine at_cond rfl (fun c21 => ?_) (fun c21 => ?_)
      · replace H := if_t (of_decide_eq_true c21) H
        obtain ⟨z17, Z22, H⟩ := bind_e H
        refine at_seq_mid (σ := Bool) (fun x16 => x16 = z17) (fun x16 => [(10, (.bool x16))]) (fun x16 => [F]) ?_ ?_
        · refine at_region [0, 1, 2, 3, 4, 5, 6, 7, 8, 9, 10, 11, 12, 13, 14, 15, 16, 17, 18, 19, 20, 21, 22, 23, 24, 25, 26, 27, 28, 29, 30, 31, 32, 33, 34, 35, 36, 37, 38, 39, 40, 41] rfl ?_
          obtain ⟨v18, V23, Z22⟩ := bind_e Z22
          refine at_cons (at_c (B := fun _ => []) [] rfl rfl rfl rfl has15 rfl rfl (law1_told.c  v18 _ V23) (fun _ => ?_))
          refine at_s T rfl ?_
          refine at_grp T [2, 3, 4] (s := 80) (c := v18) [(0, (.int .i64 v1.1)), (1, (.int .i64 v1.2)), (3, (.int .i64 v3)), (12, (.int .i64 v15.1)), (13, (.int .i64 v15.2)), (83, (.bool (v18 && (v5 == (-1)))))] rfl rfl rfl (fun c24 => ⟨rfl, rfl, rfl, rfl, rfl, (by rw [c24]; rfl), trivial⟩) (fun c24 => ⟨rfl, rfl, rfl, rfl, rfl, (by rw [c24]; rfl), trivial⟩) ?_
          refine at_s T rfl ?_
          refine at_case (s := 84) rfl (fun c25 => ?_) (fun c25 => ?_)
          · replace Z22 := if_t c25 Z22
            iterate 3 refine at_s T rfl ?_
            refine at_case (s := 87) rfl (fun c26 => ?_) (fun c26 => ?_)
            · replace Z22 := if_t c26 Z22
              iterate 4 refine at_s T rfl ?_
              refine at_case (s := 91) rfl (fun c27 => ?_) (fun c27 => ?_)
              · replace Z22 := if_t c27 Z22
                iterate 29 refine at_s T rfl ?_
                refine at_end ?_
                refine at_sub [(10, (.bool true))] ⟨rfl, trivial⟩ ?_
                refine at_then ?_
                obtain rfl := Option.some.inj Z22
                exact at_mid true [0] rfl ⟨rfl, trivial⟩ rfl
              · replace Z22 := if_f (bf c27) Z22
                iterate 3 refine at_s T rfl ?_
                refine at_case (s := 94) rfl (fun c28 => ?_) (fun c28 => ?_)
                · replace Z22 := if_t c28 Z22
                  iterate 7 refine at_s T rfl ?_
                  refine at_case (s := 101) rfl (fun c29 => ?_) (fun c29 => ?_)
                  · replace Z22 := if_t c29 Z22
                    iterate 19 refine at_s T rfl ?_
                    refine at_end ?_
                    refine at_sub [(10, (.bool true))] ⟨rfl, trivial⟩ ?_
                    refine at_then ?_
                    obtain rfl := Option.some.inj Z22
                    exact at_mid true [0] rfl ⟨rfl, trivial⟩ rfl
                  · replace Z22 := if_f (bf c29) Z22
                    iterate 3 refine at_s T rfl ?_
                    refine at_case (s := 104) rfl (fun c30 => ?_) (fun c30 => ?_)
                    · replace Z22 := if_t c30 Z22
                      iterate 5 refine at_s T rfl ?_
                      refine at_case (s := 109) rfl (fun c31 => ?_) (fun c31 => ?_)
                      · replace Z22 := if_t c31 Z22
                        iterate 11 refine at_s T rfl ?_
                        refine at_end ?_
                        refine at_sub [(10, (.bool true))] ⟨rfl, trivial⟩ ?_
                        refine at_then ?_
                        obtain rfl := Option.some.inj Z22
                        exact at_mid true [0] rfl ⟨rfl, trivial⟩ rfl
                      · replace Z22 := if_f (bf c31) Z22
                        iterate 3 refine at_s T rfl ?_
                        refine at_case (s := 112) rfl (fun c32 => ?_) (fun c32 => ?_)
                        · replace Z22 := if_t c32 Z22
                          iterate 8 refine at_s T rfl ?_
                          refine at_end ?_
                          refine at_sub [(10, (.bool (v15.1 == (w64 (v1.1 - 1)))))] ⟨rfl, trivial⟩ ?_
                          refine at_then ?_
                          obtain rfl := Option.some.inj Z22
                          exact at_mid (v15.1 == (w64 (v1.1 - 1))) [0] rfl ⟨rfl, trivial⟩ rfl
                        · replace Z22 := if_f (bf c32) Z22
                          iterate 8 refine at_s T rfl ?_
                          refine at_end ?_
                          refine at_sub [(10, (.bool false))] ⟨rfl, trivial⟩ ?_
                          refine at_then ?_
                          obtain rfl := Option.some.inj Z22
                          exact at_mid false [0] rfl ⟨rfl, trivial⟩ rfl
                    · replace Z22 := if_f (bf c30) Z22
                      iterate 8 refine at_s T rfl ?_
                      refine at_case (s := 112) rfl (fun c33 => ?_) (fun c33 => ?_)
                      · replace Z22 := if_t c33 Z22
                        iterate 8 refine at_s T rfl ?_
                        refine at_end ?_
                        refine at_sub [(10, (.bool (v15.1 == (w64 (v1.1 - 1)))))] ⟨rfl, trivial⟩ ?_
                        refine at_then ?_
                        obtain rfl := Option.some.inj Z22
                        exact at_mid (v15.1 == (w64 (v1.1 - 1))) [0] rfl ⟨rfl, trivial⟩ rfl
                      · replace Z22 := if_f (bf c33) Z22
                        iterate 8 refine at_s T rfl ?_
                        refine at_end ?_
                        refine at_sub [(10, (.bool false))] ⟨rfl, trivial⟩ ?_
                        refine at_then ?_
                        obtain rfl := Option.some.inj Z22
                        exact at_mid false [0] rfl ⟨rfl, trivial⟩ rfl
                · replace Z22 := if_f (bf c28) Z22
                  iterate 10 refine at_s T rfl ?_
                  refine at_case (s := 104) rfl (fun c34 => ?_) (fun c34 => ?_)
                  · replace Z22 := if_t c34 Z22
                    iterate 5 refine at_s T rfl ?_
                    refine at_case (s := 109) rfl (fun c35 => ?_) (fun c35 => ?_)
                    · replace Z22 := if_t c35 Z22
                      iterate 11 refine at_s T rfl ?_
                      refine at_end ?_
                      refine at_sub [(10, (.bool true))] ⟨rfl, trivial⟩ ?_
                      refine at_then ?_
                      obtain rfl := Option.some.inj Z22
                      exact at_mid true [0] rfl ⟨rfl, trivial⟩ rfl
                    · replace Z22 := if_f (bf c35) Z22
                      iterate 3 refine at_s T rfl ?_
                      refine at_case (s := 112) rfl (fun c36 => ?_) (fun c36 => ?_)
                      · replace Z22 := if_t c36 Z22
                        iterate 8 refine at_s T rfl ?_
                        refine at_end ?_
                        refine at_sub [(10, (.bool (v15.1 == (w64 (v1.1 - 1)))))] ⟨rfl, trivial⟩ ?_
                        refine at_then ?_
                        obtain rfl := Option.some.inj Z22
                        exact at_mid (v15.1 == (w64 (v1.1 - 1))) [0] rfl ⟨rfl, trivial⟩ rfl
                      · replace Z22 := if_f (bf c36) Z22
                        iterate 8 refine at_s T rfl ?_
                        refine at_end ?_
                        refine at_sub [(10, (.bool false))] ⟨rfl, trivial⟩ ?_
                        refine at_then ?_
                        obtain rfl := Option.some.inj Z22
                        exact at_mid false [0] rfl ⟨rfl, trivial⟩ rfl
                  · replace Z22 := if_f (bf c34) Z22
                    iterate 8 refine at_s T rfl ?_
                    refine at_case (s := 112) rfl (fun c37 => ?_) (fun c37 => ?_)
                    · replace Z22 := if_t c37 Z22
                      iterate 8 refine at_s T rfl ?_
                      refine at_end ?_
                      refine at_sub [(10, (.bool (v15.1 == (w64 (v1.1 - 1)))))] ⟨rfl, trivial⟩ ?_
                      refine at_then ?_
                      obtain rfl := Option.some.inj Z22
                      exact at_mid (v15.1 == (w64 (v1.1 - 1))) [0] rfl ⟨rfl, trivial⟩ rfl
                    · replace Z22 := if_f (bf c37) Z22
                      iterate 8 refine at_s T rfl ?_
                      refine at_end ?_
                      refine at_sub [(10, (.bool false))] ⟨rfl, trivial⟩ ?_
                      refine at_then ?_
                      obtain rfl := Option.some.inj Z22
                      exact at_mid false [0] rfl ⟨rfl, trivial⟩ rfl
            · replace Z22 := if_f (bf c26) Z22
              iterate 7 refine at_s T rfl ?_
              refine at_case (s := 94) rfl (fun c38 => ?_) (fun c38 => ?_)
              · replace Z22 := if_t c38 Z22
                iterate 7 refine at_s T rfl ?_
                refine at_case (s := 101) rfl (fun c39 => ?_) (fun c39 => ?_)
                · replace Z22 := if_t c39 Z22
                  iterate 19 refine at_s T rfl ?_
                  refine at_end ?_
                  refine at_sub [(10, (.bool true))] ⟨rfl, trivial⟩ ?_
                  refine at_then ?_
                  obtain rfl := Option.some.inj Z22
                  exact at_mid true [0] rfl ⟨rfl, trivial⟩ rfl
                · replace Z22 := if_f (bf c39) Z22
                  iterate 3 refine at_s T rfl ?_
                  refine at_case (s := 104) rfl (fun c40 => ?_) (fun c40 => ?_)
                  · replace Z22 := if_t c40 Z22
                    iterate 5 refine at_s T rfl ?_
                    refine at_case (s := 109) rfl (fun c41 => ?_) (fun c41 => ?_)
                    · replace Z22 := if_t c41 Z22
                      iterate 11 refine at_s T rfl ?_
                      refine at_end ?_
                      refine at_sub [(10, (.bool true))] ⟨rfl, trivial⟩ ?_
                      refine at_then ?_
                      obtain rfl := Option.some.inj Z22
                      exact at_mid true [0] rfl ⟨rfl, trivial⟩ rfl
                    · replace Z22 := if_f (bf c41) Z22
                      iterate 3 refine at_s T rfl ?_
                      refine at_case (s := 112) rfl (fun c42 => ?_) (fun c42 => ?_)
                      · replace Z22 := if_t c42 Z22
                        iterate 8 refine at_s T rfl ?_
                        refine at_end ?_
                        refine at_sub [(10, (.bool (v15.1 == (w64 (v1.1 - 1)))))] ⟨rfl, trivial⟩ ?_
                        refine at_then ?_
                        obtain rfl := Option.some.inj Z22
                        exact at_mid (v15.1 == (w64 (v1.1 - 1))) [0] rfl ⟨rfl, trivial⟩ rfl
                      · replace Z22 := if_f (bf c42) Z22
                        iterate 8 refine at_s T rfl ?_
                        refine at_end ?_
                        refine at_sub [(10, (.bool false))] ⟨rfl, trivial⟩ ?_
                        refine at_then ?_
                        obtain rfl := Option.some.inj Z22
                        exact at_mid false [0] rfl ⟨rfl, trivial⟩ rfl
                  · replace Z22 := if_f (bf c40) Z22
                    iterate 8 refine at_s T rfl ?_
                    refine at_case (s := 112) rfl (fun c43 => ?_) (fun c43 => ?_)
                    · replace Z22 := if_t c43 Z22
                      iterate 8 refine at_s T rfl ?_
                      refine at_end ?_
                      refine at_sub [(10, (.bool (v15.1 == (w64 (v1.1 - 1)))))] ⟨rfl, trivial⟩ ?_
                      refine at_then ?_
                      obtain rfl := Option.some.inj Z22
                      exact at_mid (v15.1 == (w64 (v1.1 - 1))) [0] rfl ⟨rfl, trivial⟩ rfl
                    · replace Z22 := if_f (bf c43) Z22
                      iterate 8 refine at_s T rfl ?_
                      refine at_end ?_
                      refine at_sub [(10, (.bool false))] ⟨rfl, trivial⟩ ?_
                      refine at_then ?_
                      obtain rfl := Option.some.inj Z22
                      exact at_mid false [0] rfl ⟨rfl, trivial⟩ rfl
              · replace Z22 := if_f (bf c38) Z22
                iterate 10 refine at_s T rfl ?_
                refine at_case (s := 104) rfl (fun c44 => ?_) (fun c44 => ?_)
                · replace Z22 := if_t c44 Z22
                  iterate 5 refine at_s T rfl ?_
                  refine at_case (s := 109) rfl (fun c45 => ?_) (fun c45 => ?_)
                  · replace Z22 := if_t c45 Z22
                    iterate 11 refine at_s T rfl ?_
                    refine at_end ?_
                    refine at_sub [(10, (.bool true))] ⟨rfl, trivial⟩ ?_
                    refine at_then ?_
                    obtain rfl := Option.some.inj Z22
                    exact at_mid true [0] rfl ⟨rfl, trivial⟩ rfl
                  · replace Z22 := if_f (bf c45) Z22
                    iterate 3 refine at_s T rfl ?_
                    refine at_case (s := 112) rfl (fun c46 => ?_) (fun c46 => ?_)
                    · replace Z22 := if_t c46 Z22
                      iterate 8 refine at_s T rfl ?_
                      refine at_end ?_
                      refine at_sub [(10, (.bool (v15.1 == (w64 (v1.1 - 1)))))] ⟨rfl, trivial⟩ ?_
                      refine at_then ?_
                      obtain rfl := Option.some.inj Z22
                      exact at_mid (v15.1 == (w64 (v1.1 - 1))) [0] rfl ⟨rfl, trivial⟩ rfl
                    · replace Z22 := if_f (bf c46) Z22
                      iterate 8 refine at_s T rfl ?_
                      refine at_end ?_
                      refine at_sub [(10, (.bool false))] ⟨rfl, trivial⟩ ?_
                      refine at_then ?_
                      obtain rfl := Option.some.inj Z22
                      exact at_mid false [0] rfl ⟨rfl, trivial⟩ rfl
                · replace Z22 := if_f (bf c44) Z22
                  iterate 8 refine at_s T rfl ?_
                  refine at_case (s := 112) rfl (fun c47 => ?_) (fun c47 => ?_)
                  · replace Z22 := if_t c47 Z22
                    iterate 8 refine at_s T rfl ?_
                    refine at_end ?_
                    refine at_sub [(10, (.bool (v15.1 == (w64 (v1.1 - 1)))))] ⟨rfl, trivial⟩ ?_
                    refine at_then ?_
                    obtain rfl := Option.some.inj Z22
                    exact at_mid (v15.1 == (w64 (v1.1 - 1))) [0] rfl ⟨rfl, trivial⟩ rfl
                  · replace Z22 := if_f (bf c47) Z22
                    iterate 8 refine at_s T rfl ?_
                    refine at_end ?_
                    refine at_sub [(10, (.bool false))] ⟨rfl, trivial⟩ ?_
                    refine at_then ?_
                    obtain rfl := Option.some.inj Z22
                    exact at_mid false [0] rfl ⟨rfl, trivial⟩ rfl
          · replace Z22 := if_f (bf c25) Z22
            iterate 36 refine at_s T rfl ?_
            refine at_end ?_
            refine at_sub [(10, (.bool false))] ⟨rfl, trivial⟩ ?_
            refine at_then ?_
            obtain rfl := Option.some.inj Z22
            exact at_mid false [0] rfl ⟨rfl, trivial⟩ rfl
        · rintro x16 rfl
          refine at_ret ?_
          refine at_rt ?_
          obtain rfl := Option.some.inj H
          exact at_post (T := T) rfl (.tmp rfl .nil) (fun w o => ⟨(), rfl, own_to [0] rfl o⟩)
      · replace H := if_f (of_decide_eq_false c21) H
        refine at_skip ?_
        refine at_then ?_
        obtain ⟨z20, Z48, H⟩ := bind_e H
        refine at_seq_mid (σ := Bool) (fun x19 => x19 = z20) (fun x19 => [(10, (.bool x19))]) (fun x19 => [F]) ?_ ?_
        · refine at_region [0, 1, 2, 3, 4, 5, 6, 7, 8, 9, 10, 11, 12, 13, 14, 15, 16, 17, 18, 19, 20, 21, 22, 23, 24, 25, 26, 27, 28, 29, 30, 31, 32, 33, 34, 35, 36, 37, 38, 39] rfl ?_
          obtain ⟨v21, V49, Z48⟩ := bind_e Z48
          refine at_cons (at_c (B := fun _ => []) [] rfl rfl rfl rfl has15 rfl rfl (law1_told.c  v21 _ V49) (fun _ => ?_))
          refine at_s T rfl ?_
          refine at_grp T [2, 3, 4, 5] (s := 121) (c := v21) [(0, (.int .i64 v1.1)), (1, (.int .i64 v1.2)), (2, (.int .i64 v2)), (3, (.int .i64 v3)), (4, (.int .i64 v4)), (11, (.int .i64 v5)), (125, (.bool (v21 && (v5 != v2))))] rfl rfl rfl (fun c50 => ⟨rfl, rfl, rfl, rfl, rfl, rfl, (by rw [c50]; rfl), trivial⟩) (fun c50 => ⟨rfl, rfl, rfl, rfl, rfl, rfl, (by rw [c50]; rfl), trivial⟩) ?_
          refine at_s T rfl ?_
          refine at_case (s := 126) rfl (fun c51 => ?_) (fun c51 => ?_)
          · replace Z48 := if_t c51 Z48
            iterate 4 refine at_s T rfl ?_
            obtain ⟨v22, V52, Z48⟩ := bind_e Z48
            refine at_cons (at_c (B := fun _ => []) [] rfl rfl rfl rfl has34 rfl rfl (where_Back.c v3 v22 _ V52) (fun _ => ?_))
            obtain ⟨v23, V53, Z48⟩ := bind_e Z48
            refine at_cons (at_c (B := fun _ => []) [] rfl rfl rfl rfl has28 rfl rfl (where_Step.c v1.1 v1.2 v5 v22 v23 _ V53) (fun _ => ?_))
            iterate 4 refine at_s T rfl ?_
            refine at_case (s := 136) rfl (fun c54 => ?_) (fun c54 => ?_)
            · replace Z48 := if_t c54 Z48
              iterate 4 refine at_s T rfl ?_
              obtain ⟨v24, V55, Z48⟩ := bind_e Z48
              refine at_cons (at_c (B := fun _ => []) [] rfl rfl rfl rfl has30 rfl rfl (where_Side.c v1.1 v1.2 v2 v5 v24 _ V55) (fun _ => ?_))
              iterate 4 refine at_s T rfl ?_
              refine at_case (s := 145) rfl (fun c56 => ?_) (fun c56 => ?_)
              · replace Z48 := if_t c56 Z48
                iterate 4 refine at_s T rfl ?_
                refine at_case (s := 149) rfl (fun c57 => ?_) (fun c57 => ?_)
                · replace Z48 := if_t c57 Z48
                  iterate 10 refine at_s T rfl ?_
                  refine at_end ?_
                  refine at_sub [(10, (.bool true))] ⟨rfl, trivial⟩ ?_
                  refine at_then ?_
                  obtain rfl := Option.some.inj Z48
                  exact at_mid true [0] rfl ⟨rfl, trivial⟩ rfl
                · replace Z48 := if_f (bf c57) Z48
                  iterate 4 refine at_s T rfl ?_
                  obtain ⟨v25, V58, Z48⟩ := bind_e Z48
                  refine at_cons (at_c (B := fun _ => []) [] rfl rfl rfl rfl has28 rfl rfl (where_Step.c v1.1 v1.2 v2 v4 v25 _ V58) (fun _ => ?_))
                  iterate 5 refine at_s T rfl ?_
                  refine at_end ?_
                  refine at_sub [(10, (.bool (v25 != v5)))] ⟨rfl, trivial⟩ ?_
                  refine at_then ?_
                  obtain rfl := Option.some.inj Z48
                  exact at_mid (v25 != v5) [0] rfl ⟨rfl, trivial⟩ rfl
              · replace Z48 := if_f (bf c56) Z48
                iterate 14 refine at_s T rfl ?_
                refine at_end ?_
                refine at_sub [(10, (.bool false))] ⟨rfl, trivial⟩ ?_
                refine at_then ?_
                obtain rfl := Option.some.inj Z48
                exact at_mid false [0] rfl ⟨rfl, trivial⟩ rfl
            · replace Z48 := if_f (bf c54) Z48
              iterate 23 refine at_s T rfl ?_
              refine at_end ?_
              refine at_sub [(10, (.bool false))] ⟨rfl, trivial⟩ ?_
              refine at_then ?_
              obtain rfl := Option.some.inj Z48
              exact at_mid false [0] rfl ⟨rfl, trivial⟩ rfl
          · replace Z48 := if_f (bf c51) Z48
            iterate 33 refine at_s T rfl ?_
            refine at_end ?_
            refine at_sub [(10, (.bool false))] ⟨rfl, trivial⟩ ?_
            refine at_then ?_
            obtain rfl := Option.some.inj Z48
            exact at_mid false [0] rfl ⟨rfl, trivial⟩ rfl
        · rintro x19 rfl
          refine at_ret ?_
          obtain rfl := Option.some.inj H
          exact at_post (T := T) rfl (.tmp rfl .nil) (fun w o => ⟨(), rfl, own_to [0] rfl o⟩)
def law1_WhereMates.Pure : Prop := ∀ (w : Int) (h : Int) (c : Int) (side : Int) (other : Int), inI64 w → inI64 h → inI64 c → inI64 side → inI64 other → law1_WhereMates.f w h c side other = some true
end Go.Proofs.Ytonjonpepfepfaa
