import Derived.Test.YtonjonpepfepfaaT
import Derived.Test.YtonjonpepfepfaaFlaw1
import Derived.Test.YtonjonpepfepfaaFref1
import Derived.Test.YtonjonpepfepfaaFwhere
namespace Go.Proofs.Ytonjonpepfepfaa
open Go.Hx
set_option maxRecDepth 100000
set_option linter.unusedVariables false
/-! ### herdsman/herdsmanlaw1.WhereAsks: function 6 -/
def law1_WhereAsks.f (w : Int) (h : Int) (x : Int) (y : Int) (c : Int) (side : Int) (raw : Bool) : Option Bool := (if (!raw) = true then ((law1_near.f w h).bind fun v8 => (ref1_Within.f x (-1) v8.1).bind fun v9 => (ref1_Within.f y (-1) v8.2).bind fun v10 => (ref1_Within.f c (-1) (w64 (v8.1 * v8.2))).bind fun v11 => (ref1_Within.f side (-1) 6).bind fun v12 => some (v8.1, v8.2, v9, v10, v11, v12)) else (some (w, h, x, y, c, side))).bind fun (x1, x2, x3, x4, x5, x6) => (((ref1_May.f x1 x2).bind fun v17 => if v17 = true then ((ref1_In.f x3 0 (w64 (x1 - 1))).bind fun v18 => if v18 = true then ((ref1_In.f x4 0 (w64 (x2 - 1))).bind fun v19 => some v19) else (some false)) else (some false)).bind fun x15 => if x15 = true then (some (w64 ((w64 (x4 * x1)) + x3))) else (some (-1))).bind fun x13 => ((ref1_IsCell.f x1 x2 x5).bind fun v23 => if v23 = true then (if (¬ x1 = 0) then (if (¬ x1 = 0) then (some ((Int.tmod x5 x1), (w64 (Int.tdiv x5 x1)))) else none) else none) else (some ((-1), (-1)))).bind fun (x20, x21) => (where_Place.f x1 x2 x5).bind fun v24 => (where_Sectors.f x1 x2).bind fun v25 => (ref1_Sectors.f x1 x2).bind fun v26 => ((law1_told.f).bind fun v29 => if v29 = true then ((where_May.f x1 x2).bind fun v30 => (ref1_May.f x1 x2).bind fun v31 => if (v30 == v31) = true then ((where_Cell.f x1 x2 x3 x4).bind fun v32 => if (((v32 == x13) && (v24.1 == x20)) && (v24.2 == x21)) = true then ((where_Step.f x1 x2 x5 x6).bind fun v33 => (ref1_Step.f x1 x2 x5 x6).bind fun v34 => if (v33 == v34) = true then ((where_Side.f x1 x2 x5 x3).bind fun v35 => (ref1_Side.f x1 x2 x5 x3).bind fun v36 => if (((v35 == v36) && (v25.1 == v26.1)) && (v25.2 == v26.2)) = true then ((where_Sector.f x1 x2 x5).bind fun v37 => (ref1_Sector.f x1 x2 x5).bind fun v38 => if (v37 == v38) = true then ((where_Local.f x1 x2 x5).bind fun v39 => (ref1_Local.f x1 x2 x5).bind fun v40 => some (v39 == v40)) else (some false)) else (some false)) else (some false)) else (some false)) else (some false)) else (some false)).bind fun x27 => some x27
set_option maxHeartbeats 4000000 in
theorem law1_WhereAsks.c (w : Int) (h : Int) (x : Int) (y : Int) (c : Int) (side : Int) (raw : Bool) (r : Bool) (F : Hp) (H : law1_WhereAsks.f w h x y c side raw = some r) :
    CallsL Try.prog 6 [(.int .i64 w), (.int .i64 h), (.int .i64 x), (.int .i64 y), (.int .i64 c), (.int .i64 side), (.bool raw)] [F] (fun _ : Unit => (.bool r)) (fun _ => [F]) := by
  unfold law1_WhereAsks.f at H
  refine calls_atL [(0, (.int .i64 w)), (1, (.int .i64 h)), (2, (.int .i64 x)), (3, (.int .i64 y)), (4, (.int .i64 c)), (5, (.int .i64 side)), (6, (.bool raw))] Try.func6 rfl rfl ⟨rfl, rfl, rfl, rfl, rfl, rfl, rfl, trivial⟩ (fun W => ?_)
  refine at_seq ?_
  refine at_region [0] rfl ?_
  refine at_s T rfl ?_
  refine at_end ?_
  refine at_sub [(0, (.int .i64 w)), (1, (.int .i64 h)), (2, (.int .i64 x)), (3, (.int .i64 y)), (4, (.int .i64 c)), (5, (.int .i64 side)), (6, (.bool raw))] ⟨rfl, rfl, rfl, rfl, rfl, rfl, rfl, trivial⟩ ?_
  refine at_then ?_
  obtain ⟨z7, Z1, H⟩ := bind_e H
  refine at_seq_mid (σ := Int × Int × Int × Int × Int × Int) (fun ⟨x1, x2, x3, x4, x5, x6⟩ => (x1, x2, x3, x4, x5, x6) = z7) (fun ⟨x1, x2, x3, x4, x5, x6⟩ => [(0, (.int .i64 x1)), (1, (.int .i64 x2)), (2, (.int .i64 x3)), (3, (.int .i64 x4)), (4, (.int .i64 x5)), (5, (.int .i64 x6))]) (fun ⟨x1, x2, x3, x4, x5, x6⟩ => [F]) ?_ ?_
  · refine at_seq ?_
    refine at_region [0, 1] rfl ?_
    iterate 2 refine at_s T rfl ?_
    refine at_end ?_
    refine at_sub [(0, (.int .i64 w)), (1, (.int .i64 h)), (2, (.int .i64 x)), (3, (.int .i64 y)), (4, (.int .i64 c)), (5, (.int .i64 side)), (25, (.bool (!raw)))] ⟨rfl, rfl, rfl, rfl, rfl, rfl, rfl, trivial⟩ ?_
    refine at_then ?_
    refine at_cond rfl (fun c2 => ?_) (fun c2 => ?_)
    · replace Z1 := if_t c2 Z1
      refine at_seq ?_
      refine at_region [0, 1, 2, 3, 4, 5, 6, 7] rfl ?_
      iterate 2 refine at_s T rfl ?_
      obtain ⟨v8, V3, Z1⟩ := bind_e Z1
      refine at_cons (at_c (B := fun _ => []) [] rfl rfl rfl rfl has10 rfl rfl (law1_near.c w h v8 _ V3) (fun _ => ?_))
      iterate 5 refine at_s T rfl ?_
      refine at_end ?_
      refine at_sub [(0, (.int .i64 v8.1)), (1, (.int .i64 v8.2)), (2, (.int .i64 x)), (3, (.int .i64 y)), (4, (.int .i64 c)), (5, (.int .i64 side))] ⟨rfl, rfl, rfl, rfl, rfl, rfl, trivial⟩ ?_
      refine at_then ?_
      refine at_seq ?_
      refine at_region [0, 1, 2, 3, 4, 5, 6, 7, 8, 9, 10, 11, 12, 13] rfl ?_
      iterate 2 refine at_s T rfl ?_
      obtain ⟨v9, V4, Z1⟩ := bind_e Z1
      refine at_cons (at_c (B := fun _ => []) [] rfl rfl rfl rfl has11 rfl rfl (ref1_Within.c x (-1) v8.1 v9 _ V4) (fun _ => ?_))
      iterate 2 refine at_s T rfl ?_
      obtain ⟨v10, V5, Z1⟩ := bind_e Z1
      refine at_cons (at_c (B := fun _ => []) [] rfl rfl rfl rfl has11 rfl rfl (ref1_Within.c y (-1) v8.2 v10 _ V5) (fun _ => ?_))
      iterate 4 refine at_s T rfl ?_
      obtain ⟨v11, V6, Z1⟩ := bind_e Z1
      refine at_cons (at_c (B := fun _ => []) [] rfl rfl rfl rfl has11 rfl rfl (ref1_Within.c c (-1) (w64 (v8.1 * v8.2)) v11 _ V6) (fun _ => ?_))
      iterate 3 refine at_s T rfl ?_
      refine at_end ?_
      refine at_sub [(0, (.int .i64 v8.1)), (1, (.int .i64 v8.2)), (2, (.int .i64 v9)), (3, (.int .i64 v10)), (4, (.int .i64 v11)), (5, (.int .i64 side))] ⟨rfl, rfl, rfl, rfl, rfl, rfl, trivial⟩ ?_
      refine at_then ?_
      refine at_region [0, 1, 2] rfl ?_
      refine at_s T rfl ?_
      obtain ⟨v12, V7, Z1⟩ := bind_e Z1
      refine at_cons (at_c (B := fun _ => []) [] rfl rfl rfl rfl has11 rfl rfl (ref1_Within.c side (-1) 6 v12 _ V7) (fun _ => ?_))
      refine at_s T rfl ?_
      refine at_end ?_
      refine at_sub [(0, (.int .i64 v8.1)), (1, (.int .i64 v8.2)), (2, (.int .i64 v9)), (3, (.int .i64 v10)), (4, (.int .i64 v11)), (5, (.int .i64 v12))] ⟨rfl, rfl, rfl, rfl, rfl, rfl, trivial⟩ ?_
      refine at_then ?_
      obtain rfl := Option.some.inj Z1
      exact at_mid (v8.1, v8.2, v9, v10, v11, v12) [0] rfl ⟨rfl, rfl, rfl, rfl, rfl, rfl, trivial⟩ rfl
    · replace Z1 := if_f (bf c2) Z1
      refine at_skip ?_
      refine at_then ?_
      obtain rfl := Option.some.inj Z1
      exact at_mid (w, h, x, y, c, side) [0] rfl ⟨rfl, rfl, rfl, rfl, rfl, rfl, trivial⟩ rfl
  · rintro ⟨x1, x2, x3, x4, x5, x6⟩ rfl
    refine at_seq ?_
    refine at_region [0] rfl ?_
    refine at_s T rfl ?_
    refine at_end ?_
    refine at_sub [(0, (.int .i64 x1)), (1, (.int .i64 x2)), (2, (.int .i64 x3)), (3, (.int .i64 x4)), (4, (.int .i64 x5)), (5, (.int .i64 x6)), (15, (.int .i64 (-1)))] ⟨rfl, rfl, rfl, rfl, rfl, rfl, rfl, trivial⟩ ?_
    refine at_then ?_
    obtain ⟨z14, Z8, H⟩ := bind_e H
    refine at_seq_mid (σ := Int) (fun x13 => x13 = z14) (fun x13 => [(0, (.int .i64 x1)), (1, (.int .i64 x2)), (2, (.int .i64 x3)), (3, (.int .i64 x4)), (4, (.int .i64 x5)), (5, (.int .i64 x6)), (15, (.int .i64 x13))]) (fun x13 => [F]) ?_ ?_
    · obtain ⟨z16, Z9, Z8⟩ := bind_e Z8
      refine at_seq_mid (σ := Bool) (fun x15 => x15 = z16) (fun x15 => [(0, (.int .i64 x1)), (1, (.int .i64 x2)), (2, (.int .i64 x3)), (3, (.int .i64 x4)), (4, (.int .i64 x5)), (5, (.int .i64 x6)), (15, (.int .i64 (-1))), (59, (.bool x15))]) (fun x15 => [F]) ?_ ?_
      · refine at_region [0, 1, 2, 3, 4, 5, 6, 7, 8, 9, 10, 11, 12, 13, 14] rfl ?_
        iterate 2 refine at_s T rfl ?_
        obtain ⟨v17, V10, Z9⟩ := bind_e Z9
        refine at_cons (at_c (B := fun _ => []) [] rfl rfl rfl rfl has23 rfl rfl (ref1_May.c x1 x2 v17 _ V10) (fun _ => ?_))
        refine at_s T rfl ?_
        refine at_case (s := 48) rfl (fun c11 => ?_) (fun c11 => ?_)
        · replace Z9 := if_t c11 Z9
          iterate 3 refine at_s T rfl ?_
          obtain ⟨v18, V12, Z9⟩ := bind_e Z9
          refine at_cons (at_c (B := fun _ => []) [] rfl rfl rfl rfl has24 rfl rfl (ref1_In.c x3 0 (w64 (x1 - 1)) v18 _ V12) (fun _ => ?_))
          iterate 2 refine at_s T rfl ?_
          refine at_case (s := 54) rfl (fun c13 => ?_) (fun c13 => ?_)
          · replace Z9 := if_t c13 Z9
            iterate 3 refine at_s T rfl ?_
            obtain ⟨v19, V14, Z9⟩ := bind_e Z9
            refine at_cons (at_c (B := fun _ => []) [] rfl rfl rfl rfl has24 rfl rfl (ref1_In.c x4 0 (w64 (x2 - 1)) v19 _ V14) (fun _ => ?_))
            refine at_s T rfl ?_
            refine at_end ?_
            refine at_sub [(0, (.int .i64 x1)), (1, (.int .i64 x2)), (2, (.int .i64 x3)), (3, (.int .i64 x4)), (4, (.int .i64 x5)), (5, (.int .i64 x6)), (15, (.int .i64 (-1))), (59, (.bool v19))] ⟨rfl, rfl, rfl, rfl, rfl, rfl, rfl, rfl, trivial⟩ ?_
            refine at_then ?_
            obtain rfl := Option.some.inj Z9
            exact at_mid v19 [0] rfl ⟨rfl, rfl, rfl, rfl, rfl, rfl, rfl, rfl, trivial⟩ rfl
          · replace Z9 := if_f (bf c13) Z9
            iterate 5 refine at_s T rfl ?_
            refine at_end ?_
            refine at_sub [(0, (.int .i64 x1)), (1, (.int .i64 x2)), (2, (.int .i64 x3)), (3, (.int .i64 x4)), (4, (.int .i64 x5)), (5, (.int .i64 x6)), (15, (.int .i64 (-1))), (59, (.bool false))] ⟨rfl, rfl, rfl, rfl, rfl, rfl, rfl, rfl, trivial⟩ ?_
            refine at_then ?_
            obtain rfl := Option.some.inj Z9
            exact at_mid false [0] rfl ⟨rfl, rfl, rfl, rfl, rfl, rfl, rfl, rfl, trivial⟩ rfl
        · replace Z9 := if_f (bf c11) Z9
          iterate 11 refine at_s T rfl ?_
          refine at_end ?_
          refine at_sub [(0, (.int .i64 x1)), (1, (.int .i64 x2)), (2, (.int .i64 x3)), (3, (.int .i64 x4)), (4, (.int .i64 x5)), (5, (.int .i64 x6)), (15, (.int .i64 (-1))), (59, (.bool false))] ⟨rfl, rfl, rfl, rfl, rfl, rfl, rfl, rfl, trivial⟩ ?_
          refine at_then ?_
          obtain rfl := Option.some.inj Z9
          exact at_mid false [0] rfl ⟨rfl, rfl, rfl, rfl, rfl, rfl, rfl, rfl, trivial⟩ rfl
      · rintro x15 rfl
        refine at_cond rfl (fun c15 => ?_) (fun c15 => ?_)
        · replace Z8 := if_t c15 Z8
          refine at_region [0, 1, 2, 3, 4, 5] rfl ?_
          iterate 6 refine at_s T rfl ?_
          refine at_end ?_
          refine at_sub [(0, (.int .i64 x1)), (1, (.int .i64 x2)), (2, (.int .i64 x3)), (3, (.int .i64 x4)), (4, (.int .i64 x5)), (5, (.int .i64 x6)), (15, (.int .i64 (w64 ((w64 (x4 * x1)) + x3))))] ⟨rfl, rfl, rfl, rfl, rfl, rfl, rfl, trivial⟩ ?_
          refine at_then ?_
          obtain rfl := Option.some.inj Z8
          exact at_mid (w64 ((w64 (x4 * x1)) + x3)) [0] rfl ⟨rfl, rfl, rfl, rfl, rfl, rfl, rfl, trivial⟩ rfl
        · replace Z8 := if_f (bf c15) Z8
          refine at_skip ?_
          refine at_then ?_
          obtain rfl := Option.some.inj Z8
          exact at_mid (-1) [0] rfl ⟨rfl, rfl, rfl, rfl, rfl, rfl, rfl, trivial⟩ rfl
    · rintro x13 rfl
      refine at_seq ?_
      refine at_region [0, 1] rfl ?_
      iterate 2 refine at_s T rfl ?_
      refine at_end ?_
      refine at_sub [(0, (.int .i64 x1)), (1, (.int .i64 x2)), (2, (.int .i64 x3)), (3, (.int .i64 x4)), (4, (.int .i64 x5)), (5, (.int .i64 x6)), (15, (.int .i64 x13)), (16, (.int .i64 (-1))), (17, (.int .i64 (-1)))] ⟨rfl, rfl, rfl, rfl, rfl, rfl, rfl, rfl, rfl, trivial⟩ ?_
      refine at_then ?_
      obtain ⟨z22, Z16, H⟩ := bind_e H
      refine at_seq_mid (σ := Int × Int) (fun ⟨x20, x21⟩ => (x20, x21) = z22) (fun ⟨x20, x21⟩ => [(0, (.int .i64 x1)), (1, (.int .i64 x2)), (2, (.int .i64 x3)), (3, (.int .i64 x4)), (4, (.int .i64 x5)), (5, (.int .i64 x6)), (15, (.int .i64 x13)), (16, (.int .i64 x20)), (17, (.int .i64 x21))]) (fun ⟨x20, x21⟩ => [F]) ?_ ?_
      · refine at_seq ?_
        refine at_region [0, 1, 2, 3] rfl ?_
        iterate 3 refine at_s T rfl ?_
        obtain ⟨v23, V17, Z16⟩ := bind_e Z16
        refine at_cons (at_c (B := fun _ => []) [] rfl rfl rfl rfl has25 rfl rfl (ref1_IsCell.c x1 x2 x5 v23 _ V17) (fun _ => ?_))
        refine at_end ?_
        refine at_sub [(0, (.int .i64 x1)), (1, (.int .i64 x2)), (2, (.int .i64 x3)), (3, (.int .i64 x4)), (4, (.int .i64 x5)), (5, (.int .i64 x6)), (15, (.int .i64 x13)), (16, (.int .i64 (-1))), (17, (.int .i64 (-1))), (68, (.bool v23))] ⟨rfl, rfl, rfl, rfl, rfl, rfl, rfl, rfl, rfl, rfl, trivial⟩ ?_
        refine at_then ?_
        refine at_cond rfl (fun c18 => ?_) (fun c18 => ?_)
        · replace Z16 := if_t c18 Z16
          refine at_region_q mix (by kernel_rfl) ?_
          iterate 2 refine atq_s T rfl ?_
          obtain ⟨c19, Z16⟩ := chk_e Z16
          refine atq_v rfl rfl rfl (g_rem rfl rfl rfl c19) ?_
          iterate 2 refine atq_s T rfl ?_
          obtain ⟨c20, Z16⟩ := chk_e Z16
          refine atq_v rfl rfl rfl (g_quo rfl rfl rfl c20) ?_
          iterate 2 refine atq_s T rfl ?_
          refine atq_end ?_
          refine at_sub [(0, (.int .i64 x1)), (1, (.int .i64 x2)), (2, (.int .i64 x3)), (3, (.int .i64 x4)), (4, (.int .i64 x5)), (5, (.int .i64 x6)), (15, (.int .i64 x13)), (16, (.int .i64 (Int.tmod x5 x1))), (17, (.int .i64 (w64 (Int.tdiv x5 x1))))] ⟨rfl, rfl, rfl, rfl, rfl, rfl, rfl, rfl, rfl, trivial⟩ ?_
          refine at_then ?_
          obtain rfl := Option.some.inj Z16
          exact at_mid ((Int.tmod x5 x1), (w64 (Int.tdiv x5 x1))) [0] rfl ⟨rfl, rfl, rfl, rfl, rfl, rfl, rfl, rfl, rfl, trivial⟩ rfl
        · replace Z16 := if_f (bf c18) Z16
          refine at_skip ?_
          refine at_then ?_
          obtain rfl := Option.some.inj Z16
          exact at_mid ((-1), (-1)) [0] rfl ⟨rfl, rfl, rfl, rfl, rfl, rfl, rfl, rfl, rfl, trivial⟩ rfl
      · rintro ⟨x20, x21⟩ rfl
        refine at_seq ?_
        refine at_region [0, 1, 2, 3, 4, 5, 6, 7, 8] rfl ?_
        iterate 3 refine at_s T rfl ?_
        obtain ⟨v24, V21, H⟩ := bind_e H
        refine at_cons (at_c (B := fun _ => []) [] rfl rfl rfl rfl has18 rfl rfl (where_Place.c x1 x2 x5 v24 _ V21) (fun _ => ?_))
        iterate 5 refine at_s T rfl ?_
        refine at_end ?_
        refine at_sub [(0, (.int .i64 x1)), (1, (.int .i64 x2)), (2, (.int .i64 x3)), (3, (.int .i64 x4)), (4, (.int .i64 x5)), (5, (.int .i64 x6)), (15, (.int .i64 x13)), (16, (.int .i64 x20)), (17, (.int .i64 x21)), (18, (.int .i64 v24.1)), (19, (.int .i64 v24.2))] ⟨rfl, rfl, rfl, rfl, rfl, rfl, rfl, rfl, rfl, rfl, rfl, trivial⟩ ?_
        refine at_then ?_
        refine at_seq ?_
        refine at_region [0, 1, 2, 3, 4, 5, 6, 7] rfl ?_
        iterate 2 refine at_s T rfl ?_
        obtain ⟨v25, V22, H⟩ := bind_e H
        refine at_cons (at_c (B := fun _ => []) [] rfl rfl rfl rfl has22 rfl rfl (where_Sectors.c x1 x2 v25 _ V22) (fun _ => ?_))
        iterate 5 refine at_s T rfl ?_
        refine at_end ?_
        refine at_sub [(0, (.int .i64 x1)), (1, (.int .i64 x2)), (2, (.int .i64 x3)), (3, (.int .i64 x4)), (4, (.int .i64 x5)), (5, (.int .i64 x6)), (15, (.int .i64 x13)), (16, (.int .i64 x20)), (17, (.int .i64 x21)), (18, (.int .i64 v24.1)), (19, (.int .i64 v24.2)), (20, (.int .i64 v25.1)), (21, (.int .i64 v25.2))] ⟨rfl, rfl, rfl, rfl, rfl, rfl, rfl, rfl, rfl, rfl, rfl, rfl, rfl, trivial⟩ ?_
        refine at_then ?_
        refine at_seq ?_
        refine at_region [0, 1, 2, 3, 4, 5, 6, 7] rfl ?_
        iterate 2 refine at_s T rfl ?_
        obtain ⟨v26, V23, H⟩ := bind_e H
        refine at_cons (at_c (B := fun _ => []) [] rfl rfl rfl rfl has26 rfl rfl (ref1_Sectors.c x1 x2 v26 _ V23) (fun _ => ?_))
        iterate 5 refine at_s T rfl ?_
        refine at_end ?_
        refine at_sub [(0, (.int .i64 x1)), (1, (.int .i64 x2)), (2, (.int .i64 x3)), (3, (.int .i64 x4)), (4, (.int .i64 x5)), (5, (.int .i64 x6)), (15, (.int .i64 x13)), (16, (.int .i64 x20)), (17, (.int .i64 x21)), (18, (.int .i64 v24.1)), (19, (.int .i64 v24.2)), (20, (.int .i64 v25.1)), (21, (.int .i64 v25.2)), (22, (.int .i64 v26.1)), (23, (.int .i64 v26.2))] ⟨rfl, rfl, rfl, rfl, rfl, rfl, rfl, rfl, rfl, rfl, rfl, rfl, rfl, rfl, rfl, trivial⟩ ?_
        refine at_then ?_
        obtain ⟨z28, Z24, H⟩ := bind_e H
        refine at_seq_mid (σ := Bool) (fun x27 => x27 = z28) (fun x27 => [(14, (.bool x27))]) (fun x27 => [F]) ?_ ?_
        · refine at_region [0, 1, 2, 3, 4, 5, 6, 7, 8, 9, 10, 11, 12, 13, 14, 15, 16, 17, 18, 19, 20, 21, 22, 23, 24, 25, 26, 27, 28, 29, 30, 31, 32, 33, 34, 35, 36, 37, 38, 39, 40, 41, 42, 43, 44, 45, 46, 47, 48, 49, 50, 51, 52, 53, 54, 55, 56, 57, 58, 59, 60, 61, 62, 63, 64, 65, 66, 67, 68, 69, 70, 71, 72, 73, 74, 75, 76, 77, 78, 79, 80, 81, 82, 83, 84, 85, 86, 87] rfl ?_
          obtain ⟨v29, V25, Z24⟩ := bind_e Z24
          refine at_cons (at_c (B := fun _ => []) [] rfl rfl rfl rfl has15 rfl rfl (law1_told.c  v29 _ V25) (fun _ => ?_))
          refine at_s T rfl ?_
          refine at_case (s := 95) rfl (fun c26 => ?_) (fun c26 => ?_)
          · replace Z24 := if_t c26 Z24
            iterate 2 refine at_s T rfl ?_
            obtain ⟨v30, V27, Z24⟩ := bind_e Z24
            refine at_cons (at_c (B := fun _ => []) [] rfl rfl rfl rfl has27 rfl rfl (where_May.c x1 x2 v30 _ V27) (fun _ => ?_))
            iterate 2 refine at_s T rfl ?_
            obtain ⟨v31, V28, Z24⟩ := bind_e Z24
            refine at_cons (at_c (B := fun _ => []) [] rfl rfl rfl rfl has23 rfl rfl (ref1_May.c x1 x2 v31 _ V28) (fun _ => ?_))
            iterate 3 refine at_s T rfl ?_
            refine at_case (s := 104) rfl (fun c29 => ?_) (fun c29 => ?_)
            · replace Z24 := if_t c29 Z24
              iterate 4 refine at_s T rfl ?_
              obtain ⟨v32, V30, Z24⟩ := bind_e Z24
              refine at_cons (at_c (B := fun _ => []) [] rfl rfl rfl rfl has21 rfl rfl (where_Cell.c x1 x2 x3 x4 v32 _ V30) (fun _ => ?_))
              iterate 4 refine at_s T rfl ?_
              refine at_grp T [20, 21, 22, 23] (s := 113) (c := (v32 == x13)) [(0, (.int .i64 x1)), (1, (.int .i64 x2)), (2, (.int .i64 x3)), (4, (.int .i64 x5)), (5, (.int .i64 x6)), (17, (.int .i64 x21)), (19, (.int .i64 v24.2)), (20, (.int .i64 v25.1)), (21, (.int .i64 v25.2)), (22, (.int .i64 v26.1)), (23, (.int .i64 v26.2)), (117, (.bool ((v32 == x13) && (v24.1 == x20))))] rfl rfl rfl (fun c31 => ⟨rfl, rfl, rfl, rfl, rfl, rfl, rfl, rfl, rfl, rfl, rfl, (by rw [c31]; rfl), trivial⟩) (fun c31 => ⟨rfl, rfl, rfl, rfl, rfl, rfl, rfl, rfl, rfl, rfl, rfl, (by rw [c31]; rfl), trivial⟩) ?_
              refine at_s T rfl ?_
              refine at_grp T [25, 26, 27, 28] (s := 118) (c := ((v32 == x13) && (v24.1 == x20))) [(0, (.int .i64 x1)), (1, (.int .i64 x2)), (2, (.int .i64 x3)), (4, (.int .i64 x5)), (5, (.int .i64 x6)), (20, (.int .i64 v25.1)), (21, (.int .i64 v25.2)), (22, (.int .i64 v26.1)), (23, (.int .i64 v26.2)), (122, (.bool (((v32 == x13) && (v24.1 == x20)) && (v24.2 == x21))))] rfl rfl rfl (fun c32 => ⟨rfl, rfl, rfl, rfl, rfl, rfl, rfl, rfl, rfl, (by rw [c32]; rfl), trivial⟩) (fun c32 => ⟨rfl, rfl, rfl, rfl, rfl, rfl, rfl, rfl, rfl, (by rw [c32]; rfl), trivial⟩) ?_
              refine at_s T rfl ?_
              refine at_case (s := 123) rfl (fun c33 => ?_) (fun c33 => ?_)
              · replace Z24 := if_t c33 Z24
                iterate 4 refine at_s T rfl ?_
                obtain ⟨v33, V34, Z24⟩ := bind_e Z24
                refine at_cons (at_c (B := fun _ => []) [] rfl rfl rfl rfl has28 rfl rfl (where_Step.c x1 x2 x5 x6 v33 _ V34) (fun _ => ?_))
                iterate 4 refine at_s T rfl ?_
                obtain ⟨v34, V35, Z24⟩ := bind_e Z24
                refine at_cons (at_c (B := fun _ => []) [] rfl rfl rfl rfl has29 rfl rfl (ref1_Step.c x1 x2 x5 x6 v34 _ V35) (fun _ => ?_))
                iterate 3 refine at_s T rfl ?_
                refine at_case (s := 136) rfl (fun c36 => ?_) (fun c36 => ?_)
                · replace Z24 := if_t c36 Z24
                  iterate 4 refine at_s T rfl ?_
                  obtain ⟨v35, V37, Z24⟩ := bind_e Z24
                  refine at_cons (at_c (B := fun _ => []) [] rfl rfl rfl rfl has30 rfl rfl (where_Side.c x1 x2 x5 x3 v35 _ V37) (fun _ => ?_))
                  iterate 4 refine at_s T rfl ?_
                  obtain ⟨v36, V38, Z24⟩ := bind_e Z24
                  refine at_cons (at_c (B := fun _ => []) [] rfl rfl rfl rfl has31 rfl rfl (ref1_Side.c x1 x2 x5 x3 v36 _ V38) (fun _ => ?_))
                  iterate 3 refine at_s T rfl ?_
                  refine at_grp T [56, 57, 58, 59] (s := 149) (c := (v35 == v36)) [(0, (.int .i64 x1)), (1, (.int .i64 x2)), (4, (.int .i64 x5)), (21, (.int .i64 v25.2)), (23, (.int .i64 v26.2)), (153, (.bool ((v35 == v36) && (v25.1 == v26.1))))] rfl rfl rfl (fun c39 => ⟨rfl, rfl, rfl, rfl, rfl, (by rw [c39]; rfl), trivial⟩) (fun c39 => ⟨rfl, rfl, rfl, rfl, rfl, (by rw [c39]; rfl), trivial⟩) ?_
                  refine at_s T rfl ?_
                  refine at_grp T [61, 62, 63, 64] (s := 154) (c := ((v35 == v36) && (v25.1 == v26.1))) [(0, (.int .i64 x1)), (1, (.int .i64 x2)), (4, (.int .i64 x5)), (158, (.bool (((v35 == v36) && (v25.1 == v26.1)) && (v25.2 == v26.2))))] rfl rfl rfl (fun c40 => ⟨rfl, rfl, rfl, (by rw [c40]; rfl), trivial⟩) (fun c40 => ⟨rfl, rfl, rfl, (by rw [c40]; rfl), trivial⟩) ?_
                  refine at_s T rfl ?_
                  refine at_case (s := 159) rfl (fun c41 => ?_) (fun c41 => ?_)
                  · replace Z24 := if_t c41 Z24
                    iterate 3 refine at_s T rfl ?_
                    obtain ⟨v37, V42, Z24⟩ := bind_e Z24
                    refine at_cons (at_c (B := fun _ => []) [] rfl rfl rfl rfl has19 rfl rfl (where_Sector.c x1 x2 x5 v37 _ V42) (fun _ => ?_))
                    iterate 3 refine at_s T rfl ?_
                    obtain ⟨v38, V43, Z24⟩ := bind_e Z24
                    refine at_cons (at_c (B := fun _ => []) [] rfl rfl rfl rfl has32 rfl rfl (ref1_Sector.c x1 x2 x5 v38 _ V43) (fun _ => ?_))
                    iterate 3 refine at_s T rfl ?_
                    refine at_case (s := 170) rfl (fun c44 => ?_) (fun c44 => ?_)
                    · replace Z24 := if_t c44 Z24
                      iterate 3 refine at_s T rfl ?_
                      obtain ⟨v39, V45, Z24⟩ := bind_e Z24
                      refine at_cons (at_c (B := fun _ => []) [] rfl rfl rfl rfl has20 rfl rfl (where_Local.c x1 x2 x5 v39 _ V45) (fun _ => ?_))
                      iterate 3 refine at_s T rfl ?_
                      obtain ⟨v40, V46, Z24⟩ := bind_e Z24
                      refine at_cons (at_c (B := fun _ => []) [] rfl rfl rfl rfl has33 rfl rfl (ref1_Local.c x1 x2 x5 v40 _ V46) (fun _ => ?_))
                      iterate 3 refine at_s T rfl ?_
                      refine at_end ?_
                      refine at_sub [(14, (.bool (v39 == v40)))] ⟨rfl, trivial⟩ ?_
                      refine at_then ?_
                      obtain rfl := Option.some.inj Z24
                      exact at_mid (v39 == v40) [0] rfl ⟨rfl, trivial⟩ rfl
                    · replace Z24 := if_f (bf c44) Z24
                      iterate 11 refine at_s T rfl ?_
                      refine at_end ?_
                      refine at_sub [(14, (.bool false))] ⟨rfl, trivial⟩ ?_
                      refine at_then ?_
                      obtain rfl := Option.some.inj Z24
                      exact at_mid false [0] rfl ⟨rfl, trivial⟩ rfl
                  · replace Z24 := if_f (bf c41) Z24
                    iterate 22 refine at_s T rfl ?_
                    refine at_end ?_
                    refine at_sub [(14, (.bool false))] ⟨rfl, trivial⟩ ?_
                    refine at_then ?_
                    obtain rfl := Option.some.inj Z24
                    exact at_mid false [0] rfl ⟨rfl, trivial⟩ rfl
                · replace Z24 := if_f (bf c36) Z24
                  iterate 45 refine at_s T rfl ?_
                  refine at_end ?_
                  refine at_sub [(14, (.bool false))] ⟨rfl, trivial⟩ ?_
                  refine at_then ?_
                  obtain rfl := Option.some.inj Z24
                  exact at_mid false [0] rfl ⟨rfl, trivial⟩ rfl
              · replace Z24 := if_f (bf c33) Z24
                iterate 58 refine at_s T rfl ?_
                refine at_end ?_
                refine at_sub [(14, (.bool false))] ⟨rfl, trivial⟩ ?_
                refine at_then ?_
                obtain rfl := Option.some.inj Z24
                exact at_mid false [0] rfl ⟨rfl, trivial⟩ rfl
            · replace Z24 := if_f (bf c29) Z24
              iterate 77 refine at_s T rfl ?_
              refine at_end ?_
              refine at_sub [(14, (.bool false))] ⟨rfl, trivial⟩ ?_
              refine at_then ?_
              obtain rfl := Option.some.inj Z24
              exact at_mid false [0] rfl ⟨rfl, trivial⟩ rfl
          · replace Z24 := if_f (bf c26) Z24
            iterate 86 refine at_s T rfl ?_
            refine at_end ?_
            refine at_sub [(14, (.bool false))] ⟨rfl, trivial⟩ ?_
            refine at_then ?_
            obtain rfl := Option.some.inj Z24
            exact at_mid false [0] rfl ⟨rfl, trivial⟩ rfl
        · rintro x27 rfl
          refine at_ret ?_
          obtain rfl := Option.some.inj H
          exact at_post (T := T) rfl (.tmp rfl .nil) (fun w o => ⟨(), rfl, own_to [0] rfl o⟩)
def law1_WhereAsks.Pure : Prop := ∀ (w : Int) (h : Int) (x : Int) (y : Int) (c : Int) (side : Int) (raw : Bool), inI64 w → inI64 h → inI64 x → inI64 y → inI64 c → inI64 side → law1_WhereAsks.f w h x y c side raw = some true
end Go.Proofs.Ytonjonpepfepfaa
