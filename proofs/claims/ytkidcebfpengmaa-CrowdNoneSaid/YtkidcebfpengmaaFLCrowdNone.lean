import Derived.Test.YtkidcebfpengmaaT
import Derived.Test.YtkidcebfpengmaaFcrowd
import Derived.Test.YtkidcebfpengmaaFlaw25
import Derived.Test.YtkidcebfpengmaaFwhere
namespace Go.Proofs.Ytkidcebfpengmaa
open Go.Hx
set_option maxRecDepth 100000
set_option linter.unusedVariables false
/-! ### herdsman/herdsmanlaw25.CrowdNone: function 11 -/
def law25_CrowdNone.f (w : Int) (h : Int) (most : Int) (a : Int) (b : Int) : Option Bool := (crowd_Crowd_Spawn_2.f a b).bind fun v1 => (crowd_Crowd_Tick_2.f []).bind fun v2 => (if (((((v1.1 != (-1)) || (v1.2 != 1)) || ((List.length v2.1 : Int) != 0)) || ((List.length v2.2.1 : Int) != 0)) || (v2.2.2 != 1)) = true then (some true) else ((crowd_Crowd_Retarget_2.f a b).bind fun v5 => if (v5 != 1) = true then (some true) else ((crowd_Crowd_Despawn_2.f a).bind fun v6 => if (v6 != 1) = true then (some true) else ((crowd_Crowd_Who_2.f a).bind fun v7 => if (v7 != (-1)) = true then (some true) else ((crowd_Crowd_Units_2.f).bind fun v8 => if ((List.length v8 : Int) != 0) = true then (some true) else ((crowd_Crowd_Words_2.f).bind fun v9 => some ((List.length v9 : Int) != 0))))))).bind fun x3 => if x3 = true then (some false) else ((where_May.f w h).bind fun v10 => if (((v10 && (decide (most ≥ 1))) && (decide (most ≤ 65536))) && (decide ((w64 (w * h)) > 5000))) = true then ((law25_told.f).bind fun v11 => some v11) else (((law25_told.f).bind fun v14 => if v14 = true then ((crowd_New.f w h most).bind fun v15 => optm v15 (some (false == ((v10 && (decide (most ≥ 1))) && (decide (most ≤ 65536))))) (fun yv15 => some (true == ((v10 && (decide (most ≥ 1))) && (decide (most ≤ 65536)))))) else (some false)).bind fun x12 => some x12))
set_option maxHeartbeats 4000000 in
theorem law25_CrowdNone.c (w : Int) (h : Int) (most : Int) (a : Int) (b : Int) (r : Bool) (F : Hp) (H : law25_CrowdNone.f w h most a b = some r) :
    CallsL Try.prog 11 [(.int .i64 w), (.int .i64 h), (.int .i64 most), (.int .i64 a), (.int .i64 b)] [F] (fun _ : Unit => (.bool r)) (fun _ => [F]) := by
  unfold law25_CrowdNone.f at H
  refine calls_atL [(0, (.int .i64 w)), (1, (.int .i64 h)), (2, (.int .i64 most)), (3, (.int .i64 a)), (4, (.int .i64 b))] Try.func11 rfl rfl ⟨rfl, rfl, rfl, rfl, rfl, trivial⟩ (fun W => ?_)
  refine at_seq ?_
  refine at_region [0] rfl ?_
  refine at_s T rfl ?_
  refine at_end ?_
  refine at_sub [(0, (.int .i64 w)), (1, (.int .i64 h)), (2, (.int .i64 most)), (3, (.int .i64 a)), (4, (.int .i64 b))] ⟨rfl, rfl, rfl, rfl, rfl, trivial⟩ ?_
  refine at_then ?_
  refine at_seq ?_
  refine at_region [0] rfl ?_
  refine at_s T rfl ?_
  refine at_end ?_
  refine at_sub [(0, (.int .i64 w)), (1, (.int .i64 h)), (2, (.int .i64 most)), (3, (.int .i64 a)), (4, (.int .i64 b)), (11, (.pointer none))] ⟨rfl, rfl, rfl, rfl, rfl, rfl, trivial⟩ ?_
  refine at_then ?_
  refine at_seq ?_
  refine at_region [0, 1, 2, 3, 4, 5, 6, 7, 8] rfl ?_
  iterate 3 refine at_s T rfl ?_
  obtain ⟨v1, V1, H⟩ := bind_e H
  refine at_cons (at_c (B := fun _ => []) [] rfl rfl rfl rfl has25 rfl rfl (crowd_Crowd_Spawn_2.c a b v1 _ V1) (fun _ => ?_))
  iterate 5 refine at_s T rfl ?_
  refine at_end ?_
  refine at_sub [(0, (.int .i64 w)), (1, (.int .i64 h)), (2, (.int .i64 most)), (3, (.int .i64 a)), (4, (.int .i64 b)), (11, (.pointer none)), (12, (.int .i64 v1.1)), (13, (.int .i64 v1.2))] ⟨rfl, rfl, rfl, rfl, rfl, rfl, rfl, rfl, trivial⟩ ?_
  refine at_then ?_
  refine at_seq ?_
  refine at_region [0, 1, 2, 3, 4, 5, 6, 7, 8] rfl ?_
  refine at_s T rfl ?_
  obtain ⟨v2, V2, H⟩ := bind_e H
  refine at_cons (at_cR (crowd_Crowd_Tick_2.R v2) [] [] rfl rfl rfl rfl has33 rfl rfl (crowd_Crowd_Tick_2.c [] v2 _ V2 (.inl rfl) (Nat.le_refl _)) ?_)
  rintro _ _ ⟨a1, n1, H1, a2, n2, H2, s1, s2, rfl, rfl⟩
  iterate 7 refine at_s T rfl ?_
  refine at_end ?_
  refine at_sub [(0, (.int .i64 w)), (1, (.int .i64 h)), (2, (.int .i64 most)), (3, (.int .i64 a)), (4, (.int .i64 b)), (11, (.pointer none)), (12, (.int .i64 v1.1)), (13, (.int .i64 v1.2)), (14, (.slice a1 (List.length v2.1) n1)), (15, (.slice a2 (List.length v2.2.1) n2)), (16, (.int .i64 v2.2.2))] ⟨rfl, rfl, rfl, rfl, rfl, rfl, rfl, rfl, rfl, rfl, rfl, trivial⟩ ?_
  refine at_then ?_
  refine at_seq ?_
  obtain ⟨z4, Z3, H⟩ := bind_e H
  refine at_seq_mid (σ := Bool) (fun x3 => x3 = z4) (fun x3 => [(0, (.int .i64 w)), (1, (.int .i64 h)), (2, (.int .i64 most)), (81, (.bool x3))]) (fun x3 => [F]) ?_ ?_
  · refine at_region [0, 1, 2, 3, 4, 5, 6, 7, 8, 9, 10, 11, 12, 13, 14, 15, 16, 17, 18, 19, 20, 21, 22, 23, 24, 25, 26, 27, 28, 29, 30, 31, 32, 33, 34, 35, 36, 37, 38, 39, 40, 41, 42, 43, 44, 45, 46, 47, 48, 49, 50] rfl ?_
    iterate 3 refine at_s T rfl ?_
    refine at_grp T [3, 4, 5] (s := 33) (c := (v1.1 != (-1))) [(0, (.int .i64 w)), (1, (.int .i64 h)), (2, (.int .i64 most)), (3, (.int .i64 a)), (4, (.int .i64 b)), (11, (.pointer none)), (14, (.slice a1 (List.length v2.1) n1)), (15, (.slice a2 (List.length v2.2.1) n2)), (16, (.int .i64 v2.2.2)), (36, (.bool ((v1.1 != (-1)) || (v1.2 != 1))))] rfl rfl rfl (fun c4 => ⟨rfl, rfl, rfl, rfl, rfl, rfl, rfl, rfl, rfl, (by rw [c4]; rfl), trivial⟩) (fun c4 => ⟨rfl, rfl, rfl, rfl, rfl, rfl, rfl, rfl, rfl, (by rw [c4]; rfl), trivial⟩) ?_
    refine at_s T rfl ?_
    refine at_grp T [7, 8, 9, 10] (s := 37) (c := ((v1.1 != (-1)) || (v1.2 != 1))) [(0, (.int .i64 w)), (1, (.int .i64 h)), (2, (.int .i64 most)), (3, (.int .i64 a)), (4, (.int .i64 b)), (11, (.pointer none)), (15, (.slice a2 (List.length v2.2.1) n2)), (16, (.int .i64 v2.2.2)), (41, (.bool (((v1.1 != (-1)) || (v1.2 != 1)) || ((List.length v2.1 : Int) != 0))))] rfl rfl rfl (fun c5 => ⟨rfl, rfl, rfl, rfl, rfl, rfl, rfl, rfl, (by rw [c5]; rfl), trivial⟩) (fun c5 => ⟨rfl, rfl, rfl, rfl, rfl, rfl, rfl, rfl, (by rw [c5]; rfl), trivial⟩) ?_
    refine at_s T rfl ?_
    refine at_grp T [12, 13, 14, 15] (s := 42) (c := (((v1.1 != (-1)) || (v1.2 != 1)) || ((List.length v2.1 : Int) != 0))) [(0, (.int .i64 w)), (1, (.int .i64 h)), (2, (.int .i64 most)), (3, (.int .i64 a)), (4, (.int .i64 b)), (11, (.pointer none)), (16, (.int .i64 v2.2.2)), (46, (.bool ((((v1.1 != (-1)) || (v1.2 != 1)) || ((List.length v2.1 : Int) != 0)) || ((List.length v2.2.1 : Int) != 0))))] rfl rfl rfl (fun c6 => ⟨rfl, rfl, rfl, rfl, rfl, rfl, rfl, (by rw [c6]; rfl), trivial⟩) (fun c6 => ⟨rfl, rfl, rfl, rfl, rfl, rfl, rfl, (by rw [c6]; rfl), trivial⟩) ?_
    refine at_s T rfl ?_
    refine at_grp T [17, 18, 19] (s := 47) (c := ((((v1.1 != (-1)) || (v1.2 != 1)) || ((List.length v2.1 : Int) != 0)) || ((List.length v2.2.1 : Int) != 0))) [(0, (.int .i64 w)), (1, (.int .i64 h)), (2, (.int .i64 most)), (3, (.int .i64 a)), (4, (.int .i64 b)), (11, (.pointer none)), (50, (.bool (((((v1.1 != (-1)) || (v1.2 != 1)) || ((List.length v2.1 : Int) != 0)) || ((List.length v2.2.1 : Int) != 0)) || (v2.2.2 != 1))))] rfl rfl rfl (fun c7 => ⟨rfl, rfl, rfl, rfl, rfl, rfl, (by rw [c7]; rfl), trivial⟩) (fun c7 => ⟨rfl, rfl, rfl, rfl, rfl, rfl, (by rw [c7]; rfl), trivial⟩) ?_
    refine at_s T rfl ?_
    refine at_case (s := 51) rfl (fun c8 => ?_) (fun c8 => ?_)
    · replace Z3 := if_t c8 Z3
      iterate 30 refine at_s T rfl ?_
      refine at_end ?_
      refine at_to [(0, (.int .i64 w)), (1, (.int .i64 h)), (2, (.int .i64 most)), (81, (.bool true))] [0] [F] ⟨rfl, rfl, rfl, rfl, trivial⟩ rfl ?_
      refine at_then ?_
      obtain rfl := Option.some.inj Z3
      exact at_mid true [0] rfl ⟨rfl, rfl, rfl, rfl, trivial⟩ rfl
    · replace Z3 := if_f (bf c8) Z3
      iterate 3 refine at_s T rfl ?_
      obtain ⟨v5, V9, Z3⟩ := bind_e Z3
      refine at_cons (at_c (B := fun _ => []) [] rfl rfl rfl rfl has31 rfl rfl (crowd_Crowd_Retarget_2.c a b v5 _ V9) (fun _ => ?_))
      iterate 3 refine at_s T rfl ?_
      refine at_case (s := 58) rfl (fun c10 => ?_) (fun c10 => ?_)
      · replace Z3 := if_t c10 Z3
        iterate 23 refine at_s T rfl ?_
        refine at_end ?_
        refine at_to [(0, (.int .i64 w)), (1, (.int .i64 h)), (2, (.int .i64 most)), (81, (.bool true))] [0] [F] ⟨rfl, rfl, rfl, rfl, trivial⟩ rfl ?_
        refine at_then ?_
        obtain rfl := Option.some.inj Z3
        exact at_mid true [0] rfl ⟨rfl, rfl, rfl, rfl, trivial⟩ rfl
      · replace Z3 := if_f (bf c10) Z3
        iterate 2 refine at_s T rfl ?_
        obtain ⟨v6, V11, Z3⟩ := bind_e Z3
        refine at_cons (at_c (B := fun _ => []) [] rfl rfl rfl rfl has32 rfl rfl (crowd_Crowd_Despawn_2.c a v6 _ V11) (fun _ => ?_))
        iterate 3 refine at_s T rfl ?_
        refine at_case (s := 64) rfl (fun c12 => ?_) (fun c12 => ?_)
        · replace Z3 := if_t c12 Z3
          iterate 17 refine at_s T rfl ?_
          refine at_end ?_
          refine at_to [(0, (.int .i64 w)), (1, (.int .i64 h)), (2, (.int .i64 most)), (81, (.bool true))] [0] [F] ⟨rfl, rfl, rfl, rfl, trivial⟩ rfl ?_
          refine at_then ?_
          obtain rfl := Option.some.inj Z3
          exact at_mid true [0] rfl ⟨rfl, rfl, rfl, rfl, trivial⟩ rfl
        · replace Z3 := if_f (bf c12) Z3
          iterate 2 refine at_s T rfl ?_
          obtain ⟨v7, V13, Z3⟩ := bind_e Z3
          refine at_cons (at_c (B := fun _ => []) [] rfl rfl rfl rfl has26 rfl rfl (crowd_Crowd_Who_2.c a v7 _ V13) (fun _ => ?_))
          iterate 3 refine at_s T rfl ?_
          refine at_case (s := 70) rfl (fun c14 => ?_) (fun c14 => ?_)
          · replace Z3 := if_t c14 Z3
            iterate 11 refine at_s T rfl ?_
            refine at_end ?_
            refine at_to [(0, (.int .i64 w)), (1, (.int .i64 h)), (2, (.int .i64 most)), (81, (.bool true))] [0] [F] ⟨rfl, rfl, rfl, rfl, trivial⟩ rfl ?_
            refine at_then ?_
            obtain rfl := Option.some.inj Z3
            exact at_mid true [0] rfl ⟨rfl, rfl, rfl, rfl, trivial⟩ rfl
          · replace Z3 := if_f (bf c14) Z3
            refine at_s T rfl ?_
            obtain ⟨v8, V15, Z3⟩ := bind_e Z3
            refine at_cons (at_cR (crowd_Crowd_Units_2.R v8) [] [] rfl rfl rfl rfl has27 rfl rfl (crowd_Crowd_Units_2.c  v8 _ V15) ?_)
            rintro _ _ ⟨a3, n3, H3, s3, rfl, rfl⟩
            iterate 4 refine at_s T rfl ?_
            refine at_case (s := 76) rfl (fun c16 => ?_) (fun c16 => ?_)
            · replace Z3 := if_t c16 Z3
              iterate 5 refine at_s T rfl ?_
              refine at_end ?_
              refine at_to [(0, (.int .i64 w)), (1, (.int .i64 h)), (2, (.int .i64 most)), (81, (.bool true))] [0] [F] ⟨rfl, rfl, rfl, rfl, trivial⟩ rfl ?_
              refine at_then ?_
              obtain rfl := Option.some.inj Z3
              exact at_mid true [0] rfl ⟨rfl, rfl, rfl, rfl, trivial⟩ rfl
            · replace Z3 := if_f (bf c16) Z3
              refine at_s T rfl ?_
              obtain ⟨v9, V17, Z3⟩ := bind_e Z3
              refine at_cons (at_cR (crowd_Crowd_Words_2.R v9) [] [] rfl rfl rfl rfl has41 rfl rfl (crowd_Crowd_Words_2.c  v9 _ V17) ?_)
              rintro _ _ ⟨a4, n4, H4, s4, rfl, rfl⟩
              iterate 3 refine at_s T rfl ?_
              refine at_end ?_
              refine at_to [(0, (.int .i64 w)), (1, (.int .i64 h)), (2, (.int .i64 most)), (81, (.bool ((List.length v9 : Int) != 0)))] [0] [F] ⟨rfl, rfl, rfl, rfl, trivial⟩ rfl ?_
              refine at_then ?_
              obtain rfl := Option.some.inj Z3
              exact at_mid ((List.length v9 : Int) != 0) [0] rfl ⟨rfl, rfl, rfl, rfl, trivial⟩ rfl
  · rintro x3 rfl
    refine at_cond rfl (fun c18 => ?_) (fun c18 => ?_)
    · replace H := if_t c18 H
      refine at_seq ?_
      refine at_region [0] rfl ?_
      refine at_s T rfl ?_
      refine at_end ?_
      refine at_sub [(10, (.bool false))] ⟨rfl, trivial⟩ ?_
      refine at_then ?_
      refine at_ret ?_
      refine at_rt ?_
      obtain rfl := Option.some.inj H
      exact at_post (T := T) rfl (.tmp rfl .nil) (fun w o => ⟨(), rfl, own_to [0] rfl o⟩)
    · replace H := if_f (bf c18) H
      refine at_skip ?_
      refine at_then ?_
      refine at_seq ?_
      refine at_region [0, 1, 2, 3, 4, 5, 6, 7, 8, 9, 10, 11] rfl ?_
      iterate 2 refine at_s T rfl ?_
      obtain ⟨v10, V19, H⟩ := bind_e H
      refine at_cons (at_c (B := fun _ => []) [] rfl rfl rfl rfl has29 rfl rfl (where_May.c w h v10 _ V19) (fun _ => ?_))
      refine at_s T rfl ?_
      refine at_grp T [4, 5, 6] (s := 85) (c := v10) [(0, (.int .i64 w)), (1, (.int .i64 h)), (2, (.int .i64 most)), (88, (.bool (v10 && (decide (most ≥ 1)))))] rfl rfl rfl (fun c20 => ⟨rfl, rfl, rfl, (by rw [c20]; rfl), trivial⟩) (fun c20 => ⟨rfl, rfl, rfl, (by rw [c20]; rfl), trivial⟩) ?_
      refine at_s T rfl ?_
      refine at_grp T [8, 9, 10] (s := 89) (c := (v10 && (decide (most ≥ 1)))) [(0, (.int .i64 w)), (1, (.int .i64 h)), (2, (.int .i64 most)), (92, (.bool ((v10 && (decide (most ≥ 1))) && (decide (most ≤ 65536)))))] rfl rfl rfl (fun c21 => ⟨rfl, rfl, rfl, (by rw [c21]; rfl), trivial⟩) (fun c21 => ⟨rfl, rfl, rfl, (by rw [c21]; rfl), trivial⟩) ?_
      refine at_s T rfl ?_
      refine at_end ?_
      refine at_sub [(0, (.int .i64 w)), (1, (.int .i64 h)), (2, (.int .i64 most)), (17, (.bool ((v10 && (decide (most ≥ 1))) && (decide (most ≤ 65536)))))] ⟨rfl, rfl, rfl, rfl, trivial⟩ ?_
      refine at_then ?_
      refine at_seq ?_
      refine at_seq ?_
      refine at_region [0, 1, 2, 3, 4, 5, 6] rfl ?_
      iterate 2 refine at_s T rfl ?_
      refine at_grp T [2, 3, 4, 5, 6] (s := 94) (c := ((v10 && (decide (most ≥ 1))) && (decide (most ≤ 65536)))) [(0, (.int .i64 w)), (1, (.int .i64 h)), (2, (.int .i64 most)), (17, (.bool ((v10 && (decide (most ≥ 1))) && (decide (most ≤ 65536))))), (99, (.bool (((v10 && (decide (most ≥ 1))) && (decide (most ≤ 65536))) && (decide ((w64 (w * h)) > 5000)))))] rfl rfl rfl (fun c22 => ⟨rfl, rfl, rfl, rfl, (by rw [c22]; rfl), trivial⟩) (fun c22 => ⟨rfl, rfl, rfl, rfl, (by rw [c22]; rfl), trivial⟩) ?_
      refine at_end ?_
      refine at_sub [(0, (.int .i64 w)), (1, (.int .i64 h)), (2, (.int .i64 most)), (17, (.bool ((v10 && (decide (most ≥ 1))) && (decide (most ≤ 65536))))), (99, (.bool (((v10 && (decide (most ≥ 1))) && (decide (most ≤ 65536))) && (decide ((w64 (w * h)) > 5000)))))] ⟨rfl, rfl, rfl, rfl, rfl, trivial⟩ ?_
      refine at_then ?_
      refine at_cond rfl (fun c23 => ?_) (fun c23 => ?_)
      · replace H := if_t c23 H
        refine at_seq ?_
        refine at_region [0, 1] rfl ?_
        obtain ⟨v11, V24, H⟩ := bind_e H
        refine at_cons (at_c (B := fun _ => []) [] rfl rfl rfl rfl has28 rfl rfl (law25_told.c  v11 _ V24) (fun _ => ?_))
        refine at_s T rfl ?_
        refine at_end ?_
        refine at_sub [(10, (.bool v11))] ⟨rfl, trivial⟩ ?_
        refine at_then ?_
        refine at_ret ?_
        refine at_rt ?_
        obtain rfl := Option.some.inj H
        exact at_post (T := T) rfl (.tmp rfl .nil) (fun w o => ⟨(), rfl, own_to [0] rfl o⟩)
      · replace H := if_f (bf c23) H
        refine at_skip ?_
        refine at_then ?_
        obtain ⟨z13, Z25, H⟩ := bind_e H
        refine at_seq_mid (σ := Bool) (fun x12 => x12 = z13) (fun x12 => [(10, (.bool x12))]) (fun x12 => [F]) ?_ ?_
        · refine at_region [0, 1, 2, 3, 4, 5, 6, 7, 8, 9, 10] rfl ?_
          obtain ⟨v14, V26, Z25⟩ := bind_e Z25
          refine at_cons (at_c (B := fun _ => []) [] rfl rfl rfl rfl has28 rfl rfl (law25_told.c  v14 _ V26) (fun _ => ?_))
          refine at_s T rfl ?_
          refine at_case (s := 102) rfl (fun c27 => ?_) (fun c27 => ?_)
          · replace Z25 := if_t c27 Z25
            iterate 3 refine at_s T rfl ?_
            obtain ⟨v15, V28, Z25⟩ := bind_e Z25
            refine at_cons (at_cR (crowd_New.R v15) [] [] rfl rfl rfl rfl has24 rfl rfl (crowd_New.c w h most v15 _ V28) ?_)
            rintro _ _ ⟨_, _, O29, rfl, rfl⟩
            rcases v15 with _ | yv15
            · replace Z25 := optm_n rfl Z25
              obtain ⟨rfl, rfl⟩ := O29
              iterate 5 refine at_s T rfl ?_
              refine at_end ?_
              refine at_sub [(10, (.bool (false == ((v10 && (decide (most ≥ 1))) && (decide (most ≤ 65536))))))] ⟨rfl, trivial⟩ ?_
              refine at_then ?_
              obtain rfl := Option.some.inj Z25
              exact at_mid (false == ((v10 && (decide (most ≥ 1))) && (decide (most ≤ 65536)))) [0] rfl ⟨rfl, trivial⟩ rfl
            · replace Z25 := optm_s rfl Z25
              obtain ⟨b5, b6, a7, H7, a8, n8, H8, b9, a10, n10, H10, s7, s8, s10, rfl, rfl⟩ := O29
              iterate 5 refine at_s T rfl ?_
              refine at_end ?_
              refine at_to [(10, (.bool (true == ((v10 && (decide (most ≥ 1))) && (decide (most ≤ 65536))))))] [0] [F] ⟨rfl, trivial⟩ rfl ?_
              refine at_then ?_
              obtain rfl := Option.some.inj Z25
              exact at_mid (true == ((v10 && (decide (most ≥ 1))) && (decide (most ≤ 65536)))) [0] rfl ⟨rfl, trivial⟩ rfl
          · replace Z25 := if_f (bf c27) Z25
            iterate 9 refine at_s T rfl ?_
            refine at_end ?_
            refine at_sub [(10, (.bool false))] ⟨rfl, trivial⟩ ?_
            refine at_then ?_
            obtain rfl := Option.some.inj Z25
            exact at_mid false [0] rfl ⟨rfl, trivial⟩ rfl
        · rintro x12 rfl
          refine at_ret ?_
          obtain rfl := Option.some.inj H
          exact at_post (T := T) rfl (.tmp rfl .nil) (fun w o => ⟨(), rfl, own_to [0] rfl o⟩)
def law25_CrowdNone.Pure : Prop := ∀ (w : Int) (h : Int) (most : Int) (a : Int) (b : Int), inI64 w → inI64 h → inI64 most → inI64 a → inI64 b → law25_CrowdNone.f w h most a b = some true
end Go.Proofs.Ytkidcebfpengmaa
