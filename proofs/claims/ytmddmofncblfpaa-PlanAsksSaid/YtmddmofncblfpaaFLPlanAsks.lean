import Derived.Test.YtmddmofncblfpaaT
import Derived.Test.YtmddmofncblfpaaFlaw23
import Derived.Test.YtmddmofncblfpaaFplan
import Derived.Test.YtmddmofncblfpaaFref1
import Derived.Test.YtmddmofncblfpaaFref21
namespace Go.Proofs.Ytmddmofncblfpaa
open Go.Hx
set_option maxRecDepth 100000
set_option linter.unusedVariables false
/-! ### herdsman/herdsmanlaw23.PlanAsks: function 11 -/
def law23_PlanAsks.l0 : Nat → (List Int) → Int → Int → List api_Unit → Int → Option (Int × Int × (List api_Unit))
  | 0, _, _, _, _, _ => none
  | k12 + 1, k, v5, v6, x10, x11 => if x11 < (List.length x10 : Int) then ((if x11 > 0 then (if (¬ (List.length k : Int) = 0) then (if (0 ≤ (Int.tmod x11 (List.length k : Int)) ∧ (Int.tmod x11 (List.length k : Int)) < (List.length k : Int)) then (some ((Int.tmod (rd k (Int.tmod x11 (List.length k : Int))) 3) == 0)) else none) else none) else (some false)).bind fun x13 => if x13 = true then (if (0 ≤ (0 : Int) ∧ (0 : Int) < (List.length x10 : Int)) then (if (0 ≤ x11 ∧ x11 < (List.length x10 : Int)) then (law23_PlanAsks.l0 k12 k v5 v6 (List.set x10 (Int.toNat x11) (api_Unit.mk ((rd x10 x11).Id) ((rd x10 x11).Cell) ((rd x10 0).Goal))) (w64 (x11 + 1))) else none) else none) else (law23_PlanAsks.l0 k12 k v5 v6 x10 (w64 (x11 + 1)))) else (some (v5, v6, x10))
def law23_PlanAsks.f (w : Int) (h : Int) (l : (List api_Unit)) (k : (List Int)) (raw : Bool) : Option Bool := if (0 ≤ (0 : Int) ∧ (0 : Int) ≤ (if 20 < (List.length l : Int) then 20 else (List.length l : Int)) ∧ (if 20 < (List.length l : Int) then 20 else (List.length l : Int)) ≤ (List.length l : Int)) then (if (List.length ([] : List api_Unit) + List.length (sub' l 0 (if 20 < (List.length l : Int) then 20 else (List.length l : Int))) ≤ 1099511627776) then ((if (!raw) = true then ((ref1_Within.f w 1 60).bind fun v5 => (ref1_Within.f h 1 60).bind fun v6 => (ref21_Made.f v5 v6 k).bind fun v7 => law23_PlanAsks.l0 fuel k v5 v6 v7 0) else (some (w, h, (([] : List api_Unit) ++ (sub' l 0 (if 20 < (List.length l : Int) then 20 else (List.length l : Int))))))).bind fun (x1, x2, x3) => if (List.length ([] : List api_Unit) + List.length x3 ≤ 1099511627776) then ((plan_Pairs.f x1 x2 x3).bind fun v15 => ((law23_told.f).bind fun v18 => if v18 = true then ((plan_May.f x1 x2 x3).bind fun v19 => (ref21_May.f x1 x2 x3).bind fun v20 => if (v19 == v20) = true then ((ref21_Pairs.f x1 x2 x3).bind fun v21 => (ref21_SamePairs.f v15 v21).bind fun v22 => if v22 = true then ((plan_Goals.f x3).bind fun v23 => (ref21_Goals.f x3).bind fun v24 => (ref1_Ints.f v23 v24).bind fun v25 => if v25 = true then ((ref21_Same.f x3 (([] : List api_Unit) ++ x3)).bind fun v26 => some v26) else (some false)) else (some false)) else (some false)) else (some false)).bind fun x16 => some x16) else none) else none) else none
set_option maxHeartbeats 4000000 in
theorem law23_PlanAsks.c {a_l : Option Addr} {n_l : Nat} {a_k : Option Addr} {n_k : Nat} (w : Int) (h : Int) (l : (List api_Unit)) (k : (List Int)) (raw : Bool) (r : Bool) (F : Hp) (H : law23_PlanAsks.f w h l k raw = some r) (h_l : SliceR k_api_Unit l a_l F) (c_l : List.length l ≤ n_l) (h_k : SliceR (Fl.int .i64) k a_k F) (c_k : List.length k ≤ n_k) :
    CallsL Try.prog 11 [(.int .i64 w), (.int .i64 h), (.slice a_l (List.length l) n_l), (.slice a_k (List.length k) n_k), (.bool raw)] [F] (fun _ : Unit => (.bool r)) (fun _ => [F]) := by
  unfold law23_PlanAsks.f at H
  refine calls_atL [(0, (.int .i64 w)), (1, (.int .i64 h)), (2, (.slice a_l (List.length l) n_l)), (3, (.slice a_k (List.length k) n_k)), (4, (.bool raw))] Try.func11 rfl rfl ⟨rfl, rfl, rfl, rfl, rfl, trivial⟩ (fun W => ?_)
  refine at_seq ?_
  refine at_region [0] rfl ?_
  refine at_s T rfl ?_
  refine at_end ?_
  refine at_sub [(0, (.int .i64 w)), (1, (.int .i64 h)), (2, (.slice a_l (List.length l) n_l)), (3, (.slice a_k (List.length k) n_k)), (4, (.bool raw))] ⟨rfl, rfl, rfl, rfl, rfl, trivial⟩ ?_
  refine at_then ?_
  refine at_seq ?_
  refine at_region [0, 1, 2, 3, 4, 5, 6, 7] rfl ?_
  refine at_cons (at_bs (k := k_api_Unit) T ([] : List api_Unit) rfl rfl rfl rfl rfl rfl rfl rfl rfl (fun a1 H1 s1 => ?_))
  iterate 4 refine at_s T rfl ?_
  obtain ⟨c1, H⟩ := chk_e H
  refine at_v rfl (g_sub T rfl rfl rfl rfl rfl rfl c1 c_l) ?_
  obtain ⟨c2, H⟩ := chk_e H
  refine at_cons (at_ap (k := k_api_Unit) (xs := ([] : List api_Unit)) T (g := 1) rfl rfl rfl rfl rfl rfl rfl rfl rfl rfl s1 (sub_r (ro_of h_l (j := 0) rfl) c1 c_l) c2 rfl (fun a2 n2 H2 s2 => ?_))
  refine at_s T rfl ?_
  refine at_end ?_
  refine at_sub [(0, (.int .i64 w)), (1, (.int .i64 h)), (3, (.slice a_k (List.length k) n_k)), (4, (.bool raw)), (11, (.slice a2 (List.length (([] : List api_Unit) ++ (sub' l 0 (if 20 < (List.length l : Int) then 20 else (List.length l : Int))))) n2))] ⟨rfl, rfl, rfl, rfl, rfl, trivial⟩ ?_
  refine at_then ?_
  obtain ⟨z4, Z3, H⟩ := bind_e H
  refine at_seq_mid (σ := Int × Int × List api_Unit × Option Addr × Nat × Hp) (fun ⟨x1, x2, x3, a3, n3, H3⟩ => (x1, x2, x3) = z4 ∧ SliceO k_api_Unit 47 x3 a3 n3 H3) (fun ⟨x1, x2, x3, a3, n3, H3⟩ => [(0, (.int .i64 x1)), (1, (.int .i64 x2)), (11, (.slice a3 (List.length x3) n3))]) (fun ⟨x1, x2, x3, a3, n3, H3⟩ => [F, H3]) ?_ ?_
  · refine at_seq ?_
    refine at_region [0, 1] rfl ?_
    iterate 2 refine at_s T rfl ?_
    refine at_end ?_
    refine at_sub [(0, (.int .i64 w)), (1, (.int .i64 h)), (3, (.slice a_k (List.length k) n_k)), (11, (.slice a2 (List.length (([] : List api_Unit) ++ (sub' l 0 (if 20 < (List.length l : Int) then 20 else (List.length l : Int))))) n2)), (23, (.bool (!raw)))] ⟨rfl, rfl, rfl, rfl, rfl, trivial⟩ ?_
    refine at_then ?_
    refine at_cond rfl (fun c4 => ?_) (fun c4 => ?_)
    · replace Z3 := if_t c4 Z3
      refine at_seq ?_
      refine at_region [0, 1, 2, 3, 4, 5] rfl ?_
      refine at_s T rfl ?_
      obtain ⟨v5, V5, Z3⟩ := bind_e Z3
      refine at_cons (at_c (B := fun _ => []) [] rfl rfl rfl rfl has15 rfl rfl (ref1_Within.c w 1 60 v5 _ V5) (fun _ => ?_))
      refine at_s T rfl ?_
      obtain ⟨v6, V6, Z3⟩ := bind_e Z3
      refine at_cons (at_c (B := fun _ => []) [] rfl rfl rfl rfl has15 rfl rfl (ref1_Within.c h 1 60 v6 _ V6) (fun _ => ?_))
      iterate 2 refine at_s T rfl ?_
      refine at_end ?_
      refine at_to [(0, (.int .i64 v5)), (1, (.int .i64 v6)), (3, (.slice a_k (List.length k) n_k))] [0] [F] ⟨rfl, rfl, rfl, trivial⟩ rfl ?_
      refine at_then ?_
      refine at_seq ?_
      refine at_region [0, 1, 2, 3, 4] rfl ?_
      iterate 3 refine at_s T rfl ?_
      obtain ⟨v7, V7, Z3⟩ := bind_e Z3
      refine at_cons (at_cR (ref21_Made.R v7) [] [] rfl rfl rfl rfl has41 rfl rfl (ref21_Made.c v5 v6 k v7 _ V7 (ro_of h_k (j := 0) rfl) c_k) ?_)
      rintro _ _ ⟨a4, n4, H4, s4, rfl, rfl⟩
      refine at_s T rfl ?_
      refine at_end ?_
      refine at_sub [(0, (.int .i64 v5)), (1, (.int .i64 v6)), (3, (.slice a_k (List.length k) n_k)), (11, (.slice a4 (List.length v7) n4))] ⟨rfl, rfl, rfl, rfl, trivial⟩ ?_
      refine at_then ?_
      refine at_seq ?_
      refine at_region [0] rfl ?_
      refine at_s T rfl ?_
      refine at_end ?_
      refine at_sub [(0, (.int .i64 v5)), (1, (.int .i64 v6)), (3, (.slice a_k (List.length k) n_k)), (11, (.slice a4 (List.length v7) n4)), (12, (.int .i64 0))] ⟨rfl, rfl, rfl, rfl, rfl, trivial⟩ ?_
      refine at_then ?_
      refine at_block ?_
      refine at_loopL (σ := Nat × List api_Unit × Int × Option Addr × Nat × Hp) (fun ⟨k12, x10, x11, a6, n6, H6⟩ => law23_PlanAsks.l0 k12 k v5 v6 x10 x11 = some z4 ∧ SliceO k_api_Unit 47 x10 a6 n6 H6) (fun ⟨k12, x10, x11, a6, n6, H6⟩ => [(0, (.int .i64 v5)), (1, (.int .i64 v6)), (3, (.slice a_k (List.length k) n_k)), (11, (.slice a6 (List.length x10) n6)), (12, (.int .i64 x11))]) (fun ⟨k12, x10, x11, a6, n6, H6⟩ => [F, H6]) (fun s => s.1) (fuel, v7, 0, a4, n4, H4) [0, 0] ⟨Z3, s4⟩ ⟨rfl, rfl, rfl, rfl, rfl, trivial⟩ rfl ?_
      rintro ⟨k12, x10, x11, a6, n6, H6⟩ ⟨Z8, s6⟩
      replace Z8 : law23_PlanAsks.l0 k12 k v5 v6 x10 x11 = some z4 := Z8
      rcases k12 with _ | k12
      · rw [law23_PlanAsks.l0] at Z8; cases Z8
      · rw [law23_PlanAsks.l0] at Z8
        refine at_seq ?_
        refine at_seq ?_
        refine at_region [0, 1, 2, 3] rfl ?_
        iterate 4 refine at_s T rfl ?_
        refine at_end ?_
        refine at_sub [(0, (.int .i64 v5)), (1, (.int .i64 v6)), (3, (.slice a_k (List.length k) n_k)), (11, (.slice a6 (List.length x10) n6)), (12, (.int .i64 x11)), (35, (.bool (decide (x11 < (List.length x10 : Int)))))] ⟨rfl, rfl, rfl, rfl, rfl, rfl, trivial⟩ ?_
        refine at_then ?_
        refine at_cond rfl (fun c9 => ?_) (fun c9 => ?_)
        · replace Z8 := if_t (of_decide_eq_true c9) Z8
          refine at_skip ?_
          refine at_then ?_
          refine at_seq ?_
          refine at_block ?_
          obtain ⟨z14, Z10, Z8⟩ := bind_e Z8
          refine at_seq_mid (σ := Bool) (fun x13 => x13 = z14) (fun x13 => [(0, (.int .i64 v5)), (1, (.int .i64 v6)), (3, (.slice a_k (List.length k) n_k)), (11, (.slice a6 (List.length x10) n6)), (12, (.int .i64 x11)), (50, (.bool x13))]) (fun x13 => [F, H6]) ?_ ?_
          · refine at_region [0, 1, 2, 3, 4, 5, 6, 7, 8, 9, 10, 11, 12] rfl ?_
            iterate 3 refine at_s T rfl ?_
            refine at_case (s := 40) rfl (fun c11 => ?_) (fun c11 => ?_)
            · replace Z10 := if_t (of_decide_eq_true c11) Z10
              iterate 4 refine at_s T rfl ?_
              obtain ⟨c12, Z10⟩ := chk_e Z10
              refine at_v rfl (g_rem rfl rfl rfl c12) ?_
              obtain ⟨c13, Z10⟩ := chk_e Z10
              obtain ⟨q7, o7, e7⟩ := h_k.addr c13.1 c13.2
              refine at_v rfl (g_index T rfl rfl rfl rfl rfl e7 c13.1 c13.2) ?_
              refine at_v rfl (g_load T rfl rfl rfl rfl (in_elem1 (k := (Fl.int .i64)) (ro_of h_k (j := 0) rfl) e7 c13 0 rfl)) ?_
              iterate 3 refine at_s T rfl ?_
              refine at_end ?_
              refine at_sub [(0, (.int .i64 v5)), (1, (.int .i64 v6)), (3, (.slice a_k (List.length k) n_k)), (11, (.slice a6 (List.length x10) n6)), (12, (.int .i64 x11)), (50, (.bool ((Int.tmod (rd k (Int.tmod x11 (List.length k : Int))) 3) == 0)))] ⟨rfl, rfl, rfl, rfl, rfl, rfl, trivial⟩ ?_
              refine at_then ?_
              obtain rfl := Option.some.inj Z10
              exact at_mid ((Int.tmod (rd k (Int.tmod x11 (List.length k : Int))) 3) == 0) [0, 0] rfl ⟨rfl, rfl, rfl, rfl, rfl, rfl, trivial⟩ rfl
            · replace Z10 := if_f (of_decide_eq_false c11) Z10
              iterate 10 refine at_s T rfl ?_
              refine at_end ?_
              refine at_sub [(0, (.int .i64 v5)), (1, (.int .i64 v6)), (3, (.slice a_k (List.length k) n_k)), (11, (.slice a6 (List.length x10) n6)), (12, (.int .i64 x11)), (50, (.bool false))] ⟨rfl, rfl, rfl, rfl, rfl, rfl, trivial⟩ ?_
              refine at_then ?_
              obtain rfl := Option.some.inj Z10
              exact at_mid false [0, 0] rfl ⟨rfl, rfl, rfl, rfl, rfl, rfl, trivial⟩ rfl
          · rintro x13 rfl
            refine at_cond rfl (fun c14 => ?_) (fun c14 => ?_)
            · replace Z8 := if_t c14 Z8
              refine at_region [0, 1, 2, 3, 4, 5, 6, 7, 8] rfl ?_
              iterate 3 refine at_s T rfl ?_
              obtain ⟨c15, Z8⟩ := chk_e Z8
              obtain ⟨q8, o8, e8⟩ := s6.r.addr c15.1 c15.2
              refine at_v rfl (g_index T rfl rfl rfl rfl rfl e8 c15.1 c15.2) ?_
              refine at_s T rfl ?_
              refine at_v rfl (g_load T rfl rfl rfl rfl (in_elem1 (k := k_api_Unit) (own_of s6 (j := 1) rfl) e8 c15 2 rfl)) ?_
              obtain ⟨c16, Z8⟩ := chk_e Z8
              refine at_v rfl (g_index T rfl rfl rfl rfl rfl e8 c16.1 c16.2) ?_
              refine at_s T rfl ?_
              refine at_cons (at_se (k := k_api_Unit) T 1 2 (api_Unit.mk ((rd x10 x11).Id) ((rd x10 x11).Cell) ((rd x10 0).Goal)) rfl rfl rfl rfl rfl rfl s6 e8 c16 rfl rfl rfl (fun H9 s9 => ?_))
              refine at_to [(0, (.int .i64 v5)), (1, (.int .i64 v6)), (3, (.slice a_k (List.length k) n_k)), (11, (.slice a6 (List.length (List.set x10 (Int.toNat x11) (api_Unit.mk ((rd x10 x11).Id) ((rd x10 x11).Cell) ((rd x10 0).Goal)))) n6)), (12, (.int .i64 x11))] [0, 0] [F, H9] ⟨rfl, rfl, rfl, (by first | rfl | (simp only [List.length_set]; rfl)), rfl, trivial⟩ rfl ?_
              refine at_end ?_
              refine at_sub [(0, (.int .i64 v5)), (1, (.int .i64 v6)), (3, (.slice a_k (List.length k) n_k)), (11, (.slice a6 (List.length (List.set x10 (Int.toNat x11) (api_Unit.mk ((rd x10 x11).Id) ((rd x10 x11).Cell) ((rd x10 0).Goal)))) n6)), (12, (.int .i64 x11))] ⟨rfl, rfl, rfl, rfl, rfl, trivial⟩ ?_
              refine at_nb ?_
              refine at_then ?_
              refine at_region [0, 1, 2] rfl ?_
              iterate 3 refine at_s T rfl ?_
              refine at_end ?_
              refine at_sub [(0, (.int .i64 v5)), (1, (.int .i64 v6)), (3, (.slice a_k (List.length k) n_k)), (11, (.slice a6 (List.length (List.set x10 (Int.toNat x11) (api_Unit.mk ((rd x10 x11).Id) ((rd x10 x11).Cell) ((rd x10 0).Goal)))) n6)), (12, (.int .i64 (w64 (x11 + 1))))] ⟨rfl, rfl, rfl, rfl, rfl, trivial⟩ ?_
              refine at_then ?_
              exact at_roundL (k12, (List.set x10 (Int.toNat x11) (api_Unit.mk ((rd x10 x11).Id) ((rd x10 x11).Cell) ((rd x10 0).Goal))), (w64 (x11 + 1)), a6, n6, H9) [0, 0] ⟨Z8, s9⟩ (Nat.lt_succ_self _) ⟨rfl, rfl, rfl, rfl, rfl, trivial⟩ rfl
            · replace Z8 := if_f (bf c14) Z8
              refine at_skip ?_
              refine at_nb ?_
              refine at_then ?_
              refine at_region [0, 1, 2] rfl ?_
              iterate 3 refine at_s T rfl ?_
              refine at_end ?_
              refine at_sub [(0, (.int .i64 v5)), (1, (.int .i64 v6)), (3, (.slice a_k (List.length k) n_k)), (11, (.slice a6 (List.length x10) n6)), (12, (.int .i64 (w64 (x11 + 1))))] ⟨rfl, rfl, rfl, rfl, rfl, trivial⟩ ?_
              refine at_then ?_
              exact at_roundL (k12, x10, (w64 (x11 + 1)), a6, n6, H6) [0, 0] ⟨Z8, s6⟩ (Nat.lt_succ_self _) ⟨rfl, rfl, rfl, rfl, rfl, trivial⟩ rfl
        · replace Z8 := if_f (of_decide_eq_false c9) Z8
          refine at_exit ?_
          refine at_xt ?_
          refine at_xt ?_
          refine at_xb ?_
          refine at_then ?_
          obtain rfl := Option.some.inj Z8
          exact at_mid (v5, v6, x10, a6, n6, H6) [0, 0] ⟨rfl, s6⟩ ⟨rfl, rfl, rfl, trivial⟩ rfl
    · replace Z3 := if_f (bf c4) Z3
      refine at_skip ?_
      refine at_then ?_
      obtain rfl := Option.some.inj Z3
      exact at_mid (w, h, (([] : List api_Unit) ++ (sub' l 0 (if 20 < (List.length l : Int) then 20 else (List.length l : Int)))), a2, n2, H2) [0, 0] ⟨rfl, s2⟩ ⟨rfl, rfl, rfl, trivial⟩ rfl
  · rintro ⟨x1, x2, x3, a3, n3, H3⟩ ⟨rfl, s3⟩
    refine at_seq ?_
    refine at_region [0, 1, 2, 3] rfl ?_
    refine at_cons (at_bs (k := k_api_Unit) T ([] : List api_Unit) rfl rfl rfl rfl rfl rfl rfl rfl rfl (fun a10 H10 s10 => ?_))
    refine at_s T rfl ?_
    obtain ⟨c17, H⟩ := chk_e H
    refine at_cons (at_ap (k := k_api_Unit) (xs := ([] : List api_Unit)) T (g := 2) rfl rfl rfl rfl rfl rfl rfl rfl rfl rfl s10 (own_of s3 (j := 1) rfl) c17 rfl (fun a11 n11 H11 s11 => ?_))
    refine at_s T rfl ?_
    refine at_end ?_
    refine at_sub [(0, (.int .i64 x1)), (1, (.int .i64 x2)), (11, (.slice a3 (List.length x3) n3)), (13, (.slice a11 (List.length (([] : List api_Unit) ++ x3)) n11))] ⟨rfl, rfl, rfl, rfl, trivial⟩ ?_
    refine at_then ?_
    refine at_seq ?_
    refine at_region [0, 1, 2, 3, 4] rfl ?_
    iterate 3 refine at_s T rfl ?_
    obtain ⟨v15, V18, H⟩ := bind_e H
    refine at_cons (at_cR (plan_Pairs.R v15) [] [] rfl rfl rfl rfl has42 rfl rfl (plan_Pairs.c x1 x2 x3 v15 _ V18 (own_of s3 (j := 1) rfl) s3.cap_le) ?_)
    rintro _ _ ⟨a12, n12, H12, s12, rfl, rfl⟩
    refine at_s T rfl ?_
    refine at_end ?_
    refine at_sub [(0, (.int .i64 x1)), (1, (.int .i64 x2)), (11, (.slice a3 (List.length x3) n3)), (13, (.slice a11 (List.length (([] : List api_Unit) ++ x3)) n11)), (14, (.slice a12 (List.length v15) n12))] ⟨rfl, rfl, rfl, rfl, rfl, trivial⟩ ?_
    refine at_then ?_
    obtain ⟨z17, Z19, H⟩ := bind_e H
    refine at_seq_mid (σ := Bool) (fun x16 => x16 = z17) (fun x16 => [(10, (.bool x16))]) (fun x16 => [F]) ?_ ?_
    · refine at_region [0, 1, 2, 3, 4, 5, 6, 7, 8, 9, 10, 11, 12, 13, 14, 15, 16, 17, 18, 19, 20, 21, 22, 23, 24, 25, 26, 27, 28, 29, 30, 31, 32] rfl ?_
      obtain ⟨v18, V20, Z19⟩ := bind_e Z19
      refine at_cons (at_c (B := fun _ => []) [] rfl rfl rfl rfl has43 rfl rfl (law23_told.c  v18 _ V20) (fun _ => ?_))
      refine at_s T rfl ?_
      refine at_case (s := 67) rfl (fun c21 => ?_) (fun c21 => ?_)
      · replace Z19 := if_t c21 Z19
        iterate 3 refine at_s T rfl ?_
        obtain ⟨v19, V22, Z19⟩ := bind_e Z19
        refine at_cons (at_c (B := fun _ => []) [] rfl rfl rfl rfl has44 rfl rfl (plan_May.c x1 x2 x3 v19 _ V22 (own_of s3 (j := 1) rfl) s3.cap_le) (fun _ => ?_))
        iterate 3 refine at_s T rfl ?_
        obtain ⟨v20, V23, Z19⟩ := bind_e Z19
        refine at_cons (at_c (B := fun _ => []) [] rfl rfl rfl rfl has45 rfl rfl (ref21_May.c x1 x2 x3 v20 _ V23 (own_of s3 (j := 1) rfl) s3.cap_le) (fun _ => ?_))
        iterate 3 refine at_s T rfl ?_
        refine at_case (s := 78) rfl (fun c24 => ?_) (fun c24 => ?_)
        · replace Z19 := if_t c24 Z19
          iterate 4 refine at_s T rfl ?_
          obtain ⟨v21, V25, Z19⟩ := bind_e Z19
          refine at_cons (at_cR (ref21_Pairs.R v21) [] [] rfl rfl rfl rfl has47 rfl rfl (ref21_Pairs.c x1 x2 x3 v21 _ V25 (own_of s3 (j := 1) rfl) s3.cap_le) ?_)
          rintro _ _ ⟨a13, n13, H13, s13, rfl, rfl⟩
          obtain ⟨v22, V26, Z19⟩ := bind_e Z19
          refine at_cons (at_c (B := fun _ => []) [] rfl rfl rfl rfl has46 rfl rfl (ref21_SamePairs.c v15 v21 v22 _ V26 (down_of s12 (j := 3) rfl) s12.cap_le (down_of s13 (j := 4) rfl) s13.cap_le) (fun _ => ?_))
          iterate 2 refine at_s T rfl ?_
          refine at_case (s := 86) rfl (fun c27 => ?_) (fun c27 => ?_)
          · replace Z19 := if_t c27 Z19
            refine at_s T rfl ?_
            obtain ⟨v23, V28, Z19⟩ := bind_e Z19
            refine at_cons (at_cR (plan_Goals.R v23) [] [] rfl rfl rfl rfl has49 rfl rfl (plan_Goals.c x3 v23 _ V28 (own_of s3 (j := 1) rfl) s3.cap_le) ?_)
            rintro _ _ ⟨a14, n14, H14, s14, rfl, rfl⟩
            refine at_s T rfl ?_
            obtain ⟨v24, V29, Z19⟩ := bind_e Z19
            refine at_cons (at_cR (ref21_Goals.R v24) [] [] rfl rfl rfl rfl has50 rfl rfl (ref21_Goals.c x3 v24 _ V29 (own_of s3 (j := 1) rfl) s3.cap_le) ?_)
            rintro _ _ ⟨a15, n15, H15, s15, rfl, rfl⟩
            obtain ⟨v25, V30, Z19⟩ := bind_e Z19
            refine at_cons (at_c (B := fun _ => []) [] rfl rfl rfl rfl has48 rfl rfl (ref1_Ints.c v23 v24 v25 _ V30 (own_of s14 (j := 5) rfl) s14.cap_le (own_of s15 (j := 6) rfl) s15.cap_le) (fun _ => ?_))
            iterate 2 refine at_s T rfl ?_
            refine at_case (s := 93) rfl (fun c31 => ?_) (fun c31 => ?_)
            · replace Z19 := if_t c31 Z19
              iterate 2 refine at_s T rfl ?_
              obtain ⟨v26, V32, Z19⟩ := bind_e Z19
              refine at_cons (at_c (B := fun _ => []) [] rfl rfl rfl rfl has30 rfl rfl (ref21_Same.c x3 (([] : List api_Unit) ++ x3) v26 _ V32 (own_of s3 (j := 1) rfl) s3.cap_le (own_of s11 (j := 2) rfl) s11.cap_le) (fun _ => ?_))
              iterate 2 refine at_s T rfl ?_
              refine at_end ?_
              refine at_to [(10, (.bool v26))] [0] [F] ⟨rfl, trivial⟩ rfl ?_
              refine at_then ?_
              obtain rfl := Option.some.inj Z19
              exact at_mid v26 [0] rfl ⟨rfl, trivial⟩ rfl
            · replace Z19 := if_f (bf c31) Z19
              iterate 5 refine at_s T rfl ?_
              refine at_end ?_
              refine at_to [(10, (.bool false))] [0] [F] ⟨rfl, trivial⟩ rfl ?_
              refine at_then ?_
              obtain rfl := Option.some.inj Z19
              exact at_mid false [0] rfl ⟨rfl, trivial⟩ rfl
          · replace Z19 := if_f (bf c27) Z19
            iterate 12 refine at_s T rfl ?_
            refine at_end ?_
            refine at_to [(10, (.bool false))] [0] [F] ⟨rfl, trivial⟩ rfl ?_
            refine at_then ?_
            obtain rfl := Option.some.inj Z19
            exact at_mid false [0] rfl ⟨rfl, trivial⟩ rfl
        · replace Z19 := if_f (bf c24) Z19
          iterate 20 refine at_s T rfl ?_
          refine at_end ?_
          refine at_to [(10, (.bool false))] [0] [F] ⟨rfl, trivial⟩ rfl ?_
          refine at_then ?_
          obtain rfl := Option.some.inj Z19
          exact at_mid false [0] rfl ⟨rfl, trivial⟩ rfl
      · replace Z19 := if_f (bf c21) Z19
        iterate 31 refine at_s T rfl ?_
        refine at_end ?_
        refine at_to [(10, (.bool false))] [0] [F] ⟨rfl, trivial⟩ rfl ?_
        refine at_then ?_
        obtain rfl := Option.some.inj Z19
        exact at_mid false [0] rfl ⟨rfl, trivial⟩ rfl
    · rintro x16 rfl
      refine at_ret ?_
      obtain rfl := Option.some.inj H
      exact at_post (T := T) rfl (.tmp rfl .nil) (fun w o => ⟨(), rfl, own_to [0] rfl o⟩)
def law23_PlanAsks.Pure : Prop := ∀ (w : Int) (h : Int) (l : (List api_Unit)) (k : (List Int)) (raw : Bool), inI64 w → inI64 h → (∀ y ∈ l, (inI64 y.Id ∧ inI64 y.Cell ∧ inI64 y.Goal)) → (∀ y ∈ k, inI64 y) → List.length l ≤ 9223372036854775807 → List.length k ≤ 9223372036854775807 → law23_PlanAsks.f w h l k raw = some true
end Go.Proofs.Ytmddmofncblfpaa
