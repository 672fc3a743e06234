import Derived.Test.YtmddmofncblfpaaT
import Derived.Test.YtmddmofncblfpaaFlaw23
import Derived.Test.YtmddmofncblfpaaFplan
import Derived.Test.YtmddmofncblfpaaFref1
import Derived.Test.YtmddmofncblfpaaFref21
import Derived.Test.YtmddmofncblfpaaFwhere
namespace Go.Proofs.Ytmddmofncblfpaa
open Go.Hx
set_option maxRecDepth 100000
set_option linter.unusedVariables false
/-! ### herdsman/herdsmanlaw23.PlanCovers: function 13 -/
def law23_PlanCovers.l5 : Nat → Int → Int → Int → Int → List api_Unit → (List api_Pair) → Bool → Int → Option (Sum Bool Unit)
  | 0, _, _, _, _, _, _, _, _ => none
  | k46 + 1, v1, v2, x17, x39, x6, v10, x44, x45 => if x45 < (List.length x6 : Int) then (if x44 = true then (law23_PlanCovers.l5 k46 v1 v2 x17 x39 x6 v10 true (w64 (x45 + 1))) else (if (0 ≤ x45 ∧ x45 < (List.length x6 : Int)) then (if (0 ≤ x17 ∧ x17 < (List.length v10 : Int)) then (if (0 ≤ x39 ∧ x39 < (List.length ((rd v10 x17).Ids) : Int)) then (if ((rd x6 x45).Id == (rd ((rd v10 x17).Ids) x39)) = true then (if ((rd x6 x45).Goal == (rd v10 x17).Goal) = true then ((where_Sector.f v1 v2 ((rd x6 x45).Cell)).bind fun v47 => law23_PlanCovers.l5 k46 v1 v2 x17 x39 x6 v10 (v47 == (rd v10 x17).Sector) (w64 (x45 + 1))) else (law23_PlanCovers.l5 k46 v1 v2 x17 x39 x6 v10 false (w64 (x45 + 1)))) else (law23_PlanCovers.l5 k46 v1 v2 x17 x39 x6 v10 false (w64 (x45 + 1)))) else none) else none) else none)) else ((if (!x44) = true then (some true) else (if x39 > 0 then (if (0 ≤ x17 ∧ x17 < (List.length v10 : Int)) then (if (0 ≤ (w64 (x39 - 1)) ∧ (w64 (x39 - 1)) < (List.length ((rd v10 x17).Ids) : Int)) then (if (0 ≤ x39 ∧ x39 < (List.length ((rd v10 x17).Ids) : Int)) then (some (decide ((rd ((rd v10 x17).Ids) (w64 (x39 - 1))) ≥ (rd ((rd v10 x17).Ids) x39)))) else none) else none) else none) else (some false))).bind fun x48 => if x48 = true then (some (Sum.inl false)) else (some (Sum.inr ())))
def law23_PlanCovers.l4 : Nat → Int → Int → Int → Int → List api_Unit → (List api_Pair) → Int → Int → Option (Sum Bool (Int × Int))
  | 0, _, _, _, _, _, _, _, _ => none
  | k40 + 1, v1, v2, x22, x17, x6, v10, x38, x39 => if (0 ≤ x17 ∧ x17 < (List.length v10 : Int)) then (if x39 < (List.length ((rd v10 x17).Ids) : Int) then ((law23_PlanCovers.l5 fuel v1 v2 x17 x39 x6 v10 false 0).bind fun zz => match zz with | Sum.inl q => some (Sum.inl q) | Sum.inr _ => law23_PlanCovers.l4 k40 v1 v2 x22 x17 x6 v10 (w64 (x38 + 1)) (w64 (x39 + 1))) else (some (Sum.inr (x38, x22)))) else none
def law23_PlanCovers.l3 : Nat → Int → Int → Int → Int → Int → List api_Unit → (List api_Pair) → Int → Option (Sum Bool (Int × Int))
  | 0, _, _, _, _, _, _, _, _ => none
  | k33 + 1, v1, v2, x22, x17, x15, x6, v10, x32 => if x32 < x17 then ((if (0 ≤ x32 ∧ x32 < (List.length v10 : Int)) then (if (0 ≤ x17 ∧ x17 < (List.length v10 : Int)) then (if ((rd v10 x32).Goal == (rd v10 x17).Goal) = true then (some ((rd v10 x32).Sector == (rd v10 x17).Sector)) else (some false)) else none) else none).bind fun x34 => if x34 = true then (some (Sum.inl false)) else (law23_PlanCovers.l3 k33 v1 v2 x22 x17 x15 x6 v10 (w64 (x32 + 1)))) else (law23_PlanCovers.l4 fuel v1 v2 x22 x17 x6 v10 x15 0)
def law23_PlanCovers.l2 : Nat → Int → (List api_Pair) → (List Int) → Int → Option Int
  | 0, _, _, _, _ => none
  | k26 + 1, x17, v10, v11, x25 => (if x25 < (List.length v11 : Int) then (if (0 ≤ x25 ∧ x25 < (List.length v11 : Int)) then (if (0 ≤ x17 ∧ x17 < (List.length v10 : Int)) then (some ((rd v11 x25) != (rd v10 x17).Goal)) else none) else none) else (some false)).bind fun x27 => if x27 = true then (law23_PlanCovers.l2 k26 x17 v10 v11 (w64 (x25 + 1))) else (some x25)
def law23_PlanCovers.l1 : Nat → Int → Int → List api_Unit → (List api_Pair) → (List Int) → Int → Int → Int → Option Bool
  | 0, _, _, _, _, _, _, _, _ => none
  | k18 + 1, v1, v2, x6, v10, v11, x15, x16, x17 => if x17 < (List.length v10 : Int) then (((law23_PlanCovers.l2 fuel x17 v10 v11 x16).bind fun x22 => (if (x22 == (List.length v11 : Int)) = true then (some true) else (if (0 ≤ x17 ∧ x17 < (List.length v10 : Int)) then (some ((List.length ((rd v10 x17).Ids) : Int) == 0)) else none)).bind fun x29 => if x29 = true then (some (Sum.inl false)) else (law23_PlanCovers.l3 fuel v1 v2 x22 x17 x15 x6 v10 0)).bind fun zz => match zz with | Sum.inl q => some q | Sum.inr (x19, x20) => law23_PlanCovers.l1 k18 v1 v2 x6 v10 v11 x19 x20 (w64 (x17 + 1))) else ((law23_told.f).bind fun v50 => some (((v50 && (x15 == (List.length x6 : Int))) && (decide ((List.length v11 : Int) ≤ (List.length v10 : Int)))) && (decide ((List.length v10 : Int) ≤ (List.length x6 : Int)))))
def law23_PlanCovers.l0 : Nat → Bool → Int → Int → List api_Unit → Int → Option Bool
  | 0, _, _, _, _, _ => none
  | k8 + 1, few, v1, v2, x6, x7 => if ((decide (x7 < (List.length x6 : Int))) && few) = true then (if (0 ≤ x7 ∧ x7 < (List.length x6 : Int)) then ((ref1_Within.f ((rd x6 x7).Goal) 0 (if (w64 ((w64 (v1 * v2)) - 1)) < 1 then (w64 ((w64 (v1 * v2)) - 1)) else 1)).bind fun v9 => law23_PlanCovers.l0 k8 few v1 v2 (List.set x6 (Int.toNat x7) (api_Unit.mk ((rd x6 x7).Id) ((rd x6 x7).Cell) v9)) (w64 (x7 + 1))) else none) else ((plan_Pairs.f v1 v2 x6).bind fun v10 => (plan_Goals.f x6).bind fun v11 => law23_PlanCovers.l1 fuel v1 v2 x6 v10 v11 0 0 0)
def law23_PlanCovers.f (w : Int) (h : Int) (k : (List Int)) (few : Bool) : Option Bool := (ref1_Within.f w 1 60).bind fun v1 => (ref1_Within.f h 1 60).bind fun v2 => (ref21_Made.f v1 v2 k).bind fun v3 => law23_PlanCovers.l0 fuel few v1 v2 v3 0
set_option maxHeartbeats 4000000 in
theorem law23_PlanCovers.c {a_k : Option Addr} {n_k : Nat} (w : Int) (h : Int) (k : (List Int)) (few : Bool) (r : Bool) (F : Hp) (H : law23_PlanCovers.f w h k few = some r) (h_k : SliceR (Fl.int .i64) k a_k F) (c_k : List.length k ≤ n_k) :
    CallsL Try.prog 13 [(.int .i64 w), (.int .i64 h), (.slice a_k (List.length k) n_k), (.bool few)] [F] (fun _ : Unit => (.bool r)) (fun _ => [F]) := by
  unfold law23_PlanCovers.f at H
  refine calls_atL [(0, (.int .i64 w)), (1, (.int .i64 h)), (2, (.slice a_k (List.length k) n_k)), (3, (.bool few))] Try.func13 rfl rfl ⟨rfl, rfl, rfl, rfl, trivial⟩ (fun W => ?_)
  refine at_seq ?_
  refine at_region [0] rfl ?_
  refine at_s T rfl ?_
  refine at_end ?_
  refine at_sub [(0, (.int .i64 w)), (1, (.int .i64 h)), (2, (.slice a_k (List.length k) n_k)), (3, (.bool few))] ⟨rfl, rfl, rfl, rfl, trivial⟩ ?_
  refine at_then ?_
  refine at_seq ?_
  refine at_region [0, 1, 2, 3, 4, 5] rfl ?_
  refine at_s T rfl ?_
  obtain ⟨v1, V1, H⟩ := bind_e H
  refine at_cons (at_c (B := fun _ => []) [] rfl rfl rfl rfl has15 rfl rfl (ref1_Within.c w 1 60 v1 _ V1) (fun _ => ?_))
  refine at_s T rfl ?_
  obtain ⟨v2, V2, H⟩ := bind_e H
  refine at_cons (at_c (B := fun _ => []) [] rfl rfl rfl rfl has15 rfl rfl (ref1_Within.c h 1 60 v2 _ V2) (fun _ => ?_))
  iterate 2 refine at_s T rfl ?_
  refine at_end ?_
  refine at_sub [(0, (.int .i64 v1)), (1, (.int .i64 v2)), (2, (.slice a_k (List.length k) n_k)), (3, (.bool few))] ⟨rfl, rfl, rfl, rfl, trivial⟩ ?_
  refine at_then ?_
  refine at_seq ?_
  refine at_region [0, 1, 2, 3, 4] rfl ?_
  iterate 3 refine at_s T rfl ?_
  obtain ⟨v3, V3, H⟩ := bind_e H
  refine at_cons (at_cR (ref21_Made.R v3) [] [] rfl rfl rfl rfl has41 rfl rfl (ref21_Made.c v1 v2 k v3 _ V3 (ro_of h_k (j := 0) rfl) c_k) ?_)
  rintro _ _ ⟨a1, n1, H1, s1, rfl, rfl⟩
  refine at_s T rfl ?_
  refine at_end ?_
  refine at_sub [(0, (.int .i64 v1)), (1, (.int .i64 v2)), (3, (.bool few)), (9, (.slice a1 (List.length v3) n1))] ⟨rfl, rfl, rfl, rfl, trivial⟩ ?_
  refine at_then ?_
  refine at_seq ?_
  refine at_seq ?_
  refine at_region [0] rfl ?_
  refine at_s T rfl ?_
  refine at_end ?_
  refine at_sub [(0, (.int .i64 v1)), (1, (.int .i64 v2)), (3, (.bool few)), (9, (.slice a1 (List.length v3) n1)), (10, (.int .i64 0))] ⟨rfl, rfl, rfl, rfl, rfl, trivial⟩ ?_
  refine at_then ?_
  refine at_block ?_
  refine at_loopL (σ := Nat × List api_Unit × Int × Option Addr × Nat × Hp) (fun ⟨k8, x6, x7, a3, n3, H3⟩ => law23_PlanCovers.l0 k8 few v1 v2 x6 x7 = some r ∧ SliceO k_api_Unit 47 x6 a3 n3 H3) (fun ⟨k8, x6, x7, a3, n3, H3⟩ => [(0, (.int .i64 v1)), (1, (.int .i64 v2)), (3, (.bool few)), (9, (.slice a3 (List.length x6) n3)), (10, (.int .i64 x7))]) (fun ⟨k8, x6, x7, a3, n3, H3⟩ => [F, H3]) (fun s => s.1) (fuel, v3, 0, a1, n1, H1) [0, 0] ⟨H, s1⟩ ⟨rfl, rfl, rfl, rfl, rfl, trivial⟩ rfl ?_
  rintro ⟨k8, x6, x7, a3, n3, H3⟩ ⟨Z4, s3⟩
  replace Z4 : law23_PlanCovers.l0 k8 few v1 v2 x6 x7 = some r := Z4
  rcases k8 with _ | k8
  · rw [law23_PlanCovers.l0] at Z4; cases Z4
  · rw [law23_PlanCovers.l0] at Z4
    refine at_seq ?_
    refine at_seq ?_
    refine at_region [0, 1, 2, 3, 4, 5, 6] rfl ?_
    iterate 5 refine at_s T rfl ?_
    refine at_grp T [5, 6] (s := 32) (c := (decide (x7 < (List.length x6 : Int)))) [(0, (.int .i64 v1)), (1, (.int .i64 v2)), (3, (.bool few)), (9, (.slice a3 (List.length x6) n3)), (10, (.int .i64 x7)), (34, (.bool ((decide (x7 < (List.length x6 : Int))) && few)))] rfl rfl rfl (fun c5 => ⟨rfl, rfl, rfl, rfl, rfl, (by rw [c5]; rfl), trivial⟩) (fun c5 => ⟨rfl, rfl, rfl, rfl, rfl, (by rw [c5]; rfl), trivial⟩) ?_
    refine at_end ?_
    refine at_sub [(0, (.int .i64 v1)), (1, (.int .i64 v2)), (3, (.bool few)), (9, (.slice a3 (List.length x6) n3)), (10, (.int .i64 x7)), (34, (.bool ((decide (x7 < (List.length x6 : Int))) && few)))] ⟨rfl, rfl, rfl, rfl, rfl, rfl, trivial⟩ ?_
    refine at_then ?_
    refine at_cond rfl (fun c6 => ?_) (fun c6 => ?_)
    · replace Z4 := if_t c6 Z4
      refine at_skip ?_
      refine at_then ?_
      refine at_seq ?_
      refine at_block ?_
      refine at_region [0, 1, 2, 3, 4, 5, 6, 7, 8, 9, 10, 11, 12, 13, 14, 15] rfl ?_
      iterate 4 refine at_s T rfl ?_
      obtain ⟨c7, Z4⟩ := chk_e Z4
      obtain ⟨q4, o4, e4⟩ := s3.r.addr c7.1 c7.2
      refine at_v rfl (g_index T rfl rfl rfl rfl rfl e4 c7.1 c7.2) ?_
      refine at_s T rfl ?_
      refine at_v rfl (g_load T rfl rfl rfl rfl (in_elem1 (k := k_api_Unit) (own_of s3 (j := 1) rfl) e4 c7 2 rfl)) ?_
      iterate 5 refine at_s T rfl ?_
      obtain ⟨v9, V8, Z4⟩ := bind_e Z4
      refine at_cons (at_c (B := fun _ => []) [] rfl rfl rfl rfl has15 rfl rfl (ref1_Within.c ((rd x6 x7).Goal) 0 (if (w64 ((w64 (v1 * v2)) - 1)) < 1 then (w64 ((w64 (v1 * v2)) - 1)) else 1) v9 _ V8) (fun _ => ?_))
      refine at_v rfl (g_index T rfl rfl rfl rfl rfl e4 c7.1 c7.2) ?_
      refine at_s T rfl ?_
      refine at_cons (at_se (k := k_api_Unit) T 1 2 (api_Unit.mk ((rd x6 x7).Id) ((rd x6 x7).Cell) v9) rfl rfl rfl rfl rfl rfl s3 e4 c7 rfl rfl rfl (fun H5 s5 => ?_))
      refine at_to [(0, (.int .i64 v1)), (1, (.int .i64 v2)), (3, (.bool few)), (9, (.slice a3 (List.length (List.set x6 (Int.toNat x7) (api_Unit.mk ((rd x6 x7).Id) ((rd x6 x7).Cell) v9))) n3)), (10, (.int .i64 x7))] [0, 0] [F, H5] ⟨rfl, rfl, rfl, (by first | rfl | (simp only [List.length_set]; rfl)), rfl, trivial⟩ rfl ?_
      refine at_end ?_
      refine at_sub [(0, (.int .i64 v1)), (1, (.int .i64 v2)), (3, (.bool few)), (9, (.slice a3 (List.length (List.set x6 (Int.toNat x7) (api_Unit.mk ((rd x6 x7).Id) ((rd x6 x7).Cell) v9))) n3)), (10, (.int .i64 x7))] ⟨rfl, rfl, rfl, rfl, rfl, trivial⟩ ?_
      refine at_nb ?_
      refine at_then ?_
      refine at_region [0, 1, 2] rfl ?_
      iterate 3 refine at_s T rfl ?_
      refine at_end ?_
      refine at_sub [(0, (.int .i64 v1)), (1, (.int .i64 v2)), (3, (.bool few)), (9, (.slice a3 (List.length (List.set x6 (Int.toNat x7) (api_Unit.mk ((rd x6 x7).Id) ((rd x6 x7).Cell) v9))) n3)), (10, (.int .i64 (w64 (x7 + 1))))] ⟨rfl, rfl, rfl, rfl, rfl, trivial⟩ ?_
      refine at_then ?_
      exact at_roundL (k8, (List.set x6 (Int.toNat x7) (api_Unit.mk ((rd x6 x7).Id) ((rd x6 x7).Cell) v9)), (w64 (x7 + 1)), a3, n3, H5) [0, 0] ⟨Z4, s5⟩ (Nat.lt_succ_self _) ⟨rfl, rfl, rfl, rfl, rfl, trivial⟩ rfl
    · replace Z4 := if_f (bf c6) Z4
      refine at_exit ?_
      refine at_xt ?_
      refine at_xt ?_
      refine at_xb ?_
      refine at_then ?_
      refine at_seq ?_
      refine at_region [0, 1, 2, 3, 4, 5, 6, 7] rfl ?_
      iterate 3 refine at_s T rfl ?_
      obtain ⟨v10, V9, Z4⟩ := bind_e Z4
      refine at_cons (at_cR (plan_Pairs.R v10) [] [] rfl rfl rfl rfl has42 rfl rfl (plan_Pairs.c v1 v2 x6 v10 _ V9 (own_of s3 (j := 1) rfl) s3.cap_le) ?_)
      rintro _ _ ⟨a6, n6, H6, s6, rfl, rfl⟩
      refine at_s T rfl ?_
      obtain ⟨v11, V10, Z4⟩ := bind_e Z4
      refine at_cons (at_cR (plan_Goals.R v11) [] [] rfl rfl rfl rfl has49 rfl rfl (plan_Goals.c x6 v11 _ V10 (own_of s3 (j := 1) rfl) s3.cap_le) ?_)
      rintro _ _ ⟨a7, n7, H7, s7, rfl, rfl⟩
      iterate 2 refine at_s T rfl ?_
      refine at_end ?_
      refine at_sub [(0, (.int .i64 v1)), (1, (.int .i64 v2)), (9, (.slice a3 (List.length x6) n3)), (11, (.slice a6 (List.length v10) n6)), (12, (.slice a7 (List.length v11) n7))] ⟨rfl, rfl, rfl, rfl, rfl, trivial⟩ ?_
      refine at_then ?_
      refine at_seq ?_
      refine at_region [0, 1] rfl ?_
      iterate 2 refine at_s T rfl ?_
      refine at_end ?_
      refine at_sub [(0, (.int .i64 v1)), (1, (.int .i64 v2)), (9, (.slice a3 (List.length x6) n3)), (11, (.slice a6 (List.length v10) n6)), (12, (.slice a7 (List.length v11) n7)), (13, (.int .i64 0)), (14, (.int .i64 0))] ⟨rfl, rfl, rfl, rfl, rfl, rfl, rfl, trivial⟩ ?_
      refine at_then ?_
      refine at_seq ?_
      refine at_seq ?_
      refine at_region [0] rfl ?_
      refine at_s T rfl ?_
      refine at_end ?_
      refine at_sub [(0, (.int .i64 v1)), (1, (.int .i64 v2)), (9, (.slice a3 (List.length x6) n3)), (11, (.slice a6 (List.length v10) n6)), (12, (.slice a7 (List.length v11) n7)), (13, (.int .i64 0)), (14, (.int .i64 0)), (15, (.int .i64 0))] ⟨rfl, rfl, rfl, rfl, rfl, rfl, rfl, rfl, trivial⟩ ?_
      refine at_then ?_
      refine at_block ?_
      refine at_loopL (σ := Nat × Int × Int × Int) (fun ⟨k18, x15, x16, x17⟩ => law23_PlanCovers.l1 k18 v1 v2 x6 v10 v11 x15 x16 x17 = some r) (fun ⟨k18, x15, x16, x17⟩ => [(0, (.int .i64 v1)), (1, (.int .i64 v2)), (9, (.slice a3 (List.length x6) n3)), (11, (.slice a6 (List.length v10) n6)), (12, (.slice a7 (List.length v11) n7)), (13, (.int .i64 x15)), (14, (.int .i64 x16)), (15, (.int .i64 x17))]) (fun ⟨k18, x15, x16, x17⟩ => [F, H3, H6, H7]) (fun s => s.1) (fuel, 0, 0, 0) [0, 0, 0, 0] Z4 ⟨rfl, rfl, rfl, rfl, rfl, rfl, rfl, rfl, trivial⟩ rfl ?_
      rintro ⟨k18, x15, x16, x17⟩ Z11
      replace Z11 : law23_PlanCovers.l1 k18 v1 v2 x6 v10 v11 x15 x16 x17 = some r := Z11
      rcases k18 with _ | k18
      · rw [law23_PlanCovers.l1] at Z11; cases Z11
      · rw [law23_PlanCovers.l1] at Z11
        refine at_seq ?_
        refine at_seq ?_
        refine at_region [0, 1, 2, 3] rfl ?_
        iterate 4 refine at_s T rfl ?_
        refine at_end ?_
        refine at_sub [(0, (.int .i64 v1)), (1, (.int .i64 v2)), (9, (.slice a3 (List.length x6) n3)), (11, (.slice a6 (List.length v10) n6)), (12, (.slice a7 (List.length v11) n7)), (13, (.int .i64 x15)), (14, (.int .i64 x16)), (15, (.int .i64 x17)), (61, (.bool (decide (x17 < (List.length v10 : Int)))))] ⟨rfl, rfl, rfl, rfl, rfl, rfl, rfl, rfl, rfl, trivial⟩ ?_
        refine at_then ?_
        refine at_cond rfl (fun c12 => ?_) (fun c12 => ?_)
        · replace Z11 := if_t (of_decide_eq_true c12) Z11
          refine at_skip ?_
          refine at_then ?_
          obtain ⟨z21, Z13, Z11⟩ := bind_e Z11
          refine at_seq_mid (σ := Int × Int) (fun ⟨x19, x20⟩ => (Sum.inr (x19, x20)) = z21) (fun ⟨x19, x20⟩ => [(0, (.int .i64 v1)), (1, (.int .i64 v2)), (9, (.slice a3 (List.length x6) n3)), (11, (.slice a6 (List.length v10) n6)), (12, (.slice a7 (List.length v11) n7)), (13, (.int .i64 x19)), (14, (.int .i64 x20)), (15, (.int .i64 x17))]) (fun ⟨x19, x20⟩ => [F, H3, H6, H7]) ?_ ?_
          · refine at_block ?_
            obtain ⟨z23, Z14, Z13⟩ := bind_e Z13
            refine at_seq_mid (σ := Int) (fun x22 => x22 = z23) (fun x22 => [(0, (.int .i64 v1)), (1, (.int .i64 v2)), (9, (.slice a3 (List.length x6) n3)), (11, (.slice a6 (List.length v10) n6)), (12, (.slice a7 (List.length v11) n7)), (13, (.int .i64 x15)), (14, (.int .i64 x22)), (15, (.int .i64 x17))]) (fun x22 => [F, H3, H6, H7]) ?_ ?_
            · refine at_block ?_
              refine at_loopL (σ := Nat × Int) (fun ⟨k26, x25⟩ => law23_PlanCovers.l2 k26 x17 v10 v11 x25 = some z23) (fun ⟨k26, x25⟩ => [(0, (.int .i64 v1)), (1, (.int .i64 v2)), (9, (.slice a3 (List.length x6) n3)), (11, (.slice a6 (List.length v10) n6)), (12, (.slice a7 (List.length v11) n7)), (13, (.int .i64 x15)), (14, (.int .i64 x25)), (15, (.int .i64 x17))]) (fun ⟨k26, x25⟩ => [F, H3, H6, H7]) (fun s => s.1) (fuel, x16) [0, 0, 0, 0] Z14 ⟨rfl, rfl, rfl, rfl, rfl, rfl, rfl, rfl, trivial⟩ rfl ?_
              rintro ⟨k26, x25⟩ Z15
              replace Z15 : law23_PlanCovers.l2 k26 x17 v10 v11 x25 = some z23 := Z15
              rcases k26 with _ | k26
              · rw [law23_PlanCovers.l2] at Z15; cases Z15
              · rw [law23_PlanCovers.l2] at Z15
                refine at_seq ?_
                obtain ⟨z28, Z16, Z15⟩ := bind_e Z15
                refine at_seq_mid (σ := Bool) (fun x27 => x27 = z28) (fun x27 => [(0, (.int .i64 v1)), (1, (.int .i64 v2)), (9, (.slice a3 (List.length x6) n3)), (11, (.slice a6 (List.length v10) n6)), (12, (.slice a7 (List.length v11) n7)), (13, (.int .i64 x15)), (14, (.int .i64 x25)), (15, (.int .i64 x17)), (79, (.bool x27))]) (fun x27 => [F, H3, H6, H7]) ?_ ?_
                · refine at_region_q mix (by kernel_rfl) ?_
                  iterate 5 refine atq_s T rfl ?_
                  refine atq_case (s := 68) rfl (fun c17 => ?_) (fun c17 => ?_)
                  · replace Z16 := if_t (of_decide_eq_true c17) Z16
                    iterate 2 refine atq_s T rfl ?_
                    obtain ⟨c18, Z16⟩ := chk_e Z16
                    obtain ⟨q8, o8, e8⟩ := s7.r.addr c18.1 c18.2
                    refine atq_v rfl rfl rfl (g_index T rfl rfl rfl rfl rfl e8 c18.1 c18.2) ?_
                    refine atq_v rfl rfl rfl (g_load T rfl rfl rfl rfl (in_elem1 (k := (Fl.int .i64)) (own_of s7 (j := 3) rfl) e8 c18 0 rfl)) ?_
                    iterate 2 refine atq_s T rfl ?_
                    obtain ⟨c19, Z16⟩ := chk_e Z16
                    obtain ⟨q9, o9, e9⟩ := s6.r.addr c19.1 c19.2
                    refine atq_v rfl rfl rfl (g_index T rfl rfl rfl rfl rfl e9 c19.1 c19.2) ?_
                    refine atq_s T rfl ?_
                    obtain ⟨_, w11, ⟨a10, n10, ⟨r10, m10⟩, rfl⟩⟩ := SliceDR.view s6.r c19
                    refine atq_v rfl rfl rfl (g_load T rfl rfl rfl rfl (in_view (j := 2) rfl w11 e9 0 rfl)) ?_
                    iterate 2 refine atq_s T rfl ?_
                    refine atq_end ?_
                    refine at_sub [(0, (.int .i64 v1)), (1, (.int .i64 v2)), (9, (.slice a3 (List.length x6) n3)), (11, (.slice a6 (List.length v10) n6)), (12, (.slice a7 (List.length v11) n7)), (13, (.int .i64 x15)), (14, (.int .i64 x25)), (15, (.int .i64 x17)), (79, (.bool ((rd v11 x25) != (rd v10 x17).Goal)))] ⟨rfl, rfl, rfl, rfl, rfl, rfl, rfl, rfl, rfl, trivial⟩ ?_
                    refine at_then ?_
                    obtain rfl := Option.some.inj Z16
                    exact at_mid ((rd v11 x25) != (rd v10 x17).Goal) [0, 0, 0, 0] rfl ⟨rfl, rfl, rfl, rfl, rfl, rfl, rfl, rfl, rfl, trivial⟩ rfl
                  · replace Z16 := if_f (of_decide_eq_false c17) Z16
                    iterate 11 refine atq_s T rfl ?_
                    refine atq_end ?_
                    refine at_sub [(0, (.int .i64 v1)), (1, (.int .i64 v2)), (9, (.slice a3 (List.length x6) n3)), (11, (.slice a6 (List.length v10) n6)), (12, (.slice a7 (List.length v11) n7)), (13, (.int .i64 x15)), (14, (.int .i64 x25)), (15, (.int .i64 x17)), (79, (.bool false))] ⟨rfl, rfl, rfl, rfl, rfl, rfl, rfl, rfl, rfl, trivial⟩ ?_
                    refine at_then ?_
                    obtain rfl := Option.some.inj Z16
                    exact at_mid false [0, 0, 0, 0] rfl ⟨rfl, rfl, rfl, rfl, rfl, rfl, rfl, rfl, rfl, trivial⟩ rfl
                · rintro x27 rfl
                  refine at_cond rfl (fun c20 => ?_) (fun c20 => ?_)
                  · replace Z15 := if_t c20 Z15
                    refine at_skip ?_
                    refine at_then ?_
                    refine at_block ?_
                    refine at_region [0, 1, 2] rfl ?_
                    iterate 3 refine at_s T rfl ?_
                    refine at_end ?_
                    refine at_sub [(0, (.int .i64 v1)), (1, (.int .i64 v2)), (9, (.slice a3 (List.length x6) n3)), (11, (.slice a6 (List.length v10) n6)), (12, (.slice a7 (List.length v11) n7)), (13, (.int .i64 x15)), (14, (.int .i64 (w64 (x25 + 1)))), (15, (.int .i64 x17))] ⟨rfl, rfl, rfl, rfl, rfl, rfl, rfl, rfl, trivial⟩ ?_
                    refine at_nb ?_
                    refine at_then ?_
                    exact at_roundL (k26, (w64 (x25 + 1))) [0, 0, 0, 0] Z15 (Nat.lt_succ_self _) ⟨rfl, rfl, rfl, rfl, rfl, rfl, rfl, rfl, trivial⟩ rfl
                  · replace Z15 := if_f (bf c20) Z15
                    refine at_exit ?_
                    refine at_xt ?_
                    refine at_xt ?_
                    refine at_xb ?_
                    refine at_then ?_
                    obtain rfl := Option.some.inj Z15
                    exact at_mid x25 [0, 0, 0, 0] rfl ⟨rfl, rfl, rfl, rfl, rfl, rfl, rfl, rfl, trivial⟩ rfl
            · rintro x22 rfl
              refine at_seq ?_
              obtain ⟨z30, Z21, Z13⟩ := bind_e Z13
              refine at_seq_mid (σ := Bool) (fun x29 => x29 = z30) (fun x29 => [(0, (.int .i64 v1)), (1, (.int .i64 v2)), (9, (.slice a3 (List.length x6) n3)), (11, (.slice a6 (List.length v10) n6)), (12, (.slice a7 (List.length v11) n7)), (13, (.int .i64 x15)), (14, (.int .i64 x22)), (15, (.int .i64 x17)), (94, (.bool x29))]) (fun x29 => [F, H3, H6, H7]) ?_ ?_
              · refine at_region [0, 1, 2, 3, 4, 5, 6, 7, 8, 9, 10, 11, 12] rfl ?_
                iterate 5 refine at_s T rfl ?_
                refine at_case (s := 86) rfl (fun c22 => ?_) (fun c22 => ?_)
                · replace Z21 := if_t c22 Z21
                  iterate 8 refine at_s T rfl ?_
                  refine at_end ?_
                  refine at_sub [(0, (.int .i64 v1)), (1, (.int .i64 v2)), (9, (.slice a3 (List.length x6) n3)), (11, (.slice a6 (List.length v10) n6)), (12, (.slice a7 (List.length v11) n7)), (13, (.int .i64 x15)), (14, (.int .i64 x22)), (15, (.int .i64 x17)), (94, (.bool true))] ⟨rfl, rfl, rfl, rfl, rfl, rfl, rfl, rfl, rfl, trivial⟩ ?_
                  refine at_then ?_
                  obtain rfl := Option.some.inj Z21
                  exact at_mid true [0, 0, 0, 0] rfl ⟨rfl, rfl, rfl, rfl, rfl, rfl, rfl, rfl, rfl, trivial⟩ rfl
                · replace Z21 := if_f (bf c22) Z21
                  iterate 2 refine at_s T rfl ?_
                  obtain ⟨c23, Z21⟩ := chk_e Z21
                  obtain ⟨q12, o12, e12⟩ := s6.r.addr c23.1 c23.2
                  refine at_v rfl (g_index T rfl rfl rfl rfl rfl e12 c23.1 c23.2) ?_
                  refine at_s T rfl ?_
                  obtain ⟨_, w14, ⟨a13, n13, ⟨r13, m13⟩, rfl⟩⟩ := SliceDR.view s6.r c23
                  refine at_v rfl (g_load T rfl rfl rfl rfl (in_view (j := 2) rfl w14 e12 2 rfl)) ?_
                  iterate 3 refine at_s T rfl ?_
                  refine at_end ?_
                  refine at_sub [(0, (.int .i64 v1)), (1, (.int .i64 v2)), (9, (.slice a3 (List.length x6) n3)), (11, (.slice a6 (List.length v10) n6)), (12, (.slice a7 (List.length v11) n7)), (13, (.int .i64 x15)), (14, (.int .i64 x22)), (15, (.int .i64 x17)), (94, (.bool ((List.length ((rd v10 x17).Ids) : Int) == 0)))] ⟨rfl, rfl, rfl, rfl, rfl, rfl, rfl, rfl, rfl, trivial⟩ ?_
                  refine at_then ?_
                  obtain rfl := Option.some.inj Z21
                  exact at_mid ((List.length ((rd v10 x17).Ids) : Int) == 0) [0, 0, 0, 0] rfl ⟨rfl, rfl, rfl, rfl, rfl, rfl, rfl, rfl, rfl, trivial⟩ rfl
              · rintro x29 rfl
                refine at_cond rfl (fun c24 => ?_) (fun c24 => ?_)
                · replace Z13 := if_t c24 Z13
                  refine at_seq ?_
                  refine at_region [0] rfl ?_
                  refine at_s T rfl ?_
                  refine at_end ?_
                  refine at_to [(8, (.bool false))] [0] [F] ⟨rfl, trivial⟩ rfl ?_
                  refine at_then ?_
                  refine at_ret ?_
                  refine at_rt ?_
                  refine at_rb ?_
                  refine at_rt ?_
                  refine at_rt ?_
                  refine at_rb ?_
                  refine at_rt ?_
                  obtain rfl := Option.some.inj Z13
                  obtain rfl := Option.some.inj (show some false = some r from Z11)
                  exact at_post (T := T) rfl (.tmp rfl .nil) (fun w o => ⟨(), rfl, own_to [0] rfl o⟩)
                · replace Z13 := if_f (bf c24) Z13
                  refine at_skip ?_
                  refine at_then ?_
                  refine at_seq ?_
                  refine at_seq ?_
                  refine at_region [0] rfl ?_
                  refine at_s T rfl ?_
                  refine at_end ?_
                  refine at_sub [(0, (.int .i64 v1)), (1, (.int .i64 v2)), (9, (.slice a3 (List.length x6) n3)), (11, (.slice a6 (List.length v10) n6)), (12, (.slice a7 (List.length v11) n7)), (13, (.int .i64 x15)), (14, (.int .i64 x22)), (15, (.int .i64 x17)), (16, (.int .i64 0))] ⟨rfl, rfl, rfl, rfl, rfl, rfl, rfl, rfl, rfl, trivial⟩ ?_
                  refine at_then ?_
                  refine at_block ?_
                  refine at_loopL (σ := Nat × Int) (fun ⟨k33, x32⟩ => law23_PlanCovers.l3 k33 v1 v2 x22 x17 x15 x6 v10 x32 = some z21) (fun ⟨k33, x32⟩ => [(0, (.int .i64 v1)), (1, (.int .i64 v2)), (9, (.slice a3 (List.length x6) n3)), (11, (.slice a6 (List.length v10) n6)), (12, (.slice a7 (List.length v11) n7)), (13, (.int .i64 x15)), (14, (.int .i64 x22)), (15, (.int .i64 x17)), (16, (.int .i64 x32))]) (fun ⟨k33, x32⟩ => [F, H3, H6, H7]) (fun s => s.1) (fuel, 0) [0, 0, 0, 0] Z13 ⟨rfl, rfl, rfl, rfl, rfl, rfl, rfl, rfl, rfl, trivial⟩ rfl ?_
                  rintro ⟨k33, x32⟩ Z25
                  replace Z25 : law23_PlanCovers.l3 k33 v1 v2 x22 x17 x15 x6 v10 x32 = some z21 := Z25
                  rcases k33 with _ | k33
                  · rw [law23_PlanCovers.l3] at Z25; cases Z25
                  · rw [law23_PlanCovers.l3] at Z25
                    refine at_seq ?_
                    refine at_seq ?_
                    refine at_region [0, 1, 2] rfl ?_
                    iterate 3 refine at_s T rfl ?_
                    refine at_end ?_
                    refine at_sub [(0, (.int .i64 v1)), (1, (.int .i64 v2)), (9, (.slice a3 (List.length x6) n3)), (11, (.slice a6 (List.length v10) n6)), (12, (.slice a7 (List.length v11) n7)), (13, (.int .i64 x15)), (14, (.int .i64 x22)), (15, (.int .i64 x17)), (16, (.int .i64 x32)), (97, (.bool (decide (x32 < x17))))] ⟨rfl, rfl, rfl, rfl, rfl, rfl, rfl, rfl, rfl, rfl, trivial⟩ ?_
                    refine at_then ?_
                    refine at_cond rfl (fun c26 => ?_) (fun c26 => ?_)
                    · replace Z25 := if_t (of_decide_eq_true c26) Z25
                      refine at_skip ?_
                      refine at_then ?_
                      refine at_seq ?_
                      refine at_block ?_
                      obtain ⟨z35, Z27, Z25⟩ := bind_e Z25
                      refine at_seq_mid (σ := Bool) (fun x34 => x34 = z35) (fun x34 => [(0, (.int .i64 v1)), (1, (.int .i64 v2)), (9, (.slice a3 (List.length x6) n3)), (11, (.slice a6 (List.length v10) n6)), (12, (.slice a7 (List.length v11) n7)), (13, (.int .i64 x15)), (14, (.int .i64 x22)), (15, (.int .i64 x17)), (16, (.int .i64 x32)), (123, (.bool x34))]) (fun x34 => [F, H3, H6, H7]) ?_ ?_
                      · refine at_region_q mix (by kernel_rfl) ?_
                        iterate 2 refine atq_s T rfl ?_
                        obtain ⟨c28, Z27⟩ := chk_e Z27
                        obtain ⟨q15, o15, e15⟩ := s6.r.addr c28.1 c28.2
                        refine atq_v rfl rfl rfl (g_index T rfl rfl rfl rfl rfl e15 c28.1 c28.2) ?_
                        refine atq_s T rfl ?_
                        obtain ⟨_, w17, ⟨a16, n16, ⟨r16, m16⟩, rfl⟩⟩ := SliceDR.view s6.r c28
                        refine atq_v rfl rfl rfl (g_load T rfl rfl rfl rfl (in_view (j := 2) rfl w17 e15 0 rfl)) ?_
                        iterate 2 refine atq_s T rfl ?_
                        obtain ⟨c29, Z27⟩ := chk_e Z27
                        refine atq_v rfl rfl rfl (g_index T rfl rfl rfl rfl rfl e15 c29.1 c29.2) ?_
                        refine atq_s T rfl ?_
                        obtain ⟨_, w19, ⟨a18, n18, ⟨r18, m18⟩, rfl⟩⟩ := SliceDR.view s6.r c29
                        refine atq_v rfl rfl rfl (g_load T rfl rfl rfl rfl (in_view (j := 2) rfl w19 e15 0 rfl)) ?_
                        iterate 2 refine atq_s T rfl ?_
                        refine atq_case (s := 111) rfl (fun c30 => ?_) (fun c30 => ?_)
                        · replace Z27 := if_t c30 Z27
                          iterate 2 refine atq_s T rfl ?_
                          refine atq_v rfl rfl rfl (g_index T rfl rfl rfl rfl rfl e15 c28.1 c28.2) ?_
                          refine atq_s T rfl ?_
                          refine atq_v rfl rfl rfl (g_load T rfl rfl rfl rfl (in_view (j := 2) rfl w17 e15 1 rfl)) ?_
                          iterate 2 refine atq_s T rfl ?_
                          refine atq_v rfl rfl rfl (g_index T rfl rfl rfl rfl rfl e15 c29.1 c29.2) ?_
                          refine atq_s T rfl ?_
                          refine atq_v rfl rfl rfl (g_load T rfl rfl rfl rfl (in_view (j := 2) rfl w19 e15 1 rfl)) ?_
                          iterate 2 refine atq_s T rfl ?_
                          refine atq_end ?_
                          refine at_sub [(0, (.int .i64 v1)), (1, (.int .i64 v2)), (9, (.slice a3 (List.length x6) n3)), (11, (.slice a6 (List.length v10) n6)), (12, (.slice a7 (List.length v11) n7)), (13, (.int .i64 x15)), (14, (.int .i64 x22)), (15, (.int .i64 x17)), (16, (.int .i64 x32)), (123, (.bool ((rd v10 x32).Sector == (rd v10 x17).Sector)))] ⟨rfl, rfl, rfl, rfl, rfl, rfl, rfl, rfl, rfl, rfl, trivial⟩ ?_
                          refine at_then ?_
                          obtain rfl := Option.some.inj Z27
                          exact at_mid ((rd v10 x32).Sector == (rd v10 x17).Sector) [0, 0, 0, 0] rfl ⟨rfl, rfl, rfl, rfl, rfl, rfl, rfl, rfl, rfl, rfl, trivial⟩ rfl
                        · replace Z27 := if_f (bf c30) Z27
                          iterate 12 refine atq_s T rfl ?_
                          refine atq_end ?_
                          refine at_sub [(0, (.int .i64 v1)), (1, (.int .i64 v2)), (9, (.slice a3 (List.length x6) n3)), (11, (.slice a6 (List.length v10) n6)), (12, (.slice a7 (List.length v11) n7)), (13, (.int .i64 x15)), (14, (.int .i64 x22)), (15, (.int .i64 x17)), (16, (.int .i64 x32)), (123, (.bool false))] ⟨rfl, rfl, rfl, rfl, rfl, rfl, rfl, rfl, rfl, rfl, trivial⟩ ?_
                          refine at_then ?_
                          obtain rfl := Option.some.inj Z27
                          exact at_mid false [0, 0, 0, 0] rfl ⟨rfl, rfl, rfl, rfl, rfl, rfl, rfl, rfl, rfl, rfl, trivial⟩ rfl
                      · rintro x34 rfl
                        refine at_cond rfl (fun c31 => ?_) (fun c31 => ?_)
                        · replace Z25 := if_t c31 Z25
                          refine at_seq ?_
                          refine at_region [0] rfl ?_
                          refine at_s T rfl ?_
                          refine at_end ?_
                          refine at_to [(8, (.bool false))] [0] [F] ⟨rfl, trivial⟩ rfl ?_
                          refine at_then ?_
                          refine at_ret ?_
                          refine at_rb ?_
                          refine at_rt ?_
                          refine at_rt ?_
                          refine at_rb ?_
                          refine at_rt ?_
                          refine at_rb ?_
                          refine at_rt ?_
                          refine at_rt ?_
                          refine at_rb ?_
                          refine at_rt ?_
                          obtain rfl := Option.some.inj Z25
                          obtain rfl := Option.some.inj (show some false = some r from Z11)
                          exact at_post (T := T) rfl (.tmp rfl .nil) (fun w o => ⟨(), rfl, own_to [0] rfl o⟩)
                        · replace Z25 := if_f (bf c31) Z25
                          refine at_skip ?_
                          refine at_nb ?_
                          refine at_then ?_
                          refine at_region [0, 1, 2] rfl ?_
                          iterate 3 refine at_s T rfl ?_
                          refine at_end ?_
                          refine at_sub [(0, (.int .i64 v1)), (1, (.int .i64 v2)), (9, (.slice a3 (List.length x6) n3)), (11, (.slice a6 (List.length v10) n6)), (12, (.slice a7 (List.length v11) n7)), (13, (.int .i64 x15)), (14, (.int .i64 x22)), (15, (.int .i64 x17)), (16, (.int .i64 (w64 (x32 + 1))))] ⟨rfl, rfl, rfl, rfl, rfl, rfl, rfl, rfl, rfl, trivial⟩ ?_
                          refine at_then ?_
                          exact at_roundL (k33, (w64 (x32 + 1))) [0, 0, 0, 0] Z25 (Nat.lt_succ_self _) ⟨rfl, rfl, rfl, rfl, rfl, rfl, rfl, rfl, rfl, trivial⟩ rfl
                    · replace Z25 := if_f (of_decide_eq_false c26) Z25
                      refine at_exit ?_
                      refine at_xt ?_
                      refine at_xt ?_
                      refine at_xb ?_
                      refine at_then ?_
                      refine at_seq ?_
                      refine at_region [0] rfl ?_
                      refine at_s T rfl ?_
                      refine at_end ?_
                      refine at_sub [(0, (.int .i64 v1)), (1, (.int .i64 v2)), (9, (.slice a3 (List.length x6) n3)), (11, (.slice a6 (List.length v10) n6)), (12, (.slice a7 (List.length v11) n7)), (13, (.int .i64 x15)), (14, (.int .i64 x22)), (15, (.int .i64 x17)), (17, (.int .i64 0))] ⟨rfl, rfl, rfl, rfl, rfl, rfl, rfl, rfl, rfl, trivial⟩ ?_
                      refine at_then ?_
                      refine at_block ?_
                      refine at_loopL (σ := Nat × Int × Int) (fun ⟨k40, x38, x39⟩ => law23_PlanCovers.l4 k40 v1 v2 x22 x17 x6 v10 x38 x39 = some z21) (fun ⟨k40, x38, x39⟩ => [(0, (.int .i64 v1)), (1, (.int .i64 v2)), (9, (.slice a3 (List.length x6) n3)), (11, (.slice a6 (List.length v10) n6)), (12, (.slice a7 (List.length v11) n7)), (13, (.int .i64 x38)), (14, (.int .i64 x22)), (15, (.int .i64 x17)), (17, (.int .i64 x39))]) (fun ⟨k40, x38, x39⟩ => [F, H3, H6, H7]) (fun s => s.1) (fuel, x15, 0) [0, 0, 0, 0] Z25 ⟨rfl, rfl, rfl, rfl, rfl, rfl, rfl, rfl, rfl, trivial⟩ rfl ?_
                      rintro ⟨k40, x38, x39⟩ Z32
                      replace Z32 : law23_PlanCovers.l4 k40 v1 v2 x22 x17 x6 v10 x38 x39 = some z21 := Z32
                      rcases k40 with _ | k40
                      · rw [law23_PlanCovers.l4] at Z32; cases Z32
                      · rw [law23_PlanCovers.l4] at Z32
                        refine at_seq ?_
                        refine at_seq ?_
                        refine at_region [0, 1, 2, 3, 4, 5, 6, 7] rfl ?_
                        iterate 3 refine at_s T rfl ?_
                        obtain ⟨c33, Z32⟩ := chk_e Z32
                        obtain ⟨q20, o20, e20⟩ := s6.r.addr c33.1 c33.2
                        refine at_v rfl (g_index T rfl rfl rfl rfl rfl e20 c33.1 c33.2) ?_
                        refine at_s T rfl ?_
                        obtain ⟨_, w22, ⟨a21, n21, ⟨r21, m21⟩, rfl⟩⟩ := SliceDR.view s6.r c33
                        refine at_v rfl (g_load T rfl rfl rfl rfl (in_view (j := 2) rfl w22 e20 2 rfl)) ?_
                        iterate 2 refine at_s T rfl ?_
                        refine at_end ?_
                        refine at_sub [(0, (.int .i64 v1)), (1, (.int .i64 v2)), (9, (.slice a3 (List.length x6) n3)), (11, (.slice a6 (List.length v10) n6)), (12, (.slice a7 (List.length v11) n7)), (13, (.int .i64 x38)), (14, (.int .i64 x22)), (15, (.int .i64 x17)), (17, (.int .i64 x39)), (131, (.bool (decide (x39 < (List.length ((rd v10 x17).Ids) : Int)))))] ⟨rfl, rfl, rfl, rfl, rfl, rfl, rfl, rfl, rfl, rfl, trivial⟩ ?_
                        refine at_then ?_
                        refine at_cond rfl (fun c34 => ?_) (fun c34 => ?_)
                        · replace Z32 := if_t (of_decide_eq_true c34) Z32
                          refine at_skip ?_
                          refine at_then ?_
                          obtain ⟨z41, Z35, Z32⟩ := bind_e Z32
                          refine at_seq_mid (σ := Unit) (fun ⟨⟩ => (Sum.inr ()) = z41) (fun ⟨⟩ => [(0, (.int .i64 v1)), (1, (.int .i64 v2)), (9, (.slice a3 (List.length x6) n3)), (11, (.slice a6 (List.length v10) n6)), (12, (.slice a7 (List.length v11) n7)), (13, (.int .i64 (w64 (x38 + 1)))), (14, (.int .i64 x22)), (15, (.int .i64 x17)), (17, (.int .i64 x39))]) (fun ⟨⟩ => [F, H3, H6, H7]) ?_ ?_
                          · refine at_block ?_
                            refine at_seq ?_
                            refine at_region [0] rfl ?_
                            refine at_s T rfl ?_
                            refine at_end ?_
                            refine at_sub [(0, (.int .i64 v1)), (1, (.int .i64 v2)), (9, (.slice a3 (List.length x6) n3)), (11, (.slice a6 (List.length v10) n6)), (12, (.slice a7 (List.length v11) n7)), (13, (.int .i64 x38)), (14, (.int .i64 x22)), (15, (.int .i64 x17)), (17, (.int .i64 x39)), (18, (.bool false))] ⟨rfl, rfl, rfl, rfl, rfl, rfl, rfl, rfl, rfl, rfl, trivial⟩ ?_
                            refine at_then ?_
                            refine at_seq ?_
                            refine at_seq ?_
                            refine at_region [0] rfl ?_
                            refine at_s T rfl ?_
                            refine at_end ?_
                            refine at_sub [(0, (.int .i64 v1)), (1, (.int .i64 v2)), (9, (.slice a3 (List.length x6) n3)), (11, (.slice a6 (List.length v10) n6)), (12, (.slice a7 (List.length v11) n7)), (13, (.int .i64 x38)), (14, (.int .i64 x22)), (15, (.int .i64 x17)), (17, (.int .i64 x39)), (18, (.bool false)), (19, (.int .i64 0))] ⟨rfl, rfl, rfl, rfl, rfl, rfl, rfl, rfl, rfl, rfl, rfl, trivial⟩ ?_
                            refine at_then ?_
                            refine at_block ?_
                            refine at_loopL (σ := Nat × Bool × Int) (fun ⟨k46, x44, x45⟩ => law23_PlanCovers.l5 k46 v1 v2 x17 x39 x6 v10 x44 x45 = some z41) (fun ⟨k46, x44, x45⟩ => [(0, (.int .i64 v1)), (1, (.int .i64 v2)), (9, (.slice a3 (List.length x6) n3)), (11, (.slice a6 (List.length v10) n6)), (12, (.slice a7 (List.length v11) n7)), (13, (.int .i64 x38)), (14, (.int .i64 x22)), (15, (.int .i64 x17)), (17, (.int .i64 x39)), (18, (.bool x44)), (19, (.int .i64 x45))]) (fun ⟨k46, x44, x45⟩ => [F, H3, H6, H7]) (fun s => s.1) (fuel, false, 0) [0, 0, 0, 0] Z35 ⟨rfl, rfl, rfl, rfl, rfl, rfl, rfl, rfl, rfl, rfl, rfl, trivial⟩ rfl ?_
                            rintro ⟨k46, x44, x45⟩ Z36
                            replace Z36 : law23_PlanCovers.l5 k46 v1 v2 x17 x39 x6 v10 x44 x45 = some z41 := Z36
                            rcases k46 with _ | k46
                            · rw [law23_PlanCovers.l5] at Z36; cases Z36
                            · rw [law23_PlanCovers.l5] at Z36
                              refine at_seq ?_
                              refine at_seq ?_
                              refine at_region [0, 1, 2, 3] rfl ?_
                              iterate 4 refine at_s T rfl ?_
                              refine at_end ?_
                              refine at_sub [(0, (.int .i64 v1)), (1, (.int .i64 v2)), (9, (.slice a3 (List.length x6) n3)), (11, (.slice a6 (List.length v10) n6)), (12, (.slice a7 (List.length v11) n7)), (13, (.int .i64 x38)), (14, (.int .i64 x22)), (15, (.int .i64 x17)), (17, (.int .i64 x39)), (18, (.bool x44)), (19, (.int .i64 x45)), (137, (.bool (decide (x45 < (List.length x6 : Int)))))] ⟨rfl, rfl, rfl, rfl, rfl, rfl, rfl, rfl, rfl, rfl, rfl, rfl, trivial⟩ ?_
                              refine at_then ?_
                              refine at_cond rfl (fun c37 => ?_) (fun c37 => ?_)
                              · replace Z36 := if_t (of_decide_eq_true c37) Z36
                                refine at_skip ?_
                                refine at_then ?_
                                refine at_seq ?_
                                refine at_block ?_
                                refine at_region_q mix (by kernel_rfl) ?_
                                iterate 2 refine atq_s T rfl ?_
                                refine atq_case (s := 141) rfl (fun c38 => ?_) (fun c38 => ?_)
                                · replace Z36 := if_t c38 Z36
                                  iterate 45 refine atq_s T rfl ?_
                                  refine atq_end ?_
                                  refine at_sub [(0, (.int .i64 v1)), (1, (.int .i64 v2)), (9, (.slice a3 (List.length x6) n3)), (11, (.slice a6 (List.length v10) n6)), (12, (.slice a7 (List.length v11) n7)), (13, (.int .i64 x38)), (14, (.int .i64 x22)), (15, (.int .i64 x17)), (17, (.int .i64 x39)), (18, (.bool true)), (19, (.int .i64 x45))] ⟨rfl, rfl, rfl, rfl, rfl, rfl, rfl, rfl, rfl, rfl, rfl, trivial⟩ ?_
                                  refine at_nb ?_
                                  refine at_then ?_
                                  refine at_region [0, 1, 2] rfl ?_
                                  iterate 3 refine at_s T rfl ?_
                                  refine at_end ?_
                                  refine at_sub [(0, (.int .i64 v1)), (1, (.int .i64 v2)), (9, (.slice a3 (List.length x6) n3)), (11, (.slice a6 (List.length v10) n6)), (12, (.slice a7 (List.length v11) n7)), (13, (.int .i64 x38)), (14, (.int .i64 x22)), (15, (.int .i64 x17)), (17, (.int .i64 x39)), (18, (.bool true)), (19, (.int .i64 (w64 (x45 + 1))))] ⟨rfl, rfl, rfl, rfl, rfl, rfl, rfl, rfl, rfl, rfl, rfl, trivial⟩ ?_
                                  refine at_then ?_
                                  exact at_roundL (k46, true, (w64 (x45 + 1))) [0, 0, 0, 0] Z36 (Nat.lt_succ_self _) ⟨rfl, rfl, rfl, rfl, rfl, rfl, rfl, rfl, rfl, rfl, rfl, trivial⟩ rfl
                                · replace Z36 := if_f (bf c38) Z36
                                  iterate 2 refine atq_s T rfl ?_
                                  obtain ⟨c39, Z36⟩ := chk_e Z36
                                  obtain ⟨q23, o23, e23⟩ := s3.r.addr c39.1 c39.2
                                  refine atq_v rfl rfl rfl (g_index T rfl rfl rfl rfl rfl e23 c39.1 c39.2) ?_
                                  refine atq_s T rfl ?_
                                  refine atq_v rfl rfl rfl (g_load T rfl rfl rfl rfl (in_elem1 (k := k_api_Unit) (own_of s3 (j := 1) rfl) e23 c39 0 rfl)) ?_
                                  iterate 2 refine atq_s T rfl ?_
                                  obtain ⟨c40, Z36⟩ := chk_e Z36
                                  obtain ⟨q24, o24, e24⟩ := s6.r.addr c40.1 c40.2
                                  refine atq_v rfl rfl rfl (g_index T rfl rfl rfl rfl rfl e24 c40.1 c40.2) ?_
                                  refine atq_s T rfl ?_
                                  obtain ⟨_, w26, ⟨a25, n25, ⟨r25, m25⟩, rfl⟩⟩ := SliceDR.view s6.r c40
                                  refine atq_v rfl rfl rfl (g_load T rfl rfl rfl rfl (in_view (j := 2) rfl w26 e24 2 rfl)) ?_
                                  refine atq_s T rfl ?_
                                  obtain ⟨c41, Z36⟩ := chk_e Z36
                                  obtain ⟨q27, o27, e27⟩ := r25.addr c41.1 c41.2
                                  refine atq_v rfl rfl rfl (g_index T rfl rfl rfl rfl rfl e27 c41.1 c41.2) ?_
                                  refine atq_v rfl rfl rfl (g_load T rfl rfl rfl rfl (in_elem1 (k := (Fl.int .i64)) (ro_of r25 (j := 2) rfl) e27 c41 0 rfl)) ?_
                                  iterate 2 refine atq_s T rfl ?_
                                  refine atq_case (s := 156) rfl (fun c42 => ?_) (fun c42 => ?_)
                                  · replace Z36 := if_t c42 Z36
                                    iterate 2 refine atq_s T rfl ?_
                                    refine atq_v rfl rfl rfl (g_index T rfl rfl rfl rfl rfl e23 c39.1 c39.2) ?_
                                    refine atq_s T rfl ?_
                                    refine atq_v rfl rfl rfl (g_load T rfl rfl rfl rfl (in_elem1 (k := k_api_Unit) (own_of s3 (j := 1) rfl) e23 c39 2 rfl)) ?_
                                    iterate 2 refine atq_s T rfl ?_
                                    refine atq_v rfl rfl rfl (g_index T rfl rfl rfl rfl rfl e24 c40.1 c40.2) ?_
                                    refine atq_s T rfl ?_
                                    refine atq_v rfl rfl rfl (g_load T rfl rfl rfl rfl (in_view (j := 2) rfl w26 e24 0 rfl)) ?_
                                    iterate 3 refine atq_s T rfl ?_
                                    refine atq_case (s := 169) rfl (fun c43 => ?_) (fun c43 => ?_)
                                    · replace Z36 := if_t c43 Z36
                                      iterate 4 refine atq_s T rfl ?_
                                      refine atq_v rfl rfl rfl (g_index T rfl rfl rfl rfl rfl e23 c39.1 c39.2) ?_
                                      refine atq_s T rfl ?_
                                      refine atq_v rfl rfl rfl (g_load T rfl rfl rfl rfl (in_elem1 (k := k_api_Unit) (own_of s3 (j := 1) rfl) e23 c39 1 rfl)) ?_
                                      obtain ⟨v47, V44, Z36⟩ := bind_e Z36
                                      refine atq_c rfl rfl rfl rfl rfl rfl has51 rfl (where_Sector.c v1 v2 ((rd x6 x45).Cell) v47 _ V44) ?_
                                      iterate 2 refine atq_s T rfl ?_
                                      refine atq_v rfl rfl rfl (g_index T rfl rfl rfl rfl rfl e24 c40.1 c40.2) ?_
                                      refine atq_s T rfl ?_
                                      refine atq_v rfl rfl rfl (g_load T rfl rfl rfl rfl (in_view (j := 2) rfl w26 e24 1 rfl)) ?_
                                      iterate 4 refine atq_s T rfl ?_
                                      refine atq_end ?_
                                      refine at_sub [(0, (.int .i64 v1)), (1, (.int .i64 v2)), (9, (.slice a3 (List.length x6) n3)), (11, (.slice a6 (List.length v10) n6)), (12, (.slice a7 (List.length v11) n7)), (13, (.int .i64 x38)), (14, (.int .i64 x22)), (15, (.int .i64 x17)), (17, (.int .i64 x39)), (18, (.bool (v47 == (rd v10 x17).Sector))), (19, (.int .i64 x45))] ⟨rfl, rfl, rfl, rfl, rfl, rfl, rfl, rfl, rfl, rfl, rfl, trivial⟩ ?_
                                      refine at_nb ?_
                                      refine at_then ?_
                                      refine at_region [0, 1, 2] rfl ?_
                                      iterate 3 refine at_s T rfl ?_
                                      refine at_end ?_
                                      refine at_sub [(0, (.int .i64 v1)), (1, (.int .i64 v2)), (9, (.slice a3 (List.length x6) n3)), (11, (.slice a6 (List.length v10) n6)), (12, (.slice a7 (List.length v11) n7)), (13, (.int .i64 x38)), (14, (.int .i64 x22)), (15, (.int .i64 x17)), (17, (.int .i64 x39)), (18, (.bool (v47 == (rd v10 x17).Sector))), (19, (.int .i64 (w64 (x45 + 1))))] ⟨rfl, rfl, rfl, rfl, rfl, rfl, rfl, rfl, rfl, rfl, rfl, trivial⟩ ?_
                                      refine at_then ?_
                                      exact at_roundL (k46, (v47 == (rd v10 x17).Sector), (w64 (x45 + 1))) [0, 0, 0, 0] Z36 (Nat.lt_succ_self _) ⟨rfl, rfl, rfl, rfl, rfl, rfl, rfl, rfl, rfl, rfl, rfl, trivial⟩ rfl
                                    · replace Z36 := if_f (bf c43) Z36
                                      iterate 17 refine atq_s T rfl ?_
                                      refine atq_end ?_
                                      refine at_sub [(0, (.int .i64 v1)), (1, (.int .i64 v2)), (9, (.slice a3 (List.length x6) n3)), (11, (.slice a6 (List.length v10) n6)), (12, (.slice a7 (List.length v11) n7)), (13, (.int .i64 x38)), (14, (.int .i64 x22)), (15, (.int .i64 x17)), (17, (.int .i64 x39)), (18, (.bool false)), (19, (.int .i64 x45))] ⟨rfl, rfl, rfl, rfl, rfl, rfl, rfl, rfl, rfl, rfl, rfl, trivial⟩ ?_
                                      refine at_nb ?_
                                      refine at_then ?_
                                      refine at_region [0, 1, 2] rfl ?_
                                      iterate 3 refine at_s T rfl ?_
                                      refine at_end ?_
                                      refine at_sub [(0, (.int .i64 v1)), (1, (.int .i64 v2)), (9, (.slice a3 (List.length x6) n3)), (11, (.slice a6 (List.length v10) n6)), (12, (.slice a7 (List.length v11) n7)), (13, (.int .i64 x38)), (14, (.int .i64 x22)), (15, (.int .i64 x17)), (17, (.int .i64 x39)), (18, (.bool false)), (19, (.int .i64 (w64 (x45 + 1))))] ⟨rfl, rfl, rfl, rfl, rfl, rfl, rfl, rfl, rfl, rfl, rfl, trivial⟩ ?_
                                      refine at_then ?_
                                      exact at_roundL (k46, false, (w64 (x45 + 1))) [0, 0, 0, 0] Z36 (Nat.lt_succ_self _) ⟨rfl, rfl, rfl, rfl, rfl, rfl, rfl, rfl, rfl, rfl, rfl, trivial⟩ rfl
                                  · replace Z36 := if_f (bf c42) Z36
                                    iterate 30 refine atq_s T rfl ?_
                                    refine atq_end ?_
                                    refine at_sub [(0, (.int .i64 v1)), (1, (.int .i64 v2)), (9, (.slice a3 (List.length x6) n3)), (11, (.slice a6 (List.length v10) n6)), (12, (.slice a7 (List.length v11) n7)), (13, (.int .i64 x38)), (14, (.int .i64 x22)), (15, (.int .i64 x17)), (17, (.int .i64 x39)), (18, (.bool false)), (19, (.int .i64 x45))] ⟨rfl, rfl, rfl, rfl, rfl, rfl, rfl, rfl, rfl, rfl, rfl, trivial⟩ ?_
                                    refine at_nb ?_
                                    refine at_then ?_
                                    refine at_region [0, 1, 2] rfl ?_
                                    iterate 3 refine at_s T rfl ?_
                                    refine at_end ?_
                                    refine at_sub [(0, (.int .i64 v1)), (1, (.int .i64 v2)), (9, (.slice a3 (List.length x6) n3)), (11, (.slice a6 (List.length v10) n6)), (12, (.slice a7 (List.length v11) n7)), (13, (.int .i64 x38)), (14, (.int .i64 x22)), (15, (.int .i64 x17)), (17, (.int .i64 x39)), (18, (.bool false)), (19, (.int .i64 (w64 (x45 + 1))))] ⟨rfl, rfl, rfl, rfl, rfl, rfl, rfl, rfl, rfl, rfl, rfl, trivial⟩ ?_
                                    refine at_then ?_
                                    exact at_roundL (k46, false, (w64 (x45 + 1))) [0, 0, 0, 0] Z36 (Nat.lt_succ_self _) ⟨rfl, rfl, rfl, rfl, rfl, rfl, rfl, rfl, rfl, rfl, rfl, trivial⟩ rfl
                              · replace Z36 := if_f (of_decide_eq_false c37) Z36
                                refine at_exit ?_
                                refine at_xt ?_
                                refine at_xt ?_
                                refine at_xb ?_
                                refine at_then ?_
                                refine at_seq ?_
                                obtain ⟨z49, Z45, Z36⟩ := bind_e Z36
                                refine at_seq_mid (σ := Bool) (fun x48 => x48 = z49) (fun x48 => [(0, (.int .i64 v1)), (1, (.int .i64 v2)), (9, (.slice a3 (List.length x6) n3)), (11, (.slice a6 (List.length v10) n6)), (12, (.slice a7 (List.length v11) n7)), (13, (.int .i64 x38)), (14, (.int .i64 x22)), (15, (.int .i64 x17)), (17, (.int .i64 x39)), (211, (.bool x48))]) (fun x48 => [F, H3, H6, H7]) ?_ ?_
                                · refine at_region_q mix (by kernel_rfl) ?_
                                  iterate 3 refine atq_s T rfl ?_
                                  refine atq_case (s := 188) rfl (fun c46 => ?_) (fun c46 => ?_)
                                  · replace Z45 := if_t c46 Z45
                                    iterate 23 refine atq_s T rfl ?_
                                    refine atq_end ?_
                                    refine at_sub [(0, (.int .i64 v1)), (1, (.int .i64 v2)), (9, (.slice a3 (List.length x6) n3)), (11, (.slice a6 (List.length v10) n6)), (12, (.slice a7 (List.length v11) n7)), (13, (.int .i64 x38)), (14, (.int .i64 x22)), (15, (.int .i64 x17)), (17, (.int .i64 x39)), (211, (.bool true))] ⟨rfl, rfl, rfl, rfl, rfl, rfl, rfl, rfl, rfl, rfl, trivial⟩ ?_
                                    refine at_then ?_
                                    obtain rfl := Option.some.inj Z45
                                    exact at_mid true [0, 0, 0, 0] rfl ⟨rfl, rfl, rfl, rfl, rfl, rfl, rfl, rfl, rfl, rfl, trivial⟩ rfl
                                  · replace Z45 := if_f (bf c46) Z45
                                    iterate 3 refine atq_s T rfl ?_
                                    refine atq_case (s := 191) rfl (fun c47 => ?_) (fun c47 => ?_)
                                    · replace Z45 := if_t (of_decide_eq_true c47) Z45
                                      iterate 2 refine atq_s T rfl ?_
                                      obtain ⟨c48, Z45⟩ := chk_e Z45
                                      obtain ⟨q28, o28, e28⟩ := s6.r.addr c48.1 c48.2
                                      refine atq_v rfl rfl rfl (g_index T rfl rfl rfl rfl rfl e28 c48.1 c48.2) ?_
                                      refine atq_s T rfl ?_
                                      obtain ⟨_, w30, ⟨a29, n29, ⟨r29, m29⟩, rfl⟩⟩ := SliceDR.view s6.r c48
                                      refine atq_v rfl rfl rfl (g_load T rfl rfl rfl rfl (in_view (j := 2) rfl w30 e28 2 rfl)) ?_
                                      iterate 2 refine atq_s T rfl ?_
                                      obtain ⟨c49, Z45⟩ := chk_e Z45
                                      obtain ⟨q31, o31, e31⟩ := r29.addr c49.1 c49.2
                                      refine atq_v rfl rfl rfl (g_index T rfl rfl rfl rfl rfl e31 c49.1 c49.2) ?_
                                      refine atq_v rfl rfl rfl (g_load T rfl rfl rfl rfl (in_elem1 (k := (Fl.int .i64)) (ro_of r29 (j := 2) rfl) e31 c49 0 rfl)) ?_
                                      iterate 2 refine atq_s T rfl ?_
                                      refine atq_v rfl rfl rfl (g_index T rfl rfl rfl rfl rfl e28 c48.1 c48.2) ?_
                                      refine atq_s T rfl ?_
                                      refine atq_v rfl rfl rfl (g_load T rfl rfl rfl rfl (in_view (j := 2) rfl w30 e28 2 rfl)) ?_
                                      refine atq_s T rfl ?_
                                      obtain ⟨c50, Z45⟩ := chk_e Z45
                                      refine atq_v rfl rfl rfl (g_index T rfl rfl rfl rfl rfl e31 c50.1 c50.2) ?_
                                      refine atq_v rfl rfl rfl (g_load T rfl rfl rfl rfl (in_elem1 (k := (Fl.int .i64)) (ro_of r29 (j := 2) rfl) e31 c50 0 rfl)) ?_
                                      iterate 3 refine atq_s T rfl ?_
                                      refine atq_end ?_
                                      refine at_sub [(0, (.int .i64 v1)), (1, (.int .i64 v2)), (9, (.slice a3 (List.length x6) n3)), (11, (.slice a6 (List.length v10) n6)), (12, (.slice a7 (List.length v11) n7)), (13, (.int .i64 x38)), (14, (.int .i64 x22)), (15, (.int .i64 x17)), (17, (.int .i64 x39)), (211, (.bool (decide ((rd ((rd v10 x17).Ids) (w64 (x39 - 1))) ≥ (rd ((rd v10 x17).Ids) x39)))))] ⟨rfl, rfl, rfl, rfl, rfl, rfl, rfl, rfl, rfl, rfl, trivial⟩ ?_
                                      refine at_then ?_
                                      obtain rfl := Option.some.inj Z45
                                      exact at_mid (decide ((rd ((rd v10 x17).Ids) (w64 (x39 - 1))) ≥ (rd ((rd v10 x17).Ids) x39))) [0, 0, 0, 0] rfl ⟨rfl, rfl, rfl, rfl, rfl, rfl, rfl, rfl, rfl, rfl, trivial⟩ rfl
                                    · replace Z45 := if_f (of_decide_eq_false c47) Z45
                                      iterate 20 refine atq_s T rfl ?_
                                      refine atq_end ?_
                                      refine at_sub [(0, (.int .i64 v1)), (1, (.int .i64 v2)), (9, (.slice a3 (List.length x6) n3)), (11, (.slice a6 (List.length v10) n6)), (12, (.slice a7 (List.length v11) n7)), (13, (.int .i64 x38)), (14, (.int .i64 x22)), (15, (.int .i64 x17)), (17, (.int .i64 x39)), (211, (.bool false))] ⟨rfl, rfl, rfl, rfl, rfl, rfl, rfl, rfl, rfl, rfl, trivial⟩ ?_
                                      refine at_then ?_
                                      obtain rfl := Option.some.inj Z45
                                      exact at_mid false [0, 0, 0, 0] rfl ⟨rfl, rfl, rfl, rfl, rfl, rfl, rfl, rfl, rfl, rfl, trivial⟩ rfl
                                · rintro x48 rfl
                                  refine at_cond rfl (fun c51 => ?_) (fun c51 => ?_)
                                  · replace Z36 := if_t c51 Z36
                                    refine at_seq ?_
                                    refine at_region [0] rfl ?_
                                    refine at_s T rfl ?_
                                    refine at_end ?_
                                    refine at_to [(8, (.bool false))] [0] [F] ⟨rfl, trivial⟩ rfl ?_
                                    refine at_then ?_
                                    refine at_ret ?_
                                    refine at_rt ?_
                                    refine at_rb ?_
                                    refine at_rt ?_
                                    refine at_rt ?_
                                    refine at_rb ?_
                                    refine at_rb ?_
                                    refine at_rt ?_
                                    refine at_rt ?_
                                    refine at_rb ?_
                                    refine at_rt ?_
                                    obtain rfl := Option.some.inj Z36
                                    obtain rfl := Option.some.inj (show some (Sum.inl false) = some z21 from Z32)
                                    obtain rfl := Option.some.inj (show some false = some r from Z11)
                                    exact at_post (T := T) rfl (.tmp rfl .nil) (fun w o => ⟨(), rfl, own_to [0] rfl o⟩)
                                  · replace Z36 := if_f (bf c51) Z36
                                    refine at_skip ?_
                                    refine at_then ?_
                                    refine at_region [0, 1, 2] rfl ?_
                                    iterate 3 refine at_s T rfl ?_
                                    refine at_end ?_
                                    refine at_sub [(0, (.int .i64 v1)), (1, (.int .i64 v2)), (9, (.slice a3 (List.length x6) n3)), (11, (.slice a6 (List.length v10) n6)), (12, (.slice a7 (List.length v11) n7)), (13, (.int .i64 (w64 (x38 + 1)))), (14, (.int .i64 x22)), (15, (.int .i64 x17)), (17, (.int .i64 x39))] ⟨rfl, rfl, rfl, rfl, rfl, rfl, rfl, rfl, rfl, trivial⟩ ?_
                                    refine at_nb ?_
                                    refine at_then ?_
                                    obtain rfl := Option.some.inj Z36
                                    exact at_mid () [0, 0, 0, 0] rfl ⟨rfl, rfl, rfl, rfl, rfl, rfl, rfl, rfl, rfl, trivial⟩ rfl
                          · rintro ⟨⟩ rfl
                            refine at_region [0, 1, 2] rfl ?_
                            iterate 3 refine at_s T rfl ?_
                            refine at_end ?_
                            refine at_sub [(0, (.int .i64 v1)), (1, (.int .i64 v2)), (9, (.slice a3 (List.length x6) n3)), (11, (.slice a6 (List.length v10) n6)), (12, (.slice a7 (List.length v11) n7)), (13, (.int .i64 (w64 (x38 + 1)))), (14, (.int .i64 x22)), (15, (.int .i64 x17)), (17, (.int .i64 (w64 (x39 + 1))))] ⟨rfl, rfl, rfl, rfl, rfl, rfl, rfl, rfl, rfl, trivial⟩ ?_
                            refine at_then ?_
                            exact at_roundL (k40, (w64 (x38 + 1)), (w64 (x39 + 1))) [0, 0, 0, 0] Z32 (Nat.lt_succ_self _) ⟨rfl, rfl, rfl, rfl, rfl, rfl, rfl, rfl, rfl, trivial⟩ rfl
                        · replace Z32 := if_f (of_decide_eq_false c34) Z32
                          refine at_exit ?_
                          refine at_xt ?_
                          refine at_xt ?_
                          refine at_xb ?_
                          refine at_nb ?_
                          refine at_then ?_
                          obtain rfl := Option.some.inj Z32
                          exact at_mid (x38, x22) [0, 0, 0, 0] rfl ⟨rfl, rfl, rfl, rfl, rfl, rfl, rfl, rfl, trivial⟩ rfl
          · rintro ⟨x19, x20⟩ rfl
            refine at_region [0, 1, 2] rfl ?_
            iterate 3 refine at_s T rfl ?_
            refine at_end ?_
            refine at_sub [(0, (.int .i64 v1)), (1, (.int .i64 v2)), (9, (.slice a3 (List.length x6) n3)), (11, (.slice a6 (List.length v10) n6)), (12, (.slice a7 (List.length v11) n7)), (13, (.int .i64 x19)), (14, (.int .i64 x20)), (15, (.int .i64 (w64 (x17 + 1))))] ⟨rfl, rfl, rfl, rfl, rfl, rfl, rfl, rfl, trivial⟩ ?_
            refine at_then ?_
            exact at_roundL (k18, x19, x20, (w64 (x17 + 1))) [0, 0, 0, 0] Z11 (Nat.lt_succ_self _) ⟨rfl, rfl, rfl, rfl, rfl, rfl, rfl, rfl, trivial⟩ rfl
        · replace Z11 := if_f (of_decide_eq_false c12) Z11
          refine at_exit ?_
          refine at_xt ?_
          refine at_xt ?_
          refine at_xb ?_
          refine at_then ?_
          refine at_seq ?_
          refine at_region [0, 1, 2, 3, 4, 5, 6, 7, 8, 9, 10, 11, 12, 13, 14, 15, 16, 17, 18, 19, 20, 21] rfl ?_
          obtain ⟨v50, V52, Z11⟩ := bind_e Z11
          refine at_cons (at_c (B := fun _ => []) [] rfl rfl rfl rfl has43 rfl rfl (law23_told.c  v50 _ V52) (fun _ => ?_))
          refine at_s T rfl ?_
          refine at_grp T [2, 3, 4, 5, 6] (s := 215) (c := v50) [(9, (.slice a3 (List.length x6) n3)), (11, (.slice a6 (List.length v10) n6)), (12, (.slice a7 (List.length v11) n7)), (220, (.bool (v50 && (x15 == (List.length x6 : Int)))))] rfl rfl rfl (fun c53 => ⟨rfl, rfl, rfl, (by rw [c53]; rfl), trivial⟩) (fun c53 => ⟨rfl, rfl, rfl, (by rw [c53]; rfl), trivial⟩) ?_
          refine at_s T rfl ?_
          refine at_grp T [8, 9, 10, 11, 12, 13] (s := 221) (c := (v50 && (x15 == (List.length x6 : Int)))) [(9, (.slice a3 (List.length x6) n3)), (11, (.slice a6 (List.length v10) n6)), (227, (.bool ((v50 && (x15 == (List.length x6 : Int))) && (decide ((List.length v11 : Int) ≤ (List.length v10 : Int))))))] rfl rfl rfl (fun c54 => ⟨rfl, rfl, (by rw [c54]; rfl), trivial⟩) (fun c54 => ⟨rfl, rfl, (by rw [c54]; rfl), trivial⟩) ?_
          refine at_s T rfl ?_
          refine at_grp T [15, 16, 17, 18, 19, 20] (s := 228) (c := ((v50 && (x15 == (List.length x6 : Int))) && (decide ((List.length v11 : Int) ≤ (List.length v10 : Int))))) [(234, (.bool (((v50 && (x15 == (List.length x6 : Int))) && (decide ((List.length v11 : Int) ≤ (List.length v10 : Int)))) && (decide ((List.length v10 : Int) ≤ (List.length x6 : Int))))))] rfl rfl rfl (fun c55 => ⟨(by rw [c55]; rfl), trivial⟩) (fun c55 => ⟨(by rw [c55]; rfl), trivial⟩) ?_
          refine at_s T rfl ?_
          refine at_end ?_
          refine at_to [(8, (.bool (((v50 && (x15 == (List.length x6 : Int))) && (decide ((List.length v11 : Int) ≤ (List.length v10 : Int)))) && (decide ((List.length v10 : Int) ≤ (List.length x6 : Int))))))] [0] [F] ⟨rfl, trivial⟩ rfl ?_
          refine at_then ?_
          refine at_ret ?_
          obtain rfl := Option.some.inj Z11
          exact at_post (T := T) rfl (.tmp rfl .nil) (fun w o => ⟨(), rfl, own_to [0] rfl o⟩)
def law23_PlanCovers.Pure : Prop := ∀ (w : Int) (h : Int) (k : (List Int)) (few : Bool), inI64 w → inI64 h → (∀ y ∈ k, inI64 y) → List.length k ≤ 9223372036854775807 → law23_PlanCovers.f w h k few = some true
end Go.Proofs.Ytmddmofncblfpaa
