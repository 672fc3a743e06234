import Derived.Test.YtnkdnecilkafhaaDoorT
import Derived.Test.YtnkdnecilkafhaaDoorFatlas
import Derived.Test.YtnkdnecilkafhaaDoorFlaw4
import Derived.Test.YtnkdnecilkafhaaDoorFref1
namespace Go.Proofs.YtnkdnecilkafhaaDoor
open Go.Hx
set_option maxRecDepth 100000
set_option linter.unusedVariables false
noncomputable section
/-! ### herdsman/herdsmanlaw4.AtlasTiles: function 8 -/
def law4_AtlasTiles.l1 : Nat → List api_Map → Int → Int → List Int → Option (List api_Map)
  | 0, _, _, _, _ => none
  | k21 + 1, x5, v13, x19, x20 => if (0 ≤ v13 ∧ v13 < (List.length (([] : List api_Map) ++ x5) : Int)) then (if x19 < (List.length x20 : Int) then (if (0 ≤ x19 ∧ x19 < (List.length x20 : Int)) then (law4_AtlasTiles.l1 k21 x5 v13 (w64 (x19 + 1)) (List.set x20 (Int.toNat x19) 1)) else none) else (some (List.set (([] : List api_Map) ++ x5) (Int.toNat v13) (api_Map.mk (w64 ((rd x5 v13).W + 1)) ((rd x5 v13).H) x20)))) else none
def law4_AtlasTiles.l0 : Nat → Int → Int → api_Map → Int → List api_Map → Int → Option Bool
  | 0, _, _, _, _, _, _ => none
  | k7 + 1, p3, how, v1, v2, x5, x6 => if x6 < v2 then ((atlas_Tile.f v1 x6).bind fun v8 => if (!v8.2) = true then (some false) else (if (List.length x5 + 1 ≤ 1099511627776) then (law4_AtlasTiles.l0 k7 p3 how v1 v2 (x5 ++ [v8.1]) (w64 (x6 + 1))) else none)) else ((atlas_Join.f v1.W v1.H x5).bind fun v9 => (if (!v9.2) = true then (some true) else ((ref1_SameMap.f v9.1 v1).bind fun v12 => some (!v12))).bind fun x10 => if x10 = true then (some false) else (if (List.length ([] : List api_Map) + List.length x5 ≤ 1099511627776) then ((ref1_Within.f p3 0 (w64 (v2 - 1))).bind fun v13 => ((ref1_Within.f how 0 3).bind fun v16 => if (v16 == 0) = true then (if (0 ≤ (0 : Int) ∧ (0 : Int) ≤ (w64 (v2 - 1)) ∧ (w64 (v2 - 1)) ≤ (List.length (([] : List api_Map) ++ x5) : Int)) then (some (sub' (([] : List api_Map) ++ x5) 0 (w64 (v2 - 1)))) else none) else (if (v16 == 1) = true then (if (0 ≤ (0 : Int) ∧ (0 : Int) < (List.length x5 : Int)) then (if (List.length (([] : List api_Map) ++ x5) + 1 ≤ 1099511627776) then (some ((([] : List api_Map) ++ x5) ++ [(rd x5 0)])) else none) else none) else (if (v16 == 2) = true then (if (0 ≤ v13 ∧ v13 < (List.length x5 : Int)) then (if (0 ≤ (w64 ((w64 ((rd x5 v13).W + 1)) * (rd x5 v13).H)) ∧ (w64 ((w64 ((rd x5 v13).W + 1)) * (rd x5 v13).H)) ≤ 1099511627776) then (if (0 ≤ v13 ∧ v13 < (List.length (([] : List api_Map) ++ x5) : Int)) then (law4_AtlasTiles.l1 fuel x5 v13 0 (List.replicate (Int.toNat (w64 ((w64 ((rd x5 v13).W + 1)) * (rd x5 v13).H))) (0 : Int))) else none) else none) else none) else (if (0 ≤ v13 ∧ v13 < (List.length x5 : Int)) then ((ref1_OwnTile.f (rd x5 v13)).bind fun v22 => if (0 ≤ v13 ∧ v13 < (List.length (([] : List api_Map) ++ x5) : Int)) then (if (0 ≤ (0 : Int) ∧ (0 : Int) < (List.length v22.C : Int)) then (some (List.set (([] : List api_Map) ++ x5) (Int.toNat v13) (api_Map.mk v22.W v22.H (List.set v22.C (Int.toNat 0) 0)))) else none) else none) else none)))).bind fun x14 => (atlas_Join.f v1.W v1.H x14).bind fun v23 => ((law4_told.f).bind fun v26 => if (v26 && (!v23.2)) = true then (if ((List.length v23.1.C : Int) == 0) = true then (if (v23.1.W == 0) = true then (some (v23.1.H == 0)) else (some false)) else (some false)) else (some false)).bind fun x24 => some x24) else none))
def law4_AtlasTiles.f (w : Int) (h : Int) (c : (List Int)) (p3 : Int) (how : Int) : Option Bool := (ref1_Made.f w h c).bind fun v1 => (ref1_Count.f v1.W v1.H).bind fun v2 => law4_AtlasTiles.l0 fuel p3 how v1 v2 [] 0
set_option maxHeartbeats 4000000 in
theorem law4_AtlasTiles.c {el : Nat → Addr} {a_c : Option Addr} {n_c : Nat} (w : Int) (h : Int) (c : (List Int)) (p3 : Int) (how : Int) (r : Bool) (F : Hp) (H : law4_AtlasTiles.f w h c p3 how = some r) (hG : Glb 142 gs_ lits_ el F) (h_c : SliceR (Fl.int .u8) c a_c F) (c_c : List.length c ≤ n_c) :
    CallsL Tryd.prog 8 [(.int .i64 w), (.int .i64 h), (.slice a_c (List.length c) n_c), (.int .i64 p3), (.int .i64 how)] [F] (fun _ : Unit => (.bool r)) (fun _ => [F]) := by
  unfold law4_AtlasTiles.f at H
  refine calls_atL [(0, (.int .i64 w)), (1, (.int .i64 h)), (2, (.slice a_c (List.length c) n_c)), (3, (.int .i64 p3)), (4, (.int .i64 how))] Tryd.func8 rfl rfl ⟨rfl, rfl, rfl, rfl, rfl, trivial⟩ (fun W => ?_)
  refine at_seq ?_
  refine at_region [0] rfl ?_
  refine at_s T rfl ?_
  refine at_end ?_
  refine at_sub [(0, (.int .i64 w)), (1, (.int .i64 h)), (2, (.slice a_c (List.length c) n_c)), (3, (.int .i64 p3)), (4, (.int .i64 how))] ⟨rfl, rfl, rfl, rfl, rfl, trivial⟩ ?_
  refine at_then ?_
  refine at_seq ?_
  refine at_region [0, 1, 2, 3, 4, 5] rfl ?_
  iterate 3 refine at_s T rfl ?_
  obtain ⟨v1, V1, H⟩ := bind_e H
  refine at_cons (at_cR (ref1_Made.R v1) [] [] rfl rfl rfl rfl has11 rfl rfl (ref1_Made.c w h c v1 _ V1 (ro_of h_c (j := 0) rfl) c_c) ?_)
  rintro _ _ ⟨a1, n1, H1, s1, rfl, rfl⟩
  refine at_cons (at_al T [(.int .i64 0), (.int .i64 0), (.slice none 0 0)] rfl rfl rfl rfl (fun b2 => ?_))
  refine at_cons (at_st T 2 [(.int .i64 v1.W), (.int .i64 v1.H), (.slice a1 (List.length v1.C) n1)] rfl rfl rfl rfl rfl rfl rfl rfl rfl rfl ?_)
  refine at_end ?_
  refine at_sub [(3, (.int .i64 p3)), (4, (.int .i64 how)), (11, (.pointer (some ⟨b2, 0, none⟩)))] ⟨rfl, rfl, rfl, trivial⟩ ?_
  refine at_then ?_
  refine at_seq ?_
  refine at_region [0] rfl ?_
  refine at_s T rfl ?_
  refine at_end ?_
  refine at_sub [(3, (.int .i64 p3)), (4, (.int .i64 how)), (11, (.pointer (some ⟨b2, 0, none⟩))), (12, (.slice none 0 0))] ⟨rfl, rfl, rfl, rfl, trivial⟩ ?_
  refine at_then ?_
  refine at_seq ?_
  refine at_region [0, 1, 2, 3, 4, 5] rfl ?_
  refine at_s T rfl ?_
  refine at_v rfl (g_load T rfl rfl rfl rfl (in_var (j := 2) rfl rfl)) ?_
  refine at_s T rfl ?_
  refine at_v rfl (g_load T rfl rfl rfl rfl (in_var (j := 2) rfl rfl)) ?_
  obtain ⟨v2, V2, H⟩ := bind_e H
  refine at_cons (at_c (B := fun _ => []) [] rfl rfl rfl rfl has21 rfl rfl (ref1_Count.c v1.W v1.H v2 _ V2) (fun _ => ?_))
  refine at_s T rfl ?_
  refine at_end ?_
  refine at_sub [(3, (.int .i64 p3)), (4, (.int .i64 how)), (11, (.pointer (some ⟨b2, 0, none⟩))), (12, (.slice none 0 0)), (13, (.int .i64 v2))] ⟨rfl, rfl, rfl, rfl, rfl, trivial⟩ ?_
  refine at_then ?_
  refine at_seq ?_
  refine at_seq ?_
  refine at_region [0] rfl ?_
  refine at_s T rfl ?_
  refine at_end ?_
  refine at_sub [(3, (.int .i64 p3)), (4, (.int .i64 how)), (11, (.pointer (some ⟨b2, 0, none⟩))), (12, (.slice none 0 0)), (13, (.int .i64 v2)), (14, (.int .i64 0))] ⟨rfl, rfl, rfl, rfl, rfl, rfl, trivial⟩ ?_
  refine at_then ?_
  refine at_block ?_
  refine at_addnil ?_
  refine at_loopL (σ := Nat × List api_Map × Int × Option Addr × Nat × Hp) (fun ⟨k7, x5, x6, a4, n4, H4⟩ => law4_AtlasTiles.l0 k7 p3 how v1 v2 x5 x6 = some r ∧ SliceD q_api_Map 41 x5 a4 n4 H4) (fun ⟨k7, x5, x6, a4, n4, H4⟩ => [(3, (.int .i64 p3)), (4, (.int .i64 how)), (11, (.pointer (some ⟨b2, 0, none⟩))), (12, (.slice a4 (List.length x5) n4)), (13, (.int .i64 v2)), (14, (.int .i64 x6))]) (fun ⟨k7, x5, x6, a4, n4, H4⟩ => [F, [(b2, Obj.cells #[(.int .i64 v1.W), (.int .i64 v1.H), (.slice a1 (List.length v1.C) n1)] 26 (0, 0))], H1, H4]) (fun s => s.1) (fuel, [], 0, none, 0, []) [0, 1, 0, 0] ⟨H, SliceD.nil⟩ ⟨rfl, rfl, rfl, rfl, rfl, rfl, trivial⟩ rfl ?_
  rintro ⟨k7, x5, x6, a4, n4, H4⟩ ⟨Z3, s4⟩
  replace Z3 : law4_AtlasTiles.l0 k7 p3 how v1 v2 x5 x6 = some r := Z3
  rcases k7 with _ | k7
  · rw [law4_AtlasTiles.l0] at Z3; cases Z3
  · rw [law4_AtlasTiles.l0] at Z3
    refine at_seq ?_
    refine at_seq ?_
    refine at_region [0, 1, 2] rfl ?_
    iterate 3 refine at_s T rfl ?_
    refine at_end ?_
    refine at_sub [(3, (.int .i64 p3)), (4, (.int .i64 how)), (11, (.pointer (some ⟨b2, 0, none⟩))), (12, (.slice a4 (List.length x5) n4)), (13, (.int .i64 v2)), (14, (.int .i64 x6)), (35, (.bool (decide (x6 < v2))))] ⟨rfl, rfl, rfl, rfl, rfl, rfl, rfl, trivial⟩ ?_
    refine at_then ?_
    refine at_cond rfl (fun c4 => ?_) (fun c4 => ?_)
    · replace Z3 := if_t (of_decide_eq_true c4) Z3
      refine at_skip ?_
      refine at_then ?_
      refine at_seq ?_
      refine at_block ?_
      refine at_seq ?_
      refine at_region [0, 1, 2, 3, 4, 5, 6, 7, 8] rfl ?_
      refine at_v rfl (g_loadA T (cs := [(.int .i64 v1.W), (.int .i64 v1.H), (.slice a1 (List.length v1.C) n1)]) rfl rfl rfl rfl rfl rfl (in_varA (j := 1) rfl rfl)) ?_
      refine at_s T rfl ?_
      obtain ⟨v8, V5, Z3⟩ := bind_e Z3
      refine at_cons (at_cR (atlas_Tile.R v8) [] [] rfl rfl rfl rfl has22 rfl rfl (atlas_Tile.c v1 x6 v8 _ V5 (own_of s1 (j := 2) rfl) s1.cap_le) ?_)
      rintro _ _ ⟨a5, n5, H5, s5, rfl, rfl⟩
      iterate 3 refine at_s T rfl ?_
      refine at_cons (at_al T [(.int .i64 0), (.int .i64 0), (.slice none 0 0)] rfl rfl rfl rfl (fun b6 => ?_))
      refine at_cons (at_st T 5 [(.int .i64 v8.1.W), (.int .i64 v8.1.H), (.slice a5 (List.length v8.1.C) n5)] rfl rfl rfl rfl rfl rfl rfl rfl rfl rfl ?_)
      refine at_s T rfl ?_
      refine at_end ?_
      refine at_sub [(3, (.int .i64 p3)), (4, (.int .i64 how)), (11, (.pointer (some ⟨b2, 0, none⟩))), (12, (.slice a4 (List.length x5) n4)), (13, (.int .i64 v2)), (14, (.int .i64 x6)), (15, (.pointer (some ⟨b6, 0, none⟩))), (16, (.bool v8.2))] ⟨rfl, rfl, rfl, rfl, rfl, rfl, rfl, rfl, trivial⟩ ?_
      refine at_then ?_
      refine at_seq ?_
      refine at_seq ?_
      refine at_region [0, 1] rfl ?_
      iterate 2 refine at_s T rfl ?_
      refine at_end ?_
      refine at_sub [(3, (.int .i64 p3)), (4, (.int .i64 how)), (11, (.pointer (some ⟨b2, 0, none⟩))), (12, (.slice a4 (List.length x5) n4)), (13, (.int .i64 v2)), (14, (.int .i64 x6)), (15, (.pointer (some ⟨b6, 0, none⟩))), (45, (.bool (!v8.2)))] ⟨rfl, rfl, rfl, rfl, rfl, rfl, rfl, rfl, trivial⟩ ?_
      refine at_then ?_
      refine at_cond rfl (fun c6 => ?_) (fun c6 => ?_)
      · replace Z3 := if_t c6 Z3
        refine at_seq ?_
        refine at_region [0] rfl ?_
        refine at_s T rfl ?_
        refine at_end ?_
        refine at_to [(10, (.bool false))] [0] [F] ⟨rfl, trivial⟩ rfl ?_
        refine at_then ?_
        refine at_ret ?_
        refine at_rt ?_
        refine at_rb ?_
        refine at_rt ?_
        refine at_rt ?_
        refine at_rb ?_
        refine at_rt ?_
        obtain rfl := Option.some.inj Z3
        exact at_post (T := T) rfl (.tmp rfl .nil) (fun w o => ⟨(), rfl, own_to [0] rfl o⟩)
      · replace Z3 := if_f (bf c6) Z3
        refine at_skip ?_
        refine at_then ?_
        refine at_region [0, 1, 2, 3, 4] rfl ?_
        refine at_s T rfl ?_
        refine at_v rfl (g_loadA T (cs := [(.int .i64 v8.1.W), (.int .i64 v8.1.H), (.slice a5 (List.length v8.1.C) n5)]) rfl rfl rfl rfl rfl rfl (in_varA (j := 5) rfl rfl)) ?_
        refine at_gather [4] rfl ?_
        refine at_cons (at_dbs (kd := q_api_Map) (E := 41) (q := 5) (c := [(.int .i64 v8.1.W), (.int .i64 v8.1.H), (.slice a5 (List.length v8.1.C) n5)]) T v8.1 rfl rfl rfl rfl rfl rfl rfl rfl rfl rfl ⟨a5, n5, H5, s5, rfl, rfl⟩ (fun a8 H8 s8 => ?_))
        obtain ⟨c7, Z3⟩ := chk_e Z3
        refine at_cons (at_dap (kd := q_api_Map) (xs := x5) (ys := [v8.1]) T (g := 3) (q := 6) rfl rfl rfl rfl rfl rfl rfl rfl rfl rfl s4 rfl rfl s8 c7 rfl (fun a9 n9 H9 s9 => ?_))
        refine at_s T rfl ?_
        refine at_end ?_
        refine at_to [(3, (.int .i64 p3)), (4, (.int .i64 how)), (11, (.pointer (some ⟨b2, 0, none⟩))), (12, (.slice a9 (List.length (x5 ++ [v8.1])) n9)), (13, (.int .i64 v2)), (14, (.int .i64 x6))] [0, 0, 0, 0] [F, [(b2, Obj.cells #[(.int .i64 v1.W), (.int .i64 v1.H), (.slice a1 (List.length v1.C) n1)] 26 (0, 0))], H1, H9] ⟨rfl, rfl, rfl, rfl, rfl, rfl, trivial⟩ rfl ?_
        refine at_nb ?_
        refine at_then ?_
        refine at_region [0, 1, 2] rfl ?_
        iterate 3 refine at_s T rfl ?_
        refine at_end ?_
        refine at_sub [(3, (.int .i64 p3)), (4, (.int .i64 how)), (11, (.pointer (some ⟨b2, 0, none⟩))), (12, (.slice a9 (List.length (x5 ++ [v8.1])) n9)), (13, (.int .i64 v2)), (14, (.int .i64 (w64 (x6 + 1))))] ⟨rfl, rfl, rfl, rfl, rfl, rfl, trivial⟩ ?_
        refine at_then ?_
        exact at_roundL (k7, (x5 ++ [v8.1]), (w64 (x6 + 1)), a9, n9, H9) [0, 0, 0, 0] ⟨Z3, s9⟩ (Nat.lt_succ_self _) ⟨rfl, rfl, rfl, rfl, rfl, rfl, trivial⟩ rfl
    · replace Z3 := if_f (of_decide_eq_false c4) Z3
      refine at_exit ?_
      refine at_xt ?_
      refine at_xt ?_
      refine at_xb ?_
      refine at_then ?_
      refine at_seq ?_
      refine at_region [0, 1, 2, 3, 4, 5, 6, 7, 8, 9, 10, 11] rfl ?_
      refine at_s T rfl ?_
      refine at_v rfl (g_load T rfl rfl rfl rfl (in_var (j := 1) rfl rfl)) ?_
      refine at_s T rfl ?_
      refine at_v rfl (g_load T rfl rfl rfl rfl (in_var (j := 1) rfl rfl)) ?_
      refine at_s T rfl ?_
      obtain ⟨v9, V8, Z3⟩ := bind_e Z3
      refine at_cons (at_cR (atlas_Join.R v9) [] [] rfl rfl rfl rfl has28 rfl rfl (atlas_Join.c v1.W v1.H x5 v9 _ V8 (down_of s4 (j := 3) rfl) s4.cap_le) ?_)
      rintro _ _ ⟨a10, n10, H10, s10, rfl, rfl⟩
      iterate 3 refine at_s T rfl ?_
      refine at_cons (at_al T [(.int .i64 0), (.int .i64 0), (.slice none 0 0)] rfl rfl rfl rfl (fun b11 => ?_))
      refine at_cons (at_st T 5 [(.int .i64 v9.1.W), (.int .i64 v9.1.H), (.slice a10 (List.length v9.1.C) n10)] rfl rfl rfl rfl rfl rfl rfl rfl rfl rfl ?_)
      refine at_s T rfl ?_
      refine at_end ?_
      refine at_sub [(3, (.int .i64 p3)), (4, (.int .i64 how)), (11, (.pointer (some ⟨b2, 0, none⟩))), (12, (.slice a4 (List.length x5) n4)), (13, (.int .i64 v2)), (17, (.pointer (some ⟨b11, 0, none⟩))), (18, (.bool v9.2))] ⟨rfl, rfl, rfl, rfl, rfl, rfl, rfl, trivial⟩ ?_
      refine at_then ?_
      refine at_seq ?_
      obtain ⟨z11, Z9, Z3⟩ := bind_e Z3
      refine at_seq_mid (σ := Bool) (fun x10 => x10 = z11) (fun x10 => [(3, (.int .i64 p3)), (4, (.int .i64 how)), (11, (.pointer (some ⟨b2, 0, none⟩))), (12, (.slice a4 (List.length x5) n4)), (13, (.int .i64 v2)), (66, (.bool x10))]) (fun x10 => [F, [(b2, Obj.cells #[(.int .i64 v1.W), (.int .i64 v1.H), (.slice a1 (List.length v1.C) n1)] 26 (0, 0))], H1, H4]) ?_ ?_
      · refine at_region [0, 1, 2, 3, 4, 5, 6, 7] rfl ?_
        iterate 3 refine at_s T rfl ?_
        refine at_case (s := 61) rfl (fun c10 => ?_) (fun c10 => ?_)
        · replace Z9 := if_t c10 Z9
          iterate 5 refine at_s T rfl ?_
          refine at_end ?_
          refine at_to [(3, (.int .i64 p3)), (4, (.int .i64 how)), (11, (.pointer (some ⟨b2, 0, none⟩))), (12, (.slice a4 (List.length x5) n4)), (13, (.int .i64 v2)), (66, (.bool true))] [0, 0, 0, 0] [F, [(b2, Obj.cells #[(.int .i64 v1.W), (.int .i64 v1.H), (.slice a1 (List.length v1.C) n1)] 26 (0, 0))], H1, H4] ⟨rfl, rfl, rfl, rfl, rfl, rfl, trivial⟩ rfl ?_
          refine at_then ?_
          obtain rfl := Option.some.inj Z9
          exact at_mid true [0, 0, 0, 0] rfl ⟨rfl, rfl, rfl, rfl, rfl, rfl, trivial⟩ rfl
        · replace Z9 := if_f (bf c10) Z9
          refine at_v rfl (g_loadA T (cs := [(.int .i64 v9.1.W), (.int .i64 v9.1.H), (.slice a10 (List.length v9.1.C) n10)]) rfl rfl rfl rfl rfl rfl (in_varA (j := 5) rfl rfl)) ?_
          refine at_v rfl (g_loadA T (cs := [(.int .i64 v1.W), (.int .i64 v1.H), (.slice a1 (List.length v1.C) n1)]) rfl rfl rfl rfl rfl rfl (in_varA (j := 1) rfl rfl)) ?_
          obtain ⟨v12, V11, Z9⟩ := bind_e Z9
          refine at_cons (at_c (B := fun _ => []) [] rfl rfl rfl rfl has15 rfl rfl (ref1_SameMap.c v9.1 v1 v12 _ V11 (own_of s10 (j := 4) rfl) s10.cap_le (own_of s1 (j := 2) rfl) s1.cap_le) (fun _ => ?_))
          iterate 2 refine at_s T rfl ?_
          refine at_end ?_
          refine at_to [(3, (.int .i64 p3)), (4, (.int .i64 how)), (11, (.pointer (some ⟨b2, 0, none⟩))), (12, (.slice a4 (List.length x5) n4)), (13, (.int .i64 v2)), (66, (.bool (!v12)))] [0, 0, 0, 0] [F, [(b2, Obj.cells #[(.int .i64 v1.W), (.int .i64 v1.H), (.slice a1 (List.length v1.C) n1)] 26 (0, 0))], H1, H4] ⟨rfl, rfl, rfl, rfl, rfl, rfl, trivial⟩ rfl ?_
          refine at_then ?_
          obtain rfl := Option.some.inj Z9
          exact at_mid (!v12) [0, 0, 0, 0] rfl ⟨rfl, rfl, rfl, rfl, rfl, rfl, trivial⟩ rfl
      · rintro x10 rfl
        refine at_cond rfl (fun c12 => ?_) (fun c12 => ?_)
        · replace Z3 := if_t c12 Z3
          refine at_seq ?_
          refine at_region [0] rfl ?_
          refine at_s T rfl ?_
          refine at_end ?_
          refine at_to [(10, (.bool false))] [0] [F] ⟨rfl, trivial⟩ rfl ?_
          refine at_then ?_
          refine at_ret ?_
          refine at_rt ?_
          obtain rfl := Option.some.inj Z3
          exact at_post (T := T) rfl (.tmp rfl .nil) (fun w o => ⟨(), rfl, own_to [0] rfl o⟩)
        · replace Z3 := if_f (bf c12) Z3
          refine at_skip ?_
          refine at_then ?_
          refine at_seq ?_
          refine at_region [0, 1, 2, 3] rfl ?_
          refine at_cons (at_dbs0 (kd := q_api_Map) (E := 41) T rfl rfl rfl rfl rfl (fun a12 H12 s12 => ?_))
          refine at_s T rfl ?_
          obtain ⟨c13, Z3⟩ := chk_e Z3
          refine at_cons (at_sbap (kd := q_api_Map) (ys := x5) T (g := 4) (q := 3) rfl rfl rfl rfl rfl rfl rfl rfl rfl rfl s12 rfl s4 c13 rfl (fun a13 n13 H13 s13 => ?_))
          refine at_s T rfl ?_
          refine at_end ?_
          refine at_sub [(3, (.int .i64 p3)), (4, (.int .i64 how)), (11, (.pointer (some ⟨b2, 0, none⟩))), (12, (.slice a4 (List.length x5) n4)), (13, (.int .i64 v2)), (19, (.slice a13 (List.length (([] : List api_Map) ++ x5)) n13))] ⟨rfl, rfl, rfl, rfl, rfl, rfl, trivial⟩ ?_
          refine at_then ?_
          refine at_seq ?_
          refine at_region [0, 1, 2, 3, 4] rfl ?_
          iterate 3 refine at_s T rfl ?_
          obtain ⟨v13, V14, Z3⟩ := bind_e Z3
          refine at_cons (at_c (B := fun _ => []) [] rfl rfl rfl rfl has12 rfl rfl (ref1_Within.c p3 0 (w64 (v2 - 1)) v13 _ V14) (fun _ => ?_))
          refine at_s T rfl ?_
          refine at_end ?_
          refine at_sub [(4, (.int .i64 how)), (11, (.pointer (some ⟨b2, 0, none⟩))), (12, (.slice a4 (List.length x5) n4)), (13, (.int .i64 v2)), (19, (.slice a13 (List.length (([] : List api_Map) ++ x5)) n13)), (20, (.int .i64 v13))] ⟨rfl, rfl, rfl, rfl, rfl, rfl, trivial⟩ ?_
          refine at_then ?_
          obtain ⟨z15, Z15, Z3⟩ := bind_e Z3
          refine at_seq_mid (σ := List api_Map × Option Addr × Nat × Hp) (fun ⟨x14, a14, n14, H14⟩ => x14 = z15 ∧ SliceB q_api_Map 41 x14 a14 n14 H14 H4) (fun ⟨x14, a14, n14, H14⟩ => [(11, (.pointer (some ⟨b2, 0, none⟩))), (19, (.slice a14 (List.length x14) n14))]) (fun ⟨x14, a14, n14, H14⟩ => [F, [(b2, Obj.cells #[(.int .i64 v1.W), (.int .i64 v1.H), (.slice a1 (List.length v1.C) n1)] 26 (0, 0))], H1, H4, H14]) ?_ ?_
          · refine at_seq ?_
            refine at_region [0, 1] rfl ?_
            refine at_s T rfl ?_
            obtain ⟨v16, V16, Z15⟩ := bind_e Z15
            refine at_cons (at_c (B := fun _ => []) [] rfl rfl rfl rfl has12 rfl rfl (ref1_Within.c how 0 3 v16 _ V16) (fun _ => ?_))
            refine at_end ?_
            refine at_sub [(11, (.pointer (some ⟨b2, 0, none⟩))), (12, (.slice a4 (List.length x5) n4)), (13, (.int .i64 v2)), (19, (.slice a13 (List.length (([] : List api_Map) ++ x5)) n13)), (20, (.int .i64 v13)), (75, (.int .i64 v16))] ⟨rfl, rfl, rfl, rfl, rfl, rfl, trivial⟩ ?_
            refine at_then ?_
            refine at_block ?_
            refine at_seq ?_
            refine at_region [0, 1] rfl ?_
            iterate 2 refine at_s T rfl ?_
            refine at_end ?_
            refine at_sub [(11, (.pointer (some ⟨b2, 0, none⟩))), (12, (.slice a4 (List.length x5) n4)), (13, (.int .i64 v2)), (19, (.slice a13 (List.length (([] : List api_Map) ++ x5)) n13)), (20, (.int .i64 v13)), (75, (.int .i64 v16)), (90, (.bool (v16 == 0)))] ⟨rfl, rfl, rfl, rfl, rfl, rfl, rfl, trivial⟩ ?_
            refine at_then ?_
            refine at_cond rfl (fun c17 => ?_) (fun c17 => ?_)
            · replace Z15 := if_t c17 Z15
              refine at_region [0, 1, 2, 3, 4] rfl ?_
              iterate 3 refine at_s T rfl ?_
              obtain ⟨c18, Z15⟩ := chk_e Z15
              refine at_v rfl (g_sub T rfl rfl rfl rfl rfl rfl c18 s13.cap_le) ?_
              refine at_s T rfl ?_
              refine at_end ?_
              refine at_sub [(11, (.pointer (some ⟨b2, 0, none⟩))), (19, (.slice (subA a13 n13 (Int.toNat 0) 3) (List.length (sub' (([] : List api_Map) ++ x5) 0 (w64 (v2 - 1)))) (n13 - Int.toNat 0)))] ⟨rfl, rfl, trivial⟩ ?_
              refine at_nb ?_
              refine at_then ?_
              obtain rfl := Option.some.inj Z15
              exact at_mid ((sub' (([] : List api_Map) ++ x5) 0 (w64 (v2 - 1))), (subA a13 n13 (Int.toNat 0) 3), (n13 - Int.toNat 0), H13) [0, 0, 0, 0, 0] ⟨rfl, (SliceB.pre s13 c18)⟩ ⟨rfl, rfl, trivial⟩ rfl
            · replace Z15 := if_f (bf c17) Z15
              refine at_seq ?_
              refine at_region [0, 1] rfl ?_
              iterate 2 refine at_s T rfl ?_
              refine at_end ?_
              refine at_sub [(11, (.pointer (some ⟨b2, 0, none⟩))), (12, (.slice a4 (List.length x5) n4)), (19, (.slice a13 (List.length (([] : List api_Map) ++ x5)) n13)), (20, (.int .i64 v13)), (75, (.int .i64 v16)), (96, (.bool (v16 == 1)))] ⟨rfl, rfl, rfl, rfl, rfl, rfl, trivial⟩ ?_
              refine at_then ?_
              refine at_cond rfl (fun c19 => ?_) (fun c19 => ?_)
              · replace Z15 := if_t c19 Z15
                refine at_region [0, 1, 2, 3, 4, 5, 6] rfl ?_
                iterate 2 refine at_s T rfl ?_
                obtain ⟨c20, Z15⟩ := chk_e Z15
                obtain ⟨q15, o15, e15⟩ := s4.r.addr c20.1 c20.2
                refine at_v rfl (g_index T rfl rfl rfl rfl rfl e15 c20.1 c20.2) ?_
                obtain ⟨_, w17, ⟨a16, n16, ⟨r16, m16⟩, rfl⟩⟩ := SliceDR.view s4.r c20
                refine at_v rfl (g_loadA T (cs := [(.int .i64 (rd x5 0).W), (.int .i64 (rd x5 0).H), (.slice a16 (List.length (rd x5 0).C) n16)]) rfl rfl rfl rfl rfl rfl (in_viewA (j := 3) rfl w17 e15 0 rfl)) ?_
                refine at_cons (at_sb1 (kd := q_api_Map) (E := 41) (c := [(.int .i64 (rd x5 0).W), (.int .i64 (rd x5 0).H), (.slice a16 (List.length (rd x5 0).C) n16)]) (Hl := H4) T (rd x5 0) rfl rfl rfl rfl rfl rfl rfl rfl rfl rfl rfl ⟨a16, n16, ⟨r16, m16⟩, rfl⟩ (fun a18 H18 s18 => ?_))
                obtain ⟨c21, Z15⟩ := chk_e Z15
                refine at_cons (at_sbap2 (kd := q_api_Map) (xs := (([] : List api_Map) ++ x5)) (ys := [(rd x5 0)]) T (g := 4) (q := 5) rfl rfl rfl rfl rfl rfl rfl rfl rfl rfl s13 rfl rfl s18 c21 rfl (fun a19 n19 H19 s19 => ?_))
                refine at_s T rfl ?_
                refine at_end ?_
                refine at_to [(11, (.pointer (some ⟨b2, 0, none⟩))), (19, (.slice a19 (List.length ((([] : List api_Map) ++ x5) ++ [(rd x5 0)])) n19))] [0, 0, 0, 0, 0] [F, [(b2, Obj.cells #[(.int .i64 v1.W), (.int .i64 v1.H), (.slice a1 (List.length v1.C) n1)] 26 (0, 0))], H1, H4, H19] ⟨rfl, rfl, trivial⟩ rfl ?_
                refine at_nb ?_
                refine at_then ?_
                obtain rfl := Option.some.inj Z15
                exact at_mid (((([] : List api_Map) ++ x5) ++ [(rd x5 0)]), a19, n19, H19) [0, 0, 0, 0, 0] ⟨rfl, s19⟩ ⟨rfl, rfl, trivial⟩ rfl
              · replace Z15 := if_f (bf c19) Z15
                refine at_seq ?_
                refine at_region [0, 1] rfl ?_
                iterate 2 refine at_s T rfl ?_
                refine at_end ?_
                refine at_sub [(11, (.pointer (some ⟨b2, 0, none⟩))), (12, (.slice a4 (List.length x5) n4)), (19, (.slice a13 (List.length (([] : List api_Map) ++ x5)) n13)), (20, (.int .i64 v13)), (104, (.bool (v16 == 2)))] ⟨rfl, rfl, rfl, rfl, rfl, trivial⟩ ?_
                refine at_then ?_
                refine at_cond rfl (fun c22 => ?_) (fun c22 => ?_)
                · replace Z15 := if_t c22 Z15
                  refine at_seq ?_
                  refine at_region_m [[], [], [], [], [2, 3], [2, 3, 4], [2, 3, 4, 5], [2, 3, 4, 5, 6], [], [], [8, 9], [8, 9, 10], [8, 9, 10, 11], [], [], [13, 14], [13, 14, 15], [13, 14, 15, 16], [13, 14, 15, 16, 17], [], [], [19, 20], [19, 20, 21], [19, 20, 21, 22], [13, 14, 15, 16, 17, 18, 19, 20, 21, 22, 23], [13, 14, 15, 16, 17, 18, 19, 20, 21, 22, 23, 24], [2, 3, 4, 5, 6, 7, 8, 9, 10, 11, 12, 13, 14, 15, 16, 17, 18, 19, 20, 21, 22, 23, 24, 25], [0, 1, 2, 3, 4, 5, 6, 7, 8, 9, 10, 11, 12, 13, 14, 15, 16, 17, 18, 19, 20, 21, 22, 23, 24, 25, 26], [0, 1, 2, 3, 4, 5, 6, 7, 8, 9, 10, 11, 12, 13, 14, 15, 16, 17, 18, 19, 20, 21, 22, 23, 24, 25, 26, 27]] [28] [F, [(b2, Obj.cells #[(.int .i64 v1.W), (.int .i64 v1.H), (.slice a1 (List.length v1.C) n1)] 26 (0, 0))], H1, H4, H13] mix (by kernel_rfl) (by repeat first | exact pf_body | refine pf_then ?_ | refine pf_block ?_) (fun hg pf => ?_)
                  refine atm_s T 0 hg pf (by kernel_rfl) (still_o [0, 0, 0, 0, 0] rfl) rfl ?_
                  refine atm_s T 1 hg pf (by kernel_rfl) (still_o [0, 0, 0, 0, 0] rfl) rfl ?_
                  refine atm_s T 2 hg pf (by kernel_rfl) (still_o [0, 0, 0, 0, 0] rfl) rfl ?_
                  refine atm_s T 3 hg pf (by kernel_rfl) (still_o [0, 0, 0, 0, 0] rfl) rfl ?_
                  obtain ⟨c23, Z15⟩ := chk_e Z15
                  obtain ⟨q20, o20, e20⟩ := s4.r.addr c23.1 c23.2
                  refine atm_v 4 hg pf (by kernel_rfl) (still_o [0, 0, 0, 0, 0] rfl) rfl rfl (g_index T rfl rfl rfl rfl rfl e20 c23.1 c23.2) ?_
                  refine atm_s T 5 hg pf (by kernel_rfl) (still_o [0, 0, 0, 0, 0] rfl) rfl ?_
                  obtain ⟨_, w22, ⟨a21, n21, ⟨r21, m21⟩, rfl⟩⟩ := SliceDR.view s4.r c23
                  refine atm_v 6 hg pf (by kernel_rfl) (still_o [0, 0, 0, 0, 0] rfl) rfl rfl (g_load T rfl rfl rfl rfl (in_view (j := 3) rfl w22 e20 0 rfl)) ?_
                  refine atm_s T 7 hg pf (by kernel_rfl) (still_o [0, 0, 0, 0, 0] rfl) rfl ?_
                  refine atm_s T 8 hg pf (by kernel_rfl) (still_o [0, 0, 0, 0, 0] rfl) rfl ?_
                  refine atm_s T 9 hg pf (by kernel_rfl) (still_o [0, 0, 0, 0, 0] rfl) rfl ?_
                  refine atm_v 10 hg pf (by kernel_rfl) (still_o [0, 0, 0, 0, 0] rfl) rfl rfl (g_index T rfl rfl rfl rfl rfl e20 c23.1 c23.2) ?_
                  refine atm_s T 11 hg pf (by kernel_rfl) (still_o [0, 0, 0, 0, 0] rfl) rfl ?_
                  refine atm_v 12 hg pf (by kernel_rfl) (still_o [0, 0, 0, 0, 0] rfl) rfl rfl (g_load T rfl rfl rfl rfl (in_view (j := 3) rfl w22 e20 1 rfl)) ?_
                  refine atm_s T 13 hg pf (by kernel_rfl) (still_o [0, 0, 0, 0, 0] rfl) rfl ?_
                  refine atm_s T 14 hg pf (by kernel_rfl) (still_o [0, 0, 0, 0, 0] rfl) rfl ?_
                  refine atm_v 15 hg pf (by kernel_rfl) (still_o [0, 0, 0, 0, 0] rfl) rfl rfl (g_index T rfl rfl rfl rfl rfl e20 c23.1 c23.2) ?_
                  refine atm_s T 16 hg pf (by kernel_rfl) (still_o [0, 0, 0, 0, 0] rfl) rfl ?_
                  refine atm_v 17 hg pf (by kernel_rfl) (still_o [0, 0, 0, 0, 0] rfl) rfl rfl (g_load T rfl rfl rfl rfl (in_view (j := 3) rfl w22 e20 0 rfl)) ?_
                  refine atm_s T 18 hg pf (by kernel_rfl) (still_o [0, 0, 0, 0, 0] rfl) rfl ?_
                  refine atm_s T 19 hg pf (by kernel_rfl) (still_o [0, 0, 0, 0, 0] rfl) rfl ?_
                  refine atm_s T 20 hg pf (by kernel_rfl) (still_o [0, 0, 0, 0, 0] rfl) rfl ?_
                  refine atm_v 21 hg pf (by kernel_rfl) (still_o [0, 0, 0, 0, 0] rfl) rfl rfl (g_index T rfl rfl rfl rfl rfl e20 c23.1 c23.2) ?_
                  refine atm_s T 22 hg pf (by kernel_rfl) (still_o [0, 0, 0, 0, 0] rfl) rfl ?_
                  refine atm_v 23 hg pf (by kernel_rfl) (still_o [0, 0, 0, 0, 0] rfl) rfl rfl (g_load T rfl rfl rfl rfl (in_view (j := 3) rfl w22 e20 1 rfl)) ?_
                  refine atm_s T 24 hg pf (by kernel_rfl) (still_o [0, 0, 0, 0, 0] rfl) rfl ?_
                  refine atm_one 25 (by kernel_rfl) ?_
                  obtain ⟨c24, Z15⟩ := chk_e Z15
                  refine at_mk (k := (Fl.int .u8)) T (0 : Int) rfl rfl rfl rfl rfl rfl rfl rfl c24 rfl (fun a23 n23 H23 s23 => ?_)
                  refine atm_next (still_o [0, 0, 0, 0, 0] rfl) ?_
                  refine atm_s T 26 hg pf (by kernel_rfl) (still_o [0, 0, 0, 0, 0] rfl) rfl ?_
                  obtain ⟨c25, Z15⟩ := chk_e Z15
                  obtain ⟨q24, o24, e24⟩ := s13.addr c25.1 c25.2
                  refine atm_v 27 hg pf (by kernel_rfl) (still_o [0, 0, 0, 0, 0] rfl) rfl rfl (g_index T rfl rfl rfl rfl rfl e24 c25.1 c25.2) ?_
                  refine atm_one 28 (by kernel_rfl) ?_
                  refine at_sbst (kd := q_api_Map) T 4 [(.int .i64 (w64 ((rd x5 v13).W + 1))), (.int .i64 (rd x5 v13).H), (.slice a23 (List.length (List.replicate (Int.toNat (w64 ((w64 ((rd x5 v13).W + 1)) * (rd x5 v13).H))) (0 : Int))) n23)] rfl rfl rfl rfl rfl rfl s13 e24 c25 rfl rfl rfl rfl (fun H25 s25 => ?_)
                  refine atm_next (still_l (by kernel_rfl)) ?_
                  refine atm_end (by kernel_rfl) ?_
                  refine at_sub [(11, (.pointer (some ⟨b2, 0, none⟩))), (19, (.slice a13 (List.length (([] : List api_Map) ++ x5)) n13)), (20, (.int .i64 v13))] ⟨rfl, rfl, rfl, trivial⟩ ?_
                  refine at_then ?_
                  refine at_seq ?_
                  refine at_region [0] rfl ?_
                  refine at_s T rfl ?_
                  refine at_end ?_
                  refine at_sub [(11, (.pointer (some ⟨b2, 0, none⟩))), (19, (.slice a13 (List.length (([] : List api_Map) ++ x5)) n13)), (20, (.int .i64 v13)), (21, (.int .i64 0))] ⟨rfl, rfl, rfl, rfl, trivial⟩ ?_
                  refine at_then ?_
                  refine at_block ?_
                  refine at_loopL (σ := Nat × Int × List Int × Hp) (fun ⟨k21, x19, x20, H27⟩ => law4_AtlasTiles.l1 k21 x5 v13 x19 x20 = some z15 ∧ SliceO (Fl.int .u8) 5 x20 a23 n23 H27 ∧ List.length x20 = List.length (List.replicate (Int.toNat (w64 ((w64 ((rd x5 v13).W + 1)) * (rd x5 v13).H))) (0 : Int))) (fun ⟨k21, x19, x20, H27⟩ => [(11, (.pointer (some ⟨b2, 0, none⟩))), (19, (.slice a13 (List.length (([] : List api_Map) ++ x5)) n13)), (20, (.int .i64 v13)), (21, (.int .i64 x19))]) (fun ⟨k21, x19, x20, H27⟩ => [F, [(b2, Obj.cells #[(.int .i64 v1.W), (.int .i64 v1.H), (.slice a1 (List.length v1.C) n1)] 26 (0, 0))], H1, H25, H4, H27]) (fun s => s.1) (fuel, 0, (List.replicate (Int.toNat (w64 ((w64 ((rd x5 v13).W + 1)) * (rd x5 v13).H))) (0 : Int)), H23) [0, 0, 0, 1, 0, 0] ⟨Z15, s23, rfl⟩ ⟨rfl, rfl, rfl, rfl, trivial⟩ rfl ?_
                  rintro ⟨k21, x19, x20, H27⟩ ⟨Z26, s27, l27⟩
                  replace Z26 : law4_AtlasTiles.l1 k21 x5 v13 x19 x20 = some z15 := Z26
                  rcases k21 with _ | k21
                  · rw [law4_AtlasTiles.l1] at Z26; cases Z26
                  · rw [law4_AtlasTiles.l1] at Z26
                    refine at_seq ?_
                    refine at_seq ?_
                    refine at_region [0, 1, 2, 3, 4, 5, 6, 7] rfl ?_
                    iterate 3 refine at_s T rfl ?_
                    obtain ⟨c27, Z26⟩ := chk_e Z26
                    obtain ⟨q28, o28, e28⟩ := s25.addr
                    refine at_v rfl (g_index T rfl rfl rfl rfl rfl e28 c27.1 c27.2) ?_
                    refine at_s T rfl ?_
                    refine at_v rfl (g_load T rfl rfl rfl rfl (in_view (j := 3) rfl (SliceBH.cells s25) e28 2 rfl)) ?_
                    refine at_to [(11, (.pointer (some ⟨b2, 0, none⟩))), (19, (.slice a13 (List.length (([] : List api_Map) ++ x5)) n13)), (20, (.int .i64 v13)), (21, (.int .i64 x19)), (134, (.int .i64 x19)), (139, (.slice a23 (List.length x20) n23))] [0, 0, 0, 0, 0, 0] [F, [(b2, Obj.cells #[(.int .i64 v1.W), (.int .i64 v1.H), (.slice a1 (List.length v1.C) n1)] 26 (0, 0))], H1, H25, H4, H27] ⟨rfl, rfl, rfl, rfl, rfl, (by first | rfl | (simp only [l27]; rfl)), trivial⟩ rfl ?_
                    iterate 2 refine at_s T rfl ?_
                    refine at_end ?_
                    refine at_sub [(11, (.pointer (some ⟨b2, 0, none⟩))), (19, (.slice a13 (List.length (([] : List api_Map) ++ x5)) n13)), (20, (.int .i64 v13)), (21, (.int .i64 x19)), (141, (.bool (decide (x19 < (List.length x20 : Int)))))] ⟨rfl, rfl, rfl, rfl, rfl, trivial⟩ ?_
                    refine at_then ?_
                    refine at_cond rfl (fun c28 => ?_) (fun c28 => ?_)
                    · replace Z26 := if_t (of_decide_eq_true c28) Z26
                      refine at_skip ?_
                      refine at_then ?_
                      refine at_seq ?_
                      refine at_block ?_
                      refine at_region [0, 1, 2, 3, 4, 5, 6, 7] rfl ?_
                      iterate 2 refine at_s T rfl ?_
                      refine at_v rfl (g_index T rfl rfl rfl rfl rfl e28 c27.1 c27.2) ?_
                      refine at_s T rfl ?_
                      refine at_v rfl (g_load T rfl rfl rfl rfl (in_view (j := 3) rfl (SliceBH.cells s25) e28 2 rfl)) ?_
                      refine at_to [(11, (.pointer (some ⟨b2, 0, none⟩))), (19, (.slice a13 (List.length (([] : List api_Map) ++ x5)) n13)), (20, (.int .i64 v13)), (21, (.int .i64 x19)), (148, (.slice a23 (List.length x20) n23))] [0, 0, 0, 0, 0, 0] [F, [(b2, Obj.cells #[(.int .i64 v1.W), (.int .i64 v1.H), (.slice a1 (List.length v1.C) n1)] 26 (0, 0))], H1, H25, H4, H27] ⟨rfl, rfl, rfl, rfl, (by first | rfl | (simp only [l27]; rfl)), trivial⟩ rfl ?_
                      refine at_s T rfl ?_
                      obtain ⟨c29, Z26⟩ := chk_e Z26
                      obtain ⟨q29, o29, e29⟩ := s27.r.addr c29.1 c29.2
                      refine at_v rfl (g_index T rfl rfl rfl rfl rfl e29 c29.1 c29.2) ?_
                      refine at_cons (at_se (k := (Fl.int .u8)) T 5 0 1 rfl rfl rfl rfl rfl rfl s27 e29 c29 rfl rfl rfl (fun H30 s30 => ?_))
                      refine at_to [(11, (.pointer (some ⟨b2, 0, none⟩))), (19, (.slice a13 (List.length (([] : List api_Map) ++ x5)) n13)), (20, (.int .i64 v13)), (21, (.int .i64 x19))] [0, 0, 0, 0, 0, 0] [F, [(b2, Obj.cells #[(.int .i64 v1.W), (.int .i64 v1.H), (.slice a1 (List.length v1.C) n1)] 26 (0, 0))], H1, H25, H4, H30] ⟨rfl, rfl, rfl, rfl, trivial⟩ rfl ?_
                      refine at_end ?_
                      refine at_sub [(11, (.pointer (some ⟨b2, 0, none⟩))), (19, (.slice a13 (List.length (([] : List api_Map) ++ x5)) n13)), (20, (.int .i64 v13)), (21, (.int .i64 x19))] ⟨rfl, rfl, rfl, rfl, trivial⟩ ?_
                      refine at_nb ?_
                      refine at_then ?_
                      refine at_region [0, 1, 2] rfl ?_
                      iterate 3 refine at_s T rfl ?_
                      refine at_end ?_
                      refine at_sub [(11, (.pointer (some ⟨b2, 0, none⟩))), (19, (.slice a13 (List.length (([] : List api_Map) ++ x5)) n13)), (20, (.int .i64 v13)), (21, (.int .i64 (w64 (x19 + 1))))] ⟨rfl, rfl, rfl, rfl, trivial⟩ ?_
                      refine at_then ?_
                      exact at_roundL (k21, (w64 (x19 + 1)), (List.set x20 (Int.toNat x19) 1), H30) [0, 0, 0, 0, 0, 0] ⟨Z26, s30, (Eq.trans List.length_set l27)⟩ (Nat.lt_succ_self _) ⟨rfl, rfl, rfl, rfl, trivial⟩ rfl
                    · replace Z26 := if_f (of_decide_eq_false c28) Z26
                      refine at_exit ?_
                      refine at_xt ?_
                      refine at_xt ?_
                      refine at_xb ?_
                      refine at_nb ?_
                      refine at_then ?_
                      refine at_sbclose (j := 3) (q := 5) (api_Map.mk (w64 ((rd x5 v13).W + 1)) ((rd x5 v13).H) x20) rfl s25 rfl rfl ⟨a23, n23, ⟨s27.r, s27.cap_le⟩, (by simp only [l27])⟩ (fun H31 s31 => ?_)
                      refine at_to [(11, (.pointer (some ⟨b2, 0, none⟩))), (19, (.slice a13 (List.length (List.set (([] : List api_Map) ++ x5) (Int.toNat v13) (api_Map.mk (w64 ((rd x5 v13).W + 1)) ((rd x5 v13).H) x20))) n13)), (20, (.int .i64 v13)), (21, (.int .i64 x19)), (141, (.bool (decide (x19 < (List.length x20 : Int)))))] [0, 0, 0, 0, 0] [F, [(b2, Obj.cells #[(.int .i64 v1.W), (.int .i64 v1.H), (.slice a1 (List.length v1.C) n1)] 26 (0, 0))], H1, H31, H4] ⟨rfl, (by first | rfl | (simp only [List.length_set]; rfl)), rfl, rfl, rfl, trivial⟩ rfl ?_
                      obtain rfl := Option.some.inj Z26
                      exact at_mid ((List.set (([] : List api_Map) ++ x5) (Int.toNat v13) (api_Map.mk (w64 ((rd x5 v13).W + 1)) ((rd x5 v13).H) x20)), a13, n13, H31) [0, 0, 0, 1, 0] ⟨rfl, s31⟩ ⟨rfl, rfl, trivial⟩ rfl
                · replace Z15 := if_f (bf c22) Z15
                  refine at_seq ?_
                  refine at_region [0, 1, 2, 3, 4, 5, 6, 7, 8] rfl ?_
                  iterate 4 refine at_s T rfl ?_
                  obtain ⟨c30, Z15⟩ := chk_e Z15
                  obtain ⟨q32, o32, e32⟩ := s4.r.addr c30.1 c30.2
                  refine at_v rfl (g_index T rfl rfl rfl rfl rfl e32 c30.1 c30.2) ?_
                  obtain ⟨_, w34, ⟨a33, n33, ⟨r33, m33⟩, rfl⟩⟩ := SliceDR.view s4.r c30
                  refine at_v rfl (g_loadA T (cs := [(.int .i64 (rd x5 v13).W), (.int .i64 (rd x5 v13).H), (.slice a33 (List.length (rd x5 v13).C) n33)]) rfl rfl rfl rfl rfl rfl (in_viewA (j := 3) rfl w34 e32 0 rfl)) ?_
                  obtain ⟨v22, V31, Z15⟩ := bind_e Z15
                  refine at_cons (at_cR (ref1_OwnTile.R v22) [] [] rfl rfl rfl rfl has29 rfl rfl (ref1_OwnTile.c (rd x5 v13) v22 _ V31 (ro_of r33 (j := 3) rfl) m33) ?_)
                  rintro _ _ ⟨a35, n35, H35, s35, rfl, rfl⟩
                  obtain ⟨c32, Z15⟩ := chk_e Z15
                  obtain ⟨q36, o36, e36⟩ := s13.addr c32.1 c32.2
                  refine at_v rfl (g_index T rfl rfl rfl rfl rfl e36 c32.1 c32.2) ?_
                  refine at_cons (at_sbst (kd := q_api_Map) T 4 [(.int .i64 v22.W), (.int .i64 v22.H), (.slice a35 (List.length v22.C) n35)] rfl rfl rfl rfl rfl rfl s13 e36 c32 rfl rfl rfl rfl (fun H37 s37 => ?_))
                  refine at_end ?_
                  refine at_sub [(11, (.pointer (some ⟨b2, 0, none⟩))), (19, (.slice a13 (List.length (([] : List api_Map) ++ x5)) n13)), (20, (.int .i64 v13))] ⟨rfl, rfl, rfl, trivial⟩ ?_
                  refine at_then ?_
                  refine at_region [0, 1, 2, 3, 4, 5, 6] rfl ?_
                  iterate 2 refine at_s T rfl ?_
                  refine at_v rfl (g_index T rfl rfl rfl rfl rfl e36 c32.1 c32.2) ?_
                  refine at_s T rfl ?_
                  refine at_v rfl (g_load T rfl rfl rfl rfl (in_view (j := 4) rfl (SliceBH.cells s37) e36 2 rfl)) ?_
                  obtain ⟨c33, Z15⟩ := chk_e Z15
                  obtain ⟨q38, o38, e38⟩ := s35.r.addr c33.1 c33.2
                  refine at_v rfl (g_index T rfl rfl rfl rfl rfl e38 c33.1 c33.2) ?_
                  refine at_cons (at_se (k := (Fl.int .u8)) T 5 0 0 rfl rfl rfl rfl rfl rfl s35 e38 c33 rfl rfl rfl (fun H39 s39 => ?_))
                  refine at_to [(11, (.pointer (some ⟨b2, 0, none⟩))), (19, (.slice a13 (List.length (([] : List api_Map) ++ x5)) n13))] [0, 0, 0, 0, 0, 0] [F, [(b2, Obj.cells #[(.int .i64 v1.W), (.int .i64 v1.H), (.slice a1 (List.length v1.C) n1)] 26 (0, 0))], H1, H4, H37, H39] ⟨rfl, rfl, trivial⟩ rfl ?_
                  refine at_end ?_
                  refine at_sub [(11, (.pointer (some ⟨b2, 0, none⟩))), (19, (.slice a13 (List.length (([] : List api_Map) ++ x5)) n13))] ⟨rfl, rfl, trivial⟩ ?_
                  refine at_nb ?_
                  refine at_then ?_
                  refine at_sbclose (j := 4) (q := 5) (api_Map.mk v22.W v22.H (List.set v22.C (Int.toNat 0) 0)) rfl s37 rfl rfl ⟨a35, n35, ⟨s39.r, s39.cap_le⟩, (by simp only [(Eq.trans List.length_set rfl)])⟩ (fun H40 s40 => ?_)
                  refine at_to [(11, (.pointer (some ⟨b2, 0, none⟩))), (19, (.slice a13 (List.length (List.set (([] : List api_Map) ++ x5) (Int.toNat v13) (api_Map.mk v22.W v22.H (List.set v22.C (Int.toNat 0) 0)))) n13))] [0, 0, 0, 0, 0] [F, [(b2, Obj.cells #[(.int .i64 v1.W), (.int .i64 v1.H), (.slice a1 (List.length v1.C) n1)] 26 (0, 0))], H1, H4, H40] ⟨rfl, (by first | rfl | (simp only [List.length_set]; rfl)), trivial⟩ rfl ?_
                  obtain rfl := Option.some.inj Z15
                  exact at_mid ((List.set (([] : List api_Map) ++ x5) (Int.toNat v13) (api_Map.mk v22.W v22.H (List.set v22.C (Int.toNat 0) 0))), a13, n13, H40) [0, 0, 0, 0, 0] ⟨rfl, s40⟩ ⟨rfl, rfl, trivial⟩ rfl
          · rintro ⟨x14, a14, n14, H14⟩ ⟨rfl, s14⟩
            refine at_seq ?_
            refine at_region [0, 1, 2, 3, 4, 5, 6, 7, 8, 9, 10, 11] rfl ?_
            refine at_s T rfl ?_
            refine at_v rfl (g_load T rfl rfl rfl rfl (in_var (j := 1) rfl rfl)) ?_
            refine at_s T rfl ?_
            refine at_v rfl (g_load T rfl rfl rfl rfl (in_var (j := 1) rfl rfl)) ?_
            refine at_s T rfl ?_
            obtain ⟨v23, V34, Z3⟩ := bind_e Z3
            refine at_cons (at_cR (atlas_Join.R v23) [] [] rfl rfl rfl rfl has28 rfl rfl (atlas_Join.c v1.W v1.H x14 v23 _ V34 (sb_of s14 (j := 4) rfl (q := 3) rfl) s14.cap_le) ?_)
            rintro _ _ ⟨a41, n41, H41, s41, rfl, rfl⟩
            iterate 3 refine at_s T rfl ?_
            refine at_cons (at_al T [(.int .i64 0), (.int .i64 0), (.slice none 0 0)] rfl rfl rfl rfl (fun b42 => ?_))
            refine at_cons (at_st T 6 [(.int .i64 v23.1.W), (.int .i64 v23.1.H), (.slice a41 (List.length v23.1.C) n41)] rfl rfl rfl rfl rfl rfl rfl rfl rfl rfl ?_)
            refine at_s T rfl ?_
            refine at_end ?_
            refine at_to [(22, (.pointer (some ⟨b42, 0, none⟩))), (23, (.bool v23.2))] [0, 4, 4] [F, H41, [(b42, Obj.cells #[(.int .i64 v23.1.W), (.int .i64 v23.1.H), (.slice a41 (List.length v23.1.C) n41)] 26 (0, 0))]] ⟨rfl, rfl, trivial⟩ rfl ?_
            refine at_then ?_
            obtain ⟨z25, Z35, Z3⟩ := bind_e Z3
            refine at_seq_mid (σ := Bool) (fun x24 => x24 = z25) (fun x24 => [(10, (.bool x24))]) (fun x24 => [F]) ?_ ?_
            · refine at_region [0, 1, 2, 3, 4, 5, 6, 7, 8, 9, 10, 11, 12, 13, 14, 15, 16, 17, 18, 19, 20, 21] rfl ?_
              obtain ⟨v26, V36, Z35⟩ := bind_e Z35
              refine at_cons (at_c (B := fun _ => []) [] rfl rfl rfl rfl has9 rfl rfl (law4_told.c  v26 _ V36 (glb_of hG (j := 0) rfl)) (fun _ => ?_))
              refine at_s T rfl ?_
              refine at_grp T [2, 3, 4] (s := 161) (c := v26) [(22, (.pointer (some ⟨b42, 0, none⟩))), (164, (.bool (v26 && (!v23.2))))] rfl rfl rfl (fun c37 => ⟨rfl, (by rw [c37]; rfl), trivial⟩) (fun c37 => ⟨rfl, (by rw [c37]; rfl), trivial⟩) ?_
              refine at_s T rfl ?_
              refine at_case (s := 165) rfl (fun c38 => ?_) (fun c38 => ?_)
              · replace Z35 := if_t c38 Z35
                refine at_s T rfl ?_
                refine at_v rfl (g_load T rfl rfl rfl rfl (in_var (j := 2) rfl rfl)) ?_
                iterate 4 refine at_s T rfl ?_
                refine at_case (s := 171) rfl (fun c39 => ?_) (fun c39 => ?_)
                · replace Z35 := if_t c39 Z35
                  refine at_s T rfl ?_
                  refine at_v rfl (g_load T rfl rfl rfl rfl (in_var (j := 2) rfl rfl)) ?_
                  iterate 3 refine at_s T rfl ?_
                  refine at_case (s := 176) rfl (fun c40 => ?_) (fun c40 => ?_)
                  · replace Z35 := if_t c40 Z35
                    refine at_s T rfl ?_
                    refine at_v rfl (g_load T rfl rfl rfl rfl (in_var (j := 2) rfl rfl)) ?_
                    iterate 3 refine at_s T rfl ?_
                    refine at_end ?_
                    refine at_to [(10, (.bool (v23.1.H == 0)))] [0] [F] ⟨rfl, trivial⟩ rfl ?_
                    refine at_then ?_
                    obtain rfl := Option.some.inj Z35
                    exact at_mid (v23.1.H == 0) [0] rfl ⟨rfl, trivial⟩ rfl
                  · replace Z35 := if_f (bf c40) Z35
                    iterate 5 refine at_s T rfl ?_
                    refine at_end ?_
                    refine at_to [(10, (.bool false))] [0] [F] ⟨rfl, trivial⟩ rfl ?_
                    refine at_then ?_
                    obtain rfl := Option.some.inj Z35
                    exact at_mid false [0] rfl ⟨rfl, trivial⟩ rfl
                · replace Z35 := if_f (bf c39) Z35
                  iterate 10 refine at_s T rfl ?_
                  refine at_end ?_
                  refine at_to [(10, (.bool false))] [0] [F] ⟨rfl, trivial⟩ rfl ?_
                  refine at_then ?_
                  obtain rfl := Option.some.inj Z35
                  exact at_mid false [0] rfl ⟨rfl, trivial⟩ rfl
              · replace Z35 := if_f (bf c38) Z35
                iterate 16 refine at_s T rfl ?_
                refine at_end ?_
                refine at_to [(10, (.bool false))] [0] [F] ⟨rfl, trivial⟩ rfl ?_
                refine at_then ?_
                obtain rfl := Option.some.inj Z35
                exact at_mid false [0] rfl ⟨rfl, trivial⟩ rfl
            · rintro x24 rfl
              refine at_ret ?_
              obtain rfl := Option.some.inj Z3
              exact at_post (T := T) rfl (.tmp rfl .nil) (fun w o => ⟨(), rfl, own_to [0] rfl o⟩)
def law4_AtlasTiles.Pure : Prop := ∀ (w : Int) (h : Int) (c : (List Int)) (p3 : Int) (how : Int), inI64 w → inI64 h → (∀ y ∈ c, inU8 y) → inI64 p3 → inI64 how → List.length c ≤ 9223372036854775807 → law4_AtlasTiles.f w h c p3 how = some true
end

end Go.Proofs.YtnkdnecilkafhaaDoor
