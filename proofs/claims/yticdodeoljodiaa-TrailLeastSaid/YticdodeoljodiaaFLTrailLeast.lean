import Derived.Test.YticdodeoljodiaaT
import Derived.Test.YticdodeoljodiaaFflat
import Derived.Test.YticdodeoljodiaaFlaw30
import Derived.Test.YticdodeoljodiaaFref1
import Derived.Test.YticdodeoljodiaaFtrail
namespace Go.Proofs.Yticdodeoljodiaa
open Go.Hx
set_option maxRecDepth 100000
set_option linter.unusedVariables false
/-! ### herdsman/herdsmanlaw30.TrailLeast: function 9 -/
def law30_TrailLeast.l0 : Nat → (List Int) → api_Map → Int → (Int × Int × Int) → Int → List Int → Int → Option Bool
  | 0, _, _, _, _, _, _, _ => none
  | k15 + 1, steps, v1, v2, v4, x12, x13, x14 => if ((decide (x14 < (List.length steps : Int))) && (decide (x14 < 60))) = true then ((if (0 ≤ x14 ∧ x14 < (List.length steps : Int)) then ((ref1_Within.f (rd steps x14) 0 3).bind fun v19 => (ref1_Step.f v1.W v1.H x12 v19).bind fun v20 => (if v20 ≥ 0 then (if (0 ≤ v20 ∧ v20 < (List.length v1.C : Int)) then (some ((rd v1.C v20) != 255)) else none) else (some false)).bind fun x21 => if x21 = true then (if (List.length x13 + 1 ≤ 1099511627776) then (some (v20, (x13 ++ [v20]))) else none) else (some (x12, x13))) else none).bind fun (x16, x17) => if (x16 == v2) = true then ((trail_Cost.f v1 x17).bind fun v23 => if (v23.2 && (decide (v23.1 < v4.1))) = true then (some false) else (law30_TrailLeast.l0 k15 steps v1 v2 v4 x16 x17 (w64 (x14 + 1)))) else (law30_TrailLeast.l0 k15 steps v1 v2 v4 x16 x17 (w64 (x14 + 1)))) else ((law30_told.f).bind fun v24 => some v24)
def law30_TrailLeast.f (w : Int) (h : Int) (c : (List Int)) (goal : Int) (cell : Int) (steps : (List Int)) : Option Bool := (ref1_Made.f w h c).bind fun v1 => (ref1_Within.f goal 0 (w64 ((List.length v1.C : Int) - 1))).bind fun v2 => (ref1_Within.f cell 0 (w64 ((List.length v1.C : Int) - 1))).bind fun v3 => (flat_Query.f v1 v2 v3).bind fun v4 => (trail_Path.f v1 v2 v3).bind fun v5 => (trail_Cost.f v1 v5.1).bind fun v6 => (if (((v4.2.2 != 0) || (!(v5.2 == (decide (v4.1 < 1099511627776))))) || (!(v5.2 == v6.2))) = true then (some true) else (if v5.2 = true then (if (v6.1 != v4.1) = true then (some true) else (if ((List.length v5.1 : Int) == 0) = true then (some true) else (if (0 ≤ (0 : Int) ∧ (0 : Int) < (List.length v5.1 : Int)) then (if ((rd v5.1 0) != v3) = true then (some true) else (if (0 ≤ (w64 ((List.length v5.1 : Int) - 1)) ∧ (w64 ((List.length v5.1 : Int) - 1)) < (List.length v5.1 : Int)) then (if ((rd v5.1 (w64 ((List.length v5.1 : Int) - 1))) != v2) = true then (some true) else (if (!v5.2) = true then (some ((List.length v5.1 : Int) != 0)) else (some false))) else none)) else none))) else (if (!v5.2) = true then (some ((List.length v5.1 : Int) != 0)) else (some false)))).bind fun x7 => if x7 = true then (some false) else (law30_TrailLeast.l0 fuel steps v1 v2 v4 v3 [v3] 0)
set_option maxHeartbeats 4000000 in
theorem law30_TrailLeast.c {a_c : Option Addr} {n_c : Nat} {a_steps : Option Addr} {n_steps : Nat} (w : Int) (h : Int) (c : (List Int)) (goal : Int) (cell : Int) (steps : (List Int)) (r : Bool) (F : Hp) (H : law30_TrailLeast.f w h c goal cell steps = some r) (h_c : SliceR (Fl.int .u8) c a_c F) (c_c : List.length c ≤ n_c) (h_steps : SliceR (Fl.int .i64) steps a_steps F) (c_steps : List.length steps ≤ n_steps) :
    CallsL Try.prog 9 [(.int .i64 w), (.int .i64 h), (.slice a_c (List.length c) n_c), (.int .i64 goal), (.int .i64 cell), (.slice a_steps (List.length steps) n_steps)] [F] (fun _ : Unit => (.bool r)) (fun _ => [F]) := by
  unfold law30_TrailLeast.f at H
  refine calls_atL [(0, (.int .i64 w)), (1, (.int .i64 h)), (2, (.slice a_c (List.length c) n_c)), (3, (.int .i64 goal)), (4, (.int .i64 cell)), (5, (.slice a_steps (List.length steps) n_steps))] Try.func9 rfl rfl ⟨rfl, rfl, rfl, rfl, rfl, rfl, trivial⟩ (fun W => ?_)
  refine at_seq ?_
  refine at_region [0] rfl ?_
  refine at_s T rfl ?_
  refine at_end ?_
  refine at_sub [(0, (.int .i64 w)), (1, (.int .i64 h)), (2, (.slice a_c (List.length c) n_c)), (3, (.int .i64 goal)), (4, (.int .i64 cell)), (5, (.slice a_steps (List.length steps) n_steps))] ⟨rfl, rfl, rfl, rfl, rfl, rfl, trivial⟩ ?_
  refine at_then ?_
  refine at_seq ?_
  refine at_region [0, 1, 2, 3, 4, 5] rfl ?_
  iterate 3 refine at_s T rfl ?_
  obtain ⟨v1, V1, H⟩ := bind_e H
  refine at_cons (at_cR (ref1_Made.R v1) [] [] rfl rfl rfl rfl has13 rfl rfl (ref1_Made.c w h c v1 _ V1 (ro_of h_c (j := 0) rfl) c_c) ?_)
  rintro _ _ ⟨a1, n1, H1, s1, rfl, rfl⟩
  refine at_cons (at_al T [(.int .i64 0), (.int .i64 0), (.slice none 0 0)] rfl rfl rfl rfl (fun b2 => ?_))
  refine at_cons (at_st T 2 [(.int .i64 v1.W), (.int .i64 v1.H), (.slice a1 (List.length v1.C) n1)] rfl rfl rfl rfl rfl rfl rfl rfl rfl rfl ?_)
  refine at_end ?_
  refine at_sub [(3, (.int .i64 goal)), (4, (.int .i64 cell)), (5, (.slice a_steps (List.length steps) n_steps)), (13, (.pointer (some ⟨b2, 0, none⟩)))] ⟨rfl, rfl, rfl, rfl, trivial⟩ ?_
  refine at_then ?_
  refine at_seq ?_
  refine at_region_q mix (by kernel_rfl) ?_
  iterate 2 refine atq_s T rfl ?_
  refine atq_v rfl rfl rfl (g_load T rfl rfl rfl rfl (in_var (j := 2) rfl rfl)) ?_
  iterate 2 refine atq_s T rfl ?_
  obtain ⟨v2, V2, H⟩ := bind_e H
  refine atq_c rfl rfl rfl rfl rfl rfl has15 rfl (ref1_Within.c goal 0 (w64 ((List.length v1.C : Int) - 1)) v2 _ V2) ?_
  iterate 2 refine atq_s T rfl ?_
  refine atq_v rfl rfl rfl (g_load T rfl rfl rfl rfl (in_var (j := 2) rfl rfl)) ?_
  iterate 2 refine atq_s T rfl ?_
  obtain ⟨v3, V3, H⟩ := bind_e H
  refine atq_c rfl rfl rfl rfl rfl rfl has15 rfl (ref1_Within.c cell 0 (w64 ((List.length v1.C : Int) - 1)) v3 _ V3) ?_
  iterate 2 refine atq_s T rfl ?_
  refine atq_end ?_
  refine at_sub [(5, (.slice a_steps (List.length steps) n_steps)), (13, (.pointer (some ⟨b2, 0, none⟩))), (14, (.int .i64 v2)), (15, (.int .i64 v3))] ⟨rfl, rfl, rfl, rfl, trivial⟩ ?_
  refine at_then ?_
  refine at_seq ?_
  refine at_region [0, 1, 2, 3, 4, 5, 6, 7, 8, 9, 10] rfl ?_
  refine at_v rfl (g_loadA T (cs := [(.int .i64 v1.W), (.int .i64 v1.H), (.slice a1 (List.length v1.C) n1)]) rfl rfl rfl rfl rfl rfl (in_varA (j := 2) rfl rfl)) ?_
  iterate 2 refine at_s T rfl ?_
  obtain ⟨v4, V4, H⟩ := bind_e H
  refine at_cons (at_c (B := fun _ => []) [] rfl rfl rfl rfl has41 rfl rfl (flat_Query.c v1 v2 v3 v4 _ V4 (own_of s1 (j := 1) rfl) s1.cap_le) (fun _ => ?_))
  iterate 7 refine at_s T rfl ?_
  refine at_end ?_
  refine at_sub [(5, (.slice a_steps (List.length steps) n_steps)), (13, (.pointer (some ⟨b2, 0, none⟩))), (14, (.int .i64 v2)), (15, (.int .i64 v3)), (16, (.int .i64 v4.1)), (18, (.int .i64 v4.2.2))] ⟨rfl, rfl, rfl, rfl, rfl, rfl, trivial⟩ ?_
  refine at_then ?_
  refine at_seq ?_
  refine at_region [0, 1, 2, 3, 4, 5, 6, 7, 8] rfl ?_
  refine at_v rfl (g_loadA T (cs := [(.int .i64 v1.W), (.int .i64 v1.H), (.slice a1 (List.length v1.C) n1)]) rfl rfl rfl rfl rfl rfl (in_varA (j := 2) rfl rfl)) ?_
  iterate 2 refine at_s T rfl ?_
  obtain ⟨v5, V5, H⟩ := bind_e H
  refine at_cons (at_cR (trail_Path.R v5) [] [] rfl rfl rfl rfl has37 rfl rfl (trail_Path.c v1 v2 v3 v5 _ V5 (own_of s1 (j := 1) rfl) s1.cap_le) ?_)
  rintro _ _ ⟨a3, n3, H3, s3, rfl, rfl⟩
  iterate 5 refine at_s T rfl ?_
  refine at_end ?_
  refine at_sub [(5, (.slice a_steps (List.length steps) n_steps)), (13, (.pointer (some ⟨b2, 0, none⟩))), (14, (.int .i64 v2)), (15, (.int .i64 v3)), (16, (.int .i64 v4.1)), (18, (.int .i64 v4.2.2)), (19, (.slice a3 (List.length v5.1) n3)), (20, (.bool v5.2))] ⟨rfl, rfl, rfl, rfl, rfl, rfl, rfl, rfl, trivial⟩ ?_
  refine at_then ?_
  refine at_seq ?_
  refine at_region [0, 1, 2, 3, 4, 5, 6, 7] rfl ?_
  refine at_v rfl (g_loadA T (cs := [(.int .i64 v1.W), (.int .i64 v1.H), (.slice a1 (List.length v1.C) n1)]) rfl rfl rfl rfl rfl rfl (in_varA (j := 2) rfl rfl)) ?_
  refine at_s T rfl ?_
  obtain ⟨v6, V6, H⟩ := bind_e H
  refine at_cons (at_c (B := fun _ => []) [] rfl rfl rfl rfl has39 rfl rfl (trail_Cost.c v1 v5.1 v6 _ V6 (own_of s1 (j := 1) rfl) s1.cap_le (own_of s3 (j := 3) rfl) s3.cap_le) (fun _ => ?_))
  iterate 5 refine at_s T rfl ?_
  refine at_end ?_
  refine at_sub [(5, (.slice a_steps (List.length steps) n_steps)), (13, (.pointer (some ⟨b2, 0, none⟩))), (14, (.int .i64 v2)), (15, (.int .i64 v3)), (16, (.int .i64 v4.1)), (18, (.int .i64 v4.2.2)), (19, (.slice a3 (List.length v5.1) n3)), (20, (.bool v5.2)), (21, (.int .i64 v6.1)), (22, (.bool v6.2))] ⟨rfl, rfl, rfl, rfl, rfl, rfl, rfl, rfl, rfl, rfl, trivial⟩ ?_
  refine at_then ?_
  refine at_seq ?_
  obtain ⟨z8, Z7, H⟩ := bind_e H
  refine at_seq_mid (σ := Bool) (fun x7 => x7 = z8) (fun x7 => [(5, (.slice a_steps (List.length steps) n_steps)), (13, (.pointer (some ⟨b2, 0, none⟩))), (14, (.int .i64 v2)), (15, (.int .i64 v3)), (16, (.int .i64 v4.1)), (116, (.bool x7))]) (fun x7 => [F, [(b2, Obj.cells #[(.int .i64 v1.W), (.int .i64 v1.H), (.slice a1 (List.length v1.C) n1)] 24 (0, 0))], H1]) ?_ ?_
  · refine at_region [0, 1, 2, 3, 4, 5, 6, 7, 8, 9, 10, 11, 12, 13, 14, 15, 16, 17, 18, 19, 20, 21, 22, 23, 24, 25, 26, 27, 28, 29, 30, 31, 32, 33, 34, 35, 36, 37, 38, 39, 40, 41, 42, 43, 44, 45, 46, 47, 48, 49, 50, 51] rfl ?_
    iterate 3 refine at_s T rfl ?_
    refine at_grp T [3, 4, 5, 6, 7] (s := 67) (c := (v4.2.2 != 0)) [(5, (.slice a_steps (List.length steps) n_steps)), (13, (.pointer (some ⟨b2, 0, none⟩))), (14, (.int .i64 v2)), (15, (.int .i64 v3)), (16, (.int .i64 v4.1)), (19, (.slice a3 (List.length v5.1) n3)), (20, (.bool v5.2)), (21, (.int .i64 v6.1)), (22, (.bool v6.2)), (72, (.bool ((v4.2.2 != 0) || (!(v5.2 == (decide (v4.1 < 1099511627776)))))))] rfl rfl rfl (fun c8 => ⟨rfl, rfl, rfl, rfl, rfl, rfl, rfl, rfl, rfl, (by rw [c8]; rfl), trivial⟩) (fun c8 => ⟨rfl, rfl, rfl, rfl, rfl, rfl, rfl, rfl, rfl, (by rw [c8]; rfl), trivial⟩) ?_
    refine at_s T rfl ?_
    refine at_grp T [9, 10, 11, 12] (s := 73) (c := ((v4.2.2 != 0) || (!(v5.2 == (decide (v4.1 < 1099511627776)))))) [(5, (.slice a_steps (List.length steps) n_steps)), (13, (.pointer (some ⟨b2, 0, none⟩))), (14, (.int .i64 v2)), (15, (.int .i64 v3)), (16, (.int .i64 v4.1)), (19, (.slice a3 (List.length v5.1) n3)), (20, (.bool v5.2)), (21, (.int .i64 v6.1)), (77, (.bool (((v4.2.2 != 0) || (!(v5.2 == (decide (v4.1 < 1099511627776))))) || (!(v5.2 == v6.2)))))] rfl rfl rfl (fun c9 => ⟨rfl, rfl, rfl, rfl, rfl, rfl, rfl, rfl, (by rw [c9]; rfl), trivial⟩) (fun c9 => ⟨rfl, rfl, rfl, rfl, rfl, rfl, rfl, rfl, (by rw [c9]; rfl), trivial⟩) ?_
    refine at_s T rfl ?_
    refine at_case (s := 78) rfl (fun c10 => ?_) (fun c10 => ?_)
    · replace Z7 := if_t c10 Z7
      iterate 38 refine at_s T rfl ?_
      refine at_end ?_
      refine at_to [(5, (.slice a_steps (List.length steps) n_steps)), (13, (.pointer (some ⟨b2, 0, none⟩))), (14, (.int .i64 v2)), (15, (.int .i64 v3)), (16, (.int .i64 v4.1)), (116, (.bool true))] [0, 0, 0] [F, H1, [(b2, Obj.cells #[(.int .i64 v1.W), (.int .i64 v1.H), (.slice a1 (List.length v1.C) n1)] 24 (0, 0))]] ⟨rfl, rfl, rfl, rfl, rfl, rfl, trivial⟩ rfl ?_
      refine at_then ?_
      obtain rfl := Option.some.inj Z7
      exact at_mid true [0, 1, 0] rfl ⟨rfl, rfl, rfl, rfl, rfl, rfl, trivial⟩ rfl
    · replace Z7 := if_f (bf c10) Z7
      iterate 2 refine at_s T rfl ?_
      refine at_case (s := 80) rfl (fun c11 => ?_) (fun c11 => ?_)
      · replace Z7 := if_t c11 Z7
        iterate 4 refine at_s T rfl ?_
        refine at_case (s := 84) rfl (fun c12 => ?_) (fun c12 => ?_)
        · replace Z7 := if_t c12 Z7
          iterate 32 refine at_s T rfl ?_
          refine at_end ?_
          refine at_to [(5, (.slice a_steps (List.length steps) n_steps)), (13, (.pointer (some ⟨b2, 0, none⟩))), (14, (.int .i64 v2)), (15, (.int .i64 v3)), (16, (.int .i64 v4.1)), (116, (.bool true))] [0, 0, 0] [F, H1, [(b2, Obj.cells #[(.int .i64 v1.W), (.int .i64 v1.H), (.slice a1 (List.length v1.C) n1)] 24 (0, 0))]] ⟨rfl, rfl, rfl, rfl, rfl, rfl, trivial⟩ rfl ?_
          refine at_then ?_
          obtain rfl := Option.some.inj Z7
          exact at_mid true [0, 1, 0] rfl ⟨rfl, rfl, rfl, rfl, rfl, rfl, trivial⟩ rfl
        · replace Z7 := if_f (bf c12) Z7
          iterate 5 refine at_s T rfl ?_
          refine at_case (s := 89) rfl (fun c13 => ?_) (fun c13 => ?_)
          · replace Z7 := if_t c13 Z7
            iterate 27 refine at_s T rfl ?_
            refine at_end ?_
            refine at_to [(5, (.slice a_steps (List.length steps) n_steps)), (13, (.pointer (some ⟨b2, 0, none⟩))), (14, (.int .i64 v2)), (15, (.int .i64 v3)), (16, (.int .i64 v4.1)), (116, (.bool true))] [0, 0, 0] [F, H1, [(b2, Obj.cells #[(.int .i64 v1.W), (.int .i64 v1.H), (.slice a1 (List.length v1.C) n1)] 24 (0, 0))]] ⟨rfl, rfl, rfl, rfl, rfl, rfl, trivial⟩ rfl ?_
            refine at_then ?_
            obtain rfl := Option.some.inj Z7
            exact at_mid true [0, 1, 0] rfl ⟨rfl, rfl, rfl, rfl, rfl, rfl, trivial⟩ rfl
          · replace Z7 := if_f (bf c13) Z7
            refine at_s T rfl ?_
            obtain ⟨c14, Z7⟩ := chk_e Z7
            obtain ⟨q4, o4, e4⟩ := s3.r.addr c14.1 c14.2
            refine at_v rfl (g_index T rfl rfl rfl rfl rfl e4 c14.1 c14.2) ?_
            refine at_v rfl (g_load T rfl rfl rfl rfl (in_elem1 (k := (Fl.int .i64)) (own_of s3 (j := 3) rfl) e4 c14 0 rfl)) ?_
            iterate 4 refine at_s T rfl ?_
            refine at_case (s := 96) rfl (fun c15 => ?_) (fun c15 => ?_)
            · replace Z7 := if_t c15 Z7
              iterate 20 refine at_s T rfl ?_
              refine at_end ?_
              refine at_to [(5, (.slice a_steps (List.length steps) n_steps)), (13, (.pointer (some ⟨b2, 0, none⟩))), (14, (.int .i64 v2)), (15, (.int .i64 v3)), (16, (.int .i64 v4.1)), (116, (.bool true))] [0, 0, 0] [F, H1, [(b2, Obj.cells #[(.int .i64 v1.W), (.int .i64 v1.H), (.slice a1 (List.length v1.C) n1)] 24 (0, 0))]] ⟨rfl, rfl, rfl, rfl, rfl, rfl, trivial⟩ rfl ?_
              refine at_then ?_
              obtain rfl := Option.some.inj Z7
              exact at_mid true [0, 1, 0] rfl ⟨rfl, rfl, rfl, rfl, rfl, rfl, trivial⟩ rfl
            · replace Z7 := if_f (bf c15) Z7
              iterate 4 refine at_s T rfl ?_
              obtain ⟨c16, Z7⟩ := chk_e Z7
              refine at_v rfl (g_index T rfl rfl rfl rfl rfl e4 c16.1 c16.2) ?_
              refine at_v rfl (g_load T rfl rfl rfl rfl (in_elem1 (k := (Fl.int .i64)) (own_of s3 (j := 3) rfl) e4 c16 0 rfl)) ?_
              iterate 6 refine at_s T rfl ?_
              refine at_case (s := 108) rfl (fun c17 => ?_) (fun c17 => ?_)
              · replace Z7 := if_t c17 Z7
                iterate 8 refine at_s T rfl ?_
                refine at_end ?_
                refine at_to [(5, (.slice a_steps (List.length steps) n_steps)), (13, (.pointer (some ⟨b2, 0, none⟩))), (14, (.int .i64 v2)), (15, (.int .i64 v3)), (16, (.int .i64 v4.1)), (116, (.bool true))] [0, 0, 0] [F, H1, [(b2, Obj.cells #[(.int .i64 v1.W), (.int .i64 v1.H), (.slice a1 (List.length v1.C) n1)] 24 (0, 0))]] ⟨rfl, rfl, rfl, rfl, rfl, rfl, trivial⟩ rfl ?_
                refine at_then ?_
                obtain rfl := Option.some.inj Z7
                exact at_mid true [0, 1, 0] rfl ⟨rfl, rfl, rfl, rfl, rfl, rfl, trivial⟩ rfl
              · replace Z7 := if_f (bf c17) Z7
                iterate 3 refine at_s T rfl ?_
                refine at_case (s := 111) rfl (fun c18 => ?_) (fun c18 => ?_)
                · replace Z7 := if_t c18 Z7
                  iterate 5 refine at_s T rfl ?_
                  refine at_end ?_
                  refine at_to [(5, (.slice a_steps (List.length steps) n_steps)), (13, (.pointer (some ⟨b2, 0, none⟩))), (14, (.int .i64 v2)), (15, (.int .i64 v3)), (16, (.int .i64 v4.1)), (116, (.bool ((List.length v5.1 : Int) != 0)))] [0, 0, 0] [F, H1, [(b2, Obj.cells #[(.int .i64 v1.W), (.int .i64 v1.H), (.slice a1 (List.length v1.C) n1)] 24 (0, 0))]] ⟨rfl, rfl, rfl, rfl, rfl, rfl, trivial⟩ rfl ?_
                  refine at_then ?_
                  obtain rfl := Option.some.inj Z7
                  exact at_mid ((List.length v5.1 : Int) != 0) [0, 1, 0] rfl ⟨rfl, rfl, rfl, rfl, rfl, rfl, trivial⟩ rfl
                · replace Z7 := if_f (bf c18) Z7
                  iterate 5 refine at_s T rfl ?_
                  refine at_end ?_
                  refine at_to [(5, (.slice a_steps (List.length steps) n_steps)), (13, (.pointer (some ⟨b2, 0, none⟩))), (14, (.int .i64 v2)), (15, (.int .i64 v3)), (16, (.int .i64 v4.1)), (116, (.bool false))] [0, 0, 0] [F, H1, [(b2, Obj.cells #[(.int .i64 v1.W), (.int .i64 v1.H), (.slice a1 (List.length v1.C) n1)] 24 (0, 0))]] ⟨rfl, rfl, rfl, rfl, rfl, rfl, trivial⟩ rfl ?_
                  refine at_then ?_
                  obtain rfl := Option.some.inj Z7
                  exact at_mid false [0, 1, 0] rfl ⟨rfl, rfl, rfl, rfl, rfl, rfl, trivial⟩ rfl
      · replace Z7 := if_f (bf c11) Z7
        iterate 31 refine at_s T rfl ?_
        refine at_case (s := 111) rfl (fun c19 => ?_) (fun c19 => ?_)
        · replace Z7 := if_t c19 Z7
          iterate 5 refine at_s T rfl ?_
          refine at_end ?_
          refine at_to [(5, (.slice a_steps (List.length steps) n_steps)), (13, (.pointer (some ⟨b2, 0, none⟩))), (14, (.int .i64 v2)), (15, (.int .i64 v3)), (16, (.int .i64 v4.1)), (116, (.bool ((List.length v5.1 : Int) != 0)))] [0, 0, 0] [F, H1, [(b2, Obj.cells #[(.int .i64 v1.W), (.int .i64 v1.H), (.slice a1 (List.length v1.C) n1)] 24 (0, 0))]] ⟨rfl, rfl, rfl, rfl, rfl, rfl, trivial⟩ rfl ?_
          refine at_then ?_
          obtain rfl := Option.some.inj Z7
          exact at_mid ((List.length v5.1 : Int) != 0) [0, 1, 0] rfl ⟨rfl, rfl, rfl, rfl, rfl, rfl, trivial⟩ rfl
        · replace Z7 := if_f (bf c19) Z7
          iterate 5 refine at_s T rfl ?_
          refine at_end ?_
          refine at_to [(5, (.slice a_steps (List.length steps) n_steps)), (13, (.pointer (some ⟨b2, 0, none⟩))), (14, (.int .i64 v2)), (15, (.int .i64 v3)), (16, (.int .i64 v4.1)), (116, (.bool false))] [0, 0, 0] [F, H1, [(b2, Obj.cells #[(.int .i64 v1.W), (.int .i64 v1.H), (.slice a1 (List.length v1.C) n1)] 24 (0, 0))]] ⟨rfl, rfl, rfl, rfl, rfl, rfl, trivial⟩ rfl ?_
          refine at_then ?_
          obtain rfl := Option.some.inj Z7
          exact at_mid false [0, 1, 0] rfl ⟨rfl, rfl, rfl, rfl, rfl, rfl, trivial⟩ rfl
  · rintro x7 rfl
    refine at_cond rfl (fun c20 => ?_) (fun c20 => ?_)
    · replace H := if_t c20 H
      refine at_seq ?_
      refine at_region [0] rfl ?_
      refine at_s T rfl ?_
      refine at_end ?_
      refine at_to [(12, (.bool false))] [0] [F] ⟨rfl, trivial⟩ rfl ?_
      refine at_then ?_
      refine at_ret ?_
      refine at_rt ?_
      obtain rfl := Option.some.inj H
      exact at_post (T := T) rfl (.tmp rfl .nil) (fun w o => ⟨(), rfl, own_to [0] rfl o⟩)
    · replace H := if_f (bf c20) H
      refine at_skip ?_
      refine at_then ?_
      refine at_seq ?_
      refine at_region [0, 1, 2] rfl ?_
      refine at_s T rfl ?_
      refine at_cons (at_bs (k := (Fl.int .i64)) T [v3] rfl rfl rfl rfl rfl rfl rfl rfl rfl (fun a5 H5 s5 => ?_))
      refine at_s T rfl ?_
      refine at_end ?_
      refine at_sub [(5, (.slice a_steps (List.length steps) n_steps)), (13, (.pointer (some ⟨b2, 0, none⟩))), (14, (.int .i64 v2)), (15, (.int .i64 v3)), (16, (.int .i64 v4.1)), (23, (.slice a5 (List.length [v3]) (List.length [v3])))] ⟨rfl, rfl, rfl, rfl, rfl, rfl, trivial⟩ ?_
      refine at_then ?_
      refine at_seq ?_
      refine at_seq ?_
      refine at_region [0] rfl ?_
      refine at_s T rfl ?_
      refine at_end ?_
      refine at_sub [(5, (.slice a_steps (List.length steps) n_steps)), (13, (.pointer (some ⟨b2, 0, none⟩))), (14, (.int .i64 v2)), (15, (.int .i64 v3)), (16, (.int .i64 v4.1)), (23, (.slice a5 (List.length [v3]) (List.length [v3]))), (24, (.int .i64 0))] ⟨rfl, rfl, rfl, rfl, rfl, rfl, rfl, trivial⟩ ?_
      refine at_then ?_
      refine at_block ?_
      refine at_loopL (σ := Nat × Int × List Int × Int × Option Addr × Nat × Hp) (fun ⟨k15, x12, x13, x14, a7, n7, H7⟩ => law30_TrailLeast.l0 k15 steps v1 v2 v4 x12 x13 x14 = some r ∧ SliceO (Fl.int .i64) 3 x13 a7 n7 H7) (fun ⟨k15, x12, x13, x14, a7, n7, H7⟩ => [(5, (.slice a_steps (List.length steps) n_steps)), (13, (.pointer (some ⟨b2, 0, none⟩))), (14, (.int .i64 v2)), (15, (.int .i64 x12)), (16, (.int .i64 v4.1)), (23, (.slice a7 (List.length x13) n7)), (24, (.int .i64 x14))]) (fun ⟨k15, x12, x13, x14, a7, n7, H7⟩ => [F, [(b2, Obj.cells #[(.int .i64 v1.W), (.int .i64 v1.H), (.slice a1 (List.length v1.C) n1)] 24 (0, 0))], H1, H7]) (fun s => s.1) (fuel, v3, [v3], 0, a5, (List.length [v3]), H5) [0, 0, 0, 0] ⟨H, s5⟩ ⟨rfl, rfl, rfl, rfl, rfl, rfl, rfl, trivial⟩ rfl ?_
      rintro ⟨k15, x12, x13, x14, a7, n7, H7⟩ ⟨Z21, s7⟩
      replace Z21 : law30_TrailLeast.l0 k15 steps v1 v2 v4 x12 x13 x14 = some r := Z21
      rcases k15 with _ | k15
      · rw [law30_TrailLeast.l0] at Z21; cases Z21
      · rw [law30_TrailLeast.l0] at Z21
        refine at_seq ?_
        refine at_seq ?_
        refine at_region [0, 1, 2, 3, 4, 5, 6, 7] rfl ?_
        iterate 5 refine at_s T rfl ?_
        refine at_grp T [5, 6, 7] (s := 123) (c := (decide (x14 < (List.length steps : Int)))) [(5, (.slice a_steps (List.length steps) n_steps)), (13, (.pointer (some ⟨b2, 0, none⟩))), (14, (.int .i64 v2)), (15, (.int .i64 x12)), (16, (.int .i64 v4.1)), (23, (.slice a7 (List.length x13) n7)), (24, (.int .i64 x14)), (126, (.bool ((decide (x14 < (List.length steps : Int))) && (decide (x14 < 60)))))] rfl rfl rfl (fun c22 => ⟨rfl, rfl, rfl, rfl, rfl, rfl, rfl, (by rw [c22]; rfl), trivial⟩) (fun c22 => ⟨rfl, rfl, rfl, rfl, rfl, rfl, rfl, (by rw [c22]; rfl), trivial⟩) ?_
        refine at_end ?_
        refine at_sub [(5, (.slice a_steps (List.length steps) n_steps)), (13, (.pointer (some ⟨b2, 0, none⟩))), (14, (.int .i64 v2)), (15, (.int .i64 x12)), (16, (.int .i64 v4.1)), (23, (.slice a7 (List.length x13) n7)), (24, (.int .i64 x14)), (126, (.bool ((decide (x14 < (List.length steps : Int))) && (decide (x14 < 60)))))] ⟨rfl, rfl, rfl, rfl, rfl, rfl, rfl, rfl, trivial⟩ ?_
        refine at_then ?_
        refine at_cond rfl (fun c23 => ?_) (fun c23 => ?_)
        · replace Z21 := if_t c23 Z21
          refine at_skip ?_
          refine at_then ?_
          refine at_seq ?_
          refine at_block ?_
          obtain ⟨z18, Z24, Z21⟩ := bind_e Z21
          refine at_seq_mid (σ := Int × List Int × Option Addr × Nat × Hp) (fun ⟨x16, x17, a8, n8, H8⟩ => (x16, x17) = z18 ∧ SliceO (Fl.int .i64) 3 x17 a8 n8 H8) (fun ⟨x16, x17, a8, n8, H8⟩ => [(5, (.slice a_steps (List.length steps) n_steps)), (13, (.pointer (some ⟨b2, 0, none⟩))), (14, (.int .i64 v2)), (15, (.int .i64 x16)), (16, (.int .i64 v4.1)), (23, (.slice a8 (List.length x17) n8)), (24, (.int .i64 x14))]) (fun ⟨x16, x17, a8, n8, H8⟩ => [F, [(b2, Obj.cells #[(.int .i64 v1.W), (.int .i64 v1.H), (.slice a1 (List.length v1.C) n1)] 24 (0, 0))], H1, H8]) ?_ ?_
          · refine at_seq ?_
            refine at_region_q mix (by kernel_rfl) ?_
            refine atq_s T rfl ?_
            refine atq_v rfl rfl rfl (g_load T rfl rfl rfl rfl (in_var (j := 1) rfl rfl)) ?_
            refine atq_s T rfl ?_
            refine atq_v rfl rfl rfl (g_load T rfl rfl rfl rfl (in_var (j := 1) rfl rfl)) ?_
            iterate 3 refine atq_s T rfl ?_
            obtain ⟨c25, Z24⟩ := chk_e Z24
            obtain ⟨q9, o9, e9⟩ := h_steps.addr c25.1 c25.2
            refine atq_v rfl rfl rfl (g_index T rfl rfl rfl rfl rfl e9 c25.1 c25.2) ?_
            refine atq_v rfl rfl rfl (g_load T rfl rfl rfl rfl (in_elem1 (k := (Fl.int .i64)) (ro_of h_steps (j := 0) rfl) e9 c25 0 rfl)) ?_
            obtain ⟨v19, V26, Z24⟩ := bind_e Z24
            refine atq_c rfl rfl rfl rfl rfl rfl has15 rfl (ref1_Within.c (rd steps x14) 0 3 v19 _ V26) ?_
            obtain ⟨v20, V27, Z24⟩ := bind_e Z24
            refine atq_c rfl rfl rfl rfl rfl rfl has36 rfl (ref1_Step.c v1.W v1.H x12 v19 v20 _ V27) ?_
            refine atq_s T rfl ?_
            refine atq_end ?_
            refine at_sub [(5, (.slice a_steps (List.length steps) n_steps)), (13, (.pointer (some ⟨b2, 0, none⟩))), (14, (.int .i64 v2)), (15, (.int .i64 x12)), (16, (.int .i64 v4.1)), (23, (.slice a7 (List.length x13) n7)), (24, (.int .i64 x14)), (25, (.int .i64 v20))] ⟨rfl, rfl, rfl, rfl, rfl, rfl, rfl, rfl, trivial⟩ ?_
            refine at_then ?_
            obtain ⟨z22, Z28, Z24⟩ := bind_e Z24
            refine at_seq_mid (σ := Bool) (fun x21 => x21 = z22) (fun x21 => [(5, (.slice a_steps (List.length steps) n_steps)), (13, (.pointer (some ⟨b2, 0, none⟩))), (14, (.int .i64 v2)), (15, (.int .i64 x12)), (16, (.int .i64 v4.1)), (23, (.slice a7 (List.length x13) n7)), (24, (.int .i64 x14)), (25, (.int .i64 v20)), (149, (.bool x21))]) (fun x21 => [F, [(b2, Obj.cells #[(.int .i64 v1.W), (.int .i64 v1.H), (.slice a1 (List.length v1.C) n1)] 24 (0, 0))], H1, H7]) ?_ ?_
            · refine at_region [0, 1, 2, 3, 4, 5, 6, 7, 8, 9] rfl ?_
              iterate 3 refine at_s T rfl ?_
              refine at_case (s := 142) rfl (fun c29 => ?_) (fun c29 => ?_)
              · replace Z28 := if_t (of_decide_eq_true c29) Z28
                refine at_s T rfl ?_
                refine at_v rfl (g_load T rfl rfl rfl rfl (in_var (j := 1) rfl rfl)) ?_
                refine at_s T rfl ?_
                obtain ⟨c30, Z28⟩ := chk_e Z28
                obtain ⟨q10, o10, e10⟩ := s1.r.addr c30.1 c30.2
                refine at_v rfl (g_index T rfl rfl rfl rfl rfl e10 c30.1 c30.2) ?_
                refine at_v rfl (g_load T rfl rfl rfl rfl (in_elem1 (k := (Fl.int .u8)) (own_of s1 (j := 2) rfl) e10 c30 0 rfl)) ?_
                iterate 2 refine at_s T rfl ?_
                refine at_end ?_
                refine at_sub [(5, (.slice a_steps (List.length steps) n_steps)), (13, (.pointer (some ⟨b2, 0, none⟩))), (14, (.int .i64 v2)), (15, (.int .i64 x12)), (16, (.int .i64 v4.1)), (23, (.slice a7 (List.length x13) n7)), (24, (.int .i64 x14)), (25, (.int .i64 v20)), (149, (.bool ((rd v1.C v20) != 255)))] ⟨rfl, rfl, rfl, rfl, rfl, rfl, rfl, rfl, rfl, trivial⟩ ?_
                refine at_then ?_
                obtain rfl := Option.some.inj Z28
                exact at_mid ((rd v1.C v20) != 255) [0, 0, 0, 0] rfl ⟨rfl, rfl, rfl, rfl, rfl, rfl, rfl, rfl, rfl, trivial⟩ rfl
              · replace Z28 := if_f (of_decide_eq_false c29) Z28
                iterate 7 refine at_s T rfl ?_
                refine at_end ?_
                refine at_sub [(5, (.slice a_steps (List.length steps) n_steps)), (13, (.pointer (some ⟨b2, 0, none⟩))), (14, (.int .i64 v2)), (15, (.int .i64 x12)), (16, (.int .i64 v4.1)), (23, (.slice a7 (List.length x13) n7)), (24, (.int .i64 x14)), (25, (.int .i64 v20)), (149, (.bool false))] ⟨rfl, rfl, rfl, rfl, rfl, rfl, rfl, rfl, rfl, trivial⟩ ?_
                refine at_then ?_
                obtain rfl := Option.some.inj Z28
                exact at_mid false [0, 0, 0, 0] rfl ⟨rfl, rfl, rfl, rfl, rfl, rfl, rfl, rfl, rfl, trivial⟩ rfl
            · rintro x21 rfl
              refine at_cond rfl (fun c31 => ?_) (fun c31 => ?_)
              · replace Z24 := if_t c31 Z24
                refine at_seq ?_
                refine at_region [0, 1] rfl ?_
                iterate 2 refine at_s T rfl ?_
                refine at_end ?_
                refine at_sub [(5, (.slice a_steps (List.length steps) n_steps)), (13, (.pointer (some ⟨b2, 0, none⟩))), (14, (.int .i64 v2)), (15, (.int .i64 v20)), (16, (.int .i64 v4.1)), (23, (.slice a7 (List.length x13) n7)), (24, (.int .i64 x14))] ⟨rfl, rfl, rfl, rfl, rfl, rfl, rfl, trivial⟩ ?_
                refine at_then ?_
                refine at_region [0, 1, 2, 3, 4] rfl ?_
                iterate 2 refine at_s T rfl ?_
                refine at_cons (at_bs (k := (Fl.int .i64)) T [v20] rfl rfl rfl rfl rfl rfl rfl rfl rfl (fun a11 H11 s11 => ?_))
                obtain ⟨c32, Z24⟩ := chk_e Z24
                refine at_cons (at_ap (k := (Fl.int .i64)) (xs := x13) T (g := 3) rfl rfl rfl rfl rfl rfl rfl rfl rfl rfl s7 (own_of s11 (j := 4) rfl) c32 rfl (fun a12 n12 H12 s12 => ?_))
                refine at_s T rfl ?_
                refine at_end ?_
                refine at_to [(5, (.slice a_steps (List.length steps) n_steps)), (13, (.pointer (some ⟨b2, 0, none⟩))), (14, (.int .i64 v2)), (15, (.int .i64 v20)), (16, (.int .i64 v4.1)), (23, (.slice a12 (List.length (x13 ++ [v20])) n12)), (24, (.int .i64 x14))] [0, 0, 0, 0] [F, [(b2, Obj.cells #[(.int .i64 v1.W), (.int .i64 v1.H), (.slice a1 (List.length v1.C) n1)] 24 (0, 0))], H1, H12] ⟨rfl, rfl, rfl, rfl, rfl, rfl, rfl, trivial⟩ rfl ?_
                refine at_then ?_
                obtain rfl := Option.some.inj Z24
                exact at_mid (v20, (x13 ++ [v20]), a12, n12, H12) [0, 0, 0, 0] ⟨rfl, s12⟩ ⟨rfl, rfl, rfl, rfl, rfl, rfl, rfl, trivial⟩ rfl
              · replace Z24 := if_f (bf c31) Z24
                refine at_skip ?_
                refine at_then ?_
                obtain rfl := Option.some.inj Z24
                exact at_mid (x12, x13, a7, n7, H7) [0, 0, 0, 0] ⟨rfl, s7⟩ ⟨rfl, rfl, rfl, rfl, rfl, rfl, rfl, trivial⟩ rfl
          · rintro ⟨x16, x17, a8, n8, H8⟩ ⟨rfl, s8⟩
            refine at_seq ?_
            refine at_region [0, 1, 2] rfl ?_
            iterate 3 refine at_s T rfl ?_
            refine at_end ?_
            refine at_sub [(5, (.slice a_steps (List.length steps) n_steps)), (13, (.pointer (some ⟨b2, 0, none⟩))), (14, (.int .i64 v2)), (15, (.int .i64 x16)), (16, (.int .i64 v4.1)), (23, (.slice a8 (List.length x17) n8)), (24, (.int .i64 x14)), (157, (.bool (x16 == v2)))] ⟨rfl, rfl, rfl, rfl, rfl, rfl, rfl, rfl, trivial⟩ ?_
            refine at_then ?_
            refine at_cond rfl (fun c33 => ?_) (fun c33 => ?_)
            · replace Z21 := if_t c33 Z21
              refine at_seq ?_
              refine at_region [0, 1, 2, 3, 4, 5, 6, 7] rfl ?_
              refine at_v rfl (g_loadA T (cs := [(.int .i64 v1.W), (.int .i64 v1.H), (.slice a1 (List.length v1.C) n1)]) rfl rfl rfl rfl rfl rfl (in_varA (j := 1) rfl rfl)) ?_
              refine at_s T rfl ?_
              obtain ⟨v23, V34, Z21⟩ := bind_e Z21
              refine at_cons (at_c (B := fun _ => []) [] rfl rfl rfl rfl has39 rfl rfl (trail_Cost.c v1 x17 v23 _ V34 (own_of s1 (j := 2) rfl) s1.cap_le (own_of s8 (j := 3) rfl) s8.cap_le) (fun _ => ?_))
              iterate 5 refine at_s T rfl ?_
              refine at_end ?_
              refine at_sub [(5, (.slice a_steps (List.length steps) n_steps)), (13, (.pointer (some ⟨b2, 0, none⟩))), (14, (.int .i64 v2)), (15, (.int .i64 x16)), (16, (.int .i64 v4.1)), (23, (.slice a8 (List.length x17) n8)), (24, (.int .i64 x14)), (26, (.int .i64 v23.1)), (27, (.bool v23.2))] ⟨rfl, rfl, rfl, rfl, rfl, rfl, rfl, rfl, rfl, trivial⟩ ?_
              refine at_then ?_
              refine at_seq ?_
              refine at_region [0, 1, 2, 3, 4, 5] rfl ?_
              iterate 2 refine at_s T rfl ?_
              refine at_grp T [2, 3, 4, 5] (s := 165) (c := v23.2) [(5, (.slice a_steps (List.length steps) n_steps)), (13, (.pointer (some ⟨b2, 0, none⟩))), (14, (.int .i64 v2)), (15, (.int .i64 x16)), (16, (.int .i64 v4.1)), (23, (.slice a8 (List.length x17) n8)), (24, (.int .i64 x14)), (169, (.bool (v23.2 && (decide (v23.1 < v4.1)))))] rfl rfl rfl (fun c35 => ⟨rfl, rfl, rfl, rfl, rfl, rfl, rfl, (by rw [c35]; rfl), trivial⟩) (fun c35 => ⟨rfl, rfl, rfl, rfl, rfl, rfl, rfl, (by rw [c35]; rfl), trivial⟩) ?_
              refine at_end ?_
              refine at_sub [(5, (.slice a_steps (List.length steps) n_steps)), (13, (.pointer (some ⟨b2, 0, none⟩))), (14, (.int .i64 v2)), (15, (.int .i64 x16)), (16, (.int .i64 v4.1)), (23, (.slice a8 (List.length x17) n8)), (24, (.int .i64 x14)), (169, (.bool (v23.2 && (decide (v23.1 < v4.1)))))] ⟨rfl, rfl, rfl, rfl, rfl, rfl, rfl, rfl, trivial⟩ ?_
              refine at_then ?_
              refine at_cond rfl (fun c36 => ?_) (fun c36 => ?_)
              · replace Z21 := if_t c36 Z21
                refine at_seq ?_
                refine at_region [0] rfl ?_
                refine at_s T rfl ?_
                refine at_end ?_
                refine at_to [(12, (.bool false))] [0] [F] ⟨rfl, trivial⟩ rfl ?_
                refine at_then ?_
                refine at_ret ?_
                refine at_rb ?_
                refine at_rt ?_
                refine at_rt ?_
                refine at_rb ?_
                refine at_rt ?_
                obtain rfl := Option.some.inj Z21
                exact at_post (T := T) rfl (.tmp rfl .nil) (fun w o => ⟨(), rfl, own_to [0] rfl o⟩)
              · replace Z21 := if_f (bf c36) Z21
                refine at_skip ?_
                refine at_nb ?_
                refine at_then ?_
                refine at_region [0, 1, 2] rfl ?_
                iterate 3 refine at_s T rfl ?_
                refine at_end ?_
                refine at_sub [(5, (.slice a_steps (List.length steps) n_steps)), (13, (.pointer (some ⟨b2, 0, none⟩))), (14, (.int .i64 v2)), (15, (.int .i64 x16)), (16, (.int .i64 v4.1)), (23, (.slice a8 (List.length x17) n8)), (24, (.int .i64 (w64 (x14 + 1))))] ⟨rfl, rfl, rfl, rfl, rfl, rfl, rfl, trivial⟩ ?_
                refine at_then ?_
                exact at_roundL (k15, x16, x17, (w64 (x14 + 1)), a8, n8, H8) [0, 0, 0, 0] ⟨Z21, s8⟩ (Nat.lt_succ_self _) ⟨rfl, rfl, rfl, rfl, rfl, rfl, rfl, trivial⟩ rfl
            · replace Z21 := if_f (bf c33) Z21
              refine at_skip ?_
              refine at_nb ?_
              refine at_then ?_
              refine at_region [0, 1, 2] rfl ?_
              iterate 3 refine at_s T rfl ?_
              refine at_end ?_
              refine at_sub [(5, (.slice a_steps (List.length steps) n_steps)), (13, (.pointer (some ⟨b2, 0, none⟩))), (14, (.int .i64 v2)), (15, (.int .i64 x16)), (16, (.int .i64 v4.1)), (23, (.slice a8 (List.length x17) n8)), (24, (.int .i64 (w64 (x14 + 1))))] ⟨rfl, rfl, rfl, rfl, rfl, rfl, rfl, trivial⟩ ?_
              refine at_then ?_
              exact at_roundL (k15, x16, x17, (w64 (x14 + 1)), a8, n8, H8) [0, 0, 0, 0] ⟨Z21, s8⟩ (Nat.lt_succ_self _) ⟨rfl, rfl, rfl, rfl, rfl, rfl, rfl, trivial⟩ rfl
        · replace Z21 := if_f (bf c23) Z21
          refine at_exit ?_
          refine at_xt ?_
          refine at_xt ?_
          refine at_xb ?_
          refine at_then ?_
          refine at_seq ?_
          refine at_region [0, 1] rfl ?_
          obtain ⟨v24, V37, Z21⟩ := bind_e Z21
          refine at_cons (at_c (B := fun _ => []) [] rfl rfl rfl rfl has34 rfl rfl (law30_told.c  v24 _ V37) (fun _ => ?_))
          refine at_s T rfl ?_
          refine at_end ?_
          refine at_to [(12, (.bool v24))] [0] [F] ⟨rfl, trivial⟩ rfl ?_
          refine at_then ?_
          refine at_ret ?_
          obtain rfl := Option.some.inj Z21
          exact at_post (T := T) rfl (.tmp rfl .nil) (fun w o => ⟨(), rfl, own_to [0] rfl o⟩)
def law30_TrailLeast.Pure : Prop := ∀ (w : Int) (h : Int) (c : (List Int)) (goal : Int) (cell : Int) (steps : (List Int)), inI64 w → inI64 h → (∀ y ∈ c, inU8 y) → inI64 goal → inI64 cell → (∀ y ∈ steps, inI64 y) → List.length c ≤ 9223372036854775807 → List.length steps ≤ 9223372036854775807 → law30_TrailLeast.f w h c goal cell steps = some true
end Go.Proofs.Yticdodeoljodiaa
