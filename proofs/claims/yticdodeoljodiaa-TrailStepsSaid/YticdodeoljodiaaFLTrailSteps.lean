import Derived.Test.YticdodeoljodiaaT
import Derived.Test.YticdodeoljodiaaFlaw30
import Derived.Test.YticdodeoljodiaaFref1
import Derived.Test.YticdodeoljodiaaFtrail
namespace Go.Proofs.Yticdodeoljodiaa
open Go.Hx
set_option maxRecDepth 100000
set_option linter.unusedVariables false
/-! ### herdsman/herdsmanlaw30.TrailSteps: function 10 -/
def law30_TrailSteps.l0 : Nat → Int → api_Map → Int → ((List Int) × Bool) → List Bool → Int → Option Bool
  | 0, _, _, _, _, _, _ => none
  | k10 + 1, p5, v1, v2, v4, x8, x9 => if x9 < (List.length v4.1 : Int) then ((if (0 ≤ x9 ∧ x9 < (List.length v4.1 : Int)) then (if (rd v4.1 x9) < 0 then (some true) else (if (rd v4.1 x9) ≥ (List.length v1.C : Int) then (some true) else (if (0 ≤ (rd v4.1 x9) ∧ (rd v4.1 x9) < (List.length x8 : Int)) then (some (rd x8 (rd v4.1 x9))) else none))) else none).bind fun x11 => if x11 = true then (some false) else (if (0 ≤ x9 ∧ x9 < (List.length v4.1 : Int)) then (if (0 ≤ (rd v4.1 x9) ∧ (rd v4.1 x9) < (List.length x8 : Int)) then (law30_TrailSteps.l0 k10 p5 v1 v2 v4 (List.set x8 (Int.toNat (rd v4.1 x9)) true) (w64 (x9 + 1))) else none) else none)) else (if ((List.length v4.1 : Int) == 0) = true then (some false) else ((ref1_Within.f p5 0 (w64 ((List.length v4.1 : Int) - 1))).bind fun v13 => if (0 ≤ v13 ∧ v13 < (List.length v4.1 : Int)) then ((trail_Path.f v1 v2 (rd v4.1 v13)).bind fun v14 => if (0 ≤ (0 : Int) ∧ (0 : Int) ≤ (w64 (v13 + 1)) ∧ (w64 (v13 + 1)) ≤ (List.length v4.1 : Int)) then ((trail_Cost.f v1 (sub' v4.1 0 (w64 (v13 + 1)))).bind fun v15 => if (0 ≤ v13 ∧ v13 ≤ (List.length v4.1 : Int) ∧ (List.length v4.1 : Int) ≤ (List.length v4.1 : Int)) then ((trail_Cost.f v1 (sub' v4.1 v13 (List.length v4.1 : Int))).bind fun v16 => (trail_Cost.f v1 v4.1).bind fun v17 => ((law30_told.f).bind fun v20 => if (v20 && v14.2) = true then (if (0 ≤ v13 ∧ v13 ≤ (List.length v4.1 : Int) ∧ (List.length v4.1 : Int) ≤ (List.length v4.1 : Int)) then ((ref1_Ints.f v14.1 (sub' v4.1 v13 (List.length v4.1 : Int))).bind fun v21 => some ((((v21 && v15.2) && v16.2) && v17.2) && ((w64 (v15.1 + v16.1)) == v17.1))) else none) else (some false)).bind fun x18 => some x18) else none) else none) else none))
def law30_TrailSteps.f (w : Int) (h : Int) (c : (List Int)) (goal : Int) (cell : Int) (p5 : Int) : Option Bool := (ref1_Made.f w h c).bind fun v1 => (ref1_Within.f goal 0 (w64 ((List.length v1.C : Int) - 1))).bind fun v2 => (ref1_Within.f cell 0 (w64 ((List.length v1.C : Int) - 1))).bind fun v3 => (trail_Path.f v1 v2 v3).bind fun v4 => if (!v4.2) = true then ((law30_told.f).bind fun v5 => some (v5 && ((List.length v4.1 : Int) == 0))) else (if (0 ≤ (List.length v1.C : Int) ∧ (List.length v1.C : Int) ≤ 1099511627776) then (law30_TrailSteps.l0 fuel p5 v1 v2 v4 (List.replicate (Int.toNat (List.length v1.C : Int)) false) 0) else none)
set_option maxHeartbeats 4000000 in
theorem law30_TrailSteps.c {a_c : Option Addr} {n_c : Nat} (w : Int) (h : Int) (c : (List Int)) (goal : Int) (cell : Int) (p5 : Int) (r : Bool) (F : Hp) (H : law30_TrailSteps.f w h c goal cell p5 = some r) (h_c : SliceR (Fl.int .u8) c a_c F) (c_c : List.length c ≤ n_c) :
    CallsL Try.prog 10 [(.int .i64 w), (.int .i64 h), (.slice a_c (List.length c) n_c), (.int .i64 goal), (.int .i64 cell), (.int .i64 p5)] [F] (fun _ : Unit => (.bool r)) (fun _ => [F]) := by
  unfold law30_TrailSteps.f at H
  refine calls_atL [(0, (.int .i64 w)), (1, (.int .i64 h)), (2, (.slice a_c (List.length c) n_c)), (3, (.int .i64 goal)), (4, (.int .i64 cell)), (5, (.int .i64 p5))] Try.func10 rfl rfl ⟨rfl, rfl, rfl, rfl, rfl, rfl, trivial⟩ (fun W => ?_)
  refine at_seq ?_
  refine at_region [0] rfl ?_
  refine at_s T rfl ?_
  refine at_end ?_
  refine at_sub [(0, (.int .i64 w)), (1, (.int .i64 h)), (2, (.slice a_c (List.length c) n_c)), (3, (.int .i64 goal)), (4, (.int .i64 cell)), (5, (.int .i64 p5))] ⟨rfl, rfl, rfl, rfl, rfl, rfl, trivial⟩ ?_
  refine at_then ?_
  refine at_seq ?_
  refine at_region [0, 1, 2, 3, 4, 5] rfl ?_
  iterate 3 refine at_s T rfl ?_
  obtain ⟨v1, V1, H⟩ := bind_e H
  refine at_cons (at_cR (ref1_Made.R v1) [] [] rfl rfl rfl rfl has13 rfl rfl (ref1_Made.c w h c v1 _ V1 (ro_of h_c (j := 0) rfl) c_c) ?_)
  rintro _ _ ⟨a1, n1, H1, s1, rfl, rfl⟩
  refine at_cons (at_al T [(.int .i64 0), (.int .i64 0), (.slice none 0 0)] rfl rfl rfl rfl (fun b2 => ?_))
  refine at_cons (at_st T 2 [(.int .i64 v1.W), (.int .i64 v1.H), (.slice a1 (List.length v1.C) n1)] rfl rfl rfl rfl rfl rfl rfl rfl rfl rfl ?_)
  refine at_end ?_
  refine at_sub [(3, (.int .i64 goal)), (4, (.int .i64 cell)), (5, (.int .i64 p5)), (13, (.pointer (some ⟨b2, 0, none⟩)))] ⟨rfl, rfl, rfl, rfl, trivial⟩ ?_
  refine at_then ?_
  refine at_seq ?_
  refine at_region_q mix (by kernel_rfl) ?_
  iterate 2 refine atq_s T rfl ?_
  refine atq_v rfl rfl rfl (g_load T rfl rfl rfl rfl (in_var (j := 2) rfl rfl)) ?_
  iterate 2 refine atq_s T rfl ?_
  obtain ⟨v2, V2, H⟩ := bind_e H
  refine atq_c rfl rfl rfl rfl rfl rfl has15 rfl (ref1_Within.c goal 0 (w64 ((List.length v1.C : Int) - 1)) v2 _ V2) ?_
  iterate 2 refine atq_s T rfl ?_
  refine atq_v rfl rfl rfl (g_load T rfl rfl rfl rfl (in_var (j := 2) rfl rfl)) ?_
  iterate 2 refine atq_s T rfl ?_
  obtain ⟨v3, V3, H⟩ := bind_e H
  refine atq_c rfl rfl rfl rfl rfl rfl has15 rfl (ref1_Within.c cell 0 (w64 ((List.length v1.C : Int) - 1)) v3 _ V3) ?_
  iterate 2 refine atq_s T rfl ?_
  refine atq_end ?_
  refine at_sub [(5, (.int .i64 p5)), (13, (.pointer (some ⟨b2, 0, none⟩))), (14, (.int .i64 v2)), (15, (.int .i64 v3))] ⟨rfl, rfl, rfl, rfl, trivial⟩ ?_
  refine at_then ?_
  refine at_seq ?_
  refine at_region [0, 1, 2, 3, 4, 5, 6, 7, 8] rfl ?_
  refine at_v rfl (g_loadA T (cs := [(.int .i64 v1.W), (.int .i64 v1.H), (.slice a1 (List.length v1.C) n1)]) rfl rfl rfl rfl rfl rfl (in_varA (j := 2) rfl rfl)) ?_
  iterate 2 refine at_s T rfl ?_
  obtain ⟨v4, V4, H⟩ := bind_e H
  refine at_cons (at_cR (trail_Path.R v4) [] [] rfl rfl rfl rfl has37 rfl rfl (trail_Path.c v1 v2 v3 v4 _ V4 (own_of s1 (j := 1) rfl) s1.cap_le) ?_)
  rintro _ _ ⟨a3, n3, H3, s3, rfl, rfl⟩
  iterate 5 refine at_s T rfl ?_
  refine at_end ?_
  refine at_sub [(5, (.int .i64 p5)), (13, (.pointer (some ⟨b2, 0, none⟩))), (14, (.int .i64 v2)), (16, (.slice a3 (List.length v4.1) n3)), (17, (.bool v4.2))] ⟨rfl, rfl, rfl, rfl, rfl, trivial⟩ ?_
  refine at_then ?_
  refine at_seq ?_
  refine at_seq ?_
  refine at_region [0, 1] rfl ?_
  iterate 2 refine at_s T rfl ?_
  refine at_end ?_
  refine at_sub [(5, (.int .i64 p5)), (13, (.pointer (some ⟨b2, 0, none⟩))), (14, (.int .i64 v2)), (16, (.slice a3 (List.length v4.1) n3)), (53, (.bool (!v4.2)))] ⟨rfl, rfl, rfl, rfl, rfl, trivial⟩ ?_
  refine at_then ?_
  refine at_cond rfl (fun c5 => ?_) (fun c5 => ?_)
  · replace H := if_t c5 H
    refine at_seq ?_
    refine at_region [0, 1, 2, 3, 4, 5, 6] rfl ?_
    obtain ⟨v5, V6, H⟩ := bind_e H
    refine at_cons (at_c (B := fun _ => []) [] rfl rfl rfl rfl has34 rfl rfl (law30_told.c  v5 _ V6) (fun _ => ?_))
    refine at_s T rfl ?_
    refine at_grp T [2, 3, 4, 5] (s := 55) (c := v5) [(59, (.bool (v5 && ((List.length v4.1 : Int) == 0))))] rfl rfl rfl (fun c7 => ⟨(by rw [c7]; rfl), trivial⟩) (fun c7 => ⟨(by rw [c7]; rfl), trivial⟩) ?_
    refine at_s T rfl ?_
    refine at_end ?_
    refine at_to [(12, (.bool (v5 && ((List.length v4.1 : Int) == 0))))] [0] [F] ⟨rfl, trivial⟩ rfl ?_
    refine at_then ?_
    refine at_ret ?_
    refine at_rt ?_
    obtain rfl := Option.some.inj H
    exact at_post (T := T) rfl (.tmp rfl .nil) (fun w o => ⟨(), rfl, own_to [0] rfl o⟩)
  · replace H := if_f (bf c5) H
    refine at_skip ?_
    refine at_then ?_
    refine at_seq ?_
    refine at_region [0, 1, 2, 3, 4] rfl ?_
    refine at_s T rfl ?_
    refine at_v rfl (g_load T rfl rfl rfl rfl (in_var (j := 2) rfl rfl)) ?_
    refine at_s T rfl ?_
    obtain ⟨c8, H⟩ := chk_e H
    refine at_cons (at_mk (k := Fl.bool) T false rfl rfl rfl rfl rfl rfl rfl rfl c8 rfl (fun a4 n4 H4 s4 => ?_))
    refine at_s T rfl ?_
    refine at_end ?_
    refine at_sub [(5, (.int .i64 p5)), (13, (.pointer (some ⟨b2, 0, none⟩))), (14, (.int .i64 v2)), (16, (.slice a3 (List.length v4.1) n3)), (18, (.slice a4 (List.length (List.replicate (Int.toNat (List.length v1.C : Int)) false)) n4))] ⟨rfl, rfl, rfl, rfl, rfl, trivial⟩ ?_
    refine at_then ?_
    refine at_seq ?_
    refine at_seq ?_
    refine at_region [0] rfl ?_
    refine at_s T rfl ?_
    refine at_end ?_
    refine at_sub [(5, (.int .i64 p5)), (13, (.pointer (some ⟨b2, 0, none⟩))), (14, (.int .i64 v2)), (16, (.slice a3 (List.length v4.1) n3)), (18, (.slice a4 (List.length (List.replicate (Int.toNat (List.length v1.C : Int)) false)) n4)), (19, (.int .i64 0))] ⟨rfl, rfl, rfl, rfl, rfl, rfl, trivial⟩ ?_
    refine at_then ?_
    refine at_block ?_
    refine at_loopL (σ := Nat × List Bool × Int × Option Addr × Nat × Hp) (fun ⟨k10, x8, x9, a6, n6, H6⟩ => law30_TrailSteps.l0 k10 p5 v1 v2 v4 x8 x9 = some r ∧ SliceO Fl.bool 4 x8 a6 n6 H6) (fun ⟨k10, x8, x9, a6, n6, H6⟩ => [(5, (.int .i64 p5)), (13, (.pointer (some ⟨b2, 0, none⟩))), (14, (.int .i64 v2)), (16, (.slice a3 (List.length v4.1) n3)), (18, (.slice a6 (List.length x8) n6)), (19, (.int .i64 x9))]) (fun ⟨k10, x8, x9, a6, n6, H6⟩ => [F, [(b2, Obj.cells #[(.int .i64 v1.W), (.int .i64 v1.H), (.slice a1 (List.length v1.C) n1)] 24 (0, 0))], H1, H3, H6]) (fun s => s.1) (fuel, (List.replicate (Int.toNat (List.length v1.C : Int)) false), 0, a4, n4, H4) [0, 1, 0, 0, 0] ⟨H, s4⟩ ⟨rfl, rfl, rfl, rfl, rfl, rfl, trivial⟩ rfl ?_
    rintro ⟨k10, x8, x9, a6, n6, H6⟩ ⟨Z9, s6⟩
    replace Z9 : law30_TrailSteps.l0 k10 p5 v1 v2 v4 x8 x9 = some r := Z9
    rcases k10 with _ | k10
    · rw [law30_TrailSteps.l0] at Z9; cases Z9
    · rw [law30_TrailSteps.l0] at Z9
      refine at_seq ?_
      refine at_seq ?_
      refine at_region [0, 1, 2, 3] rfl ?_
      iterate 4 refine at_s T rfl ?_
      refine at_end ?_
      refine at_sub [(5, (.int .i64 p5)), (13, (.pointer (some ⟨b2, 0, none⟩))), (14, (.int .i64 v2)), (16, (.slice a3 (List.length v4.1) n3)), (18, (.slice a6 (List.length x8) n6)), (19, (.int .i64 x9)), (67, (.bool (decide (x9 < (List.length v4.1 : Int)))))] ⟨rfl, rfl, rfl, rfl, rfl, rfl, rfl, trivial⟩ ?_
      refine at_then ?_
      refine at_cond rfl (fun c10 => ?_) (fun c10 => ?_)
      · replace Z9 := if_t (of_decide_eq_true c10) Z9
        refine at_skip ?_
        refine at_then ?_
        refine at_seq ?_
        refine at_block ?_
        refine at_seq ?_
        obtain ⟨z12, Z11, Z9⟩ := bind_e Z9
        refine at_seq_mid (σ := Bool) (fun x11 => x11 = z12) (fun x11 => [(5, (.int .i64 p5)), (13, (.pointer (some ⟨b2, 0, none⟩))), (14, (.int .i64 v2)), (16, (.slice a3 (List.length v4.1) n3)), (18, (.slice a6 (List.length x8) n6)), (19, (.int .i64 x9)), (93, (.bool x11))]) (fun x11 => [F, [(b2, Obj.cells #[(.int .i64 v1.W), (.int .i64 v1.H), (.slice a1 (List.length v1.C) n1)] 24 (0, 0))], H1, H3, H6]) ?_ ?_
        · refine at_region_q mix (by kernel_rfl) ?_
          iterate 2 refine atq_s T rfl ?_
          obtain ⟨c12, Z11⟩ := chk_e Z11
          obtain ⟨q7, o7, e7⟩ := s3.r.addr c12.1 c12.2
          refine atq_v rfl rfl rfl (g_index T rfl rfl rfl rfl rfl e7 c12.1 c12.2) ?_
          refine atq_v rfl rfl rfl (g_load T rfl rfl rfl rfl (in_elem1 (k := (Fl.int .i64)) (own_of s3 (j := 3) rfl) e7 c12 0 rfl)) ?_
          iterate 2 refine atq_s T rfl ?_
          refine atq_case (s := 75) rfl (fun c13 => ?_) (fun c13 => ?_)
          · replace Z11 := if_t (of_decide_eq_true c13) Z11
            iterate 18 refine atq_s T rfl ?_
            refine atq_end ?_
            refine at_sub [(5, (.int .i64 p5)), (13, (.pointer (some ⟨b2, 0, none⟩))), (14, (.int .i64 v2)), (16, (.slice a3 (List.length v4.1) n3)), (18, (.slice a6 (List.length x8) n6)), (19, (.int .i64 x9)), (93, (.bool true))] ⟨rfl, rfl, rfl, rfl, rfl, rfl, rfl, trivial⟩ ?_
            refine at_then ?_
            obtain rfl := Option.some.inj Z11
            exact at_mid true [0, 0, 0, 0, 0] rfl ⟨rfl, rfl, rfl, rfl, rfl, rfl, rfl, trivial⟩ rfl
          · replace Z11 := if_f (of_decide_eq_false c13) Z11
            iterate 2 refine atq_s T rfl ?_
            refine atq_v rfl rfl rfl (g_index T rfl rfl rfl rfl rfl e7 c12.1 c12.2) ?_
            refine atq_v rfl rfl rfl (g_load T rfl rfl rfl rfl (in_elem1 (k := (Fl.int .i64)) (own_of s3 (j := 3) rfl) e7 c12 0 rfl)) ?_
            refine atq_s T rfl ?_
            refine atq_v rfl rfl rfl (g_load T rfl rfl rfl rfl (in_var (j := 1) rfl rfl)) ?_
            iterate 4 refine atq_s T rfl ?_
            refine atq_case (s := 85) rfl (fun c14 => ?_) (fun c14 => ?_)
            · replace Z11 := if_t (of_decide_eq_true c14) Z11
              iterate 8 refine atq_s T rfl ?_
              refine atq_end ?_
              refine at_sub [(5, (.int .i64 p5)), (13, (.pointer (some ⟨b2, 0, none⟩))), (14, (.int .i64 v2)), (16, (.slice a3 (List.length v4.1) n3)), (18, (.slice a6 (List.length x8) n6)), (19, (.int .i64 x9)), (93, (.bool true))] ⟨rfl, rfl, rfl, rfl, rfl, rfl, rfl, trivial⟩ ?_
              refine at_then ?_
              obtain rfl := Option.some.inj Z11
              exact at_mid true [0, 0, 0, 0, 0] rfl ⟨rfl, rfl, rfl, rfl, rfl, rfl, rfl, trivial⟩ rfl
            · replace Z11 := if_f (of_decide_eq_false c14) Z11
              iterate 3 refine atq_s T rfl ?_
              refine atq_v rfl rfl rfl (g_index T rfl rfl rfl rfl rfl e7 c12.1 c12.2) ?_
              refine atq_v rfl rfl rfl (g_load T rfl rfl rfl rfl (in_elem1 (k := (Fl.int .i64)) (own_of s3 (j := 3) rfl) e7 c12 0 rfl)) ?_
              obtain ⟨c15, Z11⟩ := chk_e Z11
              obtain ⟨q8, o8, e8⟩ := s6.r.addr c15.1 c15.2
              refine atq_v rfl rfl rfl (g_index T rfl rfl rfl rfl rfl e8 c15.1 c15.2) ?_
              refine atq_v rfl rfl rfl (g_load T rfl rfl rfl rfl (in_elem1 (k := Fl.bool) (own_of s6 (j := 4) rfl) e8 c15 0 rfl)) ?_
              refine atq_s T rfl ?_
              refine atq_end ?_
              refine at_sub [(5, (.int .i64 p5)), (13, (.pointer (some ⟨b2, 0, none⟩))), (14, (.int .i64 v2)), (16, (.slice a3 (List.length v4.1) n3)), (18, (.slice a6 (List.length x8) n6)), (19, (.int .i64 x9)), (93, (.bool (rd x8 (rd v4.1 x9))))] ⟨rfl, rfl, rfl, rfl, rfl, rfl, rfl, trivial⟩ ?_
              refine at_then ?_
              obtain rfl := Option.some.inj Z11
              exact at_mid (rd x8 (rd v4.1 x9)) [0, 0, 0, 0, 0] rfl ⟨rfl, rfl, rfl, rfl, rfl, rfl, rfl, trivial⟩ rfl
        · rintro x11 rfl
          refine at_cond rfl (fun c16 => ?_) (fun c16 => ?_)
          · replace Z9 := if_t c16 Z9
            refine at_seq ?_
            refine at_region [0] rfl ?_
            refine at_s T rfl ?_
            refine at_end ?_
            refine at_to [(12, (.bool false))] [0] [F] ⟨rfl, trivial⟩ rfl ?_
            refine at_then ?_
            refine at_ret ?_
            refine at_rt ?_
            refine at_rb ?_
            refine at_rt ?_
            refine at_rt ?_
            refine at_rb ?_
            refine at_rt ?_
            obtain rfl := Option.some.inj Z9
            exact at_post (T := T) rfl (.tmp rfl .nil) (fun w o => ⟨(), rfl, own_to [0] rfl o⟩)
          · replace Z9 := if_f (bf c16) Z9
            refine at_skip ?_
            refine at_then ?_
            refine at_region [0, 1, 2, 3, 4, 5, 6] rfl ?_
            iterate 3 refine at_s T rfl ?_
            obtain ⟨c17, Z9⟩ := chk_e Z9
            obtain ⟨q9, o9, e9⟩ := s3.r.addr c17.1 c17.2
            refine at_v rfl (g_index T rfl rfl rfl rfl rfl e9 c17.1 c17.2) ?_
            refine at_v rfl (g_load T rfl rfl rfl rfl (in_elem1 (k := (Fl.int .i64)) (own_of s3 (j := 3) rfl) e9 c17 0 rfl)) ?_
            obtain ⟨c18, Z9⟩ := chk_e Z9
            obtain ⟨q10, o10, e10⟩ := s6.r.addr c18.1 c18.2
            refine at_v rfl (g_index T rfl rfl rfl rfl rfl e10 c18.1 c18.2) ?_
            refine at_cons (at_se (k := Fl.bool) T 4 0 true rfl rfl rfl rfl rfl rfl s6 e10 c18 rfl rfl rfl (fun H11 s11 => ?_))
            refine at_to [(5, (.int .i64 p5)), (13, (.pointer (some ⟨b2, 0, none⟩))), (14, (.int .i64 v2)), (16, (.slice a3 (List.length v4.1) n3)), (18, (.slice a6 (List.length (List.set x8 (Int.toNat (rd v4.1 x9)) true)) n6)), (19, (.int .i64 x9))] [0, 0, 0, 0, 0] [F, [(b2, Obj.cells #[(.int .i64 v1.W), (.int .i64 v1.H), (.slice a1 (List.length v1.C) n1)] 24 (0, 0))], H1, H3, H11] ⟨rfl, rfl, rfl, rfl, (by first | rfl | (simp only [List.length_set]; rfl)), rfl, trivial⟩ rfl ?_
            refine at_end ?_
            refine at_sub [(5, (.int .i64 p5)), (13, (.pointer (some ⟨b2, 0, none⟩))), (14, (.int .i64 v2)), (16, (.slice a3 (List.length v4.1) n3)), (18, (.slice a6 (List.length (List.set x8 (Int.toNat (rd v4.1 x9)) true)) n6)), (19, (.int .i64 x9))] ⟨rfl, rfl, rfl, rfl, rfl, rfl, trivial⟩ ?_
            refine at_nb ?_
            refine at_then ?_
            refine at_region [0, 1, 2] rfl ?_
            iterate 3 refine at_s T rfl ?_
            refine at_end ?_
            refine at_sub [(5, (.int .i64 p5)), (13, (.pointer (some ⟨b2, 0, none⟩))), (14, (.int .i64 v2)), (16, (.slice a3 (List.length v4.1) n3)), (18, (.slice a6 (List.length (List.set x8 (Int.toNat (rd v4.1 x9)) true)) n6)), (19, (.int .i64 (w64 (x9 + 1))))] ⟨rfl, rfl, rfl, rfl, rfl, rfl, trivial⟩ ?_
            refine at_then ?_
            exact at_roundL (k10, (List.set x8 (Int.toNat (rd v4.1 x9)) true), (w64 (x9 + 1)), a6, n6, H11) [0, 0, 0, 0, 0] ⟨Z9, s11⟩ (Nat.lt_succ_self _) ⟨rfl, rfl, rfl, rfl, rfl, rfl, trivial⟩ rfl
      · replace Z9 := if_f (of_decide_eq_false c10) Z9
        refine at_exit ?_
        refine at_xt ?_
        refine at_xt ?_
        refine at_xb ?_
        refine at_then ?_
        refine at_seq ?_
        refine at_seq ?_
        refine at_region [0, 1, 2] rfl ?_
        iterate 3 refine at_s T rfl ?_
        refine at_end ?_
        refine at_to [(5, (.int .i64 p5)), (13, (.pointer (some ⟨b2, 0, none⟩))), (14, (.int .i64 v2)), (16, (.slice a3 (List.length v4.1) n3)), (102, (.bool ((List.length v4.1 : Int) == 0)))] [0, 0, 0, 0] [F, [(b2, Obj.cells #[(.int .i64 v1.W), (.int .i64 v1.H), (.slice a1 (List.length v1.C) n1)] 24 (0, 0))], H1, H3] ⟨rfl, rfl, rfl, rfl, rfl, trivial⟩ rfl ?_
        refine at_then ?_
        refine at_cond rfl (fun c19 => ?_) (fun c19 => ?_)
        · replace Z9 := if_t c19 Z9
          refine at_seq ?_
          refine at_region [0] rfl ?_
          refine at_s T rfl ?_
          refine at_end ?_
          refine at_to [(12, (.bool false))] [0] [F] ⟨rfl, trivial⟩ rfl ?_
          refine at_then ?_
          refine at_ret ?_
          refine at_rt ?_
          obtain rfl := Option.some.inj Z9
          exact at_post (T := T) rfl (.tmp rfl .nil) (fun w o => ⟨(), rfl, own_to [0] rfl o⟩)
        · replace Z9 := if_f (bf c19) Z9
          refine at_skip ?_
          refine at_then ?_
          refine at_seq ?_
          refine at_region [0, 1, 2, 3, 4, 5] rfl ?_
          iterate 4 refine at_s T rfl ?_
          obtain ⟨v13, V20, Z9⟩ := bind_e Z9
          refine at_cons (at_c (B := fun _ => []) [] rfl rfl rfl rfl has15 rfl rfl (ref1_Within.c p5 0 (w64 ((List.length v4.1 : Int) - 1)) v13 _ V20) (fun _ => ?_))
          refine at_s T rfl ?_
          refine at_end ?_
          refine at_sub [(13, (.pointer (some ⟨b2, 0, none⟩))), (14, (.int .i64 v2)), (16, (.slice a3 (List.length v4.1) n3)), (20, (.int .i64 v13))] ⟨rfl, rfl, rfl, rfl, trivial⟩ ?_
          refine at_then ?_
          refine at_seq ?_
          refine at_region_m [[], [], [], [], [2, 3], [2, 3, 4], [0, 1, 2, 3, 4, 5], [0, 1, 2, 3, 4, 5, 6], [0, 1, 2, 3, 4, 5, 6, 7], [0, 1, 2, 3, 4, 5, 6, 7], [0, 1, 2, 3, 4, 5, 6, 7, 8], [0, 1, 2, 3, 4, 5, 6, 7, 8, 9, 10]] [] [F, [(b2, Obj.cells #[(.int .i64 v1.W), (.int .i64 v1.H), (.slice a1 (List.length v1.C) n1)] 24 (0, 0))], H1, H3] mix (by kernel_rfl) (by repeat first | exact pf_body | refine pf_then ?_ | refine pf_block ?_) (fun hg pf => ?_)
          refine atm_v 0 hg pf (by kernel_rfl) (still_o [0, 0, 0, 0] rfl) rfl rfl (g_loadA T (cs := [(.int .i64 v1.W), (.int .i64 v1.H), (.slice a1 (List.length v1.C) n1)]) rfl rfl rfl rfl rfl rfl (in_varA (j := 1) rfl rfl)) ?_
          refine atm_s T 1 hg pf (by kernel_rfl) (still_o [0, 0, 0, 0] rfl) rfl ?_
          refine atm_s T 2 hg pf (by kernel_rfl) (still_o [0, 0, 0, 0] rfl) rfl ?_
          refine atm_s T 3 hg pf (by kernel_rfl) (still_o [0, 0, 0, 0] rfl) rfl ?_
          obtain ⟨c21, Z9⟩ := chk_e Z9
          obtain ⟨q12, o12, e12⟩ := s3.r.addr c21.1 c21.2
          refine atm_v 4 hg pf (by kernel_rfl) (still_o [0, 0, 0, 0] rfl) rfl rfl (g_index T rfl rfl rfl rfl rfl e12 c21.1 c21.2) ?_
          refine atm_v 5 hg pf (by kernel_rfl) (still_o [0, 0, 0, 0] rfl) rfl rfl (g_load T rfl rfl rfl rfl (in_elem1 (k := (Fl.int .i64)) (own_of s3 (j := 3) rfl) e12 c21 0 rfl)) ?_
          refine atm_one 6 (by kernel_rfl) ?_
          obtain ⟨v14, V22, Z9⟩ := bind_e Z9
          refine at_cR (trail_Path.R v14) [] [] rfl rfl rfl rfl has37 rfl rfl (trail_Path.c v1 v2 (rd v4.1 v13) v14 _ V22 (own_of s1 (j := 2) rfl) s1.cap_le) ?_
          rintro _ _ ⟨a13, n13, H13, s13, rfl, rfl⟩
          refine atm_next (still_o [0, 0, 0, 0] rfl) ?_
          refine atm_s T 7 hg pf (by kernel_rfl) (still_o [0, 0, 0, 0] rfl) rfl ?_
          refine atm_s T 8 hg pf (by kernel_rfl) (still_o [0, 0, 0, 0] rfl) rfl ?_
          refine atm_s T 9 hg pf (by kernel_rfl) (still_o [0, 0, 0, 0] rfl) rfl ?_
          refine atm_s T 10 hg pf (by kernel_rfl) (still_o [0, 0, 0, 0] rfl) rfl ?_
          refine atm_s T 11 hg pf (by kernel_rfl) (still_o [0, 0, 0, 0] rfl) rfl ?_
          refine atm_end (by kernel_rfl) ?_
          refine at_sub [(13, (.pointer (some ⟨b2, 0, none⟩))), (16, (.slice a3 (List.length v4.1) n3)), (20, (.int .i64 v13)), (21, (.slice a13 (List.length v14.1) n13)), (22, (.bool v14.2))] ⟨rfl, rfl, rfl, rfl, rfl, trivial⟩ ?_
          refine at_then ?_
          refine at_seq ?_
          refine at_region_q mix (by kernel_rfl) ?_
          refine atq_v rfl rfl rfl (g_loadA T (cs := [(.int .i64 v1.W), (.int .i64 v1.H), (.slice a1 (List.length v1.C) n1)]) rfl rfl rfl rfl rfl rfl (in_varA (j := 1) rfl rfl)) ?_
          iterate 3 refine atq_s T rfl ?_
          obtain ⟨c23, Z9⟩ := chk_e Z9
          refine atq_v rfl rfl rfl (g_sub T rfl rfl rfl rfl rfl rfl c23 s3.cap_le) ?_
          obtain ⟨v15, V24, Z9⟩ := bind_e Z9
          refine atq_c rfl rfl rfl rfl rfl rfl has39 rfl (trail_Cost.c v1 (sub' v4.1 0 (w64 (v13 + 1))) v15 _ V24 (own_of s1 (j := 2) rfl) s1.cap_le (sub_r (own_of s3 (j := 3) rfl) c23 s3.cap_le) (sub_cap c23 s3.cap_le)) ?_
          iterate 5 refine atq_s T rfl ?_
          refine atq_end ?_
          refine at_sub [(13, (.pointer (some ⟨b2, 0, none⟩))), (16, (.slice a3 (List.length v4.1) n3)), (20, (.int .i64 v13)), (21, (.slice a13 (List.length v14.1) n13)), (22, (.bool v14.2)), (23, (.int .i64 v15.1)), (24, (.bool v15.2))] ⟨rfl, rfl, rfl, rfl, rfl, rfl, rfl, trivial⟩ ?_
          refine at_then ?_
          refine at_seq ?_
          refine at_region_q mix (by kernel_rfl) ?_
          refine atq_v rfl rfl rfl (g_loadA T (cs := [(.int .i64 v1.W), (.int .i64 v1.H), (.slice a1 (List.length v1.C) n1)]) rfl rfl rfl rfl rfl rfl (in_varA (j := 1) rfl rfl)) ?_
          iterate 2 refine atq_s T rfl ?_
          obtain ⟨c25, Z9⟩ := chk_e Z9
          refine atq_v rfl rfl rfl (g_sub T rfl rfl rfl rfl rfl rfl c25 s3.cap_le) ?_
          obtain ⟨v16, V26, Z9⟩ := bind_e Z9
          refine atq_c rfl rfl rfl rfl rfl rfl has39 rfl (trail_Cost.c v1 (sub' v4.1 v13 (List.length v4.1 : Int)) v16 _ V26 (own_of s1 (j := 2) rfl) s1.cap_le (sub_r (own_of s3 (j := 3) rfl) c25 s3.cap_le) (sub_cap c25 s3.cap_le)) ?_
          iterate 5 refine atq_s T rfl ?_
          refine atq_end ?_
          refine at_sub [(13, (.pointer (some ⟨b2, 0, none⟩))), (16, (.slice a3 (List.length v4.1) n3)), (20, (.int .i64 v13)), (21, (.slice a13 (List.length v14.1) n13)), (22, (.bool v14.2)), (23, (.int .i64 v15.1)), (24, (.bool v15.2)), (25, (.int .i64 v16.1)), (26, (.bool v16.2))] ⟨rfl, rfl, rfl, rfl, rfl, rfl, rfl, rfl, rfl, trivial⟩ ?_
          refine at_then ?_
          refine at_seq ?_
          refine at_region [0, 1, 2, 3, 4, 5, 6, 7] rfl ?_
          refine at_v rfl (g_loadA T (cs := [(.int .i64 v1.W), (.int .i64 v1.H), (.slice a1 (List.length v1.C) n1)]) rfl rfl rfl rfl rfl rfl (in_varA (j := 1) rfl rfl)) ?_
          refine at_s T rfl ?_
          obtain ⟨v17, V27, Z9⟩ := bind_e Z9
          refine at_cons (at_c (B := fun _ => []) [] rfl rfl rfl rfl has39 rfl rfl (trail_Cost.c v1 v4.1 v17 _ V27 (own_of s1 (j := 2) rfl) s1.cap_le (own_of s3 (j := 3) rfl) s3.cap_le) (fun _ => ?_))
          iterate 5 refine at_s T rfl ?_
          refine at_end ?_
          refine at_to [(16, (.slice a3 (List.length v4.1) n3)), (20, (.int .i64 v13)), (21, (.slice a13 (List.length v14.1) n13)), (22, (.bool v14.2)), (23, (.int .i64 v15.1)), (24, (.bool v15.2)), (25, (.int .i64 v16.1)), (26, (.bool v16.2)), (27, (.int .i64 v17.1)), (28, (.bool v17.2))] [0, 2, 2] [F, H3, H13] ⟨rfl, rfl, rfl, rfl, rfl, rfl, rfl, rfl, rfl, rfl, trivial⟩ rfl ?_
          refine at_then ?_
          obtain ⟨z19, Z28, Z9⟩ := bind_e Z9
          refine at_seq_mid (σ := Bool) (fun x18 => x18 = z19) (fun x18 => [(12, (.bool x18))]) (fun x18 => [F]) ?_ ?_
          · refine at_region [0, 1, 2, 3, 4, 5, 6, 7, 8, 9, 10, 11, 12, 13, 14, 15, 16, 17, 18, 19, 20, 21, 22, 23, 24, 25, 26, 27] rfl ?_
            obtain ⟨v20, V29, Z28⟩ := bind_e Z28
            refine at_cons (at_c (B := fun _ => []) [] rfl rfl rfl rfl has34 rfl rfl (law30_told.c  v20 _ V29) (fun _ => ?_))
            refine at_s T rfl ?_
            refine at_grp T [2, 3] (s := 142) (c := v20) [(16, (.slice a3 (List.length v4.1) n3)), (20, (.int .i64 v13)), (21, (.slice a13 (List.length v14.1) n13)), (23, (.int .i64 v15.1)), (24, (.bool v15.2)), (25, (.int .i64 v16.1)), (26, (.bool v16.2)), (27, (.int .i64 v17.1)), (28, (.bool v17.2)), (144, (.bool (v20 && v14.2)))] rfl rfl rfl (fun c30 => ⟨rfl, rfl, rfl, rfl, rfl, rfl, rfl, rfl, rfl, (by rw [c30]; rfl), trivial⟩) (fun c30 => ⟨rfl, rfl, rfl, rfl, rfl, rfl, rfl, rfl, rfl, (by rw [c30]; rfl), trivial⟩) ?_
            refine at_s T rfl ?_
            refine at_case (s := 145) rfl (fun c31 => ?_) (fun c31 => ?_)
            · replace Z28 := if_t c31 Z28
              iterate 3 refine at_s T rfl ?_
              obtain ⟨c32, Z28⟩ := chk_e Z28
              refine at_v rfl (g_sub T rfl rfl rfl rfl rfl rfl c32 s3.cap_le) ?_
              obtain ⟨v21, V33, Z28⟩ := bind_e Z28
              refine at_cons (at_c (B := fun _ => []) [] rfl rfl rfl rfl has20 rfl rfl (ref1_Ints.c v14.1 (sub' v4.1 v13 (List.length v4.1 : Int)) v21 _ V33 (own_of s13 (j := 2) rfl) s13.cap_le (sub_r (own_of s3 (j := 1) rfl) c32 s3.cap_le) (sub_cap c32 s3.cap_le)) (fun _ => ?_))
              iterate 2 refine at_s T rfl ?_
              refine at_grp T [12, 13] (s := 152) (c := v21) [(23, (.int .i64 v15.1)), (25, (.int .i64 v16.1)), (26, (.bool v16.2)), (27, (.int .i64 v17.1)), (28, (.bool v17.2)), (154, (.bool (v21 && v15.2)))] rfl rfl rfl (fun c34 => ⟨rfl, rfl, rfl, rfl, rfl, (by rw [c34]; rfl), trivial⟩) (fun c34 => ⟨rfl, rfl, rfl, rfl, rfl, (by rw [c34]; rfl), trivial⟩) ?_
              refine at_s T rfl ?_
              refine at_grp T [15, 16] (s := 155) (c := (v21 && v15.2)) [(23, (.int .i64 v15.1)), (25, (.int .i64 v16.1)), (27, (.int .i64 v17.1)), (28, (.bool v17.2)), (157, (.bool ((v21 && v15.2) && v16.2)))] rfl rfl rfl (fun c35 => ⟨rfl, rfl, rfl, rfl, (by rw [c35]; rfl), trivial⟩) (fun c35 => ⟨rfl, rfl, rfl, rfl, (by rw [c35]; rfl), trivial⟩) ?_
              refine at_s T rfl ?_
              refine at_grp T [18, 19] (s := 158) (c := ((v21 && v15.2) && v16.2)) [(23, (.int .i64 v15.1)), (25, (.int .i64 v16.1)), (27, (.int .i64 v17.1)), (160, (.bool (((v21 && v15.2) && v16.2) && v17.2)))] rfl rfl rfl (fun c36 => ⟨rfl, rfl, rfl, (by rw [c36]; rfl), trivial⟩) (fun c36 => ⟨rfl, rfl, rfl, (by rw [c36]; rfl), trivial⟩) ?_
              refine at_s T rfl ?_
              refine at_grp T [21, 22, 23, 24, 25, 26] (s := 161) (c := (((v21 && v15.2) && v16.2) && v17.2)) [(167, (.bool ((((v21 && v15.2) && v16.2) && v17.2) && ((w64 (v15.1 + v16.1)) == v17.1))))] rfl rfl rfl (fun c37 => ⟨(by rw [c37]; rfl), trivial⟩) (fun c37 => ⟨(by rw [c37]; rfl), trivial⟩) ?_
              refine at_s T rfl ?_
              refine at_end ?_
              refine at_to [(12, (.bool ((((v21 && v15.2) && v16.2) && v17.2) && ((w64 (v15.1 + v16.1)) == v17.1))))] [0] [F] ⟨rfl, trivial⟩ rfl ?_
              refine at_then ?_
              obtain rfl := Option.some.inj Z28
              exact at_mid ((((v21 && v15.2) && v16.2) && v17.2) && ((w64 (v15.1 + v16.1)) == v17.1)) [0] rfl ⟨rfl, trivial⟩ rfl
            · replace Z28 := if_f (bf c31) Z28
              iterate 23 refine at_s T rfl ?_
              refine at_end ?_
              refine at_to [(12, (.bool false))] [0] [F] ⟨rfl, trivial⟩ rfl ?_
              refine at_then ?_
              obtain rfl := Option.some.inj Z28
              exact at_mid false [0] rfl ⟨rfl, trivial⟩ rfl
          · rintro x18 rfl
            refine at_ret ?_
            obtain rfl := Option.some.inj Z9
            exact at_post (T := T) rfl (.tmp rfl .nil) (fun w o => ⟨(), rfl, own_to [0] rfl o⟩)
def law30_TrailSteps.Pure : Prop := ∀ (w : Int) (h : Int) (c : (List Int)) (goal : Int) (cell : Int) (p5 : Int), inI64 w → inI64 h → (∀ y ∈ c, inU8 y) → inI64 goal → inI64 cell → inI64 p5 → List.length c ≤ 9223372036854775807 → law30_TrailSteps.f w h c goal cell p5 = some true
end Go.Proofs.Yticdodeoljodiaa
