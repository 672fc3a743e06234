import Derived.Test.YtmjcmkimhkjdeaaT
import Derived.Test.YtmjcmkimhkjdeaaFflat
import Derived.Test.YtmjcmkimhkjdeaaFlaw17
import Derived.Test.YtmjcmkimhkjdeaaFref1
namespace Go.Proofs.Ytmjcmkimhkjdeaa
open Go.Hx
set_option maxRecDepth 100000
set_option linter.unusedVariables false
/-! ### herdsman/herdsmanlaw17.FlatBound: function 13 -/
def law17_FlatBound.f (w : Int) (h : Int) (c : (List Int)) (goal : Int) (cell : Int) : Option Bool := (ref1_Made.f w h c).bind fun v1 => (ref1_Within.f goal 0 (w64 ((List.length v1.C : Int) - 1))).bind fun v2 => (ref1_Within.f cell 0 (w64 ((List.length v1.C : Int) - 1))).bind fun v3 => (flat_Query.f v1 v2 v3).bind fun v4 => if (¬ v1.W = 0) then (if (¬ v1.W = 0) then (if (¬ v1.W = 0) then (if (¬ v1.W = 0) then (if (¬ v1.W = 0) then (if (¬ v1.W = 0) then (if (¬ v1.W = 0) then (if (¬ v1.W = 0) then (((law17_told.f).bind fun v7 => if ((v7 && (v4.2.2 == 0)) && (decide (v4.1 ≥ (w64 ((if (w64 ((Int.tmod v3 v1.W) - (Int.tmod v2 v1.W))) > (w64 ((Int.tmod v2 v1.W) - (Int.tmod v3 v1.W))) then (w64 ((Int.tmod v3 v1.W) - (Int.tmod v2 v1.W))) else (w64 ((Int.tmod v2 v1.W) - (Int.tmod v3 v1.W)))) + (if (w64 ((w64 (Int.tdiv v3 v1.W)) - (w64 (Int.tdiv v2 v1.W)))) > (w64 ((w64 (Int.tdiv v2 v1.W)) - (w64 (Int.tdiv v3 v1.W)))) then (w64 ((w64 (Int.tdiv v3 v1.W)) - (w64 (Int.tdiv v2 v1.W)))) else (w64 ((w64 (Int.tdiv v2 v1.W)) - (w64 (Int.tdiv v3 v1.W)))))))))) = true then (if (v4.1 == 1099511627776) = true then (if (v4.2.1 == 5) = true then (some true) else (if v4.1 ≤ (w64 (254 * (w64 ((List.length v1.C : Int) - 1)))) then (some (v4.2.1 != 5)) else (some false))) else (if v4.1 ≤ (w64 (254 * (w64 ((List.length v1.C : Int) - 1)))) then (some (v4.2.1 != 5)) else (some false))) else (some false)).bind fun x5 => some x5) else none) else none) else none) else none) else none) else none) else none) else none
set_option maxHeartbeats 4000000 in
theorem law17_FlatBound.c {a_c : Option Addr} {n_c : Nat} (w : Int) (h : Int) (c : (List Int)) (goal : Int) (cell : Int) (r : Bool) (F : Hp) (H : law17_FlatBound.f w h c goal cell = some r) (h_c : SliceR (Fl.int .u8) c a_c F) (c_c : List.length c ≤ n_c) :
    CallsL Try.prog 13 [(.int .i64 w), (.int .i64 h), (.slice a_c (List.length c) n_c), (.int .i64 goal), (.int .i64 cell)] [F] (fun _ : Unit => (.bool r)) (fun _ => [F]) := by
  unfold law17_FlatBound.f at H
  refine calls_atL [(0, (.int .i64 w)), (1, (.int .i64 h)), (2, (.slice a_c (List.length c) n_c)), (3, (.int .i64 goal)), (4, (.int .i64 cell))] Try.func13 rfl rfl ⟨rfl, rfl, rfl, rfl, rfl, trivial⟩ (fun W => ?_)
  refine at_seq ?_
  refine at_region [0] rfl ?_
  refine at_s T rfl ?_
  refine at_end ?_
  refine at_sub [(0, (.int .i64 w)), (1, (.int .i64 h)), (2, (.slice a_c (List.length c) n_c)), (3, (.int .i64 goal)), (4, (.int .i64 cell))] ⟨rfl, rfl, rfl, rfl, rfl, trivial⟩ ?_
  refine at_then ?_
  refine at_seq ?_
  refine at_region [0, 1, 2, 3, 4, 5] rfl ?_
  iterate 3 refine at_s T rfl ?_
  obtain ⟨v1, V1, H⟩ := bind_e H
  refine at_cons (at_cR (ref1_Made.R v1) [] [] rfl rfl rfl rfl has14 rfl rfl (ref1_Made.c w h c v1 _ V1 (ro_of h_c (j := 0) rfl) c_c) ?_)
  rintro _ _ ⟨a1, n1, H1, s1, rfl, rfl⟩
  refine at_cons (at_al T [(.int .i64 0), (.int .i64 0), (.slice none 0 0)] rfl rfl rfl rfl (fun b2 => ?_))
  refine at_cons (at_st T 2 [(.int .i64 v1.W), (.int .i64 v1.H), (.slice a1 (List.length v1.C) n1)] rfl rfl rfl rfl rfl rfl rfl rfl rfl rfl ?_)
  refine at_end ?_
  refine at_sub [(3, (.int .i64 goal)), (4, (.int .i64 cell)), (11, (.pointer (some ⟨b2, 0, none⟩)))] ⟨rfl, rfl, rfl, trivial⟩ ?_
  refine at_then ?_
  refine at_seq ?_
  refine at_region_q mix (by kernel_rfl) ?_
  iterate 2 refine atq_s T rfl ?_
  refine atq_v rfl rfl rfl (g_load T rfl rfl rfl rfl (in_var (j := 2) rfl rfl)) ?_
  iterate 2 refine atq_s T rfl ?_
  obtain ⟨v2, V2, H⟩ := bind_e H
  refine atq_c rfl rfl rfl rfl rfl rfl has17 rfl (ref1_Within.c goal 0 (w64 ((List.length v1.C : Int) - 1)) v2 _ V2) ?_
  iterate 2 refine atq_s T rfl ?_
  refine atq_v rfl rfl rfl (g_load T rfl rfl rfl rfl (in_var (j := 2) rfl rfl)) ?_
  iterate 2 refine atq_s T rfl ?_
  obtain ⟨v3, V3, H⟩ := bind_e H
  refine atq_c rfl rfl rfl rfl rfl rfl has17 rfl (ref1_Within.c cell 0 (w64 ((List.length v1.C : Int) - 1)) v3 _ V3) ?_
  iterate 2 refine atq_s T rfl ?_
  refine atq_end ?_
  refine at_sub [(11, (.pointer (some ⟨b2, 0, none⟩))), (12, (.int .i64 v2)), (13, (.int .i64 v3))] ⟨rfl, rfl, rfl, trivial⟩ ?_
  refine at_then ?_
  refine at_seq ?_
  refine at_region [0, 1, 2, 3, 4, 5, 6, 7, 8, 9, 10] rfl ?_
  refine at_v rfl (g_loadA T (cs := [(.int .i64 v1.W), (.int .i64 v1.H), (.slice a1 (List.length v1.C) n1)]) rfl rfl rfl rfl rfl rfl (in_varA (j := 2) rfl rfl)) ?_
  iterate 2 refine at_s T rfl ?_
  obtain ⟨v4, V4, H⟩ := bind_e H
  refine at_cons (at_c (B := fun _ => []) [] rfl rfl rfl rfl has39 rfl rfl (flat_Query.c v1 v2 v3 v4 _ V4 (own_of s1 (j := 1) rfl) s1.cap_le) (fun _ => ?_))
  iterate 7 refine at_s T rfl ?_
  refine at_end ?_
  refine at_sub [(11, (.pointer (some ⟨b2, 0, none⟩))), (12, (.int .i64 v2)), (13, (.int .i64 v3)), (14, (.int .i64 v4.1)), (15, (.int .i64 v4.2.1)), (16, (.int .i64 v4.2.2))] ⟨rfl, rfl, rfl, rfl, rfl, rfl, trivial⟩ ?_
  refine at_then ?_
  refine at_seq ?_
  refine at_region_q mix (by kernel_rfl) ?_
  iterate 2 refine atq_s T rfl ?_
  refine atq_v rfl rfl rfl (g_load T rfl rfl rfl rfl (in_var (j := 2) rfl rfl)) ?_
  obtain ⟨c5, H⟩ := chk_e H
  refine atq_v rfl rfl rfl (g_rem rfl rfl rfl c5) ?_
  iterate 2 refine atq_s T rfl ?_
  refine atq_v rfl rfl rfl (g_load T rfl rfl rfl rfl (in_var (j := 2) rfl rfl)) ?_
  obtain ⟨c6, H⟩ := chk_e H
  refine atq_v rfl rfl rfl (g_rem rfl rfl rfl c6) ?_
  iterate 3 refine atq_s T rfl ?_
  refine atq_v rfl rfl rfl (g_load T rfl rfl rfl rfl (in_var (j := 2) rfl rfl)) ?_
  obtain ⟨c7, H⟩ := chk_e H
  refine atq_v rfl rfl rfl (g_rem rfl rfl rfl c7) ?_
  iterate 2 refine atq_s T rfl ?_
  refine atq_v rfl rfl rfl (g_load T rfl rfl rfl rfl (in_var (j := 2) rfl rfl)) ?_
  obtain ⟨c8, H⟩ := chk_e H
  refine atq_v rfl rfl rfl (g_rem rfl rfl rfl c8) ?_
  iterate 4 refine atq_s T rfl ?_
  refine atq_v rfl rfl rfl (g_load T rfl rfl rfl rfl (in_var (j := 2) rfl rfl)) ?_
  obtain ⟨c9, H⟩ := chk_e H
  refine atq_v rfl rfl rfl (g_quo rfl rfl rfl c9) ?_
  iterate 2 refine atq_s T rfl ?_
  refine atq_v rfl rfl rfl (g_load T rfl rfl rfl rfl (in_var (j := 2) rfl rfl)) ?_
  obtain ⟨c10, H⟩ := chk_e H
  refine atq_v rfl rfl rfl (g_quo rfl rfl rfl c10) ?_
  iterate 3 refine atq_s T rfl ?_
  refine atq_v rfl rfl rfl (g_load T rfl rfl rfl rfl (in_var (j := 2) rfl rfl)) ?_
  obtain ⟨c11, H⟩ := chk_e H
  refine atq_v rfl rfl rfl (g_quo rfl rfl rfl c11) ?_
  iterate 2 refine atq_s T rfl ?_
  refine atq_v rfl rfl rfl (g_load T rfl rfl rfl rfl (in_var (j := 2) rfl rfl)) ?_
  obtain ⟨c12, H⟩ := chk_e H
  refine atq_v rfl rfl rfl (g_quo rfl rfl rfl c12) ?_
  iterate 4 refine atq_s T rfl ?_
  refine atq_end ?_
  refine at_sub [(11, (.pointer (some ⟨b2, 0, none⟩))), (14, (.int .i64 v4.1)), (15, (.int .i64 v4.2.1)), (16, (.int .i64 v4.2.2)), (17, (.int .i64 (w64 ((if (w64 ((Int.tmod v3 v1.W) - (Int.tmod v2 v1.W))) > (w64 ((Int.tmod v2 v1.W) - (Int.tmod v3 v1.W))) then (w64 ((Int.tmod v3 v1.W) - (Int.tmod v2 v1.W))) else (w64 ((Int.tmod v2 v1.W) - (Int.tmod v3 v1.W)))) + (if (w64 ((w64 (Int.tdiv v3 v1.W)) - (w64 (Int.tdiv v2 v1.W)))) > (w64 ((w64 (Int.tdiv v2 v1.W)) - (w64 (Int.tdiv v3 v1.W)))) then (w64 ((w64 (Int.tdiv v3 v1.W)) - (w64 (Int.tdiv v2 v1.W)))) else (w64 ((w64 (Int.tdiv v2 v1.W)) - (w64 (Int.tdiv v3 v1.W)))))))))] ⟨rfl, rfl, rfl, rfl, rfl, trivial⟩ ?_
  refine at_then ?_
  obtain ⟨z6, Z13, H⟩ := bind_e H
  refine at_seq_mid (σ := Bool) (fun x5 => x5 = z6) (fun x5 => [(10, (.bool x5))]) (fun x5 => [F]) ?_ ?_
  · refine at_region [0, 1, 2, 3, 4, 5, 6, 7, 8, 9, 10, 11, 12, 13, 14, 15, 16, 17, 18, 19, 20, 21, 22, 23, 24, 25, 26, 27, 28, 29, 30, 31] rfl ?_
    obtain ⟨v7, V14, Z13⟩ := bind_e Z13
    refine at_cons (at_c (B := fun _ => []) [] rfl rfl rfl rfl has37 rfl rfl (law17_told.c  v7 _ V14) (fun _ => ?_))
    refine at_s T rfl ?_
    refine at_grp T [2, 3, 4] (s := 82) (c := v7) [(11, (.pointer (some ⟨b2, 0, none⟩))), (14, (.int .i64 v4.1)), (15, (.int .i64 v4.2.1)), (17, (.int .i64 (w64 ((if (w64 ((Int.tmod v3 v1.W) - (Int.tmod v2 v1.W))) > (w64 ((Int.tmod v2 v1.W) - (Int.tmod v3 v1.W))) then (w64 ((Int.tmod v3 v1.W) - (Int.tmod v2 v1.W))) else (w64 ((Int.tmod v2 v1.W) - (Int.tmod v3 v1.W)))) + (if (w64 ((w64 (Int.tdiv v3 v1.W)) - (w64 (Int.tdiv v2 v1.W)))) > (w64 ((w64 (Int.tdiv v2 v1.W)) - (w64 (Int.tdiv v3 v1.W)))) then (w64 ((w64 (Int.tdiv v3 v1.W)) - (w64 (Int.tdiv v2 v1.W)))) else (w64 ((w64 (Int.tdiv v2 v1.W)) - (w64 (Int.tdiv v3 v1.W))))))))), (85, (.bool (v7 && (v4.2.2 == 0))))] rfl rfl rfl (fun c15 => ⟨rfl, rfl, rfl, rfl, (by rw [c15]; rfl), trivial⟩) (fun c15 => ⟨rfl, rfl, rfl, rfl, (by rw [c15]; rfl), trivial⟩) ?_
    refine at_s T rfl ?_
    refine at_grp T [6, 7, 8, 9] (s := 86) (c := (v7 && (v4.2.2 == 0))) [(11, (.pointer (some ⟨b2, 0, none⟩))), (14, (.int .i64 v4.1)), (15, (.int .i64 v4.2.1)), (90, (.bool ((v7 && (v4.2.2 == 0)) && (decide (v4.1 ≥ (w64 ((if (w64 ((Int.tmod v3 v1.W) - (Int.tmod v2 v1.W))) > (w64 ((Int.tmod v2 v1.W) - (Int.tmod v3 v1.W))) then (w64 ((Int.tmod v3 v1.W) - (Int.tmod v2 v1.W))) else (w64 ((Int.tmod v2 v1.W) - (Int.tmod v3 v1.W)))) + (if (w64 ((w64 (Int.tdiv v3 v1.W)) - (w64 (Int.tdiv v2 v1.W)))) > (w64 ((w64 (Int.tdiv v2 v1.W)) - (w64 (Int.tdiv v3 v1.W)))) then (w64 ((w64 (Int.tdiv v3 v1.W)) - (w64 (Int.tdiv v2 v1.W)))) else (w64 ((w64 (Int.tdiv v2 v1.W)) - (w64 (Int.tdiv v3 v1.W))))))))))))] rfl rfl rfl (fun c16 => ⟨rfl, rfl, rfl, (by rw [c16]; rfl), trivial⟩) (fun c16 => ⟨rfl, rfl, rfl, (by rw [c16]; rfl), trivial⟩) ?_
    refine at_s T rfl ?_
    refine at_case (s := 91) rfl (fun c17 => ?_) (fun c17 => ?_)
    · replace Z13 := if_t c17 Z13
      iterate 3 refine at_s T rfl ?_
      refine at_case (s := 94) rfl (fun c18 => ?_) (fun c18 => ?_)
      · replace Z13 := if_t c18 Z13
        iterate 4 refine at_s T rfl ?_
        refine at_case (s := 98) rfl (fun c19 => ?_) (fun c19 => ?_)
        · replace Z13 := if_t c19 Z13
          iterate 14 refine at_s T rfl ?_
          refine at_end ?_
          refine at_to [(10, (.bool true))] [0] [F] ⟨rfl, trivial⟩ rfl ?_
          refine at_then ?_
          obtain rfl := Option.some.inj Z13
          exact at_mid true [0] rfl ⟨rfl, trivial⟩ rfl
        · replace Z13 := if_f (bf c19) Z13
          iterate 2 refine at_s T rfl ?_
          refine at_v rfl (g_load T rfl rfl rfl rfl (in_var (j := 2) rfl rfl)) ?_
          iterate 5 refine at_s T rfl ?_
          refine at_case (s := 106) rfl (fun c20 => ?_) (fun c20 => ?_)
          · replace Z13 := if_t (of_decide_eq_true c20) Z13
            iterate 6 refine at_s T rfl ?_
            refine at_end ?_
            refine at_to [(10, (.bool (v4.2.1 != 5)))] [0] [F] ⟨rfl, trivial⟩ rfl ?_
            refine at_then ?_
            obtain rfl := Option.some.inj Z13
            exact at_mid (v4.2.1 != 5) [0] rfl ⟨rfl, trivial⟩ rfl
          · replace Z13 := if_f (of_decide_eq_false c20) Z13
            iterate 6 refine at_s T rfl ?_
            refine at_end ?_
            refine at_to [(10, (.bool false))] [0] [F] ⟨rfl, trivial⟩ rfl ?_
            refine at_then ?_
            obtain rfl := Option.some.inj Z13
            exact at_mid false [0] rfl ⟨rfl, trivial⟩ rfl
      · replace Z13 := if_f (bf c18) Z13
        iterate 6 refine at_s T rfl ?_
        refine at_v rfl (g_load T rfl rfl rfl rfl (in_var (j := 2) rfl rfl)) ?_
        iterate 5 refine at_s T rfl ?_
        refine at_case (s := 106) rfl (fun c21 => ?_) (fun c21 => ?_)
        · replace Z13 := if_t (of_decide_eq_true c21) Z13
          iterate 6 refine at_s T rfl ?_
          refine at_end ?_
          refine at_to [(10, (.bool (v4.2.1 != 5)))] [0] [F] ⟨rfl, trivial⟩ rfl ?_
          refine at_then ?_
          obtain rfl := Option.some.inj Z13
          exact at_mid (v4.2.1 != 5) [0] rfl ⟨rfl, trivial⟩ rfl
        · replace Z13 := if_f (of_decide_eq_false c21) Z13
          iterate 6 refine at_s T rfl ?_
          refine at_end ?_
          refine at_to [(10, (.bool false))] [0] [F] ⟨rfl, trivial⟩ rfl ?_
          refine at_then ?_
          obtain rfl := Option.some.inj Z13
          exact at_mid false [0] rfl ⟨rfl, trivial⟩ rfl
    · replace Z13 := if_f (bf c17) Z13
      iterate 21 refine at_s T rfl ?_
      refine at_end ?_
      refine at_to [(10, (.bool false))] [0] [F] ⟨rfl, trivial⟩ rfl ?_
      refine at_then ?_
      obtain rfl := Option.some.inj Z13
      exact at_mid false [0] rfl ⟨rfl, trivial⟩ rfl
  · rintro x5 rfl
    refine at_ret ?_
    obtain rfl := Option.some.inj H
    exact at_post (T := T) rfl (.tmp rfl .nil) (fun w o => ⟨(), rfl, own_to [0] rfl o⟩)
def law17_FlatBound.Pure : Prop := ∀ (w : Int) (h : Int) (c : (List Int)) (goal : Int) (cell : Int), inI64 w → inI64 h → (∀ y ∈ c, inU8 y) → inI64 goal → inI64 cell → List.length c ≤ 9223372036854775807 → law17_FlatBound.f w h c goal cell = some true
end Go.Proofs.Ytmjcmkimhkjdeaa
