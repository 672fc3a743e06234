import Derived.Test.YticdodeoljodiaaT
import Derived.Test.YticdodeoljodiaaFborder
import Derived.Test.YticdodeoljodiaaFgrid
import Derived.Test.YticdodeoljodiaaFlaw11
import Derived.Test.YticdodeoljodiaaFref1
import Derived.Test.YticdodeoljodiaaFwhere
namespace Go.Proofs.Yticdodeoljodiaa
open Go.Hx
set_option maxRecDepth 100000
set_option linter.unusedVariables false
/-! ### herdsman/herdsmanlaw11.BorderMates: function 6 -/
def law11_BorderMates.l1 : Nat → api_Map → Int → (List api_Edge) → (List api_Edge) → Int → Bool → Int → Option (Sum Bool Unit)
  | 0, _, _, _, _, _, _, _ => none
  | k19 + 1, v1, v3, v4, v14, x6, x17, x18 => if x18 < (List.length v14 : Int) then (if x17 = true then (law11_BorderMates.l1 k19 v1 v3 v4 v14 x6 true (w64 (x18 + 1))) else (if (0 ≤ x18 ∧ x18 < (List.length v14 : Int)) then (if ((rd v14 x18).To == v3) = true then (if (0 ≤ v3 ∧ v3 < (List.length v1.C : Int)) then (law11_BorderMates.l1 k19 v1 v3 v4 v14 x6 ((rd v14 x18).Cost == (w64 (rd v1.C v3))) (w64 (x18 + 1))) else none) else (law11_BorderMates.l1 k19 v1 v3 v4 v14 x6 false (w64 (x18 + 1)))) else none)) else ((if (!x17) = true then (some true) else (if x6 > 0 then (if (0 ≤ (w64 (x6 - 1)) ∧ (w64 (x6 - 1)) < (List.length v4 : Int)) then ((where_Side.f v1.W v1.H v3 ((rd v4 (w64 (x6 - 1))).To)).bind fun v22 => (where_Side.f v1.W v1.H v3 ((rd v4 x6).To)).bind fun v23 => some (decide (v22 ≥ v23))) else none) else (some false))).bind fun x20 => if x20 = true then (some (Sum.inl false)) else (some (Sum.inr ())))
def law11_BorderMates.l0 : Nat → api_Map → grid_Grid → Int → (List api_Edge) → Int → Option Bool
  | 0, _, _, _, _, _ => none
  | k7 + 1, v1, yv2, v3, v4, x6 => if x6 < (List.length v4 : Int) then ((if (0 ≤ x6 ∧ x6 < (List.length v4 : Int)) then ((if (rd v4 x6).To < 0 then (some true) else (if (rd v4 x6).To ≥ (List.length v1.C : Int) then (some true) else (if (0 ≤ (rd v4 x6).To ∧ (rd v4 x6).To < (List.length v1.C : Int)) then (if ((rd v1.C ((rd v4 x6).To)) == 255) = true then (some true) else (if (0 ≤ v3 ∧ v3 < (List.length v1.C : Int)) then (if ((rd v1.C v3) == 255) = true then (some true) else (if ((rd v4 x6).Cost != (w64 (rd v1.C ((rd v4 x6).To)))) = true then (some true) else ((where_Sector.f v1.W v1.H ((rd v4 x6).To)).bind fun v11 => (where_Sector.f v1.W v1.H v3).bind fun v12 => if (v11 == v12) = true then (some true) else ((where_Side.f v1.W v1.H v3 ((rd v4 x6).To)).bind fun v13 => some (decide (v13 > 3)))))) else none)) else none))).bind fun x9 => if x9 = true then (some (Sum.inl false)) else ((border_Cross.f yv2 ((rd v4 x6).To)).bind fun v14 => law11_BorderMates.l1 fuel v1 v3 v4 v14 x6 false 0)) else none).bind fun zz => match zz with | Sum.inl q => some q | Sum.inr _ => law11_BorderMates.l0 k7 v1 yv2 v3 v4 (w64 (x6 + 1))) else ((law11_told.f).bind fun v24 => some (v24 && (decide ((List.length v4 : Int) ≤ 2))))
def law11_BorderMates.f (w : Int) (h : Int) (c : (List Int)) (cell : Int) : Option Bool := (ref1_Made.f w h c).bind fun v1 => (grid_New.f v1 0).bind fun v2 => optm v2 (some false) (fun yv2 => (ref1_Within.f cell 0 (w64 ((List.length v1.C : Int) - 1))).bind fun v3 => (border_Cross.f yv2 v3).bind fun v4 => law11_BorderMates.l0 fuel v1 yv2 v3 v4 0)
set_option maxHeartbeats 4000000 in
theorem law11_BorderMates.c {a_c : Option Addr} {n_c : Nat} (w : Int) (h : Int) (c : (List Int)) (cell : Int) (r : Bool) (F : Hp) (H : law11_BorderMates.f w h c cell = some r) (h_c : SliceR (Fl.int .u8) c a_c F) (c_c : List.length c ≤ n_c) :
    CallsL Try.prog 6 [(.int .i64 w), (.int .i64 h), (.slice a_c (List.length c) n_c), (.int .i64 cell)] [F] (fun _ : Unit => (.bool r)) (fun _ => [F]) := by
  unfold law11_BorderMates.f at H
  refine calls_atL [(0, (.int .i64 w)), (1, (.int .i64 h)), (2, (.slice a_c (List.length c) n_c)), (3, (.int .i64 cell))] Try.func6 rfl rfl ⟨rfl, rfl, rfl, rfl, trivial⟩ (fun W => ?_)
  refine at_seq ?_
  refine at_region [0] rfl ?_
  refine at_s T rfl ?_
  refine at_end ?_
  refine at_sub [(0, (.int .i64 w)), (1, (.int .i64 h)), (2, (.slice a_c (List.length c) n_c)), (3, (.int .i64 cell))] ⟨rfl, rfl, rfl, rfl, trivial⟩ ?_
  refine at_then ?_
  refine at_seq ?_
  refine at_region [0, 1, 2, 3, 4, 5] rfl ?_
  iterate 3 refine at_s T rfl ?_
  obtain ⟨v1, V1, H⟩ := bind_e H
  refine at_cons (at_cR (ref1_Made.R v1) [] [] rfl rfl rfl rfl has13 rfl rfl (ref1_Made.c w h c v1 _ V1 (ro_of h_c (j := 0) rfl) c_c) ?_)
  rintro _ _ ⟨a1, n1, H1, s1, rfl, rfl⟩
  refine at_cons (at_al T [(.int .i64 0), (.int .i64 0), (.slice none 0 0)] rfl rfl rfl rfl (fun b2 => ?_))
  refine at_cons (at_st T 2 [(.int .i64 v1.W), (.int .i64 v1.H), (.slice a1 (List.length v1.C) n1)] rfl rfl rfl rfl rfl rfl rfl rfl rfl rfl ?_)
  refine at_end ?_
  refine at_sub [(3, (.int .i64 cell)), (9, (.pointer (some ⟨b2, 0, none⟩)))] ⟨rfl, rfl, trivial⟩ ?_
  refine at_then ?_
  refine at_seq ?_
  refine at_region [0, 1, 2] rfl ?_
  refine at_v rfl (g_loadA T (cs := [(.int .i64 v1.W), (.int .i64 v1.H), (.slice a1 (List.length v1.C) n1)]) rfl rfl rfl rfl rfl rfl (in_varA (j := 2) rfl rfl)) ?_
  obtain ⟨v2, V2, H⟩ := bind_e H
  refine at_cons (at_cR (grid_New.R v2) [] [] rfl rfl rfl rfl has14 rfl rfl (grid_New.c v1 0 v2 _ V2 (own_of s1 (j := 1) rfl) s1.cap_le) ?_)
  rintro _ _ ⟨_, _, O3, rfl, rfl⟩
  rcases v2 with _ | yv2
  · replace H := optm_n rfl H
    obtain ⟨rfl, rfl⟩ := O3
    refine at_s T rfl ?_
    refine at_end ?_
    refine at_sub [(3, (.int .i64 cell)), (9, (.pointer (some ⟨b2, 0, none⟩))), (10, (.pointer none))] ⟨rfl, rfl, rfl, trivial⟩ ?_
    refine at_then ?_
    refine at_seq ?_
    refine at_seq ?_
    refine at_region [0, 1] rfl ?_
    iterate 2 refine at_s T rfl ?_
    refine at_end ?_
    refine at_sub [(3, (.int .i64 cell)), (9, (.pointer (some ⟨b2, 0, none⟩))), (10, (.pointer none)), (25, (.bool true))] ⟨rfl, rfl, rfl, rfl, trivial⟩ ?_
    refine at_then ?_
    refine at_cond_t rfl ?_
    refine at_seq ?_
    refine at_region [0] rfl ?_
    refine at_s T rfl ?_
    refine at_end ?_
    refine at_to [(8, (.bool false))] [0] [F] ⟨rfl, trivial⟩ rfl ?_
    refine at_then ?_
    refine at_ret ?_
    refine at_rt ?_
    obtain rfl := Option.some.inj H
    exact at_post (T := T) rfl (.tmp rfl .nil) (fun w o => ⟨(), rfl, own_to [0] rfl o⟩)
  · replace H := optm_s rfl H
    obtain ⟨b3, a4, n4, H4, a5, n5, H5, s4, s5, rfl, rfl⟩ := O3
    refine at_s T rfl ?_
    refine at_end ?_
    refine at_sub [(3, (.int .i64 cell)), (9, (.pointer (some ⟨b2, 0, none⟩))), (10, (.pointer (some ⟨b3, 0, none⟩)))] ⟨rfl, rfl, rfl, trivial⟩ ?_
    refine at_then ?_
    refine at_seq ?_
    refine at_seq ?_
    refine at_region [0, 1] rfl ?_
    iterate 2 refine at_s T rfl ?_
    refine at_end ?_
    refine at_sub [(3, (.int .i64 cell)), (9, (.pointer (some ⟨b2, 0, none⟩))), (10, (.pointer (some ⟨b3, 0, none⟩))), (25, (.bool false))] ⟨rfl, rfl, rfl, rfl, trivial⟩ ?_
    refine at_then ?_
    refine at_cond_f rfl ?_
    refine at_skip ?_
    refine at_then ?_
    refine at_seq ?_
    refine at_region [0, 1, 2, 3, 4, 5, 6] rfl ?_
    iterate 2 refine at_s T rfl ?_
    refine at_v rfl (g_load T rfl rfl rfl rfl (in_var (j := 2) rfl rfl)) ?_
    iterate 2 refine at_s T rfl ?_
    obtain ⟨v3, V4, H⟩ := bind_e H
    refine at_cons (at_c (B := fun _ => []) [] rfl rfl rfl rfl has15 rfl rfl (ref1_Within.c cell 0 (w64 ((List.length v1.C : Int) - 1)) v3 _ V4) (fun _ => ?_))
    refine at_s T rfl ?_
    refine at_end ?_
    refine at_sub [(9, (.pointer (some ⟨b2, 0, none⟩))), (10, (.pointer (some ⟨b3, 0, none⟩))), (11, (.int .i64 v3))] ⟨rfl, rfl, rfl, trivial⟩ ?_
    refine at_then ?_
    refine at_seq ?_
    refine at_region [0, 1, 2, 3] rfl ?_
    iterate 2 refine at_s T rfl ?_
    obtain ⟨v4, V5, H⟩ := bind_e H
    refine at_cons (at_cR (As := [[(b3, Obj.cells #[(.int .i64 yv2.m.W), (.int .i64 yv2.m.H), (.slice a4 (List.length yv2.m.C) n4), (.int .i64 yv2.epoch), (.slice a5 (List.length yv2.versions) n5)] 81 (0, 0))], H4, H5]) (R := [F, H1, [(b2, Obj.cells #[(.int .i64 v1.W), (.int .i64 v1.H), (.slice a1 (List.length v1.C) n1)] 24 (0, 0))]]) (border_Cross.R v4) [[(b3, Obj.cells #[(.int .i64 yv2.m.W), (.int .i64 yv2.m.H), (.slice a4 (List.length yv2.m.C) n4), (.int .i64 yv2.epoch), (.slice a5 (List.length yv2.versions) n5)] 81 (0, 0))], H4, H5] [3, 3, 3] rfl rfl rfl rfl has29 rfl rfl (border_Cross.c yv2 v3 v4 _ V5 s4 s5) ?_)
    rintro _ _ ⟨a6, n6, H6, s6, rfl, rfl⟩
    refine at_s T rfl ?_
    refine at_end ?_
    refine at_sub [(9, (.pointer (some ⟨b2, 0, none⟩))), (10, (.pointer (some ⟨b3, 0, none⟩))), (11, (.int .i64 v3)), (12, (.slice a6 (List.length v4) n6))] ⟨rfl, rfl, rfl, rfl, trivial⟩ ?_
    refine at_then ?_
    refine at_seq ?_
    refine at_seq ?_
    refine at_region [0] rfl ?_
    refine at_s T rfl ?_
    refine at_end ?_
    refine at_sub [(9, (.pointer (some ⟨b2, 0, none⟩))), (10, (.pointer (some ⟨b3, 0, none⟩))), (11, (.int .i64 v3)), (12, (.slice a6 (List.length v4) n6)), (13, (.int .i64 0))] ⟨rfl, rfl, rfl, rfl, rfl, trivial⟩ ?_
    refine at_then ?_
    refine at_block ?_
    refine at_loopL (σ := Nat × Int) (fun ⟨k7, x6⟩ => law11_BorderMates.l0 k7 v1 yv2 v3 v4 x6 = some r) (fun ⟨k7, x6⟩ => [(9, (.pointer (some ⟨b2, 0, none⟩))), (10, (.pointer (some ⟨b3, 0, none⟩))), (11, (.int .i64 v3)), (12, (.slice a6 (List.length v4) n6)), (13, (.int .i64 x6))]) (fun ⟨k7, x6⟩ => [F, [(b2, Obj.cells #[(.int .i64 v1.W), (.int .i64 v1.H), (.slice a1 (List.length v1.C) n1)] 24 (0, 0))], H1, [(b3, Obj.cells #[(.int .i64 yv2.m.W), (.int .i64 yv2.m.H), (.slice a4 (List.length yv2.m.C) n4), (.int .i64 yv2.epoch), (.slice a5 (List.length yv2.versions) n5)] 81 (0, 0))], H4, H5, H6]) (fun s => s.1) (fuel, 0) [0, 1, 0, 1, 1, 1, 0] H ⟨rfl, rfl, rfl, rfl, rfl, trivial⟩ rfl ?_
    rintro ⟨k7, x6⟩ Z6
    replace Z6 : law11_BorderMates.l0 k7 v1 yv2 v3 v4 x6 = some r := Z6
    rcases k7 with _ | k7
    · rw [law11_BorderMates.l0] at Z6; cases Z6
    · rw [law11_BorderMates.l0] at Z6
      refine at_seq ?_
      refine at_seq ?_
      refine at_region [0, 1, 2, 3] rfl ?_
      iterate 4 refine at_s T rfl ?_
      refine at_end ?_
      refine at_sub [(9, (.pointer (some ⟨b2, 0, none⟩))), (10, (.pointer (some ⟨b3, 0, none⟩))), (11, (.int .i64 v3)), (12, (.slice a6 (List.length v4) n6)), (13, (.int .i64 x6)), (38, (.bool (decide (x6 < (List.length v4 : Int)))))] ⟨rfl, rfl, rfl, rfl, rfl, rfl, trivial⟩ ?_
      refine at_then ?_
      refine at_cond rfl (fun c7 => ?_) (fun c7 => ?_)
      · replace Z6 := if_t (of_decide_eq_true c7) Z6
        refine at_skip ?_
        refine at_then ?_
        obtain ⟨z8, Z8, Z6⟩ := bind_e Z6
        refine at_seq_mid (σ := Unit) (fun ⟨⟩ => (Sum.inr ()) = z8) (fun ⟨⟩ => [(9, (.pointer (some ⟨b2, 0, none⟩))), (10, (.pointer (some ⟨b3, 0, none⟩))), (11, (.int .i64 v3)), (12, (.slice a6 (List.length v4) n6)), (13, (.int .i64 x6))]) (fun ⟨⟩ => [F, [(b2, Obj.cells #[(.int .i64 v1.W), (.int .i64 v1.H), (.slice a1 (List.length v1.C) n1)] 24 (0, 0))], H1, [(b3, Obj.cells #[(.int .i64 yv2.m.W), (.int .i64 yv2.m.H), (.slice a4 (List.length yv2.m.C) n4), (.int .i64 yv2.epoch), (.slice a5 (List.length yv2.versions) n5)] 81 (0, 0))], H4, H5, H6]) ?_ ?_
        · refine at_block ?_
          refine at_seq ?_
          refine at_region [0, 1, 2, 3, 4, 5] rfl ?_
          iterate 2 refine at_s T rfl ?_
          obtain ⟨c9, Z8⟩ := chk_e Z8
          obtain ⟨q7, o7, e7⟩ := s6.r.addr c9.1 c9.2
          refine at_v rfl (g_index T rfl rfl rfl rfl rfl e7 c9.1 c9.2) ?_
          refine at_s T rfl ?_
          refine at_v rfl (g_load T rfl rfl rfl rfl (in_elem1 (k := k_api_Edge) (own_of s6 (j := 6) rfl) e7 c9 0 rfl)) ?_
          refine at_s T rfl ?_
          refine at_end ?_
          refine at_sub [(9, (.pointer (some ⟨b2, 0, none⟩))), (10, (.pointer (some ⟨b3, 0, none⟩))), (11, (.int .i64 v3)), (12, (.slice a6 (List.length v4) n6)), (13, (.int .i64 x6)), (14, (.int .i64 (rd v4 x6).To))] ⟨rfl, rfl, rfl, rfl, rfl, rfl, trivial⟩ ?_
          refine at_then ?_
          refine at_seq ?_
          obtain ⟨z10, Z10, Z8⟩ := bind_e Z8
          refine at_seq_mid (σ := Bool) (fun x9 => x9 = z10) (fun x9 => [(9, (.pointer (some ⟨b2, 0, none⟩))), (10, (.pointer (some ⟨b3, 0, none⟩))), (11, (.int .i64 v3)), (12, (.slice a6 (List.length v4) n6)), (13, (.int .i64 x6)), (14, (.int .i64 (rd v4 x6).To)), (109, (.bool x9))]) (fun x9 => [F, [(b2, Obj.cells #[(.int .i64 v1.W), (.int .i64 v1.H), (.slice a1 (List.length v1.C) n1)] 24 (0, 0))], H1, [(b3, Obj.cells #[(.int .i64 yv2.m.W), (.int .i64 yv2.m.H), (.slice a4 (List.length yv2.m.C) n4), (.int .i64 yv2.epoch), (.slice a5 (List.length yv2.versions) n5)] 81 (0, 0))], H4, H5, H6]) ?_ ?_
          · refine at_region_q mix (by kernel_rfl) ?_
            iterate 3 refine atq_s T rfl ?_
            refine atq_case (s := 48) rfl (fun c11 => ?_) (fun c11 => ?_)
            · replace Z10 := if_t (of_decide_eq_true c11) Z10
              iterate 61 refine atq_s T rfl ?_
              refine atq_end ?_
              refine at_sub [(9, (.pointer (some ⟨b2, 0, none⟩))), (10, (.pointer (some ⟨b3, 0, none⟩))), (11, (.int .i64 v3)), (12, (.slice a6 (List.length v4) n6)), (13, (.int .i64 x6)), (14, (.int .i64 (rd v4 x6).To)), (109, (.bool true))] ⟨rfl, rfl, rfl, rfl, rfl, rfl, rfl, trivial⟩ ?_
              refine at_then ?_
              obtain rfl := Option.some.inj Z10
              exact at_mid true [0, 0, 0, 0, 0, 0, 0] rfl ⟨rfl, rfl, rfl, rfl, rfl, rfl, rfl, trivial⟩ rfl
            · replace Z10 := if_f (of_decide_eq_false c11) Z10
              iterate 2 refine atq_s T rfl ?_
              refine atq_v rfl rfl rfl (g_load T rfl rfl rfl rfl (in_var (j := 1) rfl rfl)) ?_
              iterate 4 refine atq_s T rfl ?_
              refine atq_case (s := 55) rfl (fun c12 => ?_) (fun c12 => ?_)
              · replace Z10 := if_t (of_decide_eq_true c12) Z10
                iterate 54 refine atq_s T rfl ?_
                refine atq_end ?_
                refine at_sub [(9, (.pointer (some ⟨b2, 0, none⟩))), (10, (.pointer (some ⟨b3, 0, none⟩))), (11, (.int .i64 v3)), (12, (.slice a6 (List.length v4) n6)), (13, (.int .i64 x6)), (14, (.int .i64 (rd v4 x6).To)), (109, (.bool true))] ⟨rfl, rfl, rfl, rfl, rfl, rfl, rfl, trivial⟩ ?_
                refine at_then ?_
                obtain rfl := Option.some.inj Z10
                exact at_mid true [0, 0, 0, 0, 0, 0, 0] rfl ⟨rfl, rfl, rfl, rfl, rfl, rfl, rfl, trivial⟩ rfl
              · replace Z10 := if_f (of_decide_eq_false c12) Z10
                refine atq_s T rfl ?_
                refine atq_v rfl rfl rfl (g_load T rfl rfl rfl rfl (in_var (j := 1) rfl rfl)) ?_
                refine atq_s T rfl ?_
                obtain ⟨c13, Z10⟩ := chk_e Z10
                obtain ⟨q8, o8, e8⟩ := s1.r.addr c13.1 c13.2
                refine atq_v rfl rfl rfl (g_index T rfl rfl rfl rfl rfl e8 c13.1 c13.2) ?_
                refine atq_v rfl rfl rfl (g_load T rfl rfl rfl rfl (in_elem1 (k := (Fl.int .u8)) (own_of s1 (j := 2) rfl) e8 c13 0 rfl)) ?_
                iterate 3 refine atq_s T rfl ?_
                refine atq_case (s := 63) rfl (fun c14 => ?_) (fun c14 => ?_)
                · replace Z10 := if_t c14 Z10
                  iterate 46 refine atq_s T rfl ?_
                  refine atq_end ?_
                  refine at_sub [(9, (.pointer (some ⟨b2, 0, none⟩))), (10, (.pointer (some ⟨b3, 0, none⟩))), (11, (.int .i64 v3)), (12, (.slice a6 (List.length v4) n6)), (13, (.int .i64 x6)), (14, (.int .i64 (rd v4 x6).To)), (109, (.bool true))] ⟨rfl, rfl, rfl, rfl, rfl, rfl, rfl, trivial⟩ ?_
                  refine at_then ?_
                  obtain rfl := Option.some.inj Z10
                  exact at_mid true [0, 0, 0, 0, 0, 0, 0] rfl ⟨rfl, rfl, rfl, rfl, rfl, rfl, rfl, trivial⟩ rfl
                · replace Z10 := if_f (bf c14) Z10
                  refine atq_s T rfl ?_
                  refine atq_v rfl rfl rfl (g_load T rfl rfl rfl rfl (in_var (j := 1) rfl rfl)) ?_
                  refine atq_s T rfl ?_
                  obtain ⟨c15, Z10⟩ := chk_e Z10
                  refine atq_v rfl rfl rfl (g_index T rfl rfl rfl rfl rfl e8 c15.1 c15.2) ?_
                  refine atq_v rfl rfl rfl (g_load T rfl rfl rfl rfl (in_elem1 (k := (Fl.int .u8)) (own_of s1 (j := 2) rfl) e8 c15 0 rfl)) ?_
                  iterate 3 refine atq_s T rfl ?_
                  refine atq_case (s := 71) rfl (fun c16 => ?_) (fun c16 => ?_)
                  · replace Z10 := if_t c16 Z10
                    iterate 38 refine atq_s T rfl ?_
                    refine atq_end ?_
                    refine at_sub [(9, (.pointer (some ⟨b2, 0, none⟩))), (10, (.pointer (some ⟨b3, 0, none⟩))), (11, (.int .i64 v3)), (12, (.slice a6 (List.length v4) n6)), (13, (.int .i64 x6)), (14, (.int .i64 (rd v4 x6).To)), (109, (.bool true))] ⟨rfl, rfl, rfl, rfl, rfl, rfl, rfl, trivial⟩ ?_
                    refine at_then ?_
                    obtain rfl := Option.some.inj Z10
                    exact at_mid true [0, 0, 0, 0, 0, 0, 0] rfl ⟨rfl, rfl, rfl, rfl, rfl, rfl, rfl, trivial⟩ rfl
                  · replace Z10 := if_f (bf c16) Z10
                    iterate 2 refine atq_s T rfl ?_
                    refine atq_v rfl rfl rfl (g_index T rfl rfl rfl rfl rfl e7 c9.1 c9.2) ?_
                    refine atq_s T rfl ?_
                    refine atq_v rfl rfl rfl (g_load T rfl rfl rfl rfl (in_elem1 (k := k_api_Edge) (own_of s6 (j := 6) rfl) e7 c9 1 rfl)) ?_
                    refine atq_s T rfl ?_
                    refine atq_v rfl rfl rfl (g_load T rfl rfl rfl rfl (in_var (j := 1) rfl rfl)) ?_
                    refine atq_s T rfl ?_
                    refine atq_v rfl rfl rfl (g_index T rfl rfl rfl rfl rfl e8 c13.1 c13.2) ?_
                    refine atq_v rfl rfl rfl (g_load T rfl rfl rfl rfl (in_elem1 (k := (Fl.int .u8)) (own_of s1 (j := 2) rfl) e8 c13 0 rfl)) ?_
                    iterate 4 refine atq_s T rfl ?_
                    refine atq_case (s := 85) rfl (fun c17 => ?_) (fun c17 => ?_)
                    · replace Z10 := if_t c17 Z10
                      iterate 24 refine atq_s T rfl ?_
                      refine atq_end ?_
                      refine at_sub [(9, (.pointer (some ⟨b2, 0, none⟩))), (10, (.pointer (some ⟨b3, 0, none⟩))), (11, (.int .i64 v3)), (12, (.slice a6 (List.length v4) n6)), (13, (.int .i64 x6)), (14, (.int .i64 (rd v4 x6).To)), (109, (.bool true))] ⟨rfl, rfl, rfl, rfl, rfl, rfl, rfl, trivial⟩ ?_
                      refine at_then ?_
                      obtain rfl := Option.some.inj Z10
                      exact at_mid true [0, 0, 0, 0, 0, 0, 0] rfl ⟨rfl, rfl, rfl, rfl, rfl, rfl, rfl, trivial⟩ rfl
                    · replace Z10 := if_f (bf c17) Z10
                      refine atq_s T rfl ?_
                      refine atq_v rfl rfl rfl (g_load T rfl rfl rfl rfl (in_var (j := 1) rfl rfl)) ?_
                      refine atq_s T rfl ?_
                      refine atq_v rfl rfl rfl (g_load T rfl rfl rfl rfl (in_var (j := 1) rfl rfl)) ?_
                      refine atq_s T rfl ?_
                      obtain ⟨v11, V18, Z10⟩ := bind_e Z10
                      refine atq_c rfl rfl rfl rfl rfl rfl has31 rfl (where_Sector.c v1.W v1.H ((rd v4 x6).To) v11 _ V18) ?_
                      refine atq_s T rfl ?_
                      refine atq_v rfl rfl rfl (g_load T rfl rfl rfl rfl (in_var (j := 1) rfl rfl)) ?_
                      refine atq_s T rfl ?_
                      refine atq_v rfl rfl rfl (g_load T rfl rfl rfl rfl (in_var (j := 1) rfl rfl)) ?_
                      refine atq_s T rfl ?_
                      obtain ⟨v12, V19, Z10⟩ := bind_e Z10
                      refine atq_c rfl rfl rfl rfl rfl rfl has31 rfl (where_Sector.c v1.W v1.H v3 v12 _ V19) ?_
                      iterate 3 refine atq_s T rfl ?_
                      refine atq_case (s := 100) rfl (fun c20 => ?_) (fun c20 => ?_)
                      · replace Z10 := if_t c20 Z10
                        iterate 9 refine atq_s T rfl ?_
                        refine atq_end ?_
                        refine at_sub [(9, (.pointer (some ⟨b2, 0, none⟩))), (10, (.pointer (some ⟨b3, 0, none⟩))), (11, (.int .i64 v3)), (12, (.slice a6 (List.length v4) n6)), (13, (.int .i64 x6)), (14, (.int .i64 (rd v4 x6).To)), (109, (.bool true))] ⟨rfl, rfl, rfl, rfl, rfl, rfl, rfl, trivial⟩ ?_
                        refine at_then ?_
                        obtain rfl := Option.some.inj Z10
                        exact at_mid true [0, 0, 0, 0, 0, 0, 0] rfl ⟨rfl, rfl, rfl, rfl, rfl, rfl, rfl, trivial⟩ rfl
                      · replace Z10 := if_f (bf c20) Z10
                        refine atq_s T rfl ?_
                        refine atq_v rfl rfl rfl (g_load T rfl rfl rfl rfl (in_var (j := 1) rfl rfl)) ?_
                        refine atq_s T rfl ?_
                        refine atq_v rfl rfl rfl (g_load T rfl rfl rfl rfl (in_var (j := 1) rfl rfl)) ?_
                        iterate 2 refine atq_s T rfl ?_
                        obtain ⟨v13, V21, Z10⟩ := bind_e Z10
                        refine atq_c rfl rfl rfl rfl rfl rfl has32 rfl (where_Side.c v1.W v1.H v3 ((rd v4 x6).To) v13 _ V21) ?_
                        iterate 2 refine atq_s T rfl ?_
                        refine atq_end ?_
                        refine at_sub [(9, (.pointer (some ⟨b2, 0, none⟩))), (10, (.pointer (some ⟨b3, 0, none⟩))), (11, (.int .i64 v3)), (12, (.slice a6 (List.length v4) n6)), (13, (.int .i64 x6)), (14, (.int .i64 (rd v4 x6).To)), (109, (.bool (decide (v13 > 3))))] ⟨rfl, rfl, rfl, rfl, rfl, rfl, rfl, trivial⟩ ?_
                        refine at_then ?_
                        obtain rfl := Option.some.inj Z10
                        exact at_mid (decide (v13 > 3)) [0, 0, 0, 0, 0, 0, 0] rfl ⟨rfl, rfl, rfl, rfl, rfl, rfl, rfl, trivial⟩ rfl
          · rintro x9 rfl
            refine at_cond rfl (fun c22 => ?_) (fun c22 => ?_)
            · replace Z8 := if_t c22 Z8
              refine at_seq ?_
              refine at_region [0] rfl ?_
              refine at_s T rfl ?_
              refine at_end ?_
              refine at_to [(8, (.bool false))] [0] [F] ⟨rfl, trivial⟩ rfl ?_
              refine at_then ?_
              refine at_ret ?_
              refine at_rt ?_
              refine at_rb ?_
              refine at_rt ?_
              refine at_rt ?_
              refine at_rb ?_
              refine at_rt ?_
              obtain rfl := Option.some.inj Z8
              obtain rfl := Option.some.inj (show some false = some r from Z6)
              exact at_post (T := T) rfl (.tmp rfl .nil) (fun w o => ⟨(), rfl, own_to [0] rfl o⟩)
            · replace Z8 := if_f (bf c22) Z8
              refine at_skip ?_
              refine at_then ?_
              refine at_seq ?_
              refine at_region [0] rfl ?_
              refine at_s T rfl ?_
              refine at_end ?_
              refine at_sub [(9, (.pointer (some ⟨b2, 0, none⟩))), (10, (.pointer (some ⟨b3, 0, none⟩))), (11, (.int .i64 v3)), (12, (.slice a6 (List.length v4) n6)), (13, (.int .i64 x6)), (14, (.int .i64 (rd v4 x6).To)), (15, (.bool false))] ⟨rfl, rfl, rfl, rfl, rfl, rfl, rfl, trivial⟩ ?_
              refine at_then ?_
              refine at_seq ?_
              refine at_region [0, 1, 2, 3] rfl ?_
              iterate 2 refine at_s T rfl ?_
              obtain ⟨v14, V23, Z8⟩ := bind_e Z8
              refine at_cons (at_cR (As := [[(b3, Obj.cells #[(.int .i64 yv2.m.W), (.int .i64 yv2.m.H), (.slice a4 (List.length yv2.m.C) n4), (.int .i64 yv2.epoch), (.slice a5 (List.length yv2.versions) n5)] 81 (0, 0))], H4, H5]) (R := [F, [(b2, Obj.cells #[(.int .i64 v1.W), (.int .i64 v1.H), (.slice a1 (List.length v1.C) n1)] 24 (0, 0))], H1, H6]) (border_Cross.R v14) [[(b3, Obj.cells #[(.int .i64 yv2.m.W), (.int .i64 yv2.m.H), (.slice a4 (List.length yv2.m.C) n4), (.int .i64 yv2.epoch), (.slice a5 (List.length yv2.versions) n5)] 81 (0, 0))], H4, H5] [3, 3, 3] rfl rfl rfl rfl has29 rfl rfl (border_Cross.c yv2 ((rd v4 x6).To) v14 _ V23 s4 s5) ?_)
              rintro _ _ ⟨a9, n9, H9, s9, rfl, rfl⟩
              refine at_s T rfl ?_
              refine at_end ?_
              refine at_sub [(9, (.pointer (some ⟨b2, 0, none⟩))), (10, (.pointer (some ⟨b3, 0, none⟩))), (11, (.int .i64 v3)), (12, (.slice a6 (List.length v4) n6)), (13, (.int .i64 x6)), (14, (.int .i64 (rd v4 x6).To)), (15, (.bool false)), (16, (.slice a9 (List.length v14) n9))] ⟨rfl, rfl, rfl, rfl, rfl, rfl, rfl, rfl, trivial⟩ ?_
              refine at_then ?_
              refine at_seq ?_
              refine at_seq ?_
              refine at_region [0] rfl ?_
              refine at_s T rfl ?_
              refine at_end ?_
              refine at_sub [(9, (.pointer (some ⟨b2, 0, none⟩))), (10, (.pointer (some ⟨b3, 0, none⟩))), (11, (.int .i64 v3)), (12, (.slice a6 (List.length v4) n6)), (13, (.int .i64 x6)), (14, (.int .i64 (rd v4 x6).To)), (15, (.bool false)), (16, (.slice a9 (List.length v14) n9)), (17, (.int .i64 0))] ⟨rfl, rfl, rfl, rfl, rfl, rfl, rfl, rfl, rfl, trivial⟩ ?_
              refine at_then ?_
              refine at_block ?_
              refine at_loopL (σ := Nat × Bool × Int) (fun ⟨k19, x17, x18⟩ => law11_BorderMates.l1 k19 v1 v3 v4 v14 x6 x17 x18 = some z8) (fun ⟨k19, x17, x18⟩ => [(9, (.pointer (some ⟨b2, 0, none⟩))), (10, (.pointer (some ⟨b3, 0, none⟩))), (11, (.int .i64 v3)), (12, (.slice a6 (List.length v4) n6)), (13, (.int .i64 x6)), (14, (.int .i64 (rd v4 x6).To)), (15, (.bool x17)), (16, (.slice a9 (List.length v14) n9)), (17, (.int .i64 x18))]) (fun ⟨k19, x17, x18⟩ => [F, [(b2, Obj.cells #[(.int .i64 v1.W), (.int .i64 v1.H), (.slice a1 (List.length v1.C) n1)] 24 (0, 0))], H1, [(b3, Obj.cells #[(.int .i64 yv2.m.W), (.int .i64 yv2.m.H), (.slice a4 (List.length yv2.m.C) n4), (.int .i64 yv2.epoch), (.slice a5 (List.length yv2.versions) n5)] 81 (0, 0))], H4, H5, H6, H9]) (fun s => s.1) (fuel, false, 0) [0, 0, 0, 2, 2, 2, 0, 0] Z8 ⟨rfl, rfl, rfl, rfl, rfl, rfl, rfl, rfl, rfl, trivial⟩ rfl ?_
              rintro ⟨k19, x17, x18⟩ Z24
              replace Z24 : law11_BorderMates.l1 k19 v1 v3 v4 v14 x6 x17 x18 = some z8 := Z24
              rcases k19 with _ | k19
              · rw [law11_BorderMates.l1] at Z24; cases Z24
              · rw [law11_BorderMates.l1] at Z24
                refine at_seq ?_
                refine at_seq ?_
                refine at_region [0, 1, 2, 3] rfl ?_
                iterate 4 refine at_s T rfl ?_
                refine at_end ?_
                refine at_sub [(9, (.pointer (some ⟨b2, 0, none⟩))), (10, (.pointer (some ⟨b3, 0, none⟩))), (11, (.int .i64 v3)), (12, (.slice a6 (List.length v4) n6)), (13, (.int .i64 x6)), (14, (.int .i64 (rd v4 x6).To)), (15, (.bool x17)), (16, (.slice a9 (List.length v14) n9)), (17, (.int .i64 x18)), (116, (.bool (decide (x18 < (List.length v14 : Int)))))] ⟨rfl, rfl, rfl, rfl, rfl, rfl, rfl, rfl, rfl, rfl, trivial⟩ ?_
                refine at_then ?_
                refine at_cond rfl (fun c25 => ?_) (fun c25 => ?_)
                · replace Z24 := if_t (of_decide_eq_true c25) Z24
                  refine at_skip ?_
                  refine at_then ?_
                  refine at_seq ?_
                  refine at_block ?_
                  refine at_region_q mix (by kernel_rfl) ?_
                  iterate 2 refine atq_s T rfl ?_
                  refine atq_case (s := 120) rfl (fun c26 => ?_) (fun c26 => ?_)
                  · replace Z24 := if_t c26 Z24
                    iterate 23 refine atq_s T rfl ?_
                    refine atq_end ?_
                    refine at_sub [(9, (.pointer (some ⟨b2, 0, none⟩))), (10, (.pointer (some ⟨b3, 0, none⟩))), (11, (.int .i64 v3)), (12, (.slice a6 (List.length v4) n6)), (13, (.int .i64 x6)), (14, (.int .i64 (rd v4 x6).To)), (15, (.bool true)), (16, (.slice a9 (List.length v14) n9)), (17, (.int .i64 x18))] ⟨rfl, rfl, rfl, rfl, rfl, rfl, rfl, rfl, rfl, trivial⟩ ?_
                    refine at_nb ?_
                    refine at_then ?_
                    refine at_region [0, 1, 2] rfl ?_
                    iterate 3 refine at_s T rfl ?_
                    refine at_end ?_
                    refine at_sub [(9, (.pointer (some ⟨b2, 0, none⟩))), (10, (.pointer (some ⟨b3, 0, none⟩))), (11, (.int .i64 v3)), (12, (.slice a6 (List.length v4) n6)), (13, (.int .i64 x6)), (14, (.int .i64 (rd v4 x6).To)), (15, (.bool true)), (16, (.slice a9 (List.length v14) n9)), (17, (.int .i64 (w64 (x18 + 1))))] ⟨rfl, rfl, rfl, rfl, rfl, rfl, rfl, rfl, rfl, trivial⟩ ?_
                    refine at_then ?_
                    exact at_roundL (k19, true, (w64 (x18 + 1))) [0, 0, 0, 0, 0, 0, 0, 0] Z24 (Nat.lt_succ_self _) ⟨rfl, rfl, rfl, rfl, rfl, rfl, rfl, rfl, rfl, trivial⟩ rfl
                  · replace Z24 := if_f (bf c26) Z24
                    iterate 2 refine atq_s T rfl ?_
                    obtain ⟨c27, Z24⟩ := chk_e Z24
                    obtain ⟨q10, o10, e10⟩ := s9.r.addr c27.1 c27.2
                    refine atq_v rfl rfl rfl (g_index T rfl rfl rfl rfl rfl e10 c27.1 c27.2) ?_
                    refine atq_s T rfl ?_
                    refine atq_v rfl rfl rfl (g_load T rfl rfl rfl rfl (in_elem1 (k := k_api_Edge) (own_of s9 (j := 7) rfl) e10 c27 0 rfl)) ?_
                    iterate 3 refine atq_s T rfl ?_
                    refine atq_case (s := 128) rfl (fun c28 => ?_) (fun c28 => ?_)
                    · replace Z24 := if_t c28 Z24
                      iterate 2 refine atq_s T rfl ?_
                      refine atq_v rfl rfl rfl (g_index T rfl rfl rfl rfl rfl e10 c27.1 c27.2) ?_
                      refine atq_s T rfl ?_
                      refine atq_v rfl rfl rfl (g_load T rfl rfl rfl rfl (in_elem1 (k := k_api_Edge) (own_of s9 (j := 7) rfl) e10 c27 1 rfl)) ?_
                      refine atq_s T rfl ?_
                      refine atq_v rfl rfl rfl (g_load T rfl rfl rfl rfl (in_var (j := 1) rfl rfl)) ?_
                      refine atq_s T rfl ?_
                      obtain ⟨c29, Z24⟩ := chk_e Z24
                      obtain ⟨q11, o11, e11⟩ := s1.r.addr c29.1 c29.2
                      refine atq_v rfl rfl rfl (g_index T rfl rfl rfl rfl rfl e11 c29.1 c29.2) ?_
                      refine atq_v rfl rfl rfl (g_load T rfl rfl rfl rfl (in_elem1 (k := (Fl.int .u8)) (own_of s1 (j := 2) rfl) e11 c29 0 rfl)) ?_
                      iterate 5 refine atq_s T rfl ?_
                      refine atq_end ?_
                      refine at_sub [(9, (.pointer (some ⟨b2, 0, none⟩))), (10, (.pointer (some ⟨b3, 0, none⟩))), (11, (.int .i64 v3)), (12, (.slice a6 (List.length v4) n6)), (13, (.int .i64 x6)), (14, (.int .i64 (rd v4 x6).To)), (15, (.bool ((rd v14 x18).Cost == (w64 (rd v1.C v3))))), (16, (.slice a9 (List.length v14) n9)), (17, (.int .i64 x18))] ⟨rfl, rfl, rfl, rfl, rfl, rfl, rfl, rfl, rfl, trivial⟩ ?_
                      refine at_nb ?_
                      refine at_then ?_
                      refine at_region [0, 1, 2] rfl ?_
                      iterate 3 refine at_s T rfl ?_
                      refine at_end ?_
                      refine at_sub [(9, (.pointer (some ⟨b2, 0, none⟩))), (10, (.pointer (some ⟨b3, 0, none⟩))), (11, (.int .i64 v3)), (12, (.slice a6 (List.length v4) n6)), (13, (.int .i64 x6)), (14, (.int .i64 (rd v4 x6).To)), (15, (.bool ((rd v14 x18).Cost == (w64 (rd v1.C v3))))), (16, (.slice a9 (List.length v14) n9)), (17, (.int .i64 (w64 (x18 + 1))))] ⟨rfl, rfl, rfl, rfl, rfl, rfl, rfl, rfl, rfl, trivial⟩ ?_
                      refine at_then ?_
                      exact at_roundL (k19, ((rd v14 x18).Cost == (w64 (rd v1.C v3))), (w64 (x18 + 1))) [0, 0, 0, 0, 0, 0, 0, 0] Z24 (Nat.lt_succ_self _) ⟨rfl, rfl, rfl, rfl, rfl, rfl, rfl, rfl, rfl, trivial⟩ rfl
                    · replace Z24 := if_f (bf c28) Z24
                      iterate 15 refine atq_s T rfl ?_
                      refine atq_end ?_
                      refine at_sub [(9, (.pointer (some ⟨b2, 0, none⟩))), (10, (.pointer (some ⟨b3, 0, none⟩))), (11, (.int .i64 v3)), (12, (.slice a6 (List.length v4) n6)), (13, (.int .i64 x6)), (14, (.int .i64 (rd v4 x6).To)), (15, (.bool false)), (16, (.slice a9 (List.length v14) n9)), (17, (.int .i64 x18))] ⟨rfl, rfl, rfl, rfl, rfl, rfl, rfl, rfl, rfl, trivial⟩ ?_
                      refine at_nb ?_
                      refine at_then ?_
                      refine at_region [0, 1, 2] rfl ?_
                      iterate 3 refine at_s T rfl ?_
                      refine at_end ?_
                      refine at_sub [(9, (.pointer (some ⟨b2, 0, none⟩))), (10, (.pointer (some ⟨b3, 0, none⟩))), (11, (.int .i64 v3)), (12, (.slice a6 (List.length v4) n6)), (13, (.int .i64 x6)), (14, (.int .i64 (rd v4 x6).To)), (15, (.bool false)), (16, (.slice a9 (List.length v14) n9)), (17, (.int .i64 (w64 (x18 + 1))))] ⟨rfl, rfl, rfl, rfl, rfl, rfl, rfl, rfl, rfl, trivial⟩ ?_
                      refine at_then ?_
                      exact at_roundL (k19, false, (w64 (x18 + 1))) [0, 0, 0, 0, 0, 0, 0, 0] Z24 (Nat.lt_succ_self _) ⟨rfl, rfl, rfl, rfl, rfl, rfl, rfl, rfl, rfl, trivial⟩ rfl
                · replace Z24 := if_f (of_decide_eq_false c25) Z24
                  refine at_exit ?_
                  refine at_xt ?_
                  refine at_xt ?_
                  refine at_xb ?_
                  refine at_then ?_
                  obtain ⟨z21, Z30, Z24⟩ := bind_e Z24
                  refine at_seq_mid (σ := Bool) (fun x20 => x20 = z21) (fun x20 => [(9, (.pointer (some ⟨b2, 0, none⟩))), (10, (.pointer (some ⟨b3, 0, none⟩))), (11, (.int .i64 v3)), (12, (.slice a6 (List.length v4) n6)), (13, (.int .i64 x6)), (170, (.bool x20))]) (fun x20 => [F, [(b2, Obj.cells #[(.int .i64 v1.W), (.int .i64 v1.H), (.slice a1 (List.length v1.C) n1)] 24 (0, 0))], H1, [(b3, Obj.cells #[(.int .i64 yv2.m.W), (.int .i64 yv2.m.H), (.slice a4 (List.length yv2.m.C) n4), (.int .i64 yv2.epoch), (.slice a5 (List.length yv2.versions) n5)] 81 (0, 0))], H4, H5, H6]) ?_ ?_
                  · refine at_region_q mix (by kernel_rfl) ?_
                    iterate 3 refine atq_s T rfl ?_
                    refine atq_case (s := 145) rfl (fun c31 => ?_) (fun c31 => ?_)
                    · replace Z30 := if_t c31 Z30
                      iterate 25 refine atq_s T rfl ?_
                      refine atq_end ?_
                      refine at_to [(9, (.pointer (some ⟨b2, 0, none⟩))), (10, (.pointer (some ⟨b3, 0, none⟩))), (11, (.int .i64 v3)), (12, (.slice a6 (List.length v4) n6)), (13, (.int .i64 x6)), (170, (.bool true))] [0, 0, 0, 0, 0, 0, 0] [F, [(b2, Obj.cells #[(.int .i64 v1.W), (.int .i64 v1.H), (.slice a1 (List.length v1.C) n1)] 24 (0, 0))], H1, [(b3, Obj.cells #[(.int .i64 yv2.m.W), (.int .i64 yv2.m.H), (.slice a4 (List.length yv2.m.C) n4), (.int .i64 yv2.epoch), (.slice a5 (List.length yv2.versions) n5)] 81 (0, 0))], H4, H5, H6] ⟨rfl, rfl, rfl, rfl, rfl, rfl, trivial⟩ rfl ?_
                      refine at_then ?_
                      obtain rfl := Option.some.inj Z30
                      exact at_mid true [0, 0, 0, 0, 0, 0, 0] rfl ⟨rfl, rfl, rfl, rfl, rfl, rfl, trivial⟩ rfl
                    · replace Z30 := if_f (bf c31) Z30
                      iterate 3 refine atq_s T rfl ?_
                      refine atq_case (s := 148) rfl (fun c32 => ?_) (fun c32 => ?_)
                      · replace Z30 := if_t (of_decide_eq_true c32) Z30
                        refine atq_s T rfl ?_
                        refine atq_v rfl rfl rfl (g_load T rfl rfl rfl rfl (in_var (j := 1) rfl rfl)) ?_
                        refine atq_s T rfl ?_
                        refine atq_v rfl rfl rfl (g_load T rfl rfl rfl rfl (in_var (j := 1) rfl rfl)) ?_
                        iterate 4 refine atq_s T rfl ?_
                        obtain ⟨c33, Z30⟩ := chk_e Z30
                        obtain ⟨q12, o12, e12⟩ := s6.r.addr c33.1 c33.2
                        refine atq_v rfl rfl rfl (g_index T rfl rfl rfl rfl rfl e12 c33.1 c33.2) ?_
                        refine atq_s T rfl ?_
                        refine atq_v rfl rfl rfl (g_load T rfl rfl rfl rfl (in_elem1 (k := k_api_Edge) (own_of s6 (j := 6) rfl) e12 c33 0 rfl)) ?_
                        obtain ⟨v22, V34, Z30⟩ := bind_e Z30
                        refine atq_c rfl rfl rfl rfl rfl rfl has32 rfl (where_Side.c v1.W v1.H v3 ((rd v4 (w64 (x6 - 1))).To) v22 _ V34) ?_
                        refine atq_s T rfl ?_
                        refine atq_v rfl rfl rfl (g_load T rfl rfl rfl rfl (in_var (j := 1) rfl rfl)) ?_
                        refine atq_s T rfl ?_
                        refine atq_v rfl rfl rfl (g_load T rfl rfl rfl rfl (in_var (j := 1) rfl rfl)) ?_
                        iterate 2 refine atq_s T rfl ?_
                        obtain ⟨v23, V35, Z30⟩ := bind_e Z30
                        refine atq_c rfl rfl rfl rfl rfl rfl has32 rfl (where_Side.c v1.W v1.H v3 ((rd v4 x6).To) v23 _ V35) ?_
                        iterate 3 refine atq_s T rfl ?_
                        refine atq_end ?_
                        refine at_to [(9, (.pointer (some ⟨b2, 0, none⟩))), (10, (.pointer (some ⟨b3, 0, none⟩))), (11, (.int .i64 v3)), (12, (.slice a6 (List.length v4) n6)), (13, (.int .i64 x6)), (170, (.bool (decide (v22 ≥ v23))))] [0, 0, 0, 0, 0, 0, 0] [F, [(b2, Obj.cells #[(.int .i64 v1.W), (.int .i64 v1.H), (.slice a1 (List.length v1.C) n1)] 24 (0, 0))], H1, [(b3, Obj.cells #[(.int .i64 yv2.m.W), (.int .i64 yv2.m.H), (.slice a4 (List.length yv2.m.C) n4), (.int .i64 yv2.epoch), (.slice a5 (List.length yv2.versions) n5)] 81 (0, 0))], H4, H5, H6] ⟨rfl, rfl, rfl, rfl, rfl, rfl, trivial⟩ rfl ?_
                        refine at_then ?_
                        obtain rfl := Option.some.inj Z30
                        exact at_mid (decide (v22 ≥ v23)) [0, 0, 0, 0, 0, 0, 0] rfl ⟨rfl, rfl, rfl, rfl, rfl, rfl, trivial⟩ rfl
                      · replace Z30 := if_f (of_decide_eq_false c32) Z30
                        iterate 22 refine atq_s T rfl ?_
                        refine atq_end ?_
                        refine at_to [(9, (.pointer (some ⟨b2, 0, none⟩))), (10, (.pointer (some ⟨b3, 0, none⟩))), (11, (.int .i64 v3)), (12, (.slice a6 (List.length v4) n6)), (13, (.int .i64 x6)), (170, (.bool false))] [0, 0, 0, 0, 0, 0, 0] [F, [(b2, Obj.cells #[(.int .i64 v1.W), (.int .i64 v1.H), (.slice a1 (List.length v1.C) n1)] 24 (0, 0))], H1, [(b3, Obj.cells #[(.int .i64 yv2.m.W), (.int .i64 yv2.m.H), (.slice a4 (List.length yv2.m.C) n4), (.int .i64 yv2.epoch), (.slice a5 (List.length yv2.versions) n5)] 81 (0, 0))], H4, H5, H6] ⟨rfl, rfl, rfl, rfl, rfl, rfl, trivial⟩ rfl ?_
                        refine at_then ?_
                        obtain rfl := Option.some.inj Z30
                        exact at_mid false [0, 0, 0, 0, 0, 0, 0] rfl ⟨rfl, rfl, rfl, rfl, rfl, rfl, trivial⟩ rfl
                  · rintro x20 rfl
                    refine at_cond rfl (fun c36 => ?_) (fun c36 => ?_)
                    · replace Z24 := if_t c36 Z24
                      refine at_seq ?_
                      refine at_region [0] rfl ?_
                      refine at_s T rfl ?_
                      refine at_end ?_
                      refine at_to [(8, (.bool false))] [0] [F] ⟨rfl, trivial⟩ rfl ?_
                      refine at_then ?_
                      refine at_ret ?_
                      refine at_rb ?_
                      refine at_rt ?_
                      refine at_rt ?_
                      refine at_rb ?_
                      refine at_rt ?_
                      obtain rfl := Option.some.inj Z24
                      obtain rfl := Option.some.inj (show some false = some r from Z6)
                      exact at_post (T := T) rfl (.tmp rfl .nil) (fun w o => ⟨(), rfl, own_to [0] rfl o⟩)
                    · replace Z24 := if_f (bf c36) Z24
                      refine at_skip ?_
                      refine at_nb ?_
                      refine at_then ?_
                      obtain rfl := Option.some.inj Z24
                      exact at_mid () [0, 0, 0, 0, 0, 0, 0] rfl ⟨rfl, rfl, rfl, rfl, rfl, trivial⟩ rfl
        · rintro ⟨⟩ rfl
          refine at_region [0, 1, 2] rfl ?_
          iterate 3 refine at_s T rfl ?_
          refine at_end ?_
          refine at_sub [(9, (.pointer (some ⟨b2, 0, none⟩))), (10, (.pointer (some ⟨b3, 0, none⟩))), (11, (.int .i64 v3)), (12, (.slice a6 (List.length v4) n6)), (13, (.int .i64 (w64 (x6 + 1))))] ⟨rfl, rfl, rfl, rfl, rfl, trivial⟩ ?_
          refine at_then ?_
          exact at_roundL (k7, (w64 (x6 + 1))) [0, 0, 0, 0, 0, 0, 0] Z6 (Nat.lt_succ_self _) ⟨rfl, rfl, rfl, rfl, rfl, trivial⟩ rfl
      · replace Z6 := if_f (of_decide_eq_false c7) Z6
        refine at_exit ?_
        refine at_xt ?_
        refine at_xt ?_
        refine at_xb ?_
        refine at_then ?_
        refine at_seq ?_
        refine at_region [0, 1, 2, 3, 4, 5, 6] rfl ?_
        obtain ⟨v24, V37, Z6⟩ := bind_e Z6
        refine at_cons (at_c (B := fun _ => []) [] rfl rfl rfl rfl has19 rfl rfl (law11_told.c  v24 _ V37) (fun _ => ?_))
        refine at_s T rfl ?_
        refine at_grp T [2, 3, 4, 5] (s := 172) (c := v24) [(176, (.bool (v24 && (decide ((List.length v4 : Int) ≤ 2)))))] rfl rfl rfl (fun c38 => ⟨(by rw [c38]; rfl), trivial⟩) (fun c38 => ⟨(by rw [c38]; rfl), trivial⟩) ?_
        refine at_s T rfl ?_
        refine at_end ?_
        refine at_to [(8, (.bool (v24 && (decide ((List.length v4 : Int) ≤ 2)))))] [0] [F] ⟨rfl, trivial⟩ rfl ?_
        refine at_then ?_
        refine at_ret ?_
        obtain rfl := Option.some.inj Z6
        exact at_post (T := T) rfl (.tmp rfl .nil) (fun w o => ⟨(), rfl, own_to [0] rfl o⟩)
def law11_BorderMates.Pure : Prop := ∀ (w : Int) (h : Int) (c : (List Int)) (cell : Int), inI64 w → inI64 h → (∀ y ∈ c, inU8 y) → inI64 cell → List.length c ≤ 9223372036854775807 → law11_BorderMates.f w h c cell = some true
end Go.Proofs.Yticdodeoljodiaa
