import Derived.Test.YticdodeoljodiaaT
import Derived.Test.YticdodeoljodiaaFborder
import Derived.Test.YticdodeoljodiaaFgrid
import Derived.Test.YticdodeoljodiaaFlaw11
import Derived.Test.YticdodeoljodiaaFref1
namespace Go.Proofs.Yticdodeoljodiaa
open Go.Hx
set_option maxRecDepth 100000
set_option linter.unusedVariables false
/-! ### herdsman/herdsmanlaw11.BorderEdits: function 7 -/
def law11_BorderEdits.l0 : Nat → api_Map → Int → (List Int) → Int → Int → Int → List Int → Int → List Int → (List Int) → Int → Option Bool
  | 0, _, _, _, _, _, _, _, _, _, _, _ => none
  | k19 + 1, v1, v4, v5, v7, x8, x9, x10, x11, x12, v16, x18 => if x18 < (List.length v16 : Int) then (if (0 ≤ x18 ∧ x18 < (List.length v16 : Int)) then (if ((rd v16 x18) == (rd v5 v7)) = true then (some false) else (law11_BorderEdits.l0 k19 v1 v4 v5 v7 x8 x9 x10 x11 x12 v16 (w64 (x18 + 1)))) else none) else (((border_Cross.f (grid_Grid.mk (api_Map.mk x8 x9 x10) x11 x12) (rd v5 v7)).bind fun v27 => if (((List.length v27 : Int) != 0) || ((List.length v16 : Int) != (w64 ((List.length v5 : Int) - 1)))) = true then (some (x8, x9, x10, x11, x12, true)) else (if (0 ≤ (rd v5 v7) ∧ (rd v5 v7) < (List.length v1.C : Int)) then ((grid_Grid_Edit.f (grid_Grid.mk (api_Map.mk x8 x9 x10) x11 x12) (rd v5 v7) (w64 (rd v1.C (rd v5 v7)))).bind fun v28 => some (v28.2.m.W, v28.2.m.H, v28.2.m.C, v28.2.epoch, v28.2.versions, (v28.1 != 0))) else none)).bind fun (x20, x21, x22, x23, x24, x25) => if x25 = true then (some false) else (((law11_told.f).bind fun v31 => if v31 = true then ((border_Nodes.f (grid_Grid.mk (api_Map.mk x20 x21 x22) x23 x24) v4).bind fun v32 => (ref1_Ints.f v32 v5).bind fun v33 => some v33) else (some false)).bind fun x29 => some x29))
def law11_BorderEdits.f (w : Int) (h : Int) (c : (List Int)) (sector : Int) (which : Int) : Option Bool := (ref1_Made.f w h c).bind fun v1 => (grid_New.f v1 0).bind fun v2 => optm v2 (some false) (fun yv2 => (ref1_Count.f v1.W v1.H).bind fun v3 => (ref1_Within.f sector 0 (w64 (v3 - 1))).bind fun v4 => (border_Nodes.f yv2 v4).bind fun v5 => if ((List.length v5 : Int) == 0) = true then ((law11_told.f).bind fun v6 => some v6) else ((ref1_Within.f which 0 (w64 ((List.length v5 : Int) - 1))).bind fun v7 => if (0 ≤ v7 ∧ v7 < (List.length v5 : Int)) then ((if (rd v5 v7) < 0 then (some (yv2.m.W, yv2.m.H, yv2.m.C, yv2.epoch, yv2.versions, true)) else (if (rd v5 v7) ≥ (List.length v1.C : Int) then (some (yv2.m.W, yv2.m.H, yv2.m.C, yv2.epoch, yv2.versions, true)) else ((grid_Grid_Edit.f yv2 (rd v5 v7) 255).bind fun v15 => some (v15.2.m.W, v15.2.m.H, v15.2.m.C, v15.2.epoch, v15.2.versions, (v15.1 != 0))))).bind fun (x8, x9, x10, x11, x12, x13) => if x13 = true then (some false) else ((border_Nodes.f (grid_Grid.mk (api_Map.mk x8 x9 x10) x11 x12) v4).bind fun v16 => law11_BorderEdits.l0 fuel v1 v4 v5 v7 x8 x9 x10 x11 x12 v16 0)) else none))
set_option maxHeartbeats 4000000 in
theorem law11_BorderEdits.c {a_c : Option Addr} {n_c : Nat} (w : Int) (h : Int) (c : (List Int)) (sector : Int) (which : Int) (r : Bool) (F : Hp) (H : law11_BorderEdits.f w h c sector which = some r) (h_c : SliceR (Fl.int .u8) c a_c F) (c_c : List.length c ≤ n_c) :
    CallsL Try.prog 7 [(.int .i64 w), (.int .i64 h), (.slice a_c (List.length c) n_c), (.int .i64 sector), (.int .i64 which)] [F] (fun _ : Unit => (.bool r)) (fun _ => [F]) := by
  unfold law11_BorderEdits.f at H
  refine calls_atL [(0, (.int .i64 w)), (1, (.int .i64 h)), (2, (.slice a_c (List.length c) n_c)), (3, (.int .i64 sector)), (4, (.int .i64 which))] Try.func7 rfl rfl ⟨rfl, rfl, rfl, rfl, rfl, trivial⟩ (fun W => ?_)
  refine at_seq ?_
  refine at_region [0] rfl ?_
  refine at_s T rfl ?_
  refine at_end ?_
  refine at_sub [(0, (.int .i64 w)), (1, (.int .i64 h)), (2, (.slice a_c (List.length c) n_c)), (3, (.int .i64 sector)), (4, (.int .i64 which))] ⟨rfl, rfl, rfl, rfl, rfl, trivial⟩ ?_
  refine at_then ?_
  refine at_seq ?_
  refine at_region [0, 1, 2, 3, 4, 5] rfl ?_
  iterate 3 refine at_s T rfl ?_
  obtain ⟨v1, V1, H⟩ := bind_e H
  refine at_cons (at_cR (ref1_Made.R v1) [] [] rfl rfl rfl rfl has13 rfl rfl (ref1_Made.c w h c v1 _ V1 (ro_of h_c (j := 0) rfl) c_c) ?_)
  rintro _ _ ⟨a1, n1, H1, s1, rfl, rfl⟩
  refine at_cons (at_al T [(.int .i64 0), (.int .i64 0), (.slice none 0 0)] rfl rfl rfl rfl (fun b2 => ?_))
  refine at_cons (at_st T 2 [(.int .i64 v1.W), (.int .i64 v1.H), (.slice a1 (List.length v1.C) n1)] rfl rfl rfl rfl rfl rfl rfl rfl rfl rfl ?_)
  refine at_end ?_
  refine at_sub [(3, (.int .i64 sector)), (4, (.int .i64 which)), (11, (.pointer (some ⟨b2, 0, none⟩)))] ⟨rfl, rfl, rfl, trivial⟩ ?_
  refine at_then ?_
  refine at_seq ?_
  refine at_region [0, 1, 2] rfl ?_
  refine at_v rfl (g_loadA T (cs := [(.int .i64 v1.W), (.int .i64 v1.H), (.slice a1 (List.length v1.C) n1)]) rfl rfl rfl rfl rfl rfl (in_varA (j := 2) rfl rfl)) ?_
  obtain ⟨v2, V2, H⟩ := bind_e H
  refine at_cons (at_cR (grid_New.R v2) [] [] rfl rfl rfl rfl has14 rfl rfl (grid_New.c v1 0 v2 _ V2 (own_of s1 (j := 1) rfl) s1.cap_le) ?_)
  rintro _ _ ⟨_, _, O3, rfl, rfl⟩
  rcases v2 with _ | yv2
  · replace H := optm_n rfl H
    obtain ⟨rfl, rfl⟩ := O3
    refine at_s T rfl ?_
    refine at_end ?_
    refine at_sub [(3, (.int .i64 sector)), (4, (.int .i64 which)), (11, (.pointer (some ⟨b2, 0, none⟩))), (12, (.pointer none))] ⟨rfl, rfl, rfl, rfl, trivial⟩ ?_
    refine at_then ?_
    refine at_seq ?_
    refine at_seq ?_
    refine at_region [0, 1] rfl ?_
    iterate 2 refine at_s T rfl ?_
    refine at_end ?_
    refine at_sub [(3, (.int .i64 sector)), (4, (.int .i64 which)), (11, (.pointer (some ⟨b2, 0, none⟩))), (12, (.pointer none)), (25, (.bool true))] ⟨rfl, rfl, rfl, rfl, rfl, trivial⟩ ?_
    refine at_then ?_
    refine at_cond_t rfl ?_
    refine at_seq ?_
    refine at_region [0] rfl ?_
    refine at_s T rfl ?_
    refine at_end ?_
    refine at_to [(10, (.bool false))] [0] [F] ⟨rfl, trivial⟩ rfl ?_
    refine at_then ?_
    refine at_ret ?_
    refine at_rt ?_
    obtain rfl := Option.some.inj H
    exact at_post (T := T) rfl (.tmp rfl .nil) (fun w o => ⟨(), rfl, own_to [0] rfl o⟩)
  · replace H := optm_s rfl H
    obtain ⟨b3, a4, n4, H4, a5, n5, H5, s4, s5, rfl, rfl⟩ := O3
    refine at_s T rfl ?_
    refine at_end ?_
    refine at_sub [(3, (.int .i64 sector)), (4, (.int .i64 which)), (11, (.pointer (some ⟨b2, 0, none⟩))), (12, (.pointer (some ⟨b3, 0, none⟩)))] ⟨rfl, rfl, rfl, rfl, trivial⟩ ?_
    refine at_then ?_
    refine at_seq ?_
    refine at_seq ?_
    refine at_region [0, 1] rfl ?_
    iterate 2 refine at_s T rfl ?_
    refine at_end ?_
    refine at_sub [(3, (.int .i64 sector)), (4, (.int .i64 which)), (11, (.pointer (some ⟨b2, 0, none⟩))), (12, (.pointer (some ⟨b3, 0, none⟩))), (25, (.bool false))] ⟨rfl, rfl, rfl, rfl, rfl, trivial⟩ ?_
    refine at_then ?_
    refine at_cond_f rfl ?_
    refine at_skip ?_
    refine at_then ?_
    refine at_seq ?_
    refine at_region [0, 1, 2, 3, 4, 5, 6, 7, 8] rfl ?_
    iterate 2 refine at_s T rfl ?_
    refine at_v rfl (g_load T rfl rfl rfl rfl (in_var (j := 2) rfl rfl)) ?_
    refine at_s T rfl ?_
    refine at_v rfl (g_load T rfl rfl rfl rfl (in_var (j := 2) rfl rfl)) ?_
    obtain ⟨v3, V4, H⟩ := bind_e H
    refine at_cons (at_c (B := fun _ => []) [] rfl rfl rfl rfl has16 rfl rfl (ref1_Count.c v1.W v1.H v3 _ V4) (fun _ => ?_))
    refine at_s T rfl ?_
    obtain ⟨v4, V5, H⟩ := bind_e H
    refine at_cons (at_c (B := fun _ => []) [] rfl rfl rfl rfl has15 rfl rfl (ref1_Within.c sector 0 (w64 (v3 - 1)) v4 _ V5) (fun _ => ?_))
    refine at_s T rfl ?_
    refine at_end ?_
    refine at_sub [(4, (.int .i64 which)), (11, (.pointer (some ⟨b2, 0, none⟩))), (12, (.pointer (some ⟨b3, 0, none⟩))), (13, (.int .i64 v4))] ⟨rfl, rfl, rfl, rfl, trivial⟩ ?_
    refine at_then ?_
    refine at_seq ?_
    refine at_region [0, 1, 2, 3] rfl ?_
    iterate 2 refine at_s T rfl ?_
    obtain ⟨v5, V6, H⟩ := bind_e H
    refine at_cons (at_cR (As := [[(b3, Obj.cells #[(.int .i64 yv2.m.W), (.int .i64 yv2.m.H), (.slice a4 (List.length yv2.m.C) n4), (.int .i64 yv2.epoch), (.slice a5 (List.length yv2.versions) n5)] 81 (0, 0))], H4, H5]) (R := [F, H1, [(b2, Obj.cells #[(.int .i64 v1.W), (.int .i64 v1.H), (.slice a1 (List.length v1.C) n1)] 24 (0, 0))]]) (border_Nodes.R v5) [[(b3, Obj.cells #[(.int .i64 yv2.m.W), (.int .i64 yv2.m.H), (.slice a4 (List.length yv2.m.C) n4), (.int .i64 yv2.epoch), (.slice a5 (List.length yv2.versions) n5)] 81 (0, 0))], H4, H5] [3, 3, 3] rfl rfl rfl rfl has23 rfl rfl (border_Nodes.c yv2 v4 v5 _ V6 s4 s5) ?_)
    rintro _ _ ⟨a6, n6, H6, s6, rfl, rfl⟩
    refine at_s T rfl ?_
    refine at_end ?_
    refine at_sub [(4, (.int .i64 which)), (11, (.pointer (some ⟨b2, 0, none⟩))), (12, (.pointer (some ⟨b3, 0, none⟩))), (13, (.int .i64 v4)), (14, (.slice a6 (List.length v5) n6))] ⟨rfl, rfl, rfl, rfl, rfl, trivial⟩ ?_
    refine at_then ?_
    refine at_seq ?_
    refine at_seq ?_
    refine at_region [0, 1, 2] rfl ?_
    iterate 3 refine at_s T rfl ?_
    refine at_end ?_
    refine at_sub [(4, (.int .i64 which)), (11, (.pointer (some ⟨b2, 0, none⟩))), (12, (.pointer (some ⟨b3, 0, none⟩))), (13, (.int .i64 v4)), (14, (.slice a6 (List.length v5) n6)), (39, (.bool ((List.length v5 : Int) == 0)))] ⟨rfl, rfl, rfl, rfl, rfl, rfl, trivial⟩ ?_
    refine at_then ?_
    refine at_cond rfl (fun c7 => ?_) (fun c7 => ?_)
    · replace H := if_t c7 H
      refine at_seq ?_
      refine at_region [0, 1] rfl ?_
      obtain ⟨v6, V8, H⟩ := bind_e H
      refine at_cons (at_c (B := fun _ => []) [] rfl rfl rfl rfl has19 rfl rfl (law11_told.c  v6 _ V8) (fun _ => ?_))
      refine at_s T rfl ?_
      refine at_end ?_
      refine at_to [(10, (.bool v6))] [0] [F] ⟨rfl, trivial⟩ rfl ?_
      refine at_then ?_
      refine at_ret ?_
      refine at_rt ?_
      obtain rfl := Option.some.inj H
      exact at_post (T := T) rfl (.tmp rfl .nil) (fun w o => ⟨(), rfl, own_to [0] rfl o⟩)
    · replace H := if_f (bf c7) H
      refine at_skip ?_
      refine at_then ?_
      refine at_seq ?_
      refine at_region [0, 1, 2, 3, 4, 5, 6, 7, 8] rfl ?_
      iterate 5 refine at_s T rfl ?_
      obtain ⟨v7, V9, H⟩ := bind_e H
      refine at_cons (at_c (B := fun _ => []) [] rfl rfl rfl rfl has15 rfl rfl (ref1_Within.c which 0 (w64 ((List.length v5 : Int) - 1)) v7 _ V9) (fun _ => ?_))
      obtain ⟨c10, H⟩ := chk_e H
      obtain ⟨q7, o7, e7⟩ := s6.r.addr c10.1 c10.2
      refine at_v rfl (g_index T rfl rfl rfl rfl rfl e7 c10.1 c10.2) ?_
      refine at_v rfl (g_load T rfl rfl rfl rfl (in_elem1 (k := (Fl.int .i64)) (own_of s6 (j := 3) rfl) e7 c10 0 rfl)) ?_
      refine at_s T rfl ?_
      refine at_end ?_
      refine at_sub [(11, (.pointer (some ⟨b2, 0, none⟩))), (12, (.pointer (some ⟨b3, 0, none⟩))), (13, (.int .i64 v4)), (14, (.slice a6 (List.length v5) n6)), (15, (.int .i64 (rd v5 v7)))] ⟨rfl, rfl, rfl, rfl, rfl, trivial⟩ ?_
      refine at_then ?_
      refine at_seq ?_
      obtain ⟨z14, Z11, H⟩ := bind_e H
      refine at_seq_mid (σ := Int × Int × List Int × Int × List Int × Bool × Option Addr × Nat × Hp × Option Addr × Nat × Hp) (fun ⟨x8, x9, x10, x11, x12, x13, a8, n8, H8, a9, n9, H9⟩ => (x8, x9, x10, x11, x12, x13) = z14 ∧ SliceO (Fl.int .u8) 5 x10 a8 n8 H8 ∧ SliceO (Fl.int .i64) 2 x12 a9 n9 H9) (fun ⟨x8, x9, x10, x11, x12, x13, a8, n8, H8, a9, n9, H9⟩ => [(11, (.pointer (some ⟨b2, 0, none⟩))), (12, (.pointer (some ⟨b3, 0, none⟩))), (13, (.int .i64 v4)), (14, (.slice a6 (List.length v5) n6)), (15, (.int .i64 (rd v5 v7))), (63, (.bool x13))]) (fun ⟨x8, x9, x10, x11, x12, x13, a8, n8, H8, a9, n9, H9⟩ => [F, [(b2, Obj.cells #[(.int .i64 v1.W), (.int .i64 v1.H), (.slice a1 (List.length v1.C) n1)] 24 (0, 0))], H1, [(b3, Obj.cells #[(.int .i64 x8), (.int .i64 x9), (.slice a8 (List.length x10) n8), (.int .i64 x11), (.slice a9 (List.length x12) n9)] 81 (0, 0))], H8, H9, H6]) ?_ ?_
      · refine at_region [0, 1, 2, 3, 4, 5, 6, 7, 8, 9, 10, 11, 12, 13, 14] rfl ?_
        iterate 3 refine at_s T rfl ?_
        refine at_case (s := 51) rfl (fun c12 => ?_) (fun c12 => ?_)
        · replace Z11 := if_t (of_decide_eq_true c12) Z11
          iterate 12 refine at_s T rfl ?_
          refine at_end ?_
          refine at_sub [(11, (.pointer (some ⟨b2, 0, none⟩))), (12, (.pointer (some ⟨b3, 0, none⟩))), (13, (.int .i64 v4)), (14, (.slice a6 (List.length v5) n6)), (15, (.int .i64 (rd v5 v7))), (63, (.bool true))] ⟨rfl, rfl, rfl, rfl, rfl, rfl, trivial⟩ ?_
          refine at_then ?_
          obtain rfl := Option.some.inj Z11
          exact at_mid (yv2.m.W, yv2.m.H, yv2.m.C, yv2.epoch, yv2.versions, true, a4, n4, H4, a5, n5, H5) [0, 1, 0, 1, 1, 1, 0] ⟨rfl, s4, s5⟩ ⟨rfl, rfl, rfl, rfl, rfl, rfl, trivial⟩ rfl
        · replace Z11 := if_f (of_decide_eq_false c12) Z11
          iterate 2 refine at_s T rfl ?_
          refine at_v rfl (g_load T rfl rfl rfl rfl (in_var (j := 2) rfl rfl)) ?_
          iterate 4 refine at_s T rfl ?_
          refine at_case (s := 58) rfl (fun c13 => ?_) (fun c13 => ?_)
          · replace Z11 := if_t (of_decide_eq_true c13) Z11
            iterate 5 refine at_s T rfl ?_
            refine at_end ?_
            refine at_sub [(11, (.pointer (some ⟨b2, 0, none⟩))), (12, (.pointer (some ⟨b3, 0, none⟩))), (13, (.int .i64 v4)), (14, (.slice a6 (List.length v5) n6)), (15, (.int .i64 (rd v5 v7))), (63, (.bool true))] ⟨rfl, rfl, rfl, rfl, rfl, rfl, trivial⟩ ?_
            refine at_then ?_
            obtain rfl := Option.some.inj Z11
            exact at_mid (yv2.m.W, yv2.m.H, yv2.m.C, yv2.epoch, yv2.versions, true, a4, n4, H4, a5, n5, H5) [0, 1, 0, 1, 1, 1, 0] ⟨rfl, s4, s5⟩ ⟨rfl, rfl, rfl, rfl, rfl, rfl, trivial⟩ rfl
          · replace Z11 := if_f (of_decide_eq_false c13) Z11
            iterate 2 refine at_s T rfl ?_
            obtain ⟨v15, V14, Z11⟩ := bind_e Z11
            refine at_cons (at_cR (As := [[(b3, Obj.cells #[(.int .i64 yv2.m.W), (.int .i64 yv2.m.H), (.slice a4 (List.length yv2.m.C) n4), (.int .i64 yv2.epoch), (.slice a5 (List.length yv2.versions) n5)] 81 (0, 0))], H4, H5]) (R := [F, H1, [(b2, Obj.cells #[(.int .i64 v1.W), (.int .i64 v1.H), (.slice a1 (List.length v1.C) n1)] 24 (0, 0))], H6]) (grid_Grid_Edit.R b3 v15) [] [4, 4, 4] rfl rfl rfl rfl has33 rfl rfl (grid_Grid_Edit.c yv2 (rd v5 v7) 255 v15 _ V14 s4 s5) ?_)
            rintro _ _ ⟨a10, n10, H10, a11, n11, H11, s10, s11, rfl, rfl⟩
            iterate 2 refine at_s T rfl ?_
            refine at_end ?_
            refine at_sub [(11, (.pointer (some ⟨b2, 0, none⟩))), (12, (.pointer (some ⟨b3, 0, none⟩))), (13, (.int .i64 v4)), (14, (.slice a6 (List.length v5) n6)), (15, (.int .i64 (rd v5 v7))), (63, (.bool (v15.1 != 0)))] ⟨rfl, rfl, rfl, rfl, rfl, rfl, trivial⟩ ?_
            refine at_then ?_
            obtain rfl := Option.some.inj Z11
            exact at_mid (v15.2.m.W, v15.2.m.H, v15.2.m.C, v15.2.epoch, v15.2.versions, (v15.1 != 0), a10, n10, H10, a11, n11, H11) [0, 1, 0, 1, 1, 1, 0] ⟨rfl, s10, s11⟩ ⟨rfl, rfl, rfl, rfl, rfl, rfl, trivial⟩ rfl
      · rintro ⟨x8, x9, x10, x11, x12, x13, a8, n8, H8, a9, n9, H9⟩ ⟨rfl, s8, s9⟩
        refine at_cond rfl (fun c15 => ?_) (fun c15 => ?_)
        · replace H := if_t c15 H
          refine at_seq ?_
          refine at_region [0] rfl ?_
          refine at_s T rfl ?_
          refine at_end ?_
          refine at_to [(10, (.bool false))] [0] [F] ⟨rfl, trivial⟩ rfl ?_
          refine at_then ?_
          refine at_ret ?_
          refine at_rt ?_
          obtain rfl := Option.some.inj H
          exact at_post (T := T) rfl (.tmp rfl .nil) (fun w o => ⟨(), rfl, own_to [0] rfl o⟩)
        · replace H := if_f (bf c15) H
          refine at_skip ?_
          refine at_then ?_
          refine at_seq ?_
          refine at_region [0, 1, 2, 3] rfl ?_
          iterate 2 refine at_s T rfl ?_
          obtain ⟨v16, V16, H⟩ := bind_e H
          refine at_cons (at_cR (As := [[(b3, Obj.cells #[(.int .i64 x8), (.int .i64 x9), (.slice a8 (List.length x10) n8), (.int .i64 x11), (.slice a9 (List.length x12) n9)] 81 (0, 0))], H8, H9]) (R := [F, [(b2, Obj.cells #[(.int .i64 v1.W), (.int .i64 v1.H), (.slice a1 (List.length v1.C) n1)] 24 (0, 0))], H1, H6]) (border_Nodes.R v16) [[(b3, Obj.cells #[(.int .i64 x8), (.int .i64 x9), (.slice a8 (List.length x10) n8), (.int .i64 x11), (.slice a9 (List.length x12) n9)] 81 (0, 0))], H8, H9] [3, 3, 3] rfl rfl rfl rfl has23 rfl rfl (border_Nodes.c (grid_Grid.mk (api_Map.mk x8 x9 x10) x11 x12) v4 v16 _ V16 s8 s9) ?_)
          rintro _ _ ⟨a12, n12, H12, s12, rfl, rfl⟩
          refine at_s T rfl ?_
          refine at_end ?_
          refine at_sub [(11, (.pointer (some ⟨b2, 0, none⟩))), (12, (.pointer (some ⟨b3, 0, none⟩))), (13, (.int .i64 v4)), (14, (.slice a6 (List.length v5) n6)), (15, (.int .i64 (rd v5 v7))), (16, (.slice a12 (List.length v16) n12))] ⟨rfl, rfl, rfl, rfl, rfl, rfl, trivial⟩ ?_
          refine at_then ?_
          refine at_seq ?_
          refine at_seq ?_
          refine at_region [0] rfl ?_
          refine at_s T rfl ?_
          refine at_end ?_
          refine at_sub [(11, (.pointer (some ⟨b2, 0, none⟩))), (12, (.pointer (some ⟨b3, 0, none⟩))), (13, (.int .i64 v4)), (14, (.slice a6 (List.length v5) n6)), (15, (.int .i64 (rd v5 v7))), (16, (.slice a12 (List.length v16) n12)), (17, (.int .i64 0))] ⟨rfl, rfl, rfl, rfl, rfl, rfl, rfl, trivial⟩ ?_
          refine at_then ?_
          refine at_block ?_
          refine at_loopL (σ := Nat × Int) (fun ⟨k19, x18⟩ => law11_BorderEdits.l0 k19 v1 v4 v5 v7 x8 x9 x10 x11 x12 v16 x18 = some r) (fun ⟨k19, x18⟩ => [(11, (.pointer (some ⟨b2, 0, none⟩))), (12, (.pointer (some ⟨b3, 0, none⟩))), (13, (.int .i64 v4)), (14, (.slice a6 (List.length v5) n6)), (15, (.int .i64 (rd v5 v7))), (16, (.slice a12 (List.length v16) n12)), (17, (.int .i64 x18))]) (fun ⟨k19, x18⟩ => [F, [(b2, Obj.cells #[(.int .i64 v1.W), (.int .i64 v1.H), (.slice a1 (List.length v1.C) n1)] 24 (0, 0))], H1, [(b3, Obj.cells #[(.int .i64 x8), (.int .i64 x9), (.slice a8 (List.length x10) n8), (.int .i64 x11), (.slice a9 (List.length x12) n9)] 81 (0, 0))], H8, H9, H6, H12]) (fun s => s.1) (fuel, 0) [0, 0, 0, 2, 2, 2, 0, 0] H ⟨rfl, rfl, rfl, rfl, rfl, rfl, rfl, trivial⟩ rfl ?_
          rintro ⟨k19, x18⟩ Z17
          replace Z17 : law11_BorderEdits.l0 k19 v1 v4 v5 v7 x8 x9 x10 x11 x12 v16 x18 = some r := Z17
          rcases k19 with _ | k19
          · rw [law11_BorderEdits.l0] at Z17; cases Z17
          · rw [law11_BorderEdits.l0] at Z17
            refine at_seq ?_
            refine at_seq ?_
            refine at_region [0, 1, 2, 3] rfl ?_
            iterate 4 refine at_s T rfl ?_
            refine at_end ?_
            refine at_sub [(11, (.pointer (some ⟨b2, 0, none⟩))), (12, (.pointer (some ⟨b3, 0, none⟩))), (13, (.int .i64 v4)), (14, (.slice a6 (List.length v5) n6)), (15, (.int .i64 (rd v5 v7))), (16, (.slice a12 (List.length v16) n12)), (17, (.int .i64 x18)), (70, (.bool (decide (x18 < (List.length v16 : Int)))))] ⟨rfl, rfl, rfl, rfl, rfl, rfl, rfl, rfl, trivial⟩ ?_
            refine at_then ?_
            refine at_cond rfl (fun c18 => ?_) (fun c18 => ?_)
            · replace Z17 := if_t (of_decide_eq_true c18) Z17
              refine at_skip ?_
              refine at_then ?_
              refine at_seq ?_
              refine at_block ?_
              refine at_seq ?_
              refine at_region [0, 1, 2, 3, 4, 5] rfl ?_
              iterate 2 refine at_s T rfl ?_
              obtain ⟨c19, Z17⟩ := chk_e Z17
              obtain ⟨q13, o13, e13⟩ := s12.r.addr c19.1 c19.2
              refine at_v rfl (g_index T rfl rfl rfl rfl rfl e13 c19.1 c19.2) ?_
              refine at_v rfl (g_load T rfl rfl rfl rfl (in_elem1 (k := (Fl.int .i64)) (own_of s12 (j := 7) rfl) e13 c19 0 rfl)) ?_
              iterate 2 refine at_s T rfl ?_
              refine at_end ?_
              refine at_sub [(11, (.pointer (some ⟨b2, 0, none⟩))), (12, (.pointer (some ⟨b3, 0, none⟩))), (13, (.int .i64 v4)), (14, (.slice a6 (List.length v5) n6)), (15, (.int .i64 (rd v5 v7))), (16, (.slice a12 (List.length v16) n12)), (17, (.int .i64 x18)), (78, (.bool ((rd v16 x18) == (rd v5 v7))))] ⟨rfl, rfl, rfl, rfl, rfl, rfl, rfl, rfl, trivial⟩ ?_
              refine at_then ?_
              refine at_cond rfl (fun c20 => ?_) (fun c20 => ?_)
              · replace Z17 := if_t c20 Z17
                refine at_seq ?_
                refine at_region [0] rfl ?_
                refine at_s T rfl ?_
                refine at_end ?_
                refine at_to [(10, (.bool false))] [0] [F] ⟨rfl, trivial⟩ rfl ?_
                refine at_then ?_
                refine at_ret ?_
                refine at_rb ?_
                refine at_rt ?_
                refine at_rt ?_
                refine at_rb ?_
                refine at_rt ?_
                obtain rfl := Option.some.inj Z17
                exact at_post (T := T) rfl (.tmp rfl .nil) (fun w o => ⟨(), rfl, own_to [0] rfl o⟩)
              · replace Z17 := if_f (bf c20) Z17
                refine at_skip ?_
                refine at_nb ?_
                refine at_then ?_
                refine at_region [0, 1, 2] rfl ?_
                iterate 3 refine at_s T rfl ?_
                refine at_end ?_
                refine at_sub [(11, (.pointer (some ⟨b2, 0, none⟩))), (12, (.pointer (some ⟨b3, 0, none⟩))), (13, (.int .i64 v4)), (14, (.slice a6 (List.length v5) n6)), (15, (.int .i64 (rd v5 v7))), (16, (.slice a12 (List.length v16) n12)), (17, (.int .i64 (w64 (x18 + 1))))] ⟨rfl, rfl, rfl, rfl, rfl, rfl, rfl, trivial⟩ ?_
                refine at_then ?_
                exact at_roundL (k19, (w64 (x18 + 1))) [0, 0, 0, 0, 0, 0, 0, 0] Z17 (Nat.lt_succ_self _) ⟨rfl, rfl, rfl, rfl, rfl, rfl, rfl, trivial⟩ rfl
            · replace Z17 := if_f (of_decide_eq_false c18) Z17
              refine at_exit ?_
              refine at_xt ?_
              refine at_xt ?_
              refine at_xb ?_
              refine at_then ?_
              refine at_seq ?_
              obtain ⟨z26, Z21, Z17⟩ := bind_e Z17
              refine at_seq_mid (σ := Int × Int × List Int × Int × List Int × Bool × Option Addr × Nat × Hp × Option Addr × Nat × Hp) (fun ⟨x20, x21, x22, x23, x24, x25, a14, n14, H14, a15, n15, H15⟩ => (x20, x21, x22, x23, x24, x25) = z26 ∧ SliceO (Fl.int .u8) 5 x22 a14 n14 H14 ∧ SliceO (Fl.int .i64) 2 x24 a15 n15 H15) (fun ⟨x20, x21, x22, x23, x24, x25, a14, n14, H14, a15, n15, H15⟩ => [(12, (.pointer (some ⟨b3, 0, none⟩))), (13, (.int .i64 v4)), (14, (.slice a6 (List.length v5) n6)), (103, (.bool x25))]) (fun ⟨x20, x21, x22, x23, x24, x25, a14, n14, H14, a15, n15, H15⟩ => [F, [(b3, Obj.cells #[(.int .i64 x20), (.int .i64 x21), (.slice a14 (List.length x22) n14), (.int .i64 x23), (.slice a15 (List.length x24) n15)] 81 (0, 0))], H14, H15, H6]) ?_ ?_
              · refine at_region [0, 1, 2, 3, 4, 5, 6, 7, 8, 9, 10, 11, 12, 13, 14, 15, 16, 17, 18, 19, 20, 21, 22, 23, 24] rfl ?_
                iterate 2 refine at_s T rfl ?_
                obtain ⟨v27, V22, Z21⟩ := bind_e Z21
                refine at_cons (at_cR (As := [[(b3, Obj.cells #[(.int .i64 x8), (.int .i64 x9), (.slice a8 (List.length x10) n8), (.int .i64 x11), (.slice a9 (List.length x12) n9)] 81 (0, 0))], H8, H9]) (R := [F, [(b2, Obj.cells #[(.int .i64 v1.W), (.int .i64 v1.H), (.slice a1 (List.length v1.C) n1)] 24 (0, 0))], H1, H6, H12]) (border_Cross.R v27) [[(b3, Obj.cells #[(.int .i64 x8), (.int .i64 x9), (.slice a8 (List.length x10) n8), (.int .i64 x11), (.slice a9 (List.length x12) n9)] 81 (0, 0))], H8, H9] [3, 3, 3] rfl rfl rfl rfl has29 rfl rfl (border_Cross.c (grid_Grid.mk (api_Map.mk x8 x9 x10) x11 x12) (rd v5 v7) v27 _ V22 s8 s9) ?_)
                rintro _ _ ⟨a16, n16, H16, s16, rfl, rfl⟩
                iterate 3 refine at_s T rfl ?_
                refine at_grp T [6, 7, 8, 9, 10, 11, 12] (s := 84) (c := ((List.length v27 : Int) != 0)) [(11, (.pointer (some ⟨b2, 0, none⟩))), (12, (.pointer (some ⟨b3, 0, none⟩))), (13, (.int .i64 v4)), (14, (.slice a6 (List.length v5) n6)), (15, (.int .i64 (rd v5 v7))), (91, (.bool (((List.length v27 : Int) != 0) || ((List.length v16 : Int) != (w64 ((List.length v5 : Int) - 1))))))] rfl rfl rfl (fun c23 => ⟨rfl, rfl, rfl, rfl, rfl, (by rw [c23]; rfl), trivial⟩) (fun c23 => ⟨rfl, rfl, rfl, rfl, rfl, (by rw [c23]; rfl), trivial⟩) ?_
                refine at_s T rfl ?_
                refine at_case (s := 92) rfl (fun c24 => ?_) (fun c24 => ?_)
                · replace Z21 := if_t c24 Z21
                  iterate 11 refine at_s T rfl ?_
                  refine at_end ?_
                  refine at_to [(12, (.pointer (some ⟨b3, 0, none⟩))), (13, (.int .i64 v4)), (14, (.slice a6 (List.length v5) n6)), (103, (.bool true))] [0, 2, 4, 4, 4] [F, H6, [(b3, Obj.cells #[(.int .i64 x8), (.int .i64 x9), (.slice a8 (List.length x10) n8), (.int .i64 x11), (.slice a9 (List.length x12) n9)] 81 (0, 0))], H8, H9] ⟨rfl, rfl, rfl, rfl, trivial⟩ rfl ?_
                  refine at_then ?_
                  obtain rfl := Option.some.inj Z21
                  exact at_mid (x8, x9, x10, x11, x12, true, a8, n8, H8, a9, n9, H9) [0, 1, 1, 1, 0] ⟨rfl, s8, s9⟩ ⟨rfl, rfl, rfl, rfl, trivial⟩ rfl
                · replace Z21 := if_f (bf c24) Z21
                  iterate 3 refine at_s T rfl ?_
                  refine at_v rfl (g_load T rfl rfl rfl rfl (in_var (j := 1) rfl rfl)) ?_
                  refine at_s T rfl ?_
                  obtain ⟨c25, Z21⟩ := chk_e Z21
                  obtain ⟨q17, o17, e17⟩ := s1.r.addr c25.1 c25.2
                  refine at_v rfl (g_index T rfl rfl rfl rfl rfl e17 c25.1 c25.2) ?_
                  refine at_v rfl (g_load T rfl rfl rfl rfl (in_elem1 (k := (Fl.int .u8)) (own_of s1 (j := 2) rfl) e17 c25 0 rfl)) ?_
                  refine at_s T rfl ?_
                  obtain ⟨v28, V26, Z21⟩ := bind_e Z21
                  refine at_cons (at_cR (As := [[(b3, Obj.cells #[(.int .i64 x8), (.int .i64 x9), (.slice a8 (List.length x10) n8), (.int .i64 x11), (.slice a9 (List.length x12) n9)] 81 (0, 0))], H8, H9]) (R := [F, [(b2, Obj.cells #[(.int .i64 v1.W), (.int .i64 v1.H), (.slice a1 (List.length v1.C) n1)] 24 (0, 0))], H1, H6, H12, H16]) (grid_Grid_Edit.R b3 v28) [] [6, 6, 6] rfl rfl rfl rfl has33 rfl rfl (grid_Grid_Edit.c (grid_Grid.mk (api_Map.mk x8 x9 x10) x11 x12) (rd v5 v7) (w64 (rd v1.C (rd v5 v7))) v28 _ V26 s8 s9) ?_)
                  rintro _ _ ⟨a18, n18, H18, a19, n19, H19, s18, s19, rfl, rfl⟩
                  iterate 2 refine at_s T rfl ?_
                  refine at_end ?_
                  refine at_to [(12, (.pointer (some ⟨b3, 0, none⟩))), (13, (.int .i64 v4)), (14, (.slice a6 (List.length v5) n6)), (103, (.bool (v28.1 != 0)))] [0, 2, 4, 4, 4] [F, H6, [(b3, Obj.cells #[(.int .i64 v28.2.m.W), (.int .i64 v28.2.m.H), (.slice a18 (List.length v28.2.m.C) n18), (.int .i64 v28.2.epoch), (.slice a19 (List.length v28.2.versions) n19)] 81 (0, 0))], H18, H19] ⟨rfl, rfl, rfl, rfl, trivial⟩ rfl ?_
                  refine at_then ?_
                  obtain rfl := Option.some.inj Z21
                  exact at_mid (v28.2.m.W, v28.2.m.H, v28.2.m.C, v28.2.epoch, v28.2.versions, (v28.1 != 0), a18, n18, H18, a19, n19, H19) [0, 1, 1, 1, 0] ⟨rfl, s18, s19⟩ ⟨rfl, rfl, rfl, rfl, trivial⟩ rfl
              · rintro ⟨x20, x21, x22, x23, x24, x25, a14, n14, H14, a15, n15, H15⟩ ⟨rfl, s14, s15⟩
                refine at_cond rfl (fun c27 => ?_) (fun c27 => ?_)
                · replace Z17 := if_t c27 Z17
                  refine at_seq ?_
                  refine at_region [0] rfl ?_
                  refine at_s T rfl ?_
                  refine at_end ?_
                  refine at_to [(10, (.bool false))] [0] [F] ⟨rfl, trivial⟩ rfl ?_
                  refine at_then ?_
                  refine at_ret ?_
                  refine at_rt ?_
                  obtain rfl := Option.some.inj Z17
                  exact at_post (T := T) rfl (.tmp rfl .nil) (fun w o => ⟨(), rfl, own_to [0] rfl o⟩)
                · replace Z17 := if_f (bf c27) Z17
                  refine at_skip ?_
                  refine at_then ?_
                  obtain ⟨z30, Z28, Z17⟩ := bind_e Z17
                  refine at_seq_mid (σ := Bool) (fun x29 => x29 = z30) (fun x29 => [(10, (.bool x29))]) (fun x29 => [F]) ?_ ?_
                  · refine at_region [0, 1, 2, 3, 4, 5, 6, 7, 8] rfl ?_
                    obtain ⟨v31, V29, Z28⟩ := bind_e Z28
                    refine at_cons (at_c (B := fun _ => []) [] rfl rfl rfl rfl has19 rfl rfl (law11_told.c  v31 _ V29) (fun _ => ?_))
                    refine at_s T rfl ?_
                    refine at_case (s := 105) rfl (fun c30 => ?_) (fun c30 => ?_)
                    · replace Z28 := if_t c30 Z28
                      iterate 2 refine at_s T rfl ?_
                      obtain ⟨v32, V31, Z28⟩ := bind_e Z28
                      refine at_cons (at_cR (As := [[(b3, Obj.cells #[(.int .i64 x20), (.int .i64 x21), (.slice a14 (List.length x22) n14), (.int .i64 x23), (.slice a15 (List.length x24) n15)] 81 (0, 0))], H14, H15]) (R := [F, H6]) (border_Nodes.R v32) [[(b3, Obj.cells #[(.int .i64 x20), (.int .i64 x21), (.slice a14 (List.length x22) n14), (.int .i64 x23), (.slice a15 (List.length x24) n15)] 81 (0, 0))], H14, H15] [1, 1, 1] rfl rfl rfl rfl has23 rfl rfl (border_Nodes.c (grid_Grid.mk (api_Map.mk x20 x21 x22) x23 x24) v4 v32 _ V31 s14 s15) ?_)
                      rintro _ _ ⟨a20, n20, H20, s20, rfl, rfl⟩
                      refine at_s T rfl ?_
                      obtain ⟨v33, V32, Z28⟩ := bind_e Z28
                      refine at_cons (at_c (B := fun _ => []) [] rfl rfl rfl rfl has20 rfl rfl (ref1_Ints.c v32 v5 v33 _ V32 (own_of s20 (j := 2) rfl) s20.cap_le (own_of s6 (j := 1) rfl) s6.cap_le) (fun _ => ?_))
                      iterate 2 refine at_s T rfl ?_
                      refine at_end ?_
                      refine at_to [(10, (.bool v33))] [0] [F] ⟨rfl, trivial⟩ rfl ?_
                      refine at_then ?_
                      obtain rfl := Option.some.inj Z28
                      exact at_mid v33 [0] rfl ⟨rfl, trivial⟩ rfl
                    · replace Z28 := if_f (bf c30) Z28
                      iterate 7 refine at_s T rfl ?_
                      refine at_end ?_
                      refine at_to [(10, (.bool false))] [0] [F] ⟨rfl, trivial⟩ rfl ?_
                      refine at_then ?_
                      obtain rfl := Option.some.inj Z28
                      exact at_mid false [0] rfl ⟨rfl, trivial⟩ rfl
                  · rintro x29 rfl
                    refine at_ret ?_
                    obtain rfl := Option.some.inj Z17
                    exact at_post (T := T) rfl (.tmp rfl .nil) (fun w o => ⟨(), rfl, own_to [0] rfl o⟩)
def law11_BorderEdits.Pure : Prop := ∀ (w : Int) (h : Int) (c : (List Int)) (sector : Int) (which : Int), inI64 w → inI64 h → (∀ y ∈ c, inU8 y) → inI64 sector → inI64 which → List.length c ≤ 9223372036854775807 → law11_BorderEdits.f w h c sector which = some true
end Go.Proofs.Yticdodeoljodiaa
