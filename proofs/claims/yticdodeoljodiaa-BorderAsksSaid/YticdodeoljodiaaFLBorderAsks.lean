import Derived.Test.YticdodeoljodiaaT
import Derived.Test.YticdodeoljodiaaFborder
import Derived.Test.YticdodeoljodiaaFgrid
import Derived.Test.YticdodeoljodiaaFlaw11
import Derived.Test.YticdodeoljodiaaFref1
import Derived.Test.YticdodeoljodiaaFref11
namespace Go.Proofs.Yticdodeoljodiaa
open Go.Hx
set_option maxRecDepth 100000
set_option linter.unusedVariables false
/-! ### herdsman/herdsmanlaw11.BorderAsks: function 3 -/
def law11_BorderAsks.f (w : Int) (h : Int) (c : (List Int)) (sector : Int) (side : Int) (cell : Int) (raw : Bool) : Option Bool := (ref1_Made.f w h c).bind fun v1 => (grid_New.f v1 0).bind fun v2 => optm v2 (some false) (fun yv2 => (if (!raw) = true then ((ref1_Count.f v1.W v1.H).bind fun v7 => (ref1_Within.f sector (-1) v7).bind fun v8 => (ref1_Within.f side (-1) 5).bind fun v9 => (ref1_Within.f cell (-1) (List.length v1.C : Int)).bind fun v10 => some (v8, v9, v10)) else (some (sector, side, cell))).bind fun (x3, x4, x5) => ((ref1_IsCell.f v1.W v1.H x5).bind fun v13 => if v13 = true then ((ref11_Cross.f v1 x5).bind fun v14 => some v14) else (some [])).bind fun x11 => ((law11_told.f).bind fun v17 => if v17 = true then ((border_Cells.f v1.W v1.H x3).bind fun v18 => (ref11_Cells.f v1.W v1.H x3).bind fun v19 => (ref1_Ints.f v18 v19).bind fun v20 => if v20 = true then ((border_Nodes.f yv2 x3).bind fun v21 => (ref11_Nodes.f v1 x3).bind fun v22 => (ref1_Ints.f v21 v22).bind fun v23 => if v23 = true then ((border_Runs.f yv2 x3 x4).bind fun v24 => (ref11_Runs.f v1 x3 x4).bind fun v25 => (ref11_SameRuns.f v24 v25).bind fun v26 => if v26 = true then ((border_Cross.f yv2 x5).bind fun v27 => (ref11_Edges.f v27 x11).bind fun v28 => some v28) else (some false)) else (some false)) else (some false)) else (some false)).bind fun x15 => some x15)
set_option maxHeartbeats 4000000 in
theorem law11_BorderAsks.c {a_c : Option Addr} {n_c : Nat} (w : Int) (h : Int) (c : (List Int)) (sector : Int) (side : Int) (cell : Int) (raw : Bool) (r : Bool) (F : Hp) (H : law11_BorderAsks.f w h c sector side cell raw = some r) (h_c : SliceR (Fl.int .u8) c a_c F) (c_c : List.length c ≤ n_c) :
    CallsL Try.prog 3 [(.int .i64 w), (.int .i64 h), (.slice a_c (List.length c) n_c), (.int .i64 sector), (.int .i64 side), (.int .i64 cell), (.bool raw)] [F] (fun _ : Unit => (.bool r)) (fun _ => [F]) := by
  unfold law11_BorderAsks.f at H
  refine calls_atL [(0, (.int .i64 w)), (1, (.int .i64 h)), (2, (.slice a_c (List.length c) n_c)), (3, (.int .i64 sector)), (4, (.int .i64 side)), (5, (.int .i64 cell)), (6, (.bool raw))] Try.func3 rfl rfl ⟨rfl, rfl, rfl, rfl, rfl, rfl, rfl, trivial⟩ (fun W => ?_)
  refine at_seq ?_
  refine at_region [0] rfl ?_
  refine at_s T rfl ?_
  refine at_end ?_
  refine at_sub [(0, (.int .i64 w)), (1, (.int .i64 h)), (2, (.slice a_c (List.length c) n_c)), (3, (.int .i64 sector)), (4, (.int .i64 side)), (5, (.int .i64 cell)), (6, (.bool raw))] ⟨rfl, rfl, rfl, rfl, rfl, rfl, rfl, trivial⟩ ?_
  refine at_then ?_
  refine at_seq ?_
  refine at_region [0, 1, 2, 3, 4, 5] rfl ?_
  iterate 3 refine at_s T rfl ?_
  obtain ⟨v1, V1, H⟩ := bind_e H
  refine at_cons (at_cR (ref1_Made.R v1) [] [] rfl rfl rfl rfl has13 rfl rfl (ref1_Made.c w h c v1 _ V1 (ro_of h_c (j := 0) rfl) c_c) ?_)
  rintro _ _ ⟨a1, n1, H1, s1, rfl, rfl⟩
  refine at_cons (at_al T [(.int .i64 0), (.int .i64 0), (.slice none 0 0)] rfl rfl rfl rfl (fun b2 => ?_))
  refine at_cons (at_st T 2 [(.int .i64 v1.W), (.int .i64 v1.H), (.slice a1 (List.length v1.C) n1)] rfl rfl rfl rfl rfl rfl rfl rfl rfl rfl ?_)
  refine at_end ?_
  refine at_sub [(3, (.int .i64 sector)), (4, (.int .i64 side)), (5, (.int .i64 cell)), (6, (.bool raw)), (15, (.pointer (some ⟨b2, 0, none⟩)))] ⟨rfl, rfl, rfl, rfl, rfl, trivial⟩ ?_
  refine at_then ?_
  refine at_seq ?_
  refine at_region [0, 1, 2] rfl ?_
  refine at_v rfl (g_loadA T (cs := [(.int .i64 v1.W), (.int .i64 v1.H), (.slice a1 (List.length v1.C) n1)]) rfl rfl rfl rfl rfl rfl (in_varA (j := 2) rfl rfl)) ?_
  obtain ⟨v2, V2, H⟩ := bind_e H
  refine at_cons (at_cR (grid_New.R v2) [] [] rfl rfl rfl rfl has14 rfl rfl (grid_New.c v1 0 v2 _ V2 (own_of s1 (j := 1) rfl) s1.cap_le) ?_)
  rintro _ _ ⟨_, _, O3, rfl, rfl⟩
  rcases v2 with _ | yv2
  · replace H := optm_n rfl H
    obtain ⟨rfl, rfl⟩ := O3
    refine at_s T rfl ?_
    refine at_end ?_
    refine at_sub [(3, (.int .i64 sector)), (4, (.int .i64 side)), (5, (.int .i64 cell)), (6, (.bool raw)), (15, (.pointer (some ⟨b2, 0, none⟩))), (16, (.pointer none))] ⟨rfl, rfl, rfl, rfl, rfl, rfl, trivial⟩ ?_
    refine at_then ?_
    refine at_seq ?_
    refine at_seq ?_
    refine at_region [0, 1] rfl ?_
    iterate 2 refine at_s T rfl ?_
    refine at_end ?_
    refine at_sub [(3, (.int .i64 sector)), (4, (.int .i64 side)), (5, (.int .i64 cell)), (6, (.bool raw)), (15, (.pointer (some ⟨b2, 0, none⟩))), (16, (.pointer none)), (25, (.bool true))] ⟨rfl, rfl, rfl, rfl, rfl, rfl, rfl, trivial⟩ ?_
    refine at_then ?_
    refine at_cond_t rfl ?_
    refine at_seq ?_
    refine at_region [0] rfl ?_
    refine at_s T rfl ?_
    refine at_end ?_
    refine at_to [(14, (.bool false))] [0] [F] ⟨rfl, trivial⟩ rfl ?_
    refine at_then ?_
    refine at_ret ?_
    refine at_rt ?_
    obtain rfl := Option.some.inj H
    exact at_post (T := T) rfl (.tmp rfl .nil) (fun w o => ⟨(), rfl, own_to [0] rfl o⟩)
  · replace H := optm_s rfl H
    obtain ⟨b3, a4, n4, H4, a5, n5, H5, s4, s5, rfl, rfl⟩ := O3
    refine at_s T rfl ?_
    refine at_end ?_
    refine at_sub [(3, (.int .i64 sector)), (4, (.int .i64 side)), (5, (.int .i64 cell)), (6, (.bool raw)), (15, (.pointer (some ⟨b2, 0, none⟩))), (16, (.pointer (some ⟨b3, 0, none⟩)))] ⟨rfl, rfl, rfl, rfl, rfl, rfl, trivial⟩ ?_
    refine at_then ?_
    refine at_seq ?_
    refine at_seq ?_
    refine at_region [0, 1] rfl ?_
    iterate 2 refine at_s T rfl ?_
    refine at_end ?_
    refine at_sub [(3, (.int .i64 sector)), (4, (.int .i64 side)), (5, (.int .i64 cell)), (6, (.bool raw)), (15, (.pointer (some ⟨b2, 0, none⟩))), (16, (.pointer (some ⟨b3, 0, none⟩))), (25, (.bool false))] ⟨rfl, rfl, rfl, rfl, rfl, rfl, rfl, trivial⟩ ?_
    refine at_then ?_
    refine at_cond_f rfl ?_
    refine at_skip ?_
    refine at_then ?_
    obtain ⟨z6, Z4, H⟩ := bind_e H
    refine at_seq_mid (σ := Int × Int × Int) (fun ⟨x3, x4, x5⟩ => (x3, x4, x5) = z6) (fun ⟨x3, x4, x5⟩ => [(3, (.int .i64 x3)), (4, (.int .i64 x4)), (5, (.int .i64 x5)), (15, (.pointer (some ⟨b2, 0, none⟩))), (16, (.pointer (some ⟨b3, 0, none⟩)))]) (fun ⟨x3, x4, x5⟩ => [F, [(b2, Obj.cells #[(.int .i64 v1.W), (.int .i64 v1.H), (.slice a1 (List.length v1.C) n1)] 24 (0, 0))], H1, [(b3, Obj.cells #[(.int .i64 yv2.m.W), (.int .i64 yv2.m.H), (.slice a4 (List.length yv2.m.C) n4), (.int .i64 yv2.epoch), (.slice a5 (List.length yv2.versions) n5)] 81 (0, 0))], H4, H5]) ?_ ?_
    · refine at_seq ?_
      refine at_region [0, 1] rfl ?_
      iterate 2 refine at_s T rfl ?_
      refine at_end ?_
      refine at_sub [(3, (.int .i64 sector)), (4, (.int .i64 side)), (5, (.int .i64 cell)), (15, (.pointer (some ⟨b2, 0, none⟩))), (16, (.pointer (some ⟨b3, 0, none⟩))), (27, (.bool (!raw)))] ⟨rfl, rfl, rfl, rfl, rfl, rfl, trivial⟩ ?_
      refine at_then ?_
      refine at_cond rfl (fun c5 => ?_) (fun c5 => ?_)
      · replace Z4 := if_t c5 Z4
        refine at_region_q mix (by kernel_rfl) ?_
        iterate 2 refine atq_s T rfl ?_
        refine atq_v rfl rfl rfl (g_load T rfl rfl rfl rfl (in_var (j := 2) rfl rfl)) ?_
        refine atq_s T rfl ?_
        refine atq_v rfl rfl rfl (g_load T rfl rfl rfl rfl (in_var (j := 2) rfl rfl)) ?_
        obtain ⟨v7, V6, Z4⟩ := bind_e Z4
        refine atq_c rfl rfl rfl rfl rfl rfl has16 rfl (ref1_Count.c v1.W v1.H v7 _ V6) ?_
        obtain ⟨v8, V7, Z4⟩ := bind_e Z4
        refine atq_c rfl rfl rfl rfl rfl rfl has15 rfl (ref1_Within.c sector (-1) v7 v8 _ V7) ?_
        refine atq_s T rfl ?_
        obtain ⟨v9, V8, Z4⟩ := bind_e Z4
        refine atq_c rfl rfl rfl rfl rfl rfl has15 rfl (ref1_Within.c side (-1) 5 v9 _ V8) ?_
        iterate 2 refine atq_s T rfl ?_
        refine atq_v rfl rfl rfl (g_load T rfl rfl rfl rfl (in_var (j := 2) rfl rfl)) ?_
        refine atq_s T rfl ?_
        obtain ⟨v10, V9, Z4⟩ := bind_e Z4
        refine atq_c rfl rfl rfl rfl rfl rfl has15 rfl (ref1_Within.c cell (-1) (List.length v1.C : Int) v10 _ V9) ?_
        iterate 3 refine atq_s T rfl ?_
        refine atq_end ?_
        refine at_sub [(3, (.int .i64 v8)), (4, (.int .i64 v9)), (5, (.int .i64 v10)), (15, (.pointer (some ⟨b2, 0, none⟩))), (16, (.pointer (some ⟨b3, 0, none⟩)))] ⟨rfl, rfl, rfl, rfl, rfl, trivial⟩ ?_
        refine at_then ?_
        obtain rfl := Option.some.inj Z4
        exact at_mid (v8, v9, v10) [0, 1, 0, 0, 0, 0] rfl ⟨rfl, rfl, rfl, rfl, rfl, trivial⟩ rfl
      · replace Z4 := if_f (bf c5) Z4
        refine at_skip ?_
        refine at_then ?_
        obtain rfl := Option.some.inj Z4
        exact at_mid (sector, side, cell) [0, 1, 0, 0, 0, 0] rfl ⟨rfl, rfl, rfl, rfl, rfl, trivial⟩ rfl
    · rintro ⟨x3, x4, x5⟩ rfl
      refine at_seq ?_
      refine at_region [0] rfl ?_
      refine at_s T rfl ?_
      refine at_end ?_
      refine at_sub [(3, (.int .i64 x3)), (4, (.int .i64 x4)), (5, (.int .i64 x5)), (15, (.pointer (some ⟨b2, 0, none⟩))), (16, (.pointer (some ⟨b3, 0, none⟩))), (17, (.slice none 0 0))] ⟨rfl, rfl, rfl, rfl, rfl, rfl, trivial⟩ ?_
      refine at_then ?_
      obtain ⟨z12, Z10, H⟩ := bind_e H
      refine at_seq_mid (σ := List api_Edge × Option Addr × Nat × Hp) (fun ⟨x11, a6, n6, H6⟩ => x11 = z12 ∧ SliceO k_api_Edge 52 x11 a6 n6 H6) (fun ⟨x11, a6, n6, H6⟩ => [(3, (.int .i64 x3)), (4, (.int .i64 x4)), (5, (.int .i64 x5)), (15, (.pointer (some ⟨b2, 0, none⟩))), (16, (.pointer (some ⟨b3, 0, none⟩))), (17, (.slice a6 (List.length x11) n6))]) (fun ⟨x11, a6, n6, H6⟩ => [F, [(b2, Obj.cells #[(.int .i64 v1.W), (.int .i64 v1.H), (.slice a1 (List.length v1.C) n1)] 24 (0, 0))], H1, [(b3, Obj.cells #[(.int .i64 yv2.m.W), (.int .i64 yv2.m.H), (.slice a4 (List.length yv2.m.C) n4), (.int .i64 yv2.epoch), (.slice a5 (List.length yv2.versions) n5)] 81 (0, 0))], H4, H5, H6]) ?_ ?_
      · refine at_seq ?_
        refine at_region [0, 1, 2, 3, 4, 5] rfl ?_
        refine at_s T rfl ?_
        refine at_v rfl (g_load T rfl rfl rfl rfl (in_var (j := 1) rfl rfl)) ?_
        refine at_s T rfl ?_
        refine at_v rfl (g_load T rfl rfl rfl rfl (in_var (j := 1) rfl rfl)) ?_
        refine at_s T rfl ?_
        obtain ⟨v13, V11, Z10⟩ := bind_e Z10
        refine at_cons (at_c (B := fun _ => []) [] rfl rfl rfl rfl has17 rfl rfl (ref1_IsCell.c v1.W v1.H x5 v13 _ V11) (fun _ => ?_))
        refine at_end ?_
        refine at_sub [(3, (.int .i64 x3)), (4, (.int .i64 x4)), (5, (.int .i64 x5)), (15, (.pointer (some ⟨b2, 0, none⟩))), (16, (.pointer (some ⟨b3, 0, none⟩))), (17, (.slice none 0 0)), (47, (.bool v13))] ⟨rfl, rfl, rfl, rfl, rfl, rfl, rfl, trivial⟩ ?_
        refine at_then ?_
        refine at_cond rfl (fun c12 => ?_) (fun c12 => ?_)
        · replace Z10 := if_t c12 Z10
          refine at_region [0, 1, 2, 3] rfl ?_
          refine at_v rfl (g_loadA T (cs := [(.int .i64 v1.W), (.int .i64 v1.H), (.slice a1 (List.length v1.C) n1)]) rfl rfl rfl rfl rfl rfl (in_varA (j := 1) rfl rfl)) ?_
          refine at_s T rfl ?_
          obtain ⟨v14, V13, Z10⟩ := bind_e Z10
          refine at_cons (at_cR (ref11_Cross.R v14) [] [] rfl rfl rfl rfl has18 rfl rfl (ref11_Cross.c v1 x5 v14 _ V13 (own_of s1 (j := 2) rfl) s1.cap_le) ?_)
          rintro _ _ ⟨a7, n7, H7, s7, rfl, rfl⟩
          refine at_s T rfl ?_
          refine at_end ?_
          refine at_sub [(3, (.int .i64 x3)), (4, (.int .i64 x4)), (5, (.int .i64 x5)), (15, (.pointer (some ⟨b2, 0, none⟩))), (16, (.pointer (some ⟨b3, 0, none⟩))), (17, (.slice a7 (List.length v14) n7))] ⟨rfl, rfl, rfl, rfl, rfl, rfl, trivial⟩ ?_
          refine at_then ?_
          obtain rfl := Option.some.inj Z10
          exact at_mid (v14, a7, n7, H7) [0, 0, 0, 0, 0, 0, 0] ⟨rfl, s7⟩ ⟨rfl, rfl, rfl, rfl, rfl, rfl, trivial⟩ rfl
        · replace Z10 := if_f (bf c12) Z10
          refine at_skip ?_
          refine at_then ?_
          obtain rfl := Option.some.inj Z10
          refine at_addnil ?_
          exact at_mid ([], none, 0, []) [0, 0, 0, 0, 0, 0, 0] ⟨rfl, SliceO.nil⟩ ⟨rfl, rfl, rfl, rfl, rfl, rfl, trivial⟩ rfl
      · rintro ⟨x11, a6, n6, H6⟩ ⟨rfl, s6⟩
        obtain ⟨z16, Z14, H⟩ := bind_e H
        refine at_seq_mid (σ := Bool) (fun x15 => x15 = z16) (fun x15 => [(14, (.bool x15))]) (fun x15 => [F]) ?_ ?_
        · refine at_region_m [[], [0], [0, 1], [0, 1, 2], [0, 1], [0, 1, 4], [0, 1], [0, 1, 2, 3, 4, 5, 6], [0, 1], [0, 1, 8], [0, 1], [0, 1, 10], [0, 1], [0, 1, 2, 3, 4, 5, 6, 7, 8, 9, 10, 11, 12], [0, 1, 2, 3, 4, 5, 6, 7, 8, 9, 10, 11, 12, 13], [0, 1, 2, 3, 4, 5, 6, 7, 8, 9, 10, 11, 12, 13, 14], [0, 1, 2, 3, 4, 5, 6, 7, 8, 9, 10, 11, 12, 13, 14, 15], [0, 1, 2, 3, 4, 5, 6, 7, 8, 9, 10, 11, 12, 13, 14, 15, 16], [0, 1, 2, 3, 4, 5, 6, 7, 8, 9, 10, 11, 12, 13, 14, 15, 16], [0, 1, 2, 3, 4, 5, 6, 7, 8, 9, 10, 11, 12, 13, 14, 15, 16, 17, 18], [0, 1, 2, 3, 4, 5, 6, 7, 8, 9, 10, 11, 12, 13, 14, 15, 16], [0, 1, 2, 3, 4, 5, 6, 7, 8, 9, 10, 11, 12, 13, 14, 15, 16], [0, 1, 2, 3, 4, 5, 6, 7, 8, 9, 10, 11, 12, 13, 14, 15, 16, 17, 18, 19, 20, 21], [0, 1, 2, 3, 4, 5, 6, 7, 8, 9, 10, 11, 12, 13, 14, 15, 16, 17, 18, 19, 20, 21, 22], [0, 1, 2, 3, 4, 5, 6, 7, 8, 9, 10, 11, 12, 13, 14, 15, 16, 17, 18, 19, 20, 21, 22, 23], [0, 1, 2, 3, 4, 5, 6, 7, 8, 9, 10, 11, 12, 13, 14, 15, 16, 17, 18, 19, 20, 21, 22, 23, 24], [0, 1, 2, 3, 4, 5, 6, 7, 8, 9, 10, 11, 12, 13, 14, 15, 16, 17, 18, 19, 20, 21, 22, 23, 24, 25], [0, 1, 2, 3, 4, 5, 6, 7, 8, 9, 10, 11, 12, 13, 14, 15, 16, 17, 18, 19, 20, 21, 22, 23, 24, 25], [0, 1, 2, 3, 4, 5, 6, 7, 8, 9, 10, 11, 12, 13, 14, 15, 16, 17, 18, 19, 20, 21, 22, 23, 24, 25], [0, 1, 2, 3, 4, 5, 6, 7, 8, 9, 10, 11, 12, 13, 14, 15, 16, 17, 18, 19, 20, 21, 22, 23, 24, 25, 26, 27, 28], [0, 1, 2, 3, 4, 5, 6, 7, 8, 9, 10, 11, 12, 13, 14, 15, 16, 17, 18, 19, 20, 21, 22, 23, 24, 25], [0, 1, 2, 3, 4, 5, 6, 7, 8, 9, 10, 11, 12, 13, 14, 15, 16, 17, 18, 19, 20, 21, 22, 23, 24, 25], [0, 1, 2, 3, 4, 5, 6, 7, 8, 9, 10, 11, 12, 13, 14, 15, 16, 17, 18, 19, 20, 21, 22, 23, 24, 25], [0, 1, 2, 3, 4, 5, 6, 7, 8, 9, 10, 11, 12, 13, 14, 15, 16, 17, 18, 19, 20, 21, 22, 23, 24, 25, 26, 27, 28, 29, 30, 31, 32], [0, 1, 2, 3, 4, 5, 6, 7, 8, 9, 10, 11, 12, 13, 14, 15, 16, 17, 18, 19, 20, 21, 22, 23, 24, 25, 26, 27, 28, 29, 30, 31, 32, 33], [0, 1, 2, 3, 4, 5, 6, 7, 8, 9, 10, 11, 12, 13, 14, 15, 16, 17, 18, 19, 20, 21, 22, 23, 24, 25, 26, 27, 28, 29, 30, 31, 32, 33, 34], [0, 1, 2, 3, 4, 5, 6, 7, 8, 9, 10, 11, 12, 13, 14, 15, 16, 17, 18, 19, 20, 21, 22, 23, 24, 25, 26, 27, 28, 29, 30, 31, 32, 33, 34, 35], [0, 1, 2, 3, 4, 5, 6, 7, 8, 9, 10, 11, 12, 13, 14, 15, 16, 17, 18, 19, 20, 21, 22, 23, 24, 25, 26, 27, 28, 29, 30, 31, 32, 33, 34, 35, 36], [0, 1, 2, 3, 4, 5, 6, 7, 8, 9, 10, 11, 12, 13, 14, 15, 16, 17, 18, 19, 20, 21, 22, 23, 24, 25, 26, 27, 28, 29, 30, 31, 32, 33, 34, 35, 36], [0, 1, 2, 3, 4, 5, 6, 7, 8, 9, 10, 11, 12, 13, 14, 15, 16, 17, 18, 19, 20, 21, 22, 23, 24, 25, 26, 27, 28, 29, 30, 31, 32, 33, 34, 35, 36, 37, 38], [0, 1, 2, 3, 4, 5, 6, 7, 8, 9, 10, 11, 12, 13, 14, 15, 16, 17, 18, 19, 20, 21, 22, 23, 24, 25, 26, 27, 28, 29, 30, 31, 32, 33, 34, 35, 36], [0, 1, 2, 3, 4, 5, 6, 7, 8, 9, 10, 11, 12, 13, 14, 15, 16, 17, 18, 19, 20, 21, 22, 23, 24, 25, 26, 27, 28, 29, 30, 31, 32, 33, 34, 35, 36, 37, 38, 39, 40], [0, 1, 2, 3, 4, 5, 6, 7, 8, 9, 10, 11, 12, 13, 14, 15, 16, 17, 18, 19, 20, 21, 22, 23, 24, 25, 26, 27, 28, 29, 30, 31, 32, 33, 34, 35, 36, 37, 38, 39, 40, 41], [0, 1, 2, 3, 4, 5, 6, 7, 8, 9, 10, 11, 12, 13, 14, 15, 16, 17, 18, 19, 20, 21, 22, 23, 24, 25, 26, 27, 28, 29, 30, 31, 32, 33, 34, 35, 36, 37, 38, 39, 40, 41, 42]] [] [F, [(b2, Obj.cells #[(.int .i64 v1.W), (.int .i64 v1.H), (.slice a1 (List.length v1.C) n1)] 24 (0, 0))], H1, [(b3, Obj.cells #[(.int .i64 yv2.m.W), (.int .i64 yv2.m.H), (.slice a4 (List.length yv2.m.C) n4), (.int .i64 yv2.epoch), (.slice a5 (List.length yv2.versions) n5)] 81 (0, 0))], H4, H5, H6] mix (by kernel_rfl) (by repeat first | exact pf_body | refine pf_then ?_ | refine pf_block ?_) (fun hg pf => ?_)
          refine atm_one 0 (by kernel_rfl) ?_
          obtain ⟨v17, V15, Z14⟩ := bind_e Z14
          refine at_c (B := fun _ => []) [] rfl rfl rfl rfl has19 rfl rfl (law11_told.c  v17 _ V15) (fun _ => ?_)
          refine atm_next (still_o [0, 0, 0, 0, 0, 0, 0] rfl) ?_
          refine atm_s T 1 hg pf (by kernel_rfl) (still_o [0, 0, 0, 0, 0, 0, 0] rfl) rfl ?_
          refine at_case (s := 52) rfl (fun c16 => ?_) (fun c16 => ?_)
          · replace Z14 := if_t c16 Z14
            refine atm_s T 2 hg pf (by kernel_rfl) (still_o [0, 0, 0, 0, 0, 0, 0] rfl) rfl ?_
            refine atm_v 3 hg pf (by kernel_rfl) (still_o [0, 0, 0, 0, 0, 0, 0] rfl) rfl rfl (g_load T rfl rfl rfl rfl (in_var (j := 1) rfl rfl)) ?_
            refine atm_s T 4 hg pf (by kernel_rfl) (still_o [0, 0, 0, 0, 0, 0, 0] rfl) rfl ?_
            refine atm_v 5 hg pf (by kernel_rfl) (still_o [0, 0, 0, 0, 0, 0, 0] rfl) rfl rfl (g_load T rfl rfl rfl rfl (in_var (j := 1) rfl rfl)) ?_
            refine atm_s T 6 hg pf (by kernel_rfl) (still_o [0, 0, 0, 0, 0, 0, 0] rfl) rfl ?_
            refine atm_s T 8 hg pf (by kernel_rfl) (still_o [0, 0, 0, 0, 0, 0, 0] rfl) rfl ?_
            refine atm_v 9 hg pf (by kernel_rfl) (still_o [0, 0, 0, 0, 0, 0, 0] rfl) rfl rfl (g_load T rfl rfl rfl rfl (in_var (j := 1) rfl rfl)) ?_
            refine atm_s T 10 hg pf (by kernel_rfl) (still_o [0, 0, 0, 0, 0, 0, 0] rfl) rfl ?_
            refine atm_v 11 hg pf (by kernel_rfl) (still_o [0, 0, 0, 0, 0, 0, 0] rfl) rfl rfl (g_load T rfl rfl rfl rfl (in_var (j := 1) rfl rfl)) ?_
            refine atm_s T 12 hg pf (by kernel_rfl) (still_o [0, 0, 0, 0, 0, 0, 0] rfl) rfl ?_
            refine atm_one 7 (by kernel_rfl) ?_
            obtain ⟨v18, V17, Z14⟩ := bind_e Z14
            refine at_cR (border_Cells.R v18) [] [] rfl rfl rfl rfl has21 rfl rfl (border_Cells.c v1.W v1.H x3 v18 _ V17) ?_
            rintro _ _ ⟨a8, n8, H8, s8, rfl, rfl⟩
            refine atm_next (still_o [0, 0, 0, 0, 0, 0, 0] rfl) ?_
            refine atm_one 13 (by kernel_rfl) ?_
            obtain ⟨v19, V18, Z14⟩ := bind_e Z14
            refine at_cR (ref11_Cells.R v19) [] [] rfl rfl rfl rfl has22 rfl rfl (ref11_Cells.c v1.W v1.H x3 v19 _ V18) ?_
            rintro _ _ ⟨a9, n9, H9, s9, rfl, rfl⟩
            refine atm_next (still_o [0, 0, 0, 0, 0, 0, 0] rfl) ?_
            refine atm_one 14 (by kernel_rfl) ?_
            obtain ⟨v20, V19, Z14⟩ := bind_e Z14
            refine at_c (B := fun _ => []) [] rfl rfl rfl rfl has20 rfl rfl (ref1_Ints.c v18 v19 v20 _ V19 (own_of s8 (j := 7) rfl) s8.cap_le (own_of s9 (j := 8) rfl) s9.cap_le) (fun _ => ?_)
            refine atm_next (still_o [0, 0, 0, 0, 0, 0, 0] rfl) ?_
            refine atm_s T 15 hg pf (by kernel_rfl) (still_o [0, 0, 0, 0, 0, 0, 0] rfl) rfl ?_
            refine atm_s T 16 hg pf (by kernel_rfl) (still_o [0, 0, 0, 0, 0, 0, 0] rfl) rfl ?_
            refine at_case (s := 67) rfl (fun c20 => ?_) (fun c20 => ?_)
            · replace Z14 := if_t c20 Z14
              refine atm_s T 17 hg pf (by kernel_rfl) (still_o [0, 0, 0, 0, 0, 0, 0] rfl) rfl ?_
              refine atm_s T 18 hg pf (by kernel_rfl) (still_o [0, 0, 0, 0, 0, 0, 0] rfl) rfl ?_
              refine atm_v 20 hg pf (by kernel_rfl) (still_o [0, 0, 0, 0, 0, 0, 0] rfl) rfl rfl (g_loadA T (cs := [(.int .i64 v1.W), (.int .i64 v1.H), (.slice a1 (List.length v1.C) n1)]) rfl rfl rfl rfl rfl rfl (in_varA (j := 1) rfl rfl)) ?_
              refine atm_s T 21 hg pf (by kernel_rfl) (still_o [0, 0, 0, 0, 0, 0, 0] rfl) rfl ?_
              refine atm_one 19 (by kernel_rfl) ?_
              obtain ⟨v21, V21, Z14⟩ := bind_e Z14
              refine at_cR (As := [[(b3, Obj.cells #[(.int .i64 yv2.m.W), (.int .i64 yv2.m.H), (.slice a4 (List.length yv2.m.C) n4), (.int .i64 yv2.epoch), (.slice a5 (List.length yv2.versions) n5)] 81 (0, 0))], H4, H5]) (R := [F, [(b2, Obj.cells #[(.int .i64 v1.W), (.int .i64 v1.H), (.slice a1 (List.length v1.C) n1)] 24 (0, 0))], H1, H6, H8, H9]) (border_Nodes.R v21) [[(b3, Obj.cells #[(.int .i64 yv2.m.W), (.int .i64 yv2.m.H), (.slice a4 (List.length yv2.m.C) n4), (.int .i64 yv2.epoch), (.slice a5 (List.length yv2.versions) n5)] 81 (0, 0))], H4, H5] [3, 3, 3] rfl rfl rfl rfl has23 rfl rfl (border_Nodes.c yv2 x3 v21 _ V21 s4 s5) ?_
              rintro _ _ ⟨a10, n10, H10, s10, rfl, rfl⟩
              refine atm_next (still_o [0, 0, 0, 4, 4, 4, 0] rfl) ?_
              refine atm_one 22 (by kernel_rfl) ?_
              obtain ⟨v22, V22, Z14⟩ := bind_e Z14
              refine at_cR (ref11_Nodes.R v22) [] [] rfl rfl rfl rfl has24 rfl rfl (ref11_Nodes.c v1 x3 v22 _ V22 (own_of s1 (j := 2) rfl) s1.cap_le) ?_
              rintro _ _ ⟨a11, n11, H11, s11, rfl, rfl⟩
              refine atm_next (still_o [0, 0, 0, 4, 4, 4, 0] rfl) ?_
              refine atm_one 23 (by kernel_rfl) ?_
              obtain ⟨v23, V23, Z14⟩ := bind_e Z14
              refine at_c (B := fun _ => []) [] rfl rfl rfl rfl has20 rfl rfl (ref1_Ints.c v21 v22 v23 _ V23 (own_of s10 (j := 6) rfl) s10.cap_le (own_of s11 (j := 10) rfl) s11.cap_le) (fun _ => ?_)
              refine atm_next (still_o [0, 0, 0, 4, 4, 4, 0] rfl) ?_
              refine atm_s T 24 hg pf (by kernel_rfl) (still_o [0, 0, 0, 4, 4, 4, 0] rfl) rfl ?_
              refine atm_s T 25 hg pf (by kernel_rfl) (still_o [0, 0, 0, 4, 4, 4, 0] rfl) rfl ?_
              refine at_case (s := 76) rfl (fun c24 => ?_) (fun c24 => ?_)
              · replace Z14 := if_t c24 Z14
                refine atm_s T 26 hg pf (by kernel_rfl) (still_o [0, 0, 0, 4, 4, 4, 0] rfl) rfl ?_
                refine atm_s T 27 hg pf (by kernel_rfl) (still_o [0, 0, 0, 4, 4, 4, 0] rfl) rfl ?_
                refine atm_s T 28 hg pf (by kernel_rfl) (still_o [0, 0, 0, 4, 4, 4, 0] rfl) rfl ?_
                refine atm_v 30 hg pf (by kernel_rfl) (still_o [0, 0, 0, 4, 4, 4, 0] rfl) rfl rfl (g_loadA T (cs := [(.int .i64 v1.W), (.int .i64 v1.H), (.slice a1 (List.length v1.C) n1)]) rfl rfl rfl rfl rfl rfl (in_varA (j := 1) rfl rfl)) ?_
                refine atm_s T 31 hg pf (by kernel_rfl) (still_o [0, 0, 0, 4, 4, 4, 0] rfl) rfl ?_
                refine atm_s T 32 hg pf (by kernel_rfl) (still_o [0, 0, 0, 4, 4, 4, 0] rfl) rfl ?_
                refine atm_one 29 (by kernel_rfl) ?_
                obtain ⟨v24, V25, Z14⟩ := bind_e Z14
                refine at_cR (As := [[(b3, Obj.cells #[(.int .i64 yv2.m.W), (.int .i64 yv2.m.H), (.slice a4 (List.length yv2.m.C) n4), (.int .i64 yv2.epoch), (.slice a5 (List.length yv2.versions) n5)] 81 (0, 0))], H4, H5]) (R := [F, [(b2, Obj.cells #[(.int .i64 v1.W), (.int .i64 v1.H), (.slice a1 (List.length v1.C) n1)] 24 (0, 0))], H1, H6, H8, H9, H10, H11]) (border_Runs.R v24) [[(b3, Obj.cells #[(.int .i64 yv2.m.W), (.int .i64 yv2.m.H), (.slice a4 (List.length yv2.m.C) n4), (.int .i64 yv2.epoch), (.slice a5 (List.length yv2.versions) n5)] 81 (0, 0))], H4, H5] [7, 7, 7] rfl rfl rfl rfl has26 rfl rfl (border_Runs.c yv2 x3 x4 v24 _ V25 s4 s5) ?_
                rintro _ _ ⟨a12, n12, H12, s12, rfl, rfl⟩
                refine atm_next (still_o [0, 0, 0, 6, 6, 6, 0] rfl) ?_
                refine atm_one 33 (by kernel_rfl) ?_
                obtain ⟨v25, V26, Z14⟩ := bind_e Z14
                refine at_cR (ref11_Runs.R v25) [] [] rfl rfl rfl rfl has27 rfl rfl (ref11_Runs.c v1 x3 x4 v25 _ V26 (own_of s1 (j := 2) rfl) s1.cap_le) ?_
                rintro _ _ ⟨a13, n13, H13, s13, rfl, rfl⟩
                refine atm_next (still_o [0, 0, 0, 6, 6, 6, 0] rfl) ?_
                refine atm_one 34 (by kernel_rfl) ?_
                obtain ⟨v26, V27, Z14⟩ := bind_e Z14
                refine at_c (B := fun _ => []) [] rfl rfl rfl rfl has25 rfl rfl (ref11_SameRuns.c v24 v25 v26 _ V27 (own_of s12 (j := 8) rfl) s12.cap_le (own_of s13 (j := 12) rfl) s13.cap_le) (fun _ => ?_)
                refine atm_next (still_o [0, 0, 0, 6, 6, 6, 0] rfl) ?_
                refine atm_s T 35 hg pf (by kernel_rfl) (still_o [0, 0, 0, 6, 6, 6, 0] rfl) rfl ?_
                refine atm_s T 36 hg pf (by kernel_rfl) (still_o [0, 0, 0, 6, 6, 6, 0] rfl) rfl ?_
                refine at_case (s := 87) rfl (fun c28 => ?_) (fun c28 => ?_)
                · replace Z14 := if_t c28 Z14
                  refine atm_s T 37 hg pf (by kernel_rfl) (still_o [0, 0, 0, 6, 6, 6, 0] rfl) rfl ?_
                  refine atm_s T 38 hg pf (by kernel_rfl) (still_o [0, 0, 0, 6, 6, 6, 0] rfl) rfl ?_
                  refine atm_s T 40 hg pf (by kernel_rfl) (still_o [0, 0, 0, 6, 6, 6, 0] rfl) rfl ?_
                  refine atm_one 39 (by kernel_rfl) ?_
                  obtain ⟨v27, V29, Z14⟩ := bind_e Z14
                  refine at_cR (As := [[(b3, Obj.cells #[(.int .i64 yv2.m.W), (.int .i64 yv2.m.H), (.slice a4 (List.length yv2.m.C) n4), (.int .i64 yv2.epoch), (.slice a5 (List.length yv2.versions) n5)] 81 (0, 0))], H4, H5]) (R := [F, [(b2, Obj.cells #[(.int .i64 v1.W), (.int .i64 v1.H), (.slice a1 (List.length v1.C) n1)] 24 (0, 0))], H1, H6, H8, H9, H10, H11, H12, H13]) (border_Cross.R v27) [[(b3, Obj.cells #[(.int .i64 yv2.m.W), (.int .i64 yv2.m.H), (.slice a4 (List.length yv2.m.C) n4), (.int .i64 yv2.epoch), (.slice a5 (List.length yv2.versions) n5)] 81 (0, 0))], H4, H5] [9, 9, 9] rfl rfl rfl rfl has29 rfl rfl (border_Cross.c yv2 x5 v27 _ V29 s4 s5) ?_
                  rintro _ _ ⟨a14, n14, H14, s14, rfl, rfl⟩
                  refine atm_next (still_o [0, 0, 0, 8, 8, 8, 0] rfl) ?_
                  refine atm_one 41 (by kernel_rfl) ?_
                  obtain ⟨v28, V30, Z14⟩ := bind_e Z14
                  refine at_c (B := fun _ => []) [] rfl rfl rfl rfl has28 rfl rfl (ref11_Edges.c v27 x11 v28 _ V30 (own_of s14 (j := 10) rfl) s14.cap_le (own_of s6 (j := 3) rfl) s6.cap_le) (fun _ => ?_)
                  refine atm_next (still_o [0, 0, 0, 8, 8, 8, 0] rfl) ?_
                  refine atm_s T 42 hg pf (by kernel_rfl) (still_o [0, 0, 0, 8, 8, 8, 0] rfl) rfl ?_
                  refine atm_s T 43 hg pf (by kernel_rfl) (still_o [0, 0, 0, 8, 8, 8, 0] rfl) rfl ?_
                  refine atm_end (by kernel_rfl) ?_
                  refine at_to [(14, (.bool v28))] [0] [F] ⟨rfl, trivial⟩ rfl ?_
                  refine at_then ?_
                  obtain rfl := Option.some.inj Z14
                  exact at_mid v28 [0] rfl ⟨rfl, trivial⟩ rfl
                · replace Z14 := if_f (bf c28) Z14
                  refine atm_s T 37 hg pf (by kernel_rfl) (still_o [0, 0, 0, 6, 6, 6, 0] rfl) rfl ?_
                  refine atm_s T 38 hg pf (by kernel_rfl) (still_o [0, 0, 0, 6, 6, 6, 0] rfl) rfl ?_
                  refine atm_s T 39 hg pf (by kernel_rfl) (still_o [0, 0, 0, 6, 6, 6, 0] rfl) rfl ?_
                  refine atm_s T 40 hg pf (by kernel_rfl) (still_o [0, 0, 0, 6, 6, 6, 0] rfl) rfl ?_
                  refine atm_s T 41 hg pf (by kernel_rfl) (still_o [0, 0, 0, 6, 6, 6, 0] rfl) rfl ?_
                  refine atm_s T 42 hg pf (by kernel_rfl) (still_o [0, 0, 0, 6, 6, 6, 0] rfl) rfl ?_
                  refine atm_s T 43 hg pf (by kernel_rfl) (still_o [0, 0, 0, 6, 6, 6, 0] rfl) rfl ?_
                  refine atm_end (by kernel_rfl) ?_
                  refine at_to [(14, (.bool false))] [0] [F] ⟨rfl, trivial⟩ rfl ?_
                  refine at_then ?_
                  obtain rfl := Option.some.inj Z14
                  exact at_mid false [0] rfl ⟨rfl, trivial⟩ rfl
              · replace Z14 := if_f (bf c24) Z14
                refine atm_s T 26 hg pf (by kernel_rfl) (still_o [0, 0, 0, 4, 4, 4, 0] rfl) rfl ?_
                refine atm_s T 27 hg pf (by kernel_rfl) (still_o [0, 0, 0, 4, 4, 4, 0] rfl) rfl ?_
                refine atm_s T 28 hg pf (by kernel_rfl) (still_o [0, 0, 0, 4, 4, 4, 0] rfl) rfl ?_
                refine atm_s T 29 hg pf (by kernel_rfl) (still_o [0, 0, 0, 4, 4, 4, 0] rfl) rfl ?_
                refine atm_s T 30 hg pf (by kernel_rfl) (still_o [0, 0, 0, 4, 4, 4, 0] rfl) rfl ?_
                refine atm_s T 31 hg pf (by kernel_rfl) (still_o [0, 0, 0, 4, 4, 4, 0] rfl) rfl ?_
                refine atm_s T 32 hg pf (by kernel_rfl) (still_o [0, 0, 0, 4, 4, 4, 0] rfl) rfl ?_
                refine atm_s T 33 hg pf (by kernel_rfl) (still_o [0, 0, 0, 4, 4, 4, 0] rfl) rfl ?_
                refine atm_s T 34 hg pf (by kernel_rfl) (still_o [0, 0, 0, 4, 4, 4, 0] rfl) rfl ?_
                refine atm_s T 35 hg pf (by kernel_rfl) (still_o [0, 0, 0, 4, 4, 4, 0] rfl) rfl ?_
                refine atm_s T 36 hg pf (by kernel_rfl) (still_o [0, 0, 0, 4, 4, 4, 0] rfl) rfl ?_
                refine atm_s T 37 hg pf (by kernel_rfl) (still_o [0, 0, 0, 4, 4, 4, 0] rfl) rfl ?_
                refine atm_s T 38 hg pf (by kernel_rfl) (still_o [0, 0, 0, 4, 4, 4, 0] rfl) rfl ?_
                refine atm_s T 39 hg pf (by kernel_rfl) (still_o [0, 0, 0, 4, 4, 4, 0] rfl) rfl ?_
                refine atm_s T 40 hg pf (by kernel_rfl) (still_o [0, 0, 0, 4, 4, 4, 0] rfl) rfl ?_
                refine atm_s T 41 hg pf (by kernel_rfl) (still_o [0, 0, 0, 4, 4, 4, 0] rfl) rfl ?_
                refine atm_s T 42 hg pf (by kernel_rfl) (still_o [0, 0, 0, 4, 4, 4, 0] rfl) rfl ?_
                refine atm_s T 43 hg pf (by kernel_rfl) (still_o [0, 0, 0, 4, 4, 4, 0] rfl) rfl ?_
                refine atm_end (by kernel_rfl) ?_
                refine at_to [(14, (.bool false))] [0] [F] ⟨rfl, trivial⟩ rfl ?_
                refine at_then ?_
                obtain rfl := Option.some.inj Z14
                exact at_mid false [0] rfl ⟨rfl, trivial⟩ rfl
            · replace Z14 := if_f (bf c20) Z14
              refine atm_s T 17 hg pf (by kernel_rfl) (still_o [0, 0, 0, 0, 0, 0, 0] rfl) rfl ?_
              refine atm_s T 18 hg pf (by kernel_rfl) (still_o [0, 0, 0, 0, 0, 0, 0] rfl) rfl ?_
              refine atm_s T 19 hg pf (by kernel_rfl) (still_o [0, 0, 0, 0, 0, 0, 0] rfl) rfl ?_
              refine atm_s T 20 hg pf (by kernel_rfl) (still_o [0, 0, 0, 0, 0, 0, 0] rfl) rfl ?_
              refine atm_s T 21 hg pf (by kernel_rfl) (still_o [0, 0, 0, 0, 0, 0, 0] rfl) rfl ?_
              refine atm_s T 22 hg pf (by kernel_rfl) (still_o [0, 0, 0, 0, 0, 0, 0] rfl) rfl ?_
              refine atm_s T 23 hg pf (by kernel_rfl) (still_o [0, 0, 0, 0, 0, 0, 0] rfl) rfl ?_
              refine atm_s T 24 hg pf (by kernel_rfl) (still_o [0, 0, 0, 0, 0, 0, 0] rfl) rfl ?_
              refine atm_s T 25 hg pf (by kernel_rfl) (still_o [0, 0, 0, 0, 0, 0, 0] rfl) rfl ?_
              refine atm_s T 26 hg pf (by kernel_rfl) (still_o [0, 0, 0, 0, 0, 0, 0] rfl) rfl ?_
              refine atm_s T 27 hg pf (by kernel_rfl) (still_o [0, 0, 0, 0, 0, 0, 0] rfl) rfl ?_
              refine atm_s T 28 hg pf (by kernel_rfl) (still_o [0, 0, 0, 0, 0, 0, 0] rfl) rfl ?_
              refine atm_s T 29 hg pf (by kernel_rfl) (still_o [0, 0, 0, 0, 0, 0, 0] rfl) rfl ?_
              refine atm_s T 30 hg pf (by kernel_rfl) (still_o [0, 0, 0, 0, 0, 0, 0] rfl) rfl ?_
              refine atm_s T 31 hg pf (by kernel_rfl) (still_o [0, 0, 0, 0, 0, 0, 0] rfl) rfl ?_
              refine atm_s T 32 hg pf (by kernel_rfl) (still_o [0, 0, 0, 0, 0, 0, 0] rfl) rfl ?_
              refine atm_s T 33 hg pf (by kernel_rfl) (still_o [0, 0, 0, 0, 0, 0, 0] rfl) rfl ?_
              refine atm_s T 34 hg pf (by kernel_rfl) (still_o [0, 0, 0, 0, 0, 0, 0] rfl) rfl ?_
              refine atm_s T 35 hg pf (by kernel_rfl) (still_o [0, 0, 0, 0, 0, 0, 0] rfl) rfl ?_
              refine atm_s T 36 hg pf (by kernel_rfl) (still_o [0, 0, 0, 0, 0, 0, 0] rfl) rfl ?_
              refine atm_s T 37 hg pf (by kernel_rfl) (still_o [0, 0, 0, 0, 0, 0, 0] rfl) rfl ?_
              refine atm_s T 38 hg pf (by kernel_rfl) (still_o [0, 0, 0, 0, 0, 0, 0] rfl) rfl ?_
              refine atm_s T 39 hg pf (by kernel_rfl) (still_o [0, 0, 0, 0, 0, 0, 0] rfl) rfl ?_
              refine atm_s T 40 hg pf (by kernel_rfl) (still_o [0, 0, 0, 0, 0, 0, 0] rfl) rfl ?_
              refine atm_s T 41 hg pf (by kernel_rfl) (still_o [0, 0, 0, 0, 0, 0, 0] rfl) rfl ?_
              refine atm_s T 42 hg pf (by kernel_rfl) (still_o [0, 0, 0, 0, 0, 0, 0] rfl) rfl ?_
              refine atm_s T 43 hg pf (by kernel_rfl) (still_o [0, 0, 0, 0, 0, 0, 0] rfl) rfl ?_
              refine atm_end (by kernel_rfl) ?_
              refine at_to [(14, (.bool false))] [0] [F] ⟨rfl, trivial⟩ rfl ?_
              refine at_then ?_
              obtain rfl := Option.some.inj Z14
              exact at_mid false [0] rfl ⟨rfl, trivial⟩ rfl
          · replace Z14 := if_f (bf c16) Z14
            refine atm_s T 2 hg pf (by kernel_rfl) (still_o [0, 0, 0, 0, 0, 0, 0] rfl) rfl ?_
            refine atm_s T 3 hg pf (by kernel_rfl) (still_o [0, 0, 0, 0, 0, 0, 0] rfl) rfl ?_
            refine atm_s T 4 hg pf (by kernel_rfl) (still_o [0, 0, 0, 0, 0, 0, 0] rfl) rfl ?_
            refine atm_s T 5 hg pf (by kernel_rfl) (still_o [0, 0, 0, 0, 0, 0, 0] rfl) rfl ?_
            refine atm_s T 6 hg pf (by kernel_rfl) (still_o [0, 0, 0, 0, 0, 0, 0] rfl) rfl ?_
            refine atm_s T 7 hg pf (by kernel_rfl) (still_o [0, 0, 0, 0, 0, 0, 0] rfl) rfl ?_
            refine atm_s T 8 hg pf (by kernel_rfl) (still_o [0, 0, 0, 0, 0, 0, 0] rfl) rfl ?_
            refine atm_s T 9 hg pf (by kernel_rfl) (still_o [0, 0, 0, 0, 0, 0, 0] rfl) rfl ?_
            refine atm_s T 10 hg pf (by kernel_rfl) (still_o [0, 0, 0, 0, 0, 0, 0] rfl) rfl ?_
            refine atm_s T 11 hg pf (by kernel_rfl) (still_o [0, 0, 0, 0, 0, 0, 0] rfl) rfl ?_
            refine atm_s T 12 hg pf (by kernel_rfl) (still_o [0, 0, 0, 0, 0, 0, 0] rfl) rfl ?_
            refine atm_s T 13 hg pf (by kernel_rfl) (still_o [0, 0, 0, 0, 0, 0, 0] rfl) rfl ?_
            refine atm_s T 14 hg pf (by kernel_rfl) (still_o [0, 0, 0, 0, 0, 0, 0] rfl) rfl ?_
            refine atm_s T 15 hg pf (by kernel_rfl) (still_o [0, 0, 0, 0, 0, 0, 0] rfl) rfl ?_
            refine atm_s T 16 hg pf (by kernel_rfl) (still_o [0, 0, 0, 0, 0, 0, 0] rfl) rfl ?_
            refine atm_s T 17 hg pf (by kernel_rfl) (still_o [0, 0, 0, 0, 0, 0, 0] rfl) rfl ?_
            refine atm_s T 18 hg pf (by kernel_rfl) (still_o [0, 0, 0, 0, 0, 0, 0] rfl) rfl ?_
            refine atm_s T 19 hg pf (by kernel_rfl) (still_o [0, 0, 0, 0, 0, 0, 0] rfl) rfl ?_
            refine atm_s T 20 hg pf (by kernel_rfl) (still_o [0, 0, 0, 0, 0, 0, 0] rfl) rfl ?_
            refine atm_s T 21 hg pf (by kernel_rfl) (still_o [0, 0, 0, 0, 0, 0, 0] rfl) rfl ?_
            refine atm_s T 22 hg pf (by kernel_rfl) (still_o [0, 0, 0, 0, 0, 0, 0] rfl) rfl ?_
            refine atm_s T 23 hg pf (by kernel_rfl) (still_o [0, 0, 0, 0, 0, 0, 0] rfl) rfl ?_
            refine atm_s T 24 hg pf (by kernel_rfl) (still_o [0, 0, 0, 0, 0, 0, 0] rfl) rfl ?_
            refine atm_s T 25 hg pf (by kernel_rfl) (still_o [0, 0, 0, 0, 0, 0, 0] rfl) rfl ?_
            refine atm_s T 26 hg pf (by kernel_rfl) (still_o [0, 0, 0, 0, 0, 0, 0] rfl) rfl ?_
            refine atm_s T 27 hg pf (by kernel_rfl) (still_o [0, 0, 0, 0, 0, 0, 0] rfl) rfl ?_
            refine atm_s T 28 hg pf (by kernel_rfl) (still_o [0, 0, 0, 0, 0, 0, 0] rfl) rfl ?_
            refine atm_s T 29 hg pf (by kernel_rfl) (still_o [0, 0, 0, 0, 0, 0, 0] rfl) rfl ?_
            refine atm_s T 30 hg pf (by kernel_rfl) (still_o [0, 0, 0, 0, 0, 0, 0] rfl) rfl ?_
            refine atm_s T 31 hg pf (by kernel_rfl) (still_o [0, 0, 0, 0, 0, 0, 0] rfl) rfl ?_
            refine atm_s T 32 hg pf (by kernel_rfl) (still_o [0, 0, 0, 0, 0, 0, 0] rfl) rfl ?_
            refine atm_s T 33 hg pf (by kernel_rfl) (still_o [0, 0, 0, 0, 0, 0, 0] rfl) rfl ?_
            refine atm_s T 34 hg pf (by kernel_rfl) (still_o [0, 0, 0, 0, 0, 0, 0] rfl) rfl ?_
            refine atm_s T 35 hg pf (by kernel_rfl) (still_o [0, 0, 0, 0, 0, 0, 0] rfl) rfl ?_
            refine atm_s T 36 hg pf (by kernel_rfl) (still_o [0, 0, 0, 0, 0, 0, 0] rfl) rfl ?_
            refine atm_s T 37 hg pf (by kernel_rfl) (still_o [0, 0, 0, 0, 0, 0, 0] rfl) rfl ?_
            refine atm_s T 38 hg pf (by kernel_rfl) (still_o [0, 0, 0, 0, 0, 0, 0] rfl) rfl ?_
            refine atm_s T 39 hg pf (by kernel_rfl) (still_o [0, 0, 0, 0, 0, 0, 0] rfl) rfl ?_
            refine atm_s T 40 hg pf (by kernel_rfl) (still_o [0, 0, 0, 0, 0, 0, 0] rfl) rfl ?_
            refine atm_s T 41 hg pf (by kernel_rfl) (still_o [0, 0, 0, 0, 0, 0, 0] rfl) rfl ?_
            refine atm_s T 42 hg pf (by kernel_rfl) (still_o [0, 0, 0, 0, 0, 0, 0] rfl) rfl ?_
            refine atm_s T 43 hg pf (by kernel_rfl) (still_o [0, 0, 0, 0, 0, 0, 0] rfl) rfl ?_
            refine atm_end (by kernel_rfl) ?_
            refine at_to [(14, (.bool false))] [0] [F] ⟨rfl, trivial⟩ rfl ?_
            refine at_then ?_
            obtain rfl := Option.some.inj Z14
            exact at_mid false [0] rfl ⟨rfl, trivial⟩ rfl
        · rintro x15 rfl
          refine at_ret ?_
          obtain rfl := Option.some.inj H
          exact at_post (T := T) rfl (.tmp rfl .nil) (fun w o => ⟨(), rfl, own_to [0] rfl o⟩)
def law11_BorderAsks.Pure : Prop := ∀ (w : Int) (h : Int) (c : (List Int)) (sector : Int) (side : Int) (cell : Int) (raw : Bool), inI64 w → inI64 h → (∀ y ∈ c, inU8 y) → inI64 sector → inI64 side → inI64 cell → List.length c ≤ 9223372036854775807 → law11_BorderAsks.f w h c sector side cell raw = some true
end Go.Proofs.Yticdodeoljodiaa
