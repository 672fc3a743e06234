import Derived.Test.YticdodeoljodiaaT
import Derived.Test.YticdodeoljodiaaFgrid
import Derived.Test.YticdodeoljodiaaFwhere
namespace Go.Proofs.Yticdodeoljodiaa
open Go.Hx
set_option maxRecDepth 100000
set_option linter.unusedVariables false
/-! ### herdsman/border.sides: function 57 -/
def border_sides.f : Option (List Int) := some [0, 1, 2, 3]
set_option maxHeartbeats 4000000 in
theorem border_sides.c (r : (List Int)) (F : Hp) (H : border_sides.f = some r) :
    CallsL Try.prog 57 [] [F] (fun _ : Unit => (.agg #[(.int .i64 (rd r 0)), (.int .i64 (rd r 1)), (.int .i64 (rd r 2)), (.int .i64 (rd r 3))])) (fun _ => [F]) := by
  unfold border_sides.f at H
  refine calls_atL [] Try.func57 rfl rfl trivial (fun W => ?_)
  refine at_seq ?_
  refine at_region [0] rfl ?_
  refine at_cons (at_al T [(.int .i64 0), (.int .i64 0), (.int .i64 0), (.int .i64 0)] rfl rfl rfl rfl (fun b1 => ?_))
  refine at_end ?_
  refine at_sub [(0, (.pointer (some ⟨b1, 0, none⟩)))] ⟨rfl, trivial⟩ ?_
  refine at_then ?_
  refine at_seq ?_
  refine at_region [0, 1] rfl ?_
  refine at_v rfl (g_abuild T rfl rfl rfl rfl rfl rfl) ?_
  refine at_cons (at_st T 1 [(.int .i64 0), (.int .i64 1), (.int .i64 2), (.int .i64 3)] rfl rfl rfl rfl rfl rfl rfl rfl rfl rfl ?_)
  refine at_end ?_
  refine at_sub [(0, (.pointer (some ⟨b1, 0, none⟩)))] ⟨rfl, trivial⟩ ?_
  refine at_then ?_
  refine at_ret ?_
  obtain rfl := Option.some.inj H
  exact at_post (T := T) rfl (.aggv (j := 1) [(.int .i64 0), (.int .i64 1), (.int .i64 2), (.int .i64 3)] rfl rfl rfl rfl rfl rfl rfl .nil) (fun w o => ⟨(), rfl, own_to [0] rfl o⟩)

/-! ### herdsman/border.along: function 58 -/
def border_along.l3 : Nat → Int → Int → List Int → Int → Option (List Int)
  | 0, _, _, _, _ => none
  | k20 + 1, tw, th, x18, x19 => if x19 < th then (if (List.length x18 + 1 ≤ 1099511627776) then (border_along.l3 k20 tw th (x18 ++ [(w64 (0 + (w64 (x19 * tw))))]) (w64 (x19 + 1))) else none) else (some x18)
def border_along.l2 : Nat → Int → Int → List Int → Int → Option (List Int)
  | 0, _, _, _, _ => none
  | k15 + 1, tw, th, x13, x14 => if x14 < th then (if (List.length x13 + 1 ≤ 1099511627776) then (border_along.l2 k15 tw th (x13 ++ [(w64 ((w64 (tw - 1)) + (w64 (x14 * tw))))]) (w64 (x14 + 1))) else none) else (some x13)
def border_along.l1 : Nat → Int → List Int → Int → Option (List Int)
  | 0, _, _, _ => none
  | k10 + 1, tw, x8, x9 => if x9 < tw then (if (List.length x8 + 1 ≤ 1099511627776) then (border_along.l1 k10 tw (x8 ++ [(w64 (0 + x9))]) (w64 (x9 + 1))) else none) else (some x8)
def border_along.l0 : Nat → Int → Int → List Int → Int → Option (List Int)
  | 0, _, _, _, _ => none
  | k5 + 1, tw, th, x3, x4 => if x4 < tw then (if (List.length x3 + 1 ≤ 1099511627776) then (border_along.l0 k5 tw th (x3 ++ [(w64 ((w64 ((w64 (th - 1)) * tw)) + x4))]) (w64 (x4 + 1))) else none) else (some x3)
def border_along.f (tw : Int) (th : Int) (side : Int) : Option (List Int) := if (side == 2) = true then (border_along.l0 fuel tw th [] 0) else (if (side == 0) = true then (border_along.l1 fuel tw [] 0) else (if (side == 1) = true then (border_along.l2 fuel tw th [] 0) else (if (side == 3) = true then (border_along.l3 fuel tw th [] 0) else (some []))))
def border_along.R (r : (List Int)) (u : Value) (G : List Hp) : Prop := ∃ (a0 : Option Addr) (n0 : Nat) (H0 : Hp), SliceO (Fl.int .i64) 3 r a0 n0 H0 ∧ u = (.slice a0 (List.length r) n0) ∧ G = [H0]
set_option maxHeartbeats 4000000 in
theorem border_along.c (tw : Int) (th : Int) (side : Int) (r : (List Int)) (F : Hp) (H : border_along.f tw th side = some r) :
    CallsL Try.prog 58 [(.int .i64 tw), (.int .i64 th), (.int .i64 side)] [F] (fun p : { p : Value × List Hp // border_along.R r p.1 p.2 } => p.1.1) (fun p => (p.1.2 ++ []) ++ [F]) := by
  unfold border_along.f at H
  refine calls_atL [(0, (.int .i64 tw)), (1, (.int .i64 th)), (2, (.int .i64 side))] Try.func58 rfl rfl ⟨rfl, rfl, rfl, trivial⟩ (fun W => ?_)
  refine at_seq ?_
  refine at_region [0] rfl ?_
  refine at_s T rfl ?_
  refine at_end ?_
  refine at_sub [(0, (.int .i64 tw)), (1, (.int .i64 th)), (2, (.int .i64 side))] ⟨rfl, rfl, rfl, trivial⟩ ?_
  refine at_then ?_
  refine at_seq ?_
  refine at_region [0] rfl ?_
  refine at_s T rfl ?_
  refine at_end ?_
  refine at_sub [(0, (.int .i64 tw)), (1, (.int .i64 th)), (2, (.int .i64 side)), (7, (.slice none 0 0))] ⟨rfl, rfl, rfl, rfl, trivial⟩ ?_
  refine at_then ?_
  refine at_seq ?_
  refine at_region [0] rfl ?_
  refine at_s T rfl ?_
  refine at_end ?_
  refine at_sub [(0, (.int .i64 tw)), (1, (.int .i64 th)), (2, (.int .i64 side)), (7, (.slice none 0 0)), (8, (.int .i64 0))] ⟨rfl, rfl, rfl, rfl, rfl, trivial⟩ ?_
  refine at_then ?_
  refine at_seq ?_
  refine at_seq ?_
  refine at_region [0] rfl ?_
  refine at_s T rfl ?_
  refine at_end ?_
  refine at_sub [(0, (.int .i64 tw)), (1, (.int .i64 th)), (7, (.slice none 0 0)), (8, (.int .i64 0)), (11, (.int .i64 side))] ⟨rfl, rfl, rfl, rfl, rfl, trivial⟩ ?_
  refine at_then ?_
  refine at_block ?_
  refine at_seq ?_
  refine at_block ?_
  refine at_seq ?_
  refine at_block ?_
  refine at_seq ?_
  refine at_block ?_
  refine at_seq ?_
  refine at_block ?_
  refine at_seq ?_
  refine at_seq ?_
  refine at_seq ?_
  refine at_region [0, 1] rfl ?_
  iterate 2 refine at_s T rfl ?_
  refine at_end ?_
  refine at_sub [(0, (.int .i64 tw)), (1, (.int .i64 th)), (7, (.slice none 0 0)), (8, (.int .i64 0)), (11, (.int .i64 side)), (12, (.bool (side == 2)))] ⟨rfl, rfl, rfl, rfl, rfl, rfl, trivial⟩ ?_
  refine at_then ?_
  refine at_cond rfl (fun c1 => ?_) (fun c1 => ?_)
  · replace H := if_t c1 H
    refine at_exit ?_
    refine at_xt ?_
    refine at_xt ?_
    refine at_xb ?_
    refine at_then ?_
    refine at_region [0, 1, 2, 3, 4] rfl ?_
    iterate 5 refine at_s T rfl ?_
    refine at_end ?_
    refine at_sub [(0, (.int .i64 tw)), (7, (.slice none 0 0)), (8, (.int .i64 (w64 ((w64 (th - 1)) * tw))))] ⟨rfl, rfl, rfl, trivial⟩ ?_
    refine at_nb ?_
    refine at_then ?_
    refine at_seq ?_
    refine at_seq ?_
    refine at_region [0, 1] rfl ?_
    iterate 2 refine at_s T rfl ?_
    refine at_end ?_
    refine at_sub [(7, (.slice none 0 0)), (8, (.int .i64 (w64 ((w64 (th - 1)) * tw)))), (24, (.int .i64 tw)), (25, (.int .i64 0))] ⟨rfl, rfl, rfl, rfl, trivial⟩ ?_
    refine at_then ?_
    refine at_block ?_
    refine at_addnil ?_
    refine at_loopL (σ := Nat × List Int × Int × Option Addr × Nat × Hp) (fun ⟨k5, x3, x4, a2, n2, H2⟩ => border_along.l0 k5 tw th x3 x4 = some r ∧ SliceO (Fl.int .i64) 3 x3 a2 n2 H2) (fun ⟨k5, x3, x4, a2, n2, H2⟩ => [(7, (.slice a2 (List.length x3) n2)), (8, (.int .i64 (w64 ((w64 (th - 1)) * tw)))), (24, (.int .i64 tw)), (25, (.int .i64 x4))]) (fun ⟨k5, x3, x4, a2, n2, H2⟩ => [F, H2]) (fun s => s.1) (fuel, [], 0, none, 0, []) [0, 0] ⟨H, SliceO.nil⟩ ⟨rfl, rfl, rfl, rfl, trivial⟩ rfl ?_
    rintro ⟨k5, x3, x4, a2, n2, H2⟩ ⟨Z2, s2⟩
    replace Z2 : border_along.l0 k5 tw th x3 x4 = some r := Z2
    rcases k5 with _ | k5
    · rw [border_along.l0] at Z2; cases Z2
    · rw [border_along.l0] at Z2
      refine at_seq ?_
      refine at_region [0] rfl ?_
      refine at_s T rfl ?_
      refine at_end ?_
      refine at_sub [(7, (.slice a2 (List.length x3) n2)), (8, (.int .i64 (w64 ((w64 (th - 1)) * tw)))), (24, (.int .i64 tw)), (25, (.int .i64 x4)), (26, (.bool (decide (x4 < tw))))] ⟨rfl, rfl, rfl, rfl, rfl, trivial⟩ ?_
      refine at_then ?_
      refine at_seq ?_
      refine at_cond rfl (fun c3 => ?_) (fun c3 => ?_)
      · replace Z2 := if_t (of_decide_eq_true c3) Z2
        refine at_skip ?_
        refine at_then ?_
        refine at_seq ?_
        refine at_block ?_
        refine at_seq ?_
        refine at_region [0, 1] rfl ?_
        iterate 2 refine at_s T rfl ?_
        refine at_end ?_
        refine at_sub [(7, (.slice a2 (List.length x3) n2)), (8, (.int .i64 (w64 ((w64 (th - 1)) * tw)))), (9, (.int .i64 x4)), (24, (.int .i64 tw)), (25, (.int .i64 x4))] ⟨rfl, rfl, rfl, rfl, rfl, trivial⟩ ?_
        refine at_then ?_
        refine at_region [0, 1, 2, 3, 4, 5, 6] rfl ?_
        iterate 4 refine at_s T rfl ?_
        refine at_cons (at_bs (k := (Fl.int .i64)) T [(w64 ((w64 ((w64 (th - 1)) * tw)) + x4))] rfl rfl rfl rfl rfl rfl rfl rfl rfl (fun a3 H3 s3 => ?_))
        obtain ⟨c4, Z2⟩ := chk_e Z2
        refine at_cons (at_ap (k := (Fl.int .i64)) (xs := x3) T (g := 1) rfl rfl rfl rfl rfl rfl rfl rfl rfl rfl s2 (own_of s3 (j := 2) rfl) c4 rfl (fun a4 n4 H4 s4 => ?_))
        refine at_s T rfl ?_
        refine at_end ?_
        refine at_to [(7, (.slice a4 (List.length (x3 ++ [(w64 ((w64 ((w64 (th - 1)) * tw)) + x4))])) n4)), (8, (.int .i64 (w64 ((w64 (th - 1)) * tw)))), (24, (.int .i64 tw)), (25, (.int .i64 x4))] [0, 0] [F, H4] ⟨rfl, rfl, rfl, rfl, trivial⟩ rfl ?_
        refine at_nb ?_
        refine at_then ?_
        refine at_region [0, 1] rfl ?_
        iterate 2 refine at_s T rfl ?_
        refine at_end ?_
        refine at_sub [(7, (.slice a4 (List.length (x3 ++ [(w64 ((w64 ((w64 (th - 1)) * tw)) + x4))])) n4)), (8, (.int .i64 (w64 ((w64 (th - 1)) * tw)))), (24, (.int .i64 tw)), (25, (.int .i64 (w64 (x4 + 1))))] ⟨rfl, rfl, rfl, rfl, trivial⟩ ?_
        refine at_then ?_
        exact at_roundL (k5, (x3 ++ [(w64 ((w64 ((w64 (th - 1)) * tw)) + x4))]), (w64 (x4 + 1)), a4, n4, H4) [0, 0] ⟨Z2, s4⟩ (Nat.lt_succ_self _) ⟨rfl, rfl, rfl, rfl, trivial⟩ rfl
      · replace Z2 := if_f (of_decide_eq_false c3) Z2
        refine at_exit ?_
        refine at_xt ?_
        refine at_xt ?_
        refine at_xb ?_
        refine at_then ?_
        refine at_exit ?_
        refine at_xn rfl ?_
        refine at_xt ?_
        refine at_xn rfl ?_
        refine at_xt ?_
        refine at_xb ?_
        refine at_then ?_
        refine at_seq ?_
        refine at_region [0, 1] rfl ?_
        iterate 2 refine at_s T rfl ?_
        refine at_end ?_
        refine at_sub [(6, (.slice a2 (List.length x3) n2))] ⟨rfl, trivial⟩ ?_
        refine at_then ?_
        refine at_ret ?_
        obtain rfl := Option.some.inj Z2
        exact at_post (T := T) rfl (.tmp rfl .nil) (fun w o => ⟨⟨(_, _), ⟨a2, n2, H2, s2, rfl, rfl⟩⟩, rfl, own_to [1, 0] rfl o⟩)
  · replace H := if_f (bf c1) H
    refine at_skip ?_
    refine at_then ?_
    refine at_seq ?_
    refine at_seq ?_
    refine at_region [0, 1] rfl ?_
    iterate 2 refine at_s T rfl ?_
    refine at_end ?_
    refine at_sub [(0, (.int .i64 tw)), (1, (.int .i64 th)), (7, (.slice none 0 0)), (8, (.int .i64 0)), (11, (.int .i64 side)), (14, (.bool (side == 0)))] ⟨rfl, rfl, rfl, rfl, rfl, rfl, trivial⟩ ?_
    refine at_then ?_
    refine at_cond rfl (fun c5 => ?_) (fun c5 => ?_)
    · replace H := if_t c5 H
      refine at_exit ?_
      refine at_xt ?_
      refine at_xt ?_
      refine at_xn rfl ?_
      refine at_xt ?_
      refine at_xb ?_
      refine at_then ?_
      refine at_seq ?_
      refine at_seq ?_
      refine at_region [0, 1] rfl ?_
      iterate 2 refine at_s T rfl ?_
      refine at_end ?_
      refine at_sub [(7, (.slice none 0 0)), (8, (.int .i64 0)), (24, (.int .i64 tw)), (25, (.int .i64 0))] ⟨rfl, rfl, rfl, rfl, trivial⟩ ?_
      refine at_then ?_
      refine at_block ?_
      refine at_addnil ?_
      refine at_loopL (σ := Nat × List Int × Int × Option Addr × Nat × Hp) (fun ⟨k10, x8, x9, a6, n6, H6⟩ => border_along.l1 k10 tw x8 x9 = some r ∧ SliceO (Fl.int .i64) 3 x8 a6 n6 H6) (fun ⟨k10, x8, x9, a6, n6, H6⟩ => [(7, (.slice a6 (List.length x8) n6)), (8, (.int .i64 0)), (24, (.int .i64 tw)), (25, (.int .i64 x9))]) (fun ⟨k10, x8, x9, a6, n6, H6⟩ => [F, H6]) (fun s => s.1) (fuel, [], 0, none, 0, []) [0, 0] ⟨H, SliceO.nil⟩ ⟨rfl, rfl, rfl, rfl, trivial⟩ rfl ?_
      rintro ⟨k10, x8, x9, a6, n6, H6⟩ ⟨Z6, s6⟩
      replace Z6 : border_along.l1 k10 tw x8 x9 = some r := Z6
      rcases k10 with _ | k10
      · rw [border_along.l1] at Z6; cases Z6
      · rw [border_along.l1] at Z6
        refine at_seq ?_
        refine at_region [0] rfl ?_
        refine at_s T rfl ?_
        refine at_end ?_
        refine at_sub [(7, (.slice a6 (List.length x8) n6)), (8, (.int .i64 0)), (24, (.int .i64 tw)), (25, (.int .i64 x9)), (26, (.bool (decide (x9 < tw))))] ⟨rfl, rfl, rfl, rfl, rfl, trivial⟩ ?_
        refine at_then ?_
        refine at_seq ?_
        refine at_cond rfl (fun c7 => ?_) (fun c7 => ?_)
        · replace Z6 := if_t (of_decide_eq_true c7) Z6
          refine at_skip ?_
          refine at_then ?_
          refine at_seq ?_
          refine at_block ?_
          refine at_seq ?_
          refine at_region [0, 1] rfl ?_
          iterate 2 refine at_s T rfl ?_
          refine at_end ?_
          refine at_sub [(7, (.slice a6 (List.length x8) n6)), (8, (.int .i64 0)), (9, (.int .i64 x9)), (24, (.int .i64 tw)), (25, (.int .i64 x9))] ⟨rfl, rfl, rfl, rfl, rfl, trivial⟩ ?_
          refine at_then ?_
          refine at_region [0, 1, 2, 3, 4, 5, 6] rfl ?_
          iterate 4 refine at_s T rfl ?_
          refine at_cons (at_bs (k := (Fl.int .i64)) T [(w64 (0 + x9))] rfl rfl rfl rfl rfl rfl rfl rfl rfl (fun a7 H7 s7 => ?_))
          obtain ⟨c8, Z6⟩ := chk_e Z6
          refine at_cons (at_ap (k := (Fl.int .i64)) (xs := x8) T (g := 1) rfl rfl rfl rfl rfl rfl rfl rfl rfl rfl s6 (own_of s7 (j := 2) rfl) c8 rfl (fun a8 n8 H8 s8 => ?_))
          refine at_s T rfl ?_
          refine at_end ?_
          refine at_to [(7, (.slice a8 (List.length (x8 ++ [(w64 (0 + x9))])) n8)), (8, (.int .i64 0)), (24, (.int .i64 tw)), (25, (.int .i64 x9))] [0, 0] [F, H8] ⟨rfl, rfl, rfl, rfl, trivial⟩ rfl ?_
          refine at_nb ?_
          refine at_then ?_
          refine at_region [0, 1] rfl ?_
          iterate 2 refine at_s T rfl ?_
          refine at_end ?_
          refine at_sub [(7, (.slice a8 (List.length (x8 ++ [(w64 (0 + x9))])) n8)), (8, (.int .i64 0)), (24, (.int .i64 tw)), (25, (.int .i64 (w64 (x9 + 1))))] ⟨rfl, rfl, rfl, rfl, trivial⟩ ?_
          refine at_then ?_
          exact at_roundL (k10, (x8 ++ [(w64 (0 + x9))]), (w64 (x9 + 1)), a8, n8, H8) [0, 0] ⟨Z6, s8⟩ (Nat.lt_succ_self _) ⟨rfl, rfl, rfl, rfl, trivial⟩ rfl
        · replace Z6 := if_f (of_decide_eq_false c7) Z6
          refine at_exit ?_
          refine at_xt ?_
          refine at_xt ?_
          refine at_xb ?_
          refine at_then ?_
          refine at_exit ?_
          refine at_xn rfl ?_
          refine at_xt ?_
          refine at_xn rfl ?_
          refine at_xt ?_
          refine at_xb ?_
          refine at_then ?_
          refine at_seq ?_
          refine at_region [0, 1] rfl ?_
          iterate 2 refine at_s T rfl ?_
          refine at_end ?_
          refine at_sub [(6, (.slice a6 (List.length x8) n6))] ⟨rfl, trivial⟩ ?_
          refine at_then ?_
          refine at_ret ?_
          obtain rfl := Option.some.inj Z6
          exact at_post (T := T) rfl (.tmp rfl .nil) (fun w o => ⟨⟨(_, _), ⟨a6, n6, H6, s6, rfl, rfl⟩⟩, rfl, own_to [1, 0] rfl o⟩)
    · replace H := if_f (bf c5) H
      refine at_skip ?_
      refine at_then ?_
      refine at_seq ?_
      refine at_seq ?_
      refine at_region [0, 1] rfl ?_
      iterate 2 refine at_s T rfl ?_
      refine at_end ?_
      refine at_sub [(0, (.int .i64 tw)), (1, (.int .i64 th)), (7, (.slice none 0 0)), (8, (.int .i64 0)), (11, (.int .i64 side)), (16, (.bool (side == 1)))] ⟨rfl, rfl, rfl, rfl, rfl, rfl, trivial⟩ ?_
      refine at_then ?_
      refine at_cond rfl (fun c9 => ?_) (fun c9 => ?_)
      · replace H := if_t c9 H
        refine at_exit ?_
        refine at_xt ?_
        refine at_xt ?_
        refine at_xn rfl ?_
        refine at_xt ?_
        refine at_xn rfl ?_
        refine at_xt ?_
        refine at_xb ?_
        refine at_then ?_
        refine at_region [0, 1, 2] rfl ?_
        iterate 3 refine at_s T rfl ?_
        refine at_end ?_
        refine at_sub [(0, (.int .i64 tw)), (1, (.int .i64 th)), (7, (.slice none 0 0)), (8, (.int .i64 (w64 (tw - 1))))] ⟨rfl, rfl, rfl, rfl, trivial⟩ ?_
        refine at_nb ?_
        refine at_then ?_
        refine at_seq ?_
        refine at_seq ?_
        refine at_region [0, 1] rfl ?_
        iterate 2 refine at_s T rfl ?_
        refine at_end ?_
        refine at_sub [(0, (.int .i64 tw)), (7, (.slice none 0 0)), (8, (.int .i64 (w64 (tw - 1)))), (37, (.int .i64 th)), (38, (.int .i64 0))] ⟨rfl, rfl, rfl, rfl, rfl, trivial⟩ ?_
        refine at_then ?_
        refine at_block ?_
        refine at_addnil ?_
        refine at_loopL (σ := Nat × List Int × Int × Option Addr × Nat × Hp) (fun ⟨k15, x13, x14, a10, n10, H10⟩ => border_along.l2 k15 tw th x13 x14 = some r ∧ SliceO (Fl.int .i64) 3 x13 a10 n10 H10) (fun ⟨k15, x13, x14, a10, n10, H10⟩ => [(0, (.int .i64 tw)), (7, (.slice a10 (List.length x13) n10)), (8, (.int .i64 (w64 (tw - 1)))), (37, (.int .i64 th)), (38, (.int .i64 x14))]) (fun ⟨k15, x13, x14, a10, n10, H10⟩ => [F, H10]) (fun s => s.1) (fuel, [], 0, none, 0, []) [0, 0] ⟨H, SliceO.nil⟩ ⟨rfl, rfl, rfl, rfl, rfl, trivial⟩ rfl ?_
        rintro ⟨k15, x13, x14, a10, n10, H10⟩ ⟨Z10, s10⟩
        replace Z10 : border_along.l2 k15 tw th x13 x14 = some r := Z10
        rcases k15 with _ | k15
        · rw [border_along.l2] at Z10; cases Z10
        · rw [border_along.l2] at Z10
          refine at_seq ?_
          refine at_region [0] rfl ?_
          refine at_s T rfl ?_
          refine at_end ?_
          refine at_sub [(0, (.int .i64 tw)), (7, (.slice a10 (List.length x13) n10)), (8, (.int .i64 (w64 (tw - 1)))), (37, (.int .i64 th)), (38, (.int .i64 x14)), (39, (.bool (decide (x14 < th))))] ⟨rfl, rfl, rfl, rfl, rfl, rfl, trivial⟩ ?_
          refine at_then ?_
          refine at_seq ?_
          refine at_cond rfl (fun c11 => ?_) (fun c11 => ?_)
          · replace Z10 := if_t (of_decide_eq_true c11) Z10
            refine at_skip ?_
            refine at_then ?_
            refine at_seq ?_
            refine at_block ?_
            refine at_seq ?_
            refine at_region [0, 1] rfl ?_
            iterate 2 refine at_s T rfl ?_
            refine at_end ?_
            refine at_sub [(0, (.int .i64 tw)), (7, (.slice a10 (List.length x13) n10)), (8, (.int .i64 (w64 (tw - 1)))), (10, (.int .i64 x14)), (37, (.int .i64 th)), (38, (.int .i64 x14))] ⟨rfl, rfl, rfl, rfl, rfl, rfl, trivial⟩ ?_
            refine at_then ?_
            refine at_region [0, 1, 2, 3, 4, 5, 6, 7, 8] rfl ?_
            iterate 6 refine at_s T rfl ?_
            refine at_cons (at_bs (k := (Fl.int .i64)) T [(w64 ((w64 (tw - 1)) + (w64 (x14 * tw))))] rfl rfl rfl rfl rfl rfl rfl rfl rfl (fun a11 H11 s11 => ?_))
            obtain ⟨c12, Z10⟩ := chk_e Z10
            refine at_cons (at_ap (k := (Fl.int .i64)) (xs := x13) T (g := 1) rfl rfl rfl rfl rfl rfl rfl rfl rfl rfl s10 (own_of s11 (j := 2) rfl) c12 rfl (fun a12 n12 H12 s12 => ?_))
            refine at_s T rfl ?_
            refine at_end ?_
            refine at_to [(0, (.int .i64 tw)), (7, (.slice a12 (List.length (x13 ++ [(w64 ((w64 (tw - 1)) + (w64 (x14 * tw))))])) n12)), (8, (.int .i64 (w64 (tw - 1)))), (37, (.int .i64 th)), (38, (.int .i64 x14))] [0, 0] [F, H12] ⟨rfl, rfl, rfl, rfl, rfl, trivial⟩ rfl ?_
            refine at_nb ?_
            refine at_then ?_
            refine at_region [0, 1] rfl ?_
            iterate 2 refine at_s T rfl ?_
            refine at_end ?_
            refine at_sub [(0, (.int .i64 tw)), (7, (.slice a12 (List.length (x13 ++ [(w64 ((w64 (tw - 1)) + (w64 (x14 * tw))))])) n12)), (8, (.int .i64 (w64 (tw - 1)))), (37, (.int .i64 th)), (38, (.int .i64 (w64 (x14 + 1))))] ⟨rfl, rfl, rfl, rfl, rfl, trivial⟩ ?_
            refine at_then ?_
            exact at_roundL (k15, (x13 ++ [(w64 ((w64 (tw - 1)) + (w64 (x14 * tw))))]), (w64 (x14 + 1)), a12, n12, H12) [0, 0] ⟨Z10, s12⟩ (Nat.lt_succ_self _) ⟨rfl, rfl, rfl, rfl, rfl, trivial⟩ rfl
          · replace Z10 := if_f (of_decide_eq_false c11) Z10
            refine at_exit ?_
            refine at_xt ?_
            refine at_xt ?_
            refine at_xb ?_
            refine at_then ?_
            refine at_exit ?_
            refine at_xb ?_
            refine at_then ?_
            refine at_seq ?_
            refine at_region [0, 1] rfl ?_
            iterate 2 refine at_s T rfl ?_
            refine at_end ?_
            refine at_sub [(6, (.slice a10 (List.length x13) n10))] ⟨rfl, trivial⟩ ?_
            refine at_then ?_
            refine at_ret ?_
            obtain rfl := Option.some.inj Z10
            exact at_post (T := T) rfl (.tmp rfl .nil) (fun w o => ⟨⟨(_, _), ⟨a10, n10, H10, s10, rfl, rfl⟩⟩, rfl, own_to [1, 0] rfl o⟩)
      · replace H := if_f (bf c9) H
        refine at_skip ?_
        refine at_then ?_
        refine at_seq ?_
        refine at_region [0, 1] rfl ?_
        iterate 2 refine at_s T rfl ?_
        refine at_end ?_
        refine at_sub [(0, (.int .i64 tw)), (1, (.int .i64 th)), (7, (.slice none 0 0)), (8, (.int .i64 0)), (18, (.bool (side == 3)))] ⟨rfl, rfl, rfl, rfl, rfl, trivial⟩ ?_
        refine at_then ?_
        refine at_cond rfl (fun c13 => ?_) (fun c13 => ?_)
        · replace H := if_t c13 H
          refine at_exit ?_
          refine at_xt ?_
          refine at_xn rfl ?_
          refine at_xt ?_
          refine at_xn rfl ?_
          refine at_xt ?_
          refine at_xn rfl ?_
          refine at_xt ?_
          refine at_xb ?_
          refine at_then ?_
          refine at_seq ?_
          refine at_seq ?_
          refine at_region [0, 1] rfl ?_
          iterate 2 refine at_s T rfl ?_
          refine at_end ?_
          refine at_sub [(0, (.int .i64 tw)), (7, (.slice none 0 0)), (8, (.int .i64 0)), (37, (.int .i64 th)), (38, (.int .i64 0))] ⟨rfl, rfl, rfl, rfl, rfl, trivial⟩ ?_
          refine at_then ?_
          refine at_block ?_
          refine at_addnil ?_
          refine at_loopL (σ := Nat × List Int × Int × Option Addr × Nat × Hp) (fun ⟨k20, x18, x19, a14, n14, H14⟩ => border_along.l3 k20 tw th x18 x19 = some r ∧ SliceO (Fl.int .i64) 3 x18 a14 n14 H14) (fun ⟨k20, x18, x19, a14, n14, H14⟩ => [(0, (.int .i64 tw)), (7, (.slice a14 (List.length x18) n14)), (8, (.int .i64 0)), (37, (.int .i64 th)), (38, (.int .i64 x19))]) (fun ⟨k20, x18, x19, a14, n14, H14⟩ => [F, H14]) (fun s => s.1) (fuel, [], 0, none, 0, []) [0, 0] ⟨H, SliceO.nil⟩ ⟨rfl, rfl, rfl, rfl, rfl, trivial⟩ rfl ?_
          rintro ⟨k20, x18, x19, a14, n14, H14⟩ ⟨Z14, s14⟩
          replace Z14 : border_along.l3 k20 tw th x18 x19 = some r := Z14
          rcases k20 with _ | k20
          · rw [border_along.l3] at Z14; cases Z14
          · rw [border_along.l3] at Z14
            refine at_seq ?_
            refine at_region [0] rfl ?_
            refine at_s T rfl ?_
            refine at_end ?_
            refine at_sub [(0, (.int .i64 tw)), (7, (.slice a14 (List.length x18) n14)), (8, (.int .i64 0)), (37, (.int .i64 th)), (38, (.int .i64 x19)), (39, (.bool (decide (x19 < th))))] ⟨rfl, rfl, rfl, rfl, rfl, rfl, trivial⟩ ?_
            refine at_then ?_
            refine at_seq ?_
            refine at_cond rfl (fun c15 => ?_) (fun c15 => ?_)
            · replace Z14 := if_t (of_decide_eq_true c15) Z14
              refine at_skip ?_
              refine at_then ?_
              refine at_seq ?_
              refine at_block ?_
              refine at_seq ?_
              refine at_region [0, 1] rfl ?_
              iterate 2 refine at_s T rfl ?_
              refine at_end ?_
              refine at_sub [(0, (.int .i64 tw)), (7, (.slice a14 (List.length x18) n14)), (8, (.int .i64 0)), (10, (.int .i64 x19)), (37, (.int .i64 th)), (38, (.int .i64 x19))] ⟨rfl, rfl, rfl, rfl, rfl, rfl, trivial⟩ ?_
              refine at_then ?_
              refine at_region [0, 1, 2, 3, 4, 5, 6, 7, 8] rfl ?_
              iterate 6 refine at_s T rfl ?_
              refine at_cons (at_bs (k := (Fl.int .i64)) T [(w64 (0 + (w64 (x19 * tw))))] rfl rfl rfl rfl rfl rfl rfl rfl rfl (fun a15 H15 s15 => ?_))
              obtain ⟨c16, Z14⟩ := chk_e Z14
              refine at_cons (at_ap (k := (Fl.int .i64)) (xs := x18) T (g := 1) rfl rfl rfl rfl rfl rfl rfl rfl rfl rfl s14 (own_of s15 (j := 2) rfl) c16 rfl (fun a16 n16 H16 s16 => ?_))
              refine at_s T rfl ?_
              refine at_end ?_
              refine at_to [(0, (.int .i64 tw)), (7, (.slice a16 (List.length (x18 ++ [(w64 (0 + (w64 (x19 * tw))))])) n16)), (8, (.int .i64 0)), (37, (.int .i64 th)), (38, (.int .i64 x19))] [0, 0] [F, H16] ⟨rfl, rfl, rfl, rfl, rfl, trivial⟩ rfl ?_
              refine at_nb ?_
              refine at_then ?_
              refine at_region [0, 1] rfl ?_
              iterate 2 refine at_s T rfl ?_
              refine at_end ?_
              refine at_sub [(0, (.int .i64 tw)), (7, (.slice a16 (List.length (x18 ++ [(w64 (0 + (w64 (x19 * tw))))])) n16)), (8, (.int .i64 0)), (37, (.int .i64 th)), (38, (.int .i64 (w64 (x19 + 1))))] ⟨rfl, rfl, rfl, rfl, rfl, trivial⟩ ?_
              refine at_then ?_
              exact at_roundL (k20, (x18 ++ [(w64 (0 + (w64 (x19 * tw))))]), (w64 (x19 + 1)), a16, n16, H16) [0, 0] ⟨Z14, s16⟩ (Nat.lt_succ_self _) ⟨rfl, rfl, rfl, rfl, rfl, trivial⟩ rfl
            · replace Z14 := if_f (of_decide_eq_false c15) Z14
              refine at_exit ?_
              refine at_xt ?_
              refine at_xt ?_
              refine at_xb ?_
              refine at_then ?_
              refine at_exit ?_
              refine at_xb ?_
              refine at_then ?_
              refine at_seq ?_
              refine at_region [0, 1] rfl ?_
              iterate 2 refine at_s T rfl ?_
              refine at_end ?_
              refine at_sub [(6, (.slice a14 (List.length x18) n14))] ⟨rfl, trivial⟩ ?_
              refine at_then ?_
              refine at_ret ?_
              obtain rfl := Option.some.inj Z14
              exact at_post (T := T) rfl (.tmp rfl .nil) (fun w o => ⟨⟨(_, _), ⟨a14, n14, H14, s14, rfl, rfl⟩⟩, rfl, own_to [1, 0] rfl o⟩)
        · replace H := if_f (bf c13) H
          refine at_skip ?_
          refine at_then ?_
          refine at_exit ?_
          refine at_xn rfl ?_
          refine at_xt ?_
          refine at_xn rfl ?_
          refine at_xt ?_
          refine at_xn rfl ?_
          refine at_xt ?_
          refine at_xn rfl ?_
          refine at_xt ?_
          refine at_xb ?_
          refine at_then ?_
          refine at_seq ?_
          refine at_region [0, 1] rfl ?_
          iterate 2 refine at_s T rfl ?_
          refine at_end ?_
          refine at_sub [(6, (.slice none 0 0))] ⟨rfl, trivial⟩ ?_
          refine at_then ?_
          refine at_ret ?_
          obtain rfl := Option.some.inj H
          refine at_addnil ?_
          exact at_post (T := T) rfl (.tmp rfl .nil) (fun w o => ⟨⟨(_, _), ⟨none, 0, [], SliceO.nil, rfl, rfl⟩⟩, rfl, own_to [1, 0] rfl o⟩)

/-! ### herdsman/border.over: function 59 -/
def border_over.f (w : Int) (h : Int) (cell : Int) (side : Int) : Option Int := (where_Step.f w h cell side).bind fun v1 => (if v1 < 0 then (some true) else ((where_Sector.f w h v1).bind fun v4 => (where_Sector.f w h cell).bind fun v5 => some (v4 == v5))).bind fun x2 => if x2 = true then (some (-1)) else (some v1)
set_option maxHeartbeats 4000000 in
theorem border_over.c (w : Int) (h : Int) (cell : Int) (side : Int) (r : Int) (F : Hp) (H : border_over.f w h cell side = some r) :
    CallsL Try.prog 59 [(.int .i64 w), (.int .i64 h), (.int .i64 cell), (.int .i64 side)] [F] (fun _ : Unit => (.int .i64 r)) (fun _ => [F]) := by
  unfold border_over.f at H
  refine calls_atL [(0, (.int .i64 w)), (1, (.int .i64 h)), (2, (.int .i64 cell)), (3, (.int .i64 side))] Try.func59 rfl rfl ⟨rfl, rfl, rfl, rfl, trivial⟩ (fun W => ?_)
  refine at_seq ?_
  refine at_region [0] rfl ?_
  refine at_s T rfl ?_
  refine at_end ?_
  refine at_sub [(0, (.int .i64 w)), (1, (.int .i64 h)), (2, (.int .i64 cell)), (3, (.int .i64 side))] ⟨rfl, rfl, rfl, rfl, trivial⟩ ?_
  refine at_then ?_
  refine at_seq ?_
  refine at_region [0, 1, 2, 3, 4, 5] rfl ?_
  iterate 4 refine at_s T rfl ?_
  obtain ⟨v1, V1, H⟩ := bind_e H
  refine at_cons (at_c (B := fun _ => []) [] rfl rfl rfl rfl has68 rfl rfl (where_Step.c w h cell side v1 _ V1) (fun _ => ?_))
  refine at_s T rfl ?_
  refine at_end ?_
  refine at_sub [(0, (.int .i64 w)), (1, (.int .i64 h)), (2, (.int .i64 cell)), (9, (.int .i64 v1))] ⟨rfl, rfl, rfl, rfl, trivial⟩ ?_
  refine at_then ?_
  refine at_seq ?_
  obtain ⟨z3, Z2, H⟩ := bind_e H
  refine at_seq_mid (σ := Bool) (fun x2 => x2 = z3) (fun x2 => [(9, (.int .i64 v1)), (27, (.bool x2))]) (fun x2 => [F]) ?_ ?_
  · refine at_region [0, 1, 2, 3, 4, 5, 6, 7, 8, 9, 10, 11, 12] rfl ?_
    iterate 3 refine at_s T rfl ?_
    refine at_case (s := 17) rfl (fun c3 => ?_) (fun c3 => ?_)
    · replace Z2 := if_t (of_decide_eq_true c3) Z2
      iterate 10 refine at_s T rfl ?_
      refine at_end ?_
      refine at_sub [(9, (.int .i64 v1)), (27, (.bool true))] ⟨rfl, rfl, trivial⟩ ?_
      refine at_then ?_
      obtain rfl := Option.some.inj Z2
      exact at_mid true [0] rfl ⟨rfl, rfl, trivial⟩ rfl
    · replace Z2 := if_f (of_decide_eq_false c3) Z2
      iterate 3 refine at_s T rfl ?_
      obtain ⟨v4, V4, Z2⟩ := bind_e Z2
      refine at_cons (at_c (B := fun _ => []) [] rfl rfl rfl rfl has31 rfl rfl (where_Sector.c w h v1 v4 _ V4) (fun _ => ?_))
      iterate 3 refine at_s T rfl ?_
      obtain ⟨v5, V5, Z2⟩ := bind_e Z2
      refine at_cons (at_c (B := fun _ => []) [] rfl rfl rfl rfl has31 rfl rfl (where_Sector.c w h cell v5 _ V5) (fun _ => ?_))
      iterate 2 refine at_s T rfl ?_
      refine at_end ?_
      refine at_sub [(9, (.int .i64 v1)), (27, (.bool (v4 == v5)))] ⟨rfl, rfl, trivial⟩ ?_
      refine at_then ?_
      obtain rfl := Option.some.inj Z2
      exact at_mid (v4 == v5) [0] rfl ⟨rfl, rfl, trivial⟩ rfl
  · rintro x2 rfl
    refine at_cond rfl (fun c6 => ?_) (fun c6 => ?_)
    · replace H := if_t c6 H
      refine at_seq ?_
      refine at_region [0] rfl ?_
      refine at_s T rfl ?_
      refine at_end ?_
      refine at_sub [(8, (.int .i64 (-1)))] ⟨rfl, trivial⟩ ?_
      refine at_then ?_
      refine at_ret ?_
      refine at_rt ?_
      obtain rfl := Option.some.inj H
      exact at_post (T := T) rfl (.tmp rfl .nil) (fun w o => ⟨(), rfl, own_to [0] rfl o⟩)
    · replace H := if_f (bf c6) H
      refine at_skip ?_
      refine at_then ?_
      refine at_seq ?_
      refine at_region [0, 1] rfl ?_
      iterate 2 refine at_s T rfl ?_
      refine at_end ?_
      refine at_sub [(8, (.int .i64 v1))] ⟨rfl, trivial⟩ ?_
      refine at_then ?_
      refine at_ret ?_
      obtain rfl := Option.some.inj H
      exact at_post (T := T) rfl (.tmp rfl .nil) (fun w o => ⟨(), rfl, own_to [0] rfl o⟩)

/-! ### herdsman/border.Cells: function 21 -/
def border_Cells.l2 : Nat → Int → Int → Int → List Bool → List Int → Int → Option (List Int)
  | 0, _, _, _, _, _, _ => none
  | k24 + 1, w, h, sector, x5, x22, x23 => if x23 < (List.length x5 : Int) then (if (0 ≤ x23 ∧ x23 < (List.length x5 : Int)) then (if (rd x5 x23) = true then ((where_Global.f w h sector x23).bind fun v25 => if (List.length x22 + 1 ≤ 1099511627776) then (border_Cells.l2 k24 w h sector x5 (x22 ++ [v25]) (w64 (x23 + 1))) else none) else (border_Cells.l2 k24 w h sector x5 x22 (w64 (x23 + 1)))) else none) else (some x22)
def border_Cells.l1 : Nat → (List Int) → List Bool → Int → Option (List Bool)
  | 0, _, _, _ => none
  | k19 + 1, v10, x17, x18 => if x18 < (List.length v10 : Int) then (if (0 ≤ x18 ∧ x18 < (List.length v10 : Int)) then (if (0 ≤ (rd v10 x18) ∧ (rd v10 x18) < (List.length x17 : Int)) then (border_Cells.l1 k19 v10 (List.set x17 (Int.toNat (rd v10 x18)) true) (w64 (x18 + 1))) else none) else none) else (some x17)
def border_Cells.l0 : Nat → Int → Int → Int → (Int × Int) → (List Int) → List Bool → Int → Option (List Int)
  | 0, _, _, _, _, _, _, _ => none
  | k7 + 1, w, h, sector, v1, v2, x5, x6 => if x6 < 4 then ((if (0 ≤ x6 ∧ x6 < (List.length [(rd v2 0), (rd v2 1), (rd v2 2), (rd v2 3)] : Int)) then ((border_along.f v1.1 v1.2 (rd [(rd v2 0), (rd v2 1), (rd v2 2), (rd v2 3)] x6)).bind fun v10 => (if ((List.length v10 : Int) == 0) = true then (some true) else (if (0 ≤ (0 : Int) ∧ (0 : Int) < (List.length v10 : Int)) then ((where_Global.f w h sector (rd v10 0)).bind fun v13 => (border_over.f w h v13 (rd [(rd v2 0), (rd v2 1), (rd v2 2), (rd v2 3)] x6)).bind fun v14 => some (decide (v14 < 0))) else none)).bind fun x11 => if x11 = true then (some x5) else (border_Cells.l1 fuel v10 x5 0)) else none).bind fun x8 => border_Cells.l0 k7 w h sector v1 v2 x8 (w64 (x6 + 1))) else (border_Cells.l2 fuel w h sector x5 [] 0)
def border_Cells.f (w : Int) (h : Int) (sector : Int) : Option (List Int) := (where_Size.f w h sector).bind fun v1 => if (0 ≤ (w64 (v1.1 * v1.2)) ∧ (w64 (v1.1 * v1.2)) ≤ 1099511627776) then ((border_sides.f).bind fun v2 => border_Cells.l0 fuel w h sector v1 v2 (List.replicate (Int.toNat (w64 (v1.1 * v1.2))) false) 0) else none
def border_Cells.R (r : (List Int)) (u : Value) (G : List Hp) : Prop := ∃ (a0 : Option Addr) (n0 : Nat) (H0 : Hp), SliceO (Fl.int .i64) 3 r a0 n0 H0 ∧ u = (.slice a0 (List.length r) n0) ∧ G = [H0]
set_option maxHeartbeats 4000000 in
theorem border_Cells.c (w : Int) (h : Int) (sector : Int) (r : (List Int)) (F : Hp) (H : border_Cells.f w h sector = some r) :
    CallsL Try.prog 21 [(.int .i64 w), (.int .i64 h), (.int .i64 sector)] [F] (fun p : { p : Value × List Hp // border_Cells.R r p.1 p.2 } => p.1.1) (fun p => (p.1.2 ++ []) ++ [F]) := by
  unfold border_Cells.f at H
  refine calls_atL [(0, (.int .i64 w)), (1, (.int .i64 h)), (2, (.int .i64 sector))] Try.func21 rfl rfl ⟨rfl, rfl, rfl, trivial⟩ (fun W => ?_)
  refine at_seq ?_
  refine at_region [0] rfl ?_
  refine at_s T rfl ?_
  refine at_end ?_
  refine at_sub [(0, (.int .i64 w)), (1, (.int .i64 h)), (2, (.int .i64 sector))] ⟨rfl, rfl, rfl, trivial⟩ ?_
  refine at_then ?_
  refine at_seq ?_
  refine at_region [0, 1, 2, 3, 4, 5, 6, 7, 8] rfl ?_
  iterate 3 refine at_s T rfl ?_
  obtain ⟨v1, V1, H⟩ := bind_e H
  refine at_cons (at_c (B := fun _ => []) [] rfl rfl rfl rfl has56 rfl rfl (where_Size.c w h sector v1 _ V1) (fun _ => ?_))
  iterate 5 refine at_s T rfl ?_
  refine at_end ?_
  refine at_sub [(0, (.int .i64 w)), (1, (.int .i64 h)), (2, (.int .i64 sector)), (7, (.int .i64 v1.1)), (8, (.int .i64 v1.2))] ⟨rfl, rfl, rfl, rfl, rfl, trivial⟩ ?_
  refine at_then ?_
  refine at_seq ?_
  refine at_region [0, 1, 2, 3, 4] rfl ?_
  iterate 3 refine at_s T rfl ?_
  obtain ⟨c2, H⟩ := chk_e H
  refine at_cons (at_mk (k := Fl.bool) T false rfl rfl rfl rfl rfl rfl rfl rfl c2 rfl (fun a1 n1 H1 s1 => ?_))
  refine at_s T rfl ?_
  refine at_end ?_
  refine at_sub [(0, (.int .i64 w)), (1, (.int .i64 h)), (2, (.int .i64 sector)), (7, (.int .i64 v1.1)), (8, (.int .i64 v1.2)), (9, (.slice a1 (List.length (List.replicate (Int.toNat (w64 (v1.1 * v1.2))) false)) n1))] ⟨rfl, rfl, rfl, rfl, rfl, rfl, trivial⟩ ?_
  refine at_then ?_
  refine at_seq ?_
  refine at_seq ?_
  refine at_region [0, 1] rfl ?_
  obtain ⟨v2, V3, H⟩ := bind_e H
  refine at_cons (at_c (B := fun _ => []) [] rfl rfl rfl rfl has57 rfl rfl (border_sides.c  v2 _ V3) (fun _ => ?_))
  refine at_s T rfl ?_
  refine at_end ?_
  refine at_sub [(0, (.int .i64 w)), (1, (.int .i64 h)), (2, (.int .i64 sector)), (7, (.int .i64 v1.1)), (8, (.int .i64 v1.2)), (9, (.slice a1 (List.length (List.replicate (Int.toNat (w64 (v1.1 * v1.2))) false)) n1)), (29, (.agg #[(.int .i64 (rd v2 0)), (.int .i64 (rd v2 1)), (.int .i64 (rd v2 2)), (.int .i64 (rd v2 3))])), (30, (.int .i64 0))] ⟨rfl, rfl, rfl, rfl, rfl, rfl, rfl, rfl, trivial⟩ ?_
  refine at_then ?_
  refine at_block ?_
  refine at_loopL (σ := Nat × List Bool × Int × Option Addr × Nat × Hp) (fun ⟨k7, x5, x6, a3, n3, H3⟩ => border_Cells.l0 k7 w h sector v1 v2 x5 x6 = some r ∧ SliceO Fl.bool 4 x5 a3 n3 H3) (fun ⟨k7, x5, x6, a3, n3, H3⟩ => [(0, (.int .i64 w)), (1, (.int .i64 h)), (2, (.int .i64 sector)), (7, (.int .i64 v1.1)), (8, (.int .i64 v1.2)), (9, (.slice a3 (List.length x5) n3)), (29, (.agg #[(.int .i64 (rd v2 0)), (.int .i64 (rd v2 1)), (.int .i64 (rd v2 2)), (.int .i64 (rd v2 3))])), (30, (.int .i64 x6))]) (fun ⟨k7, x5, x6, a3, n3, H3⟩ => [F, H3]) (fun s => s.1) (fuel, (List.replicate (Int.toNat (w64 (v1.1 * v1.2))) false), 0, a1, n1, H1) [0, 0] ⟨H, s1⟩ ⟨rfl, rfl, rfl, rfl, rfl, rfl, rfl, rfl, trivial⟩ rfl ?_
  rintro ⟨k7, x5, x6, a3, n3, H3⟩ ⟨Z4, s3⟩
  replace Z4 : border_Cells.l0 k7 w h sector v1 v2 x5 x6 = some r := Z4
  rcases k7 with _ | k7
  · rw [border_Cells.l0] at Z4; cases Z4
  · rw [border_Cells.l0] at Z4
    refine at_seq ?_
    refine at_region [0] rfl ?_
    refine at_s T rfl ?_
    refine at_end ?_
    refine at_sub [(0, (.int .i64 w)), (1, (.int .i64 h)), (2, (.int .i64 sector)), (7, (.int .i64 v1.1)), (8, (.int .i64 v1.2)), (9, (.slice a3 (List.length x5) n3)), (29, (.agg #[(.int .i64 (rd v2 0)), (.int .i64 (rd v2 1)), (.int .i64 (rd v2 2)), (.int .i64 (rd v2 3))])), (30, (.int .i64 x6)), (31, (.bool (decide (x6 < 4))))] ⟨rfl, rfl, rfl, rfl, rfl, rfl, rfl, rfl, rfl, trivial⟩ ?_
    refine at_then ?_
    refine at_seq ?_
    refine at_cond rfl (fun c5 => ?_) (fun c5 => ?_)
    · replace Z4 := if_t (of_decide_eq_true c5) Z4
      refine at_skip ?_
      refine at_then ?_
      obtain ⟨z9, Z6, Z4⟩ := bind_e Z4
      refine at_seq_mid (σ := List Bool × Option Addr × Nat × Hp) (fun ⟨x8, a4, n4, H4⟩ => x8 = z9 ∧ SliceO Fl.bool 4 x8 a4 n4 H4) (fun ⟨x8, a4, n4, H4⟩ => [(0, (.int .i64 w)), (1, (.int .i64 h)), (2, (.int .i64 sector)), (7, (.int .i64 v1.1)), (8, (.int .i64 v1.2)), (9, (.slice a4 (List.length x8) n4)), (29, (.agg #[(.int .i64 (rd v2 0)), (.int .i64 (rd v2 1)), (.int .i64 (rd v2 2)), (.int .i64 (rd v2 3))])), (30, (.int .i64 x6))]) (fun ⟨x8, a4, n4, H4⟩ => [F, H4]) ?_ ?_
      · refine at_block ?_
        refine at_seq ?_
        refine at_region [0, 1] rfl ?_
        obtain ⟨c7, Z6⟩ := chk_e Z6
        refine at_v rfl (g_aidx T (Fl.int .i64) [(rd v2 0), (rd v2 1), (rd v2 2), (rd v2 3)] rfl rfl rfl rfl rfl rfl rfl rfl rfl c7 rfl) ?_
        refine at_s T rfl ?_
        refine at_end ?_
        refine at_sub [(0, (.int .i64 w)), (1, (.int .i64 h)), (2, (.int .i64 sector)), (7, (.int .i64 v1.1)), (8, (.int .i64 v1.2)), (9, (.slice a3 (List.length x5) n3)), (11, (.int .i64 (rd [(rd v2 0), (rd v2 1), (rd v2 2), (rd v2 3)] x6))), (29, (.agg #[(.int .i64 (rd v2 0)), (.int .i64 (rd v2 1)), (.int .i64 (rd v2 2)), (.int .i64 (rd v2 3))])), (30, (.int .i64 x6))] ⟨rfl, rfl, rfl, rfl, rfl, rfl, rfl, rfl, rfl, trivial⟩ ?_
        refine at_then ?_
        refine at_seq ?_
        refine at_region [0, 1, 2, 3, 4] rfl ?_
        iterate 3 refine at_s T rfl ?_
        obtain ⟨v10, V8, Z6⟩ := bind_e Z6
        refine at_cons (at_cR (border_along.R v10) [] [] rfl rfl rfl rfl has58 rfl rfl (border_along.c v1.1 v1.2 (rd [(rd v2 0), (rd v2 1), (rd v2 2), (rd v2 3)] x6) v10 _ V8) ?_)
        rintro _ _ ⟨a5, n5, H5, s5, rfl, rfl⟩
        refine at_s T rfl ?_
        refine at_end ?_
        refine at_sub [(0, (.int .i64 w)), (1, (.int .i64 h)), (2, (.int .i64 sector)), (7, (.int .i64 v1.1)), (8, (.int .i64 v1.2)), (9, (.slice a3 (List.length x5) n3)), (11, (.int .i64 (rd [(rd v2 0), (rd v2 1), (rd v2 2), (rd v2 3)] x6))), (12, (.slice a5 (List.length v10) n5)), (29, (.agg #[(.int .i64 (rd v2 0)), (.int .i64 (rd v2 1)), (.int .i64 (rd v2 2)), (.int .i64 (rd v2 3))])), (30, (.int .i64 x6))] ⟨rfl, rfl, rfl, rfl, rfl, rfl, rfl, rfl, rfl, rfl, trivial⟩ ?_
        refine at_then ?_
        refine at_seq ?_
        obtain ⟨z12, Z9, Z6⟩ := bind_e Z6
        refine at_seq_mid (σ := Bool) (fun x11 => x11 = z12) (fun x11 => [(0, (.int .i64 w)), (1, (.int .i64 h)), (2, (.int .i64 sector)), (7, (.int .i64 v1.1)), (8, (.int .i64 v1.2)), (9, (.slice a3 (List.length x5) n3)), (12, (.slice a5 (List.length v10) n5)), (29, (.agg #[(.int .i64 (rd v2 0)), (.int .i64 (rd v2 1)), (.int .i64 (rd v2 2)), (.int .i64 (rd v2 3))])), (30, (.int .i64 x6)), (53, (.bool x11))]) (fun x11 => [F, H3, H5]) ?_ ?_
        · refine at_region [0, 1, 2, 3, 4, 5, 6, 7, 8, 9, 10, 11, 12, 13, 14, 15, 16] rfl ?_
          iterate 4 refine at_s T rfl ?_
          refine at_case (s := 40) rfl (fun c10 => ?_) (fun c10 => ?_)
          · replace Z9 := if_t c10 Z9
            iterate 13 refine at_s T rfl ?_
            refine at_end ?_
            refine at_sub [(0, (.int .i64 w)), (1, (.int .i64 h)), (2, (.int .i64 sector)), (7, (.int .i64 v1.1)), (8, (.int .i64 v1.2)), (9, (.slice a3 (List.length x5) n3)), (12, (.slice a5 (List.length v10) n5)), (29, (.agg #[(.int .i64 (rd v2 0)), (.int .i64 (rd v2 1)), (.int .i64 (rd v2 2)), (.int .i64 (rd v2 3))])), (30, (.int .i64 x6)), (53, (.bool true))] ⟨rfl, rfl, rfl, rfl, rfl, rfl, rfl, rfl, rfl, rfl, trivial⟩ ?_
            refine at_then ?_
            obtain rfl := Option.some.inj Z9
            exact at_mid true [0, 0, 0] rfl ⟨rfl, rfl, rfl, rfl, rfl, rfl, rfl, rfl, rfl, rfl, trivial⟩ rfl
          · replace Z9 := if_f (bf c10) Z9
            iterate 6 refine at_s T rfl ?_
            obtain ⟨c11, Z9⟩ := chk_e Z9
            obtain ⟨q6, o6, e6⟩ := s5.r.addr c11.1 c11.2
            refine at_v rfl (g_index T rfl rfl rfl rfl rfl e6 c11.1 c11.2) ?_
            refine at_v rfl (g_load T rfl rfl rfl rfl (in_elem1 (k := (Fl.int .i64)) (own_of s5 (j := 2) rfl) e6 c11 0 rfl)) ?_
            obtain ⟨v13, V12, Z9⟩ := bind_e Z9
            refine at_cons (at_c (B := fun _ => []) [] rfl rfl rfl rfl has60 rfl rfl (where_Global.c w h sector (rd v10 0) v13 _ V12) (fun _ => ?_))
            refine at_s T rfl ?_
            obtain ⟨v14, V13, Z9⟩ := bind_e Z9
            refine at_cons (at_c (B := fun _ => []) [] rfl rfl rfl rfl has59 rfl rfl (border_over.c w h v13 (rd [(rd v2 0), (rd v2 1), (rd v2 2), (rd v2 3)] x6) v14 _ V13) (fun _ => ?_))
            iterate 2 refine at_s T rfl ?_
            refine at_end ?_
            refine at_sub [(0, (.int .i64 w)), (1, (.int .i64 h)), (2, (.int .i64 sector)), (7, (.int .i64 v1.1)), (8, (.int .i64 v1.2)), (9, (.slice a3 (List.length x5) n3)), (12, (.slice a5 (List.length v10) n5)), (29, (.agg #[(.int .i64 (rd v2 0)), (.int .i64 (rd v2 1)), (.int .i64 (rd v2 2)), (.int .i64 (rd v2 3))])), (30, (.int .i64 x6)), (53, (.bool (decide (v14 < 0))))] ⟨rfl, rfl, rfl, rfl, rfl, rfl, rfl, rfl, rfl, rfl, trivial⟩ ?_
            refine at_then ?_
            obtain rfl := Option.some.inj Z9
            exact at_mid (decide (v14 < 0)) [0, 0, 0] rfl ⟨rfl, rfl, rfl, rfl, rfl, rfl, rfl, rfl, rfl, rfl, trivial⟩ rfl
        · rintro x11 rfl
          refine at_cond rfl (fun c14 => ?_) (fun c14 => ?_)
          · replace Z6 := if_t c14 Z6
            refine at_exit ?_
            refine at_xt ?_
            refine at_xb ?_
            refine at_then ?_
            obtain rfl := Option.some.inj Z6
            exact at_mid (x5, a3, n3, H3) [0, 0] ⟨rfl, s3⟩ ⟨rfl, rfl, rfl, rfl, rfl, rfl, rfl, rfl, trivial⟩ rfl
          · replace Z6 := if_f (bf c14) Z6
            refine at_skip ?_
            refine at_then ?_
            refine at_seq ?_
            refine at_region [0, 1, 2] rfl ?_
            iterate 3 refine at_s T rfl ?_
            refine at_end ?_
            refine at_sub [(0, (.int .i64 w)), (1, (.int .i64 h)), (2, (.int .i64 sector)), (7, (.int .i64 v1.1)), (8, (.int .i64 v1.2)), (9, (.slice a3 (List.length x5) n3)), (29, (.agg #[(.int .i64 (rd v2 0)), (.int .i64 (rd v2 1)), (.int .i64 (rd v2 2)), (.int .i64 (rd v2 3))])), (30, (.int .i64 x6)), (54, (.slice a5 (List.length v10) n5)), (55, (.int .i64 (List.length v10 : Int))), (56, (.int .i64 0))] ⟨rfl, rfl, rfl, rfl, rfl, rfl, rfl, rfl, rfl, rfl, rfl, trivial⟩ ?_
            refine at_then ?_
            refine at_block ?_
            refine at_loopL (σ := Nat × List Bool × Int × Option Addr × Nat × Hp) (fun ⟨k19, x17, x18, a8, n8, H8⟩ => border_Cells.l1 k19 v10 x17 x18 = some z9 ∧ SliceO Fl.bool 4 x17 a8 n8 H8) (fun ⟨k19, x17, x18, a8, n8, H8⟩ => [(0, (.int .i64 w)), (1, (.int .i64 h)), (2, (.int .i64 sector)), (7, (.int .i64 v1.1)), (8, (.int .i64 v1.2)), (9, (.slice a8 (List.length x17) n8)), (29, (.agg #[(.int .i64 (rd v2 0)), (.int .i64 (rd v2 1)), (.int .i64 (rd v2 2)), (.int .i64 (rd v2 3))])), (30, (.int .i64 x6)), (54, (.slice a5 (List.length v10) n5)), (55, (.int .i64 (List.length v10 : Int))), (56, (.int .i64 x18))]) (fun ⟨k19, x17, x18, a8, n8, H8⟩ => [F, H8, H5]) (fun s => s.1) (fuel, x5, 0, a3, n3, H3) [0, 0, 0] ⟨Z6, s3⟩ ⟨rfl, rfl, rfl, rfl, rfl, rfl, rfl, rfl, rfl, rfl, rfl, trivial⟩ rfl ?_
            rintro ⟨k19, x17, x18, a8, n8, H8⟩ ⟨Z15, s8⟩
            replace Z15 : border_Cells.l1 k19 v10 x17 x18 = some z9 := Z15
            rcases k19 with _ | k19
            · rw [border_Cells.l1] at Z15; cases Z15
            · rw [border_Cells.l1] at Z15
              refine at_seq ?_
              refine at_region [0] rfl ?_
              refine at_s T rfl ?_
              refine at_end ?_
              refine at_sub [(0, (.int .i64 w)), (1, (.int .i64 h)), (2, (.int .i64 sector)), (7, (.int .i64 v1.1)), (8, (.int .i64 v1.2)), (9, (.slice a8 (List.length x17) n8)), (29, (.agg #[(.int .i64 (rd v2 0)), (.int .i64 (rd v2 1)), (.int .i64 (rd v2 2)), (.int .i64 (rd v2 3))])), (30, (.int .i64 x6)), (54, (.slice a5 (List.length v10) n5)), (55, (.int .i64 (List.length v10 : Int))), (56, (.int .i64 x18)), (57, (.bool (decide (x18 < (List.length v10 : Int)))))] ⟨rfl, rfl, rfl, rfl, rfl, rfl, rfl, rfl, rfl, rfl, rfl, rfl, trivial⟩ ?_
              refine at_then ?_
              refine at_seq ?_
              refine at_cond rfl (fun c16 => ?_) (fun c16 => ?_)
              · replace Z15 := if_t (of_decide_eq_true c16) Z15
                refine at_skip ?_
                refine at_then ?_
                refine at_seq ?_
                refine at_block ?_
                refine at_seq ?_
                refine at_region [0, 1, 2] rfl ?_
                obtain ⟨c17, Z15⟩ := chk_e Z15
                obtain ⟨q9, o9, e9⟩ := s5.r.addr c17.1 c17.2
                refine at_v rfl (g_index T rfl rfl rfl rfl rfl e9 c17.1 c17.2) ?_
                refine at_v rfl (g_load T rfl rfl rfl rfl (in_elem1 (k := (Fl.int .i64)) (own_of s5 (j := 2) rfl) e9 c17 0 rfl)) ?_
                refine at_s T rfl ?_
                refine at_end ?_
                refine at_sub [(0, (.int .i64 w)), (1, (.int .i64 h)), (2, (.int .i64 sector)), (7, (.int .i64 v1.1)), (8, (.int .i64 v1.2)), (9, (.slice a8 (List.length x17) n8)), (14, (.int .i64 (rd v10 x18))), (29, (.agg #[(.int .i64 (rd v2 0)), (.int .i64 (rd v2 1)), (.int .i64 (rd v2 2)), (.int .i64 (rd v2 3))])), (30, (.int .i64 x6)), (54, (.slice a5 (List.length v10) n5)), (55, (.int .i64 (List.length v10 : Int))), (56, (.int .i64 x18))] ⟨rfl, rfl, rfl, rfl, rfl, rfl, rfl, rfl, rfl, rfl, rfl, rfl, trivial⟩ ?_
                refine at_then ?_
                refine at_region [0, 1, 2, 3] rfl ?_
                iterate 2 refine at_s T rfl ?_
                obtain ⟨c18, Z15⟩ := chk_e Z15
                obtain ⟨q10, o10, e10⟩ := s8.r.addr c18.1 c18.2
                refine at_v rfl (g_index T rfl rfl rfl rfl rfl e10 c18.1 c18.2) ?_
                refine at_cons (at_se (k := Fl.bool) T 1 0 true rfl rfl rfl rfl rfl rfl s8 e10 c18 rfl rfl rfl (fun H11 s11 => ?_))
                refine at_to [(0, (.int .i64 w)), (1, (.int .i64 h)), (2, (.int .i64 sector)), (7, (.int .i64 v1.1)), (8, (.int .i64 v1.2)), (9, (.slice a8 (List.length (List.set x17 (Int.toNat (rd v10 x18)) true)) n8)), (29, (.agg #[(.int .i64 (rd v2 0)), (.int .i64 (rd v2 1)), (.int .i64 (rd v2 2)), (.int .i64 (rd v2 3))])), (30, (.int .i64 x6)), (54, (.slice a5 (List.length v10) n5)), (55, (.int .i64 (List.length v10 : Int))), (56, (.int .i64 x18))] [0, 0, 0] [F, H11, H5] ⟨rfl, rfl, rfl, rfl, rfl, (by first | rfl | (simp only [List.length_set]; rfl)), rfl, rfl, rfl, rfl, rfl, trivial⟩ rfl ?_
                refine at_end ?_
                refine at_sub [(0, (.int .i64 w)), (1, (.int .i64 h)), (2, (.int .i64 sector)), (7, (.int .i64 v1.1)), (8, (.int .i64 v1.2)), (9, (.slice a8 (List.length (List.set x17 (Int.toNat (rd v10 x18)) true)) n8)), (29, (.agg #[(.int .i64 (rd v2 0)), (.int .i64 (rd v2 1)), (.int .i64 (rd v2 2)), (.int .i64 (rd v2 3))])), (30, (.int .i64 x6)), (54, (.slice a5 (List.length v10) n5)), (55, (.int .i64 (List.length v10 : Int))), (56, (.int .i64 x18))] ⟨rfl, rfl, rfl, rfl, rfl, rfl, rfl, rfl, rfl, rfl, rfl, trivial⟩ ?_
                refine at_nb ?_
                refine at_then ?_
                refine at_region [0, 1] rfl ?_
                iterate 2 refine at_s T rfl ?_
                refine at_end ?_
                refine at_sub [(0, (.int .i64 w)), (1, (.int .i64 h)), (2, (.int .i64 sector)), (7, (.int .i64 v1.1)), (8, (.int .i64 v1.2)), (9, (.slice a8 (List.length (List.set x17 (Int.toNat (rd v10 x18)) true)) n8)), (29, (.agg #[(.int .i64 (rd v2 0)), (.int .i64 (rd v2 1)), (.int .i64 (rd v2 2)), (.int .i64 (rd v2 3))])), (30, (.int .i64 x6)), (54, (.slice a5 (List.length v10) n5)), (55, (.int .i64 (List.length v10 : Int))), (56, (.int .i64 (w64 (x18 + 1))))] ⟨rfl, rfl, rfl, rfl, rfl, rfl, rfl, rfl, rfl, rfl, rfl, trivial⟩ ?_
                refine at_then ?_
                exact at_roundL (k19, (List.set x17 (Int.toNat (rd v10 x18)) true), (w64 (x18 + 1)), a8, n8, H11) [0, 0, 0] ⟨Z15, s11⟩ (Nat.lt_succ_self _) ⟨rfl, rfl, rfl, rfl, rfl, rfl, rfl, rfl, rfl, rfl, rfl, trivial⟩ rfl
              · replace Z15 := if_f (of_decide_eq_false c16) Z15
                refine at_exit ?_
                refine at_xt ?_
                refine at_xt ?_
                refine at_xb ?_
                refine at_nb ?_
                refine at_then ?_
                obtain rfl := Option.some.inj Z15
                exact at_mid (x17, a8, n8, H8) [0, 0] ⟨rfl, s8⟩ ⟨rfl, rfl, rfl, rfl, rfl, rfl, rfl, rfl, trivial⟩ rfl
      · rintro ⟨x8, a4, n4, H4⟩ ⟨rfl, s4⟩
        refine at_region [0, 1] rfl ?_
        iterate 2 refine at_s T rfl ?_
        refine at_end ?_
        refine at_sub [(0, (.int .i64 w)), (1, (.int .i64 h)), (2, (.int .i64 sector)), (7, (.int .i64 v1.1)), (8, (.int .i64 v1.2)), (9, (.slice a4 (List.length x8) n4)), (29, (.agg #[(.int .i64 (rd v2 0)), (.int .i64 (rd v2 1)), (.int .i64 (rd v2 2)), (.int .i64 (rd v2 3))])), (30, (.int .i64 (w64 (x6 + 1))))] ⟨rfl, rfl, rfl, rfl, rfl, rfl, rfl, rfl, trivial⟩ ?_
        refine at_then ?_
        exact at_roundL (k7, x8, (w64 (x6 + 1)), a4, n4, H4) [0, 0] ⟨Z4, s4⟩ (Nat.lt_succ_self _) ⟨rfl, rfl, rfl, rfl, rfl, rfl, rfl, rfl, trivial⟩ rfl
    · replace Z4 := if_f (of_decide_eq_false c5) Z4
      refine at_exit ?_
      refine at_xt ?_
      refine at_xt ?_
      refine at_xb ?_
      refine at_then ?_
      refine at_seq ?_
      refine at_region [0] rfl ?_
      refine at_s T rfl ?_
      refine at_end ?_
      refine at_sub [(0, (.int .i64 w)), (1, (.int .i64 h)), (2, (.int .i64 sector)), (9, (.slice a3 (List.length x5) n3)), (15, (.slice none 0 0))] ⟨rfl, rfl, rfl, rfl, rfl, trivial⟩ ?_
      refine at_then ?_
      refine at_seq ?_
      refine at_seq ?_
      refine at_region [0, 1, 2] rfl ?_
      iterate 3 refine at_s T rfl ?_
      refine at_end ?_
      refine at_sub [(0, (.int .i64 w)), (1, (.int .i64 h)), (2, (.int .i64 sector)), (15, (.slice none 0 0)), (65, (.slice a3 (List.length x5) n3)), (66, (.int .i64 (List.length x5 : Int))), (67, (.int .i64 0))] ⟨rfl, rfl, rfl, rfl, rfl, rfl, rfl, trivial⟩ ?_
      refine at_then ?_
      refine at_block ?_
      refine at_addnil ?_
      refine at_loopL (σ := Nat × List Int × Int × Option Addr × Nat × Hp) (fun ⟨k24, x22, x23, a13, n13, H13⟩ => border_Cells.l2 k24 w h sector x5 x22 x23 = some r ∧ SliceO (Fl.int .i64) 3 x22 a13 n13 H13) (fun ⟨k24, x22, x23, a13, n13, H13⟩ => [(0, (.int .i64 w)), (1, (.int .i64 h)), (2, (.int .i64 sector)), (15, (.slice a13 (List.length x22) n13)), (65, (.slice a3 (List.length x5) n3)), (66, (.int .i64 (List.length x5 : Int))), (67, (.int .i64 x23))]) (fun ⟨k24, x22, x23, a13, n13, H13⟩ => [F, H13, H3]) (fun s => s.1) (fuel, [], 0, none, 0, []) [0, 1, 0] ⟨Z4, SliceO.nil⟩ ⟨rfl, rfl, rfl, rfl, rfl, rfl, rfl, trivial⟩ rfl ?_
      rintro ⟨k24, x22, x23, a13, n13, H13⟩ ⟨Z19, s13⟩
      replace Z19 : border_Cells.l2 k24 w h sector x5 x22 x23 = some r := Z19
      rcases k24 with _ | k24
      · rw [border_Cells.l2] at Z19; cases Z19
      · rw [border_Cells.l2] at Z19
        refine at_seq ?_
        refine at_region [0] rfl ?_
        refine at_s T rfl ?_
        refine at_end ?_
        refine at_sub [(0, (.int .i64 w)), (1, (.int .i64 h)), (2, (.int .i64 sector)), (15, (.slice a13 (List.length x22) n13)), (65, (.slice a3 (List.length x5) n3)), (66, (.int .i64 (List.length x5 : Int))), (67, (.int .i64 x23)), (68, (.bool (decide (x23 < (List.length x5 : Int)))))] ⟨rfl, rfl, rfl, rfl, rfl, rfl, rfl, rfl, trivial⟩ ?_
        refine at_then ?_
        refine at_seq ?_
        refine at_cond rfl (fun c20 => ?_) (fun c20 => ?_)
        · replace Z19 := if_t (of_decide_eq_true c20) Z19
          refine at_skip ?_
          refine at_then ?_
          refine at_seq ?_
          refine at_block ?_
          refine at_seq ?_
          refine at_region [0, 1, 2, 3, 4] rfl ?_
          refine at_s T rfl ?_
          obtain ⟨c21, Z19⟩ := chk_e Z19
          obtain ⟨q14, o14, e14⟩ := s3.r.addr c21.1 c21.2
          refine at_v rfl (g_index T rfl rfl rfl rfl rfl e14 c21.1 c21.2) ?_
          refine at_v rfl (g_load T rfl rfl rfl rfl (in_elem1 (k := Fl.bool) (own_of s3 (j := 2) rfl) e14 c21 0 rfl)) ?_
          iterate 2 refine at_s T rfl ?_
          refine at_end ?_
          refine at_sub [(0, (.int .i64 w)), (1, (.int .i64 h)), (2, (.int .i64 sector)), (15, (.slice a13 (List.length x22) n13)), (16, (.int .i64 x23)), (17, (.bool (rd x5 x23))), (65, (.slice a3 (List.length x5) n3)), (66, (.int .i64 (List.length x5 : Int))), (67, (.int .i64 x23))] ⟨rfl, rfl, rfl, rfl, rfl, rfl, rfl, rfl, rfl, trivial⟩ ?_
          refine at_then ?_
          refine at_seq ?_
          refine at_region [0] rfl ?_
          refine at_s T rfl ?_
          refine at_end ?_
          refine at_sub [(0, (.int .i64 w)), (1, (.int .i64 h)), (2, (.int .i64 sector)), (15, (.slice a13 (List.length x22) n13)), (16, (.int .i64 x23)), (65, (.slice a3 (List.length x5) n3)), (66, (.int .i64 (List.length x5 : Int))), (67, (.int .i64 x23)), (72, (.bool (rd x5 x23)))] ⟨rfl, rfl, rfl, rfl, rfl, rfl, rfl, rfl, rfl, trivial⟩ ?_
          refine at_then ?_
          refine at_cond rfl (fun c22 => ?_) (fun c22 => ?_)
          · replace Z19 := if_t c22 Z19
            refine at_region [0, 1, 2, 3, 4, 5, 6, 7, 8] rfl ?_
            iterate 5 refine at_s T rfl ?_
            obtain ⟨v25, V23, Z19⟩ := bind_e Z19
            refine at_cons (at_c (B := fun _ => []) [] rfl rfl rfl rfl has60 rfl rfl (where_Global.c w h sector x23 v25 _ V23) (fun _ => ?_))
            refine at_cons (at_bs (k := (Fl.int .i64)) T [v25] rfl rfl rfl rfl rfl rfl rfl rfl rfl (fun a15 H15 s15 => ?_))
            obtain ⟨c24, Z19⟩ := chk_e Z19
            refine at_cons (at_ap (k := (Fl.int .i64)) (xs := x22) T (g := 1) rfl rfl rfl rfl rfl rfl rfl rfl rfl rfl s13 (own_of s15 (j := 3) rfl) c24 rfl (fun a16 n16 H16 s16 => ?_))
            refine at_s T rfl ?_
            refine at_end ?_
            refine at_to [(0, (.int .i64 w)), (1, (.int .i64 h)), (2, (.int .i64 sector)), (15, (.slice a16 (List.length (x22 ++ [v25])) n16)), (65, (.slice a3 (List.length x5) n3)), (66, (.int .i64 (List.length x5 : Int))), (67, (.int .i64 x23))] [0, 0, 0] [F, H16, H3] ⟨rfl, rfl, rfl, rfl, rfl, rfl, rfl, trivial⟩ rfl ?_
            refine at_nb ?_
            refine at_then ?_
            refine at_region [0, 1] rfl ?_
            iterate 2 refine at_s T rfl ?_
            refine at_end ?_
            refine at_sub [(0, (.int .i64 w)), (1, (.int .i64 h)), (2, (.int .i64 sector)), (15, (.slice a16 (List.length (x22 ++ [v25])) n16)), (65, (.slice a3 (List.length x5) n3)), (66, (.int .i64 (List.length x5 : Int))), (67, (.int .i64 (w64 (x23 + 1))))] ⟨rfl, rfl, rfl, rfl, rfl, rfl, rfl, trivial⟩ ?_
            refine at_then ?_
            exact at_roundL (k24, (x22 ++ [v25]), (w64 (x23 + 1)), a16, n16, H16) [0, 0, 0] ⟨Z19, s16⟩ (Nat.lt_succ_self _) ⟨rfl, rfl, rfl, rfl, rfl, rfl, rfl, trivial⟩ rfl
          · replace Z19 := if_f (bf c22) Z19
            refine at_skip ?_
            refine at_nb ?_
            refine at_then ?_
            refine at_region [0, 1] rfl ?_
            iterate 2 refine at_s T rfl ?_
            refine at_end ?_
            refine at_sub [(0, (.int .i64 w)), (1, (.int .i64 h)), (2, (.int .i64 sector)), (15, (.slice a13 (List.length x22) n13)), (65, (.slice a3 (List.length x5) n3)), (66, (.int .i64 (List.length x5 : Int))), (67, (.int .i64 (w64 (x23 + 1))))] ⟨rfl, rfl, rfl, rfl, rfl, rfl, rfl, trivial⟩ ?_
            refine at_then ?_
            exact at_roundL (k24, x22, (w64 (x23 + 1)), a13, n13, H13) [0, 0, 0] ⟨Z19, s13⟩ (Nat.lt_succ_self _) ⟨rfl, rfl, rfl, rfl, rfl, rfl, rfl, trivial⟩ rfl
        · replace Z19 := if_f (of_decide_eq_false c20) Z19
          refine at_exit ?_
          refine at_xt ?_
          refine at_xt ?_
          refine at_xb ?_
          refine at_then ?_
          refine at_seq ?_
          refine at_region [0, 1] rfl ?_
          iterate 2 refine at_s T rfl ?_
          refine at_end ?_
          refine at_to [(6, (.slice a13 (List.length x22) n13))] [0, 0] [F, H13] ⟨rfl, trivial⟩ rfl ?_
          refine at_then ?_
          refine at_ret ?_
          obtain rfl := Option.some.inj Z19
          exact at_post (T := T) rfl (.tmp rfl .nil) (fun w o => ⟨⟨(_, _), ⟨a13, n13, H13, s13, rfl, rfl⟩⟩, rfl, own_to [1, 0] rfl o⟩)

/-! ### herdsman/border.open: function 64 -/
def border_open.f (g : grid_Grid) (cell : Int) : Option Bool := (grid_Grid_Cost.f g cell).bind fun v1 => some ((decide (v1 > 0)) && (decide (v1 < 255)))
set_option maxHeartbeats 4000000 in
theorem border_open.c {b_g : Nat} {a_g_m_C : Option Addr} {n_g_m_C : Nat} {H_g_m_C : Hp} {a_g_versions : Option Addr} {n_g_versions : Nat} {H_g_versions : Hp} (g : grid_Grid) (cell : Int) (r : Bool) (F : Hp) (H : border_open.f g cell = some r) (s_g_m_C : SliceO (Fl.int .u8) 5 g.m.C a_g_m_C n_g_m_C H_g_m_C) (s_g_versions : SliceO (Fl.int .i64) 2 g.versions a_g_versions n_g_versions H_g_versions) :
    CallsL Try.prog 64 [(.pointer (some ⟨b_g, 0, none⟩)), (.int .i64 cell)] [[(b_g, Obj.cells #[(.int .i64 g.m.W), (.int .i64 g.m.H), (.slice a_g_m_C (List.length g.m.C) n_g_m_C), (.int .i64 g.epoch), (.slice a_g_versions (List.length g.versions) n_g_versions)] 81 (0, 0))], H_g_m_C, H_g_versions, F] (fun _ : Unit => (.bool r)) (fun _ => [[(b_g, Obj.cells #[(.int .i64 g.m.W), (.int .i64 g.m.H), (.slice a_g_m_C (List.length g.m.C) n_g_m_C), (.int .i64 g.epoch), (.slice a_g_versions (List.length g.versions) n_g_versions)] 81 (0, 0))], H_g_m_C, H_g_versions] ++ [F]) := by
  unfold border_open.f at H
  refine calls_atL [(0, (.pointer (some ⟨b_g, 0, none⟩))), (1, (.int .i64 cell))] Try.func64 rfl rfl ⟨rfl, rfl, trivial⟩ (fun W => ?_)
  refine at_seq ?_
  refine at_region [0] rfl ?_
  refine at_s T rfl ?_
  refine at_end ?_
  refine at_sub [(0, (.pointer (some ⟨b_g, 0, none⟩))), (1, (.int .i64 cell))] ⟨rfl, rfl, trivial⟩ ?_
  refine at_then ?_
  refine at_seq ?_
  refine at_region [0, 1, 2, 3] rfl ?_
  iterate 2 refine at_s T rfl ?_
  obtain ⟨v1, V1, H⟩ := bind_e H
  refine at_cons (at_c (As := [[(b_g, Obj.cells #[(.int .i64 g.m.W), (.int .i64 g.m.H), (.slice a_g_m_C (List.length g.m.C) n_g_m_C), (.int .i64 g.epoch), (.slice a_g_versions (List.length g.versions) n_g_versions)] 81 (0, 0))], H_g_m_C, H_g_versions]) (R := [F]) (B := fun _ => [[(b_g, Obj.cells #[(.int .i64 g.m.W), (.int .i64 g.m.H), (.slice a_g_m_C (List.length g.m.C) n_g_m_C), (.int .i64 g.epoch), (.slice a_g_versions (List.length g.versions) n_g_versions)] 81 (0, 0))], H_g_m_C, H_g_versions]) [0, 0, 0] rfl rfl rfl rfl has65 rfl rfl (grid_Grid_Cost.c g cell v1 _ V1 s_g_m_C s_g_versions) (fun _ => ?_))
  refine at_s T rfl ?_
  refine at_end ?_
  refine at_sub [(5, (.int .i64 v1))] ⟨rfl, trivial⟩ ?_
  refine at_then ?_
  refine at_seq ?_
  refine at_region [0, 1, 2, 3, 4, 5, 6] rfl ?_
  iterate 3 refine at_s T rfl ?_
  refine at_grp T [3, 4, 5] (s := 11) (c := (decide (v1 > 0))) [(14, (.bool ((decide (v1 > 0)) && (decide (v1 < 255)))))] rfl rfl rfl (fun c2 => ⟨(by rw [c2]; rfl), trivial⟩) (fun c2 => ⟨(by rw [c2]; rfl), trivial⟩) ?_
  refine at_s T rfl ?_
  refine at_end ?_
  refine at_sub [(4, (.bool ((decide (v1 > 0)) && (decide (v1 < 255)))))] ⟨rfl, trivial⟩ ?_
  refine at_then ?_
  refine at_ret ?_
  obtain rfl := Option.some.inj H
  exact at_post (T := T) rfl (.tmp rfl .nil) (fun w o => ⟨(), rfl, own_to [1, 1, 1, 0] rfl o⟩)

/-! ### herdsman/border.Nodes: function 23 -/
def border_Nodes.l0 : Nat → grid_Grid → (List Int) → List Int → Int → Option (List Int)
  | 0, _, _, _, _ => none
  | k7 + 1, g, v2, x5, x6 => if x6 < (List.length v2 : Int) then (if (0 ≤ x6 ∧ x6 < (List.length v2 : Int)) then ((border_open.f g (rd v2 x6)).bind fun v8 => if v8 = true then (if (List.length x5 + 1 ≤ 1099511627776) then (border_Nodes.l0 k7 g v2 (x5 ++ [(rd v2 x6)]) (w64 (x6 + 1))) else none) else (border_Nodes.l0 k7 g v2 x5 (w64 (x6 + 1)))) else none) else (some x5)
def border_Nodes.f (g : grid_Grid) (sector : Int) : Option (List Int) := (grid_Grid_Size.f g).bind fun v1 => (border_Cells.f v1.1 v1.2 sector).bind fun v2 => border_Nodes.l0 fuel g v2 [] 0
def border_Nodes.R (r : (List Int)) (u : Value) (G : List Hp) : Prop := ∃ (a0 : Option Addr) (n0 : Nat) (H0 : Hp), SliceO (Fl.int .i64) 3 r a0 n0 H0 ∧ u = (.slice a0 (List.length r) n0) ∧ G = [H0]
set_option maxHeartbeats 4000000 in
theorem border_Nodes.c {b_g : Nat} {a_g_m_C : Option Addr} {n_g_m_C : Nat} {H_g_m_C : Hp} {a_g_versions : Option Addr} {n_g_versions : Nat} {H_g_versions : Hp} (g : grid_Grid) (sector : Int) (r : (List Int)) (F : Hp) (H : border_Nodes.f g sector = some r) (s_g_m_C : SliceO (Fl.int .u8) 5 g.m.C a_g_m_C n_g_m_C H_g_m_C) (s_g_versions : SliceO (Fl.int .i64) 2 g.versions a_g_versions n_g_versions H_g_versions) :
    CallsL Try.prog 23 [(.pointer (some ⟨b_g, 0, none⟩)), (.int .i64 sector)] [[(b_g, Obj.cells #[(.int .i64 g.m.W), (.int .i64 g.m.H), (.slice a_g_m_C (List.length g.m.C) n_g_m_C), (.int .i64 g.epoch), (.slice a_g_versions (List.length g.versions) n_g_versions)] 81 (0, 0))], H_g_m_C, H_g_versions, F] (fun p : { p : Value × List Hp // border_Nodes.R r p.1 p.2 } => p.1.1) (fun p => (p.1.2 ++ [[(b_g, Obj.cells #[(.int .i64 g.m.W), (.int .i64 g.m.H), (.slice a_g_m_C (List.length g.m.C) n_g_m_C), (.int .i64 g.epoch), (.slice a_g_versions (List.length g.versions) n_g_versions)] 81 (0, 0))], H_g_m_C, H_g_versions]) ++ [F]) := by
  unfold border_Nodes.f at H
  refine calls_atL [(0, (.pointer (some ⟨b_g, 0, none⟩))), (1, (.int .i64 sector))] Try.func23 rfl rfl ⟨rfl, rfl, trivial⟩ (fun W => ?_)
  refine at_seq ?_
  refine at_region [0] rfl ?_
  refine at_s T rfl ?_
  refine at_end ?_
  refine at_sub [(0, (.pointer (some ⟨b_g, 0, none⟩))), (1, (.int .i64 sector))] ⟨rfl, rfl, trivial⟩ ?_
  refine at_then ?_
  refine at_seq ?_
  refine at_region [0, 1, 2, 3, 4, 5, 6] rfl ?_
  refine at_s T rfl ?_
  obtain ⟨v1, V1, H⟩ := bind_e H
  refine at_cons (at_c (As := [[(b_g, Obj.cells #[(.int .i64 g.m.W), (.int .i64 g.m.H), (.slice a_g_m_C (List.length g.m.C) n_g_m_C), (.int .i64 g.epoch), (.slice a_g_versions (List.length g.versions) n_g_versions)] 81 (0, 0))], H_g_m_C, H_g_versions]) (R := [F]) (B := fun _ => [[(b_g, Obj.cells #[(.int .i64 g.m.W), (.int .i64 g.m.H), (.slice a_g_m_C (List.length g.m.C) n_g_m_C), (.int .i64 g.epoch), (.slice a_g_versions (List.length g.versions) n_g_versions)] 81 (0, 0))], H_g_m_C, H_g_versions]) [0, 0, 0] rfl rfl rfl rfl has63 rfl rfl (grid_Grid_Size.c g v1 _ V1 s_g_m_C s_g_versions) (fun _ => ?_))
  iterate 5 refine at_s T rfl ?_
  refine at_end ?_
  refine at_sub [(0, (.pointer (some ⟨b_g, 0, none⟩))), (1, (.int .i64 sector)), (5, (.int .i64 v1.1)), (6, (.int .i64 v1.2))] ⟨rfl, rfl, rfl, rfl, trivial⟩ ?_
  refine at_then ?_
  refine at_seq ?_
  refine at_region [0] rfl ?_
  refine at_s T rfl ?_
  refine at_end ?_
  refine at_sub [(0, (.pointer (some ⟨b_g, 0, none⟩))), (1, (.int .i64 sector)), (5, (.int .i64 v1.1)), (6, (.int .i64 v1.2)), (7, (.slice none 0 0))] ⟨rfl, rfl, rfl, rfl, rfl, trivial⟩ ?_
  refine at_then ?_
  refine at_seq ?_
  refine at_seq ?_
  refine at_region [0, 1, 2, 3, 4, 5] rfl ?_
  iterate 3 refine at_s T rfl ?_
  obtain ⟨v2, V2, H⟩ := bind_e H
  refine at_cons (at_cR (border_Cells.R v2) [] [] rfl rfl rfl rfl has21 rfl rfl (border_Cells.c v1.1 v1.2 sector v2 _ V2) ?_)
  rintro _ _ ⟨a4, n4, H4, s4, rfl, rfl⟩
  iterate 2 refine at_s T rfl ?_
  refine at_end ?_
  refine at_sub [(0, (.pointer (some ⟨b_g, 0, none⟩))), (7, (.slice none 0 0)), (18, (.slice a4 (List.length v2) n4)), (19, (.int .i64 (List.length v2 : Int))), (20, (.int .i64 0))] ⟨rfl, rfl, rfl, rfl, rfl, trivial⟩ ?_
  refine at_then ?_
  refine at_block ?_
  refine at_addnil ?_
  refine at_loopL (σ := Nat × List Int × Int × Option Addr × Nat × Hp) (fun ⟨k7, x5, x6, a6, n6, H6⟩ => border_Nodes.l0 k7 g v2 x5 x6 = some r ∧ SliceO (Fl.int .i64) 3 x5 a6 n6 H6) (fun ⟨k7, x5, x6, a6, n6, H6⟩ => [(0, (.pointer (some ⟨b_g, 0, none⟩))), (7, (.slice a6 (List.length x5) n6)), (18, (.slice a4 (List.length v2) n4)), (19, (.int .i64 (List.length v2 : Int))), (20, (.int .i64 x6))]) (fun ⟨k7, x5, x6, a6, n6, H6⟩ => [F, [(b_g, Obj.cells #[(.int .i64 g.m.W), (.int .i64 g.m.H), (.slice a_g_m_C (List.length g.m.C) n_g_m_C), (.int .i64 g.epoch), (.slice a_g_versions (List.length g.versions) n_g_versions)] 81 (0, 0))], H_g_m_C, H_g_versions, H6, H4]) (fun s => s.1) (fuel, [], 0, none, 0, []) [0, 0, 0, 0, 1, 0] ⟨H, SliceO.nil⟩ ⟨rfl, rfl, rfl, rfl, rfl, trivial⟩ rfl ?_
  rintro ⟨k7, x5, x6, a6, n6, H6⟩ ⟨Z3, s6⟩
  replace Z3 : border_Nodes.l0 k7 g v2 x5 x6 = some r := Z3
  rcases k7 with _ | k7
  · rw [border_Nodes.l0] at Z3; cases Z3
  · rw [border_Nodes.l0] at Z3
    refine at_seq ?_
    refine at_region [0] rfl ?_
    refine at_s T rfl ?_
    refine at_end ?_
    refine at_sub [(0, (.pointer (some ⟨b_g, 0, none⟩))), (7, (.slice a6 (List.length x5) n6)), (18, (.slice a4 (List.length v2) n4)), (19, (.int .i64 (List.length v2 : Int))), (20, (.int .i64 x6)), (21, (.bool (decide (x6 < (List.length v2 : Int)))))] ⟨rfl, rfl, rfl, rfl, rfl, rfl, trivial⟩ ?_
    refine at_then ?_
    refine at_seq ?_
    refine at_cond rfl (fun c4 => ?_) (fun c4 => ?_)
    · replace Z3 := if_t (of_decide_eq_true c4) Z3
      refine at_skip ?_
      refine at_then ?_
      refine at_seq ?_
      refine at_block ?_
      refine at_seq ?_
      refine at_region [0, 1, 2] rfl ?_
      obtain ⟨c5, Z3⟩ := chk_e Z3
      obtain ⟨q7, o7, e7⟩ := s4.r.addr c5.1 c5.2
      refine at_v rfl (g_index T rfl rfl rfl rfl rfl e7 c5.1 c5.2) ?_
      refine at_v rfl (g_load T rfl rfl rfl rfl (in_elem1 (k := (Fl.int .i64)) (own_of s4 (j := 5) rfl) e7 c5 0 rfl)) ?_
      refine at_s T rfl ?_
      refine at_end ?_
      refine at_sub [(0, (.pointer (some ⟨b_g, 0, none⟩))), (7, (.slice a6 (List.length x5) n6)), (9, (.int .i64 (rd v2 x6))), (18, (.slice a4 (List.length v2) n4)), (19, (.int .i64 (List.length v2 : Int))), (20, (.int .i64 x6))] ⟨rfl, rfl, rfl, rfl, rfl, rfl, trivial⟩ ?_
      refine at_then ?_
      refine at_seq ?_
      refine at_region [0, 1, 2] rfl ?_
      iterate 2 refine at_s T rfl ?_
      obtain ⟨v8, V6, Z3⟩ := bind_e Z3
      refine at_cons (at_c (As := [[(b_g, Obj.cells #[(.int .i64 g.m.W), (.int .i64 g.m.H), (.slice a_g_m_C (List.length g.m.C) n_g_m_C), (.int .i64 g.epoch), (.slice a_g_versions (List.length g.versions) n_g_versions)] 81 (0, 0))], H_g_m_C, H_g_versions]) (R := [F, H6, H4]) (B := fun _ => [[(b_g, Obj.cells #[(.int .i64 g.m.W), (.int .i64 g.m.H), (.slice a_g_m_C (List.length g.m.C) n_g_m_C), (.int .i64 g.epoch), (.slice a_g_versions (List.length g.versions) n_g_versions)] 81 (0, 0))], H_g_m_C, H_g_versions]) [1, 1, 1] rfl rfl rfl rfl has64 rfl rfl (border_open.c g (rd v2 x6) v8 _ V6 s_g_m_C s_g_versions) (fun _ => ?_))
      refine at_end ?_
      refine at_sub [(0, (.pointer (some ⟨b_g, 0, none⟩))), (7, (.slice a6 (List.length x5) n6)), (9, (.int .i64 (rd v2 x6))), (18, (.slice a4 (List.length v2) n4)), (19, (.int .i64 (List.length v2 : Int))), (20, (.int .i64 x6)), (26, (.bool v8))] ⟨rfl, rfl, rfl, rfl, rfl, rfl, rfl, trivial⟩ ?_
      refine at_then ?_
      refine at_cond rfl (fun c7 => ?_) (fun c7 => ?_)
      · replace Z3 := if_t c7 Z3
        refine at_region [0, 1, 2, 3, 4] rfl ?_
        iterate 2 refine at_s T rfl ?_
        refine at_cons (at_bs (k := (Fl.int .i64)) T [(rd v2 x6)] rfl rfl rfl rfl rfl rfl rfl rfl rfl (fun a8 H8 s8 => ?_))
        obtain ⟨c8, Z3⟩ := chk_e Z3
        refine at_cons (at_ap (k := (Fl.int .i64)) (xs := x5) T (g := 1) rfl rfl rfl rfl rfl rfl rfl rfl rfl rfl s6 (own_of s8 (j := 6) rfl) c8 rfl (fun a9 n9 H9 s9 => ?_))
        refine at_s T rfl ?_
        refine at_end ?_
        refine at_to [(0, (.pointer (some ⟨b_g, 0, none⟩))), (7, (.slice a9 (List.length (x5 ++ [(rd v2 x6)])) n9)), (18, (.slice a4 (List.length v2) n4)), (19, (.int .i64 (List.length v2 : Int))), (20, (.int .i64 x6))] [0, 0, 0, 0, 0, 0] [F, H9, H4, [(b_g, Obj.cells #[(.int .i64 g.m.W), (.int .i64 g.m.H), (.slice a_g_m_C (List.length g.m.C) n_g_m_C), (.int .i64 g.epoch), (.slice a_g_versions (List.length g.versions) n_g_versions)] 81 (0, 0))], H_g_m_C, H_g_versions] ⟨rfl, rfl, rfl, rfl, rfl, trivial⟩ rfl ?_
        refine at_nb ?_
        refine at_then ?_
        refine at_region [0, 1] rfl ?_
        iterate 2 refine at_s T rfl ?_
        refine at_end ?_
        refine at_sub [(0, (.pointer (some ⟨b_g, 0, none⟩))), (7, (.slice a9 (List.length (x5 ++ [(rd v2 x6)])) n9)), (18, (.slice a4 (List.length v2) n4)), (19, (.int .i64 (List.length v2 : Int))), (20, (.int .i64 (w64 (x6 + 1))))] ⟨rfl, rfl, rfl, rfl, rfl, trivial⟩ ?_
        refine at_then ?_
        exact at_roundL (k7, (x5 ++ [(rd v2 x6)]), (w64 (x6 + 1)), a9, n9, H9) [0, 2, 2, 2, 0, 0] ⟨Z3, s9⟩ (Nat.lt_succ_self _) ⟨rfl, rfl, rfl, rfl, rfl, trivial⟩ rfl
      · replace Z3 := if_f (bf c7) Z3
        refine at_skip ?_
        refine at_nb ?_
        refine at_then ?_
        refine at_region [0, 1] rfl ?_
        iterate 2 refine at_s T rfl ?_
        refine at_end ?_
        refine at_sub [(0, (.pointer (some ⟨b_g, 0, none⟩))), (7, (.slice a6 (List.length x5) n6)), (18, (.slice a4 (List.length v2) n4)), (19, (.int .i64 (List.length v2 : Int))), (20, (.int .i64 (w64 (x6 + 1))))] ⟨rfl, rfl, rfl, rfl, rfl, trivial⟩ ?_
        refine at_then ?_
        exact at_roundL (k7, x5, (w64 (x6 + 1)), a6, n6, H6) [0, 2, 2, 2, 0, 0] ⟨Z3, s6⟩ (Nat.lt_succ_self _) ⟨rfl, rfl, rfl, rfl, rfl, trivial⟩ rfl
    · replace Z3 := if_f (of_decide_eq_false c4) Z3
      refine at_exit ?_
      refine at_xt ?_
      refine at_xt ?_
      refine at_xb ?_
      refine at_then ?_
      refine at_seq ?_
      refine at_region [0, 1] rfl ?_
      iterate 2 refine at_s T rfl ?_
      refine at_end ?_
      refine at_to [(4, (.slice a6 (List.length x5) n6))] [0, 0, 0, 0, 0] [F, [(b_g, Obj.cells #[(.int .i64 g.m.W), (.int .i64 g.m.H), (.slice a_g_m_C (List.length g.m.C) n_g_m_C), (.int .i64 g.epoch), (.slice a_g_versions (List.length g.versions) n_g_versions)] 81 (0, 0))], H_g_m_C, H_g_versions, H6] ⟨rfl, trivial⟩ rfl ?_
      refine at_then ?_
      refine at_ret ?_
      obtain rfl := Option.some.inj Z3
      exact at_post (T := T) rfl (.tmp rfl .nil) (fun w o => ⟨⟨(_, _), ⟨a6, n6, H6, s6, rfl, rfl⟩⟩, rfl, own_to [4, 1, 1, 1, 0] rfl o⟩)

/-! ### herdsman/border.Cross: function 29 -/
def border_Cross.l0 : Nat → grid_Grid → Int → (Int × Int) → (List Int) → List api_Edge → Int → Option (List api_Edge)
  | 0, _, _, _, _, _, _ => none
  | k8 + 1, g, cell, v1, v3, x6, x7 => if x7 < 4 then (if (0 ≤ x7 ∧ x7 < (List.length [(rd v3 0), (rd v3 1), (rd v3 2), (rd v3 3)] : Int)) then ((border_over.f v1.1 v1.2 cell (rd [(rd v3 0), (rd v3 1), (rd v3 2), (rd v3 3)] x7)).bind fun v9 => (if v9 ≥ 0 then ((border_open.f g v9).bind fun v12 => some v12) else (some false)).bind fun x10 => if x10 = true then ((grid_Grid_Cost.f g v9).bind fun v13 => if (List.length x6 + 1 ≤ 1099511627776) then (border_Cross.l0 k8 g cell v1 v3 (x6 ++ [(api_Edge.mk v9 v13)]) (w64 (x7 + 1))) else none) else (border_Cross.l0 k8 g cell v1 v3 x6 (w64 (x7 + 1)))) else none) else (some x6)
def border_Cross.f (g : grid_Grid) (cell : Int) : Option (List api_Edge) := (grid_Grid_Size.f g).bind fun v1 => (border_open.f g cell).bind fun v2 => if (!v2) = true then (some []) else ((border_sides.f).bind fun v3 => border_Cross.l0 fuel g cell v1 v3 [] 0)
def border_Cross.R (r : (List api_Edge)) (u : Value) (G : List Hp) : Prop := ∃ (a0 : Option Addr) (n0 : Nat) (H0 : Hp), SliceO k_api_Edge 52 r a0 n0 H0 ∧ u = (.slice a0 (List.length r) n0) ∧ G = [H0]
set_option maxHeartbeats 4000000 in
theorem border_Cross.c {b_g : Nat} {a_g_m_C : Option Addr} {n_g_m_C : Nat} {H_g_m_C : Hp} {a_g_versions : Option Addr} {n_g_versions : Nat} {H_g_versions : Hp} (g : grid_Grid) (cell : Int) (r : (List api_Edge)) (F : Hp) (H : border_Cross.f g cell = some r) (s_g_m_C : SliceO (Fl.int .u8) 5 g.m.C a_g_m_C n_g_m_C H_g_m_C) (s_g_versions : SliceO (Fl.int .i64) 2 g.versions a_g_versions n_g_versions H_g_versions) :
    CallsL Try.prog 29 [(.pointer (some ⟨b_g, 0, none⟩)), (.int .i64 cell)] [[(b_g, Obj.cells #[(.int .i64 g.m.W), (.int .i64 g.m.H), (.slice a_g_m_C (List.length g.m.C) n_g_m_C), (.int .i64 g.epoch), (.slice a_g_versions (List.length g.versions) n_g_versions)] 81 (0, 0))], H_g_m_C, H_g_versions, F] (fun p : { p : Value × List Hp // border_Cross.R r p.1 p.2 } => p.1.1) (fun p => (p.1.2 ++ [[(b_g, Obj.cells #[(.int .i64 g.m.W), (.int .i64 g.m.H), (.slice a_g_m_C (List.length g.m.C) n_g_m_C), (.int .i64 g.epoch), (.slice a_g_versions (List.length g.versions) n_g_versions)] 81 (0, 0))], H_g_m_C, H_g_versions]) ++ [F]) := by
  unfold border_Cross.f at H
  refine calls_atL [(0, (.pointer (some ⟨b_g, 0, none⟩))), (1, (.int .i64 cell))] Try.func29 rfl rfl ⟨rfl, rfl, trivial⟩ (fun W => ?_)
  refine at_seq ?_
  refine at_region [0] rfl ?_
  refine at_s T rfl ?_
  refine at_end ?_
  refine at_sub [(0, (.pointer (some ⟨b_g, 0, none⟩))), (1, (.int .i64 cell))] ⟨rfl, rfl, trivial⟩ ?_
  refine at_then ?_
  refine at_seq ?_
  refine at_region [0, 1, 2, 3, 4, 5, 6] rfl ?_
  refine at_s T rfl ?_
  obtain ⟨v1, V1, H⟩ := bind_e H
  refine at_cons (at_c (As := [[(b_g, Obj.cells #[(.int .i64 g.m.W), (.int .i64 g.m.H), (.slice a_g_m_C (List.length g.m.C) n_g_m_C), (.int .i64 g.epoch), (.slice a_g_versions (List.length g.versions) n_g_versions)] 81 (0, 0))], H_g_m_C, H_g_versions]) (R := [F]) (B := fun _ => [[(b_g, Obj.cells #[(.int .i64 g.m.W), (.int .i64 g.m.H), (.slice a_g_m_C (List.length g.m.C) n_g_m_C), (.int .i64 g.epoch), (.slice a_g_versions (List.length g.versions) n_g_versions)] 81 (0, 0))], H_g_m_C, H_g_versions]) [0, 0, 0] rfl rfl rfl rfl has63 rfl rfl (grid_Grid_Size.c g v1 _ V1 s_g_m_C s_g_versions) (fun _ => ?_))
  iterate 5 refine at_s T rfl ?_
  refine at_end ?_
  refine at_sub [(0, (.pointer (some ⟨b_g, 0, none⟩))), (1, (.int .i64 cell)), (5, (.int .i64 v1.1)), (6, (.int .i64 v1.2))] ⟨rfl, rfl, rfl, rfl, trivial⟩ ?_
  refine at_then ?_
  refine at_seq ?_
  refine at_seq ?_
  refine at_region [0, 1, 2, 3] rfl ?_
  iterate 2 refine at_s T rfl ?_
  obtain ⟨v2, V2, H⟩ := bind_e H
  refine at_cons (at_c (As := [[(b_g, Obj.cells #[(.int .i64 g.m.W), (.int .i64 g.m.H), (.slice a_g_m_C (List.length g.m.C) n_g_m_C), (.int .i64 g.epoch), (.slice a_g_versions (List.length g.versions) n_g_versions)] 81 (0, 0))], H_g_m_C, H_g_versions]) (R := [F]) (B := fun _ => [[(b_g, Obj.cells #[(.int .i64 g.m.W), (.int .i64 g.m.H), (.slice a_g_m_C (List.length g.m.C) n_g_m_C), (.int .i64 g.epoch), (.slice a_g_versions (List.length g.versions) n_g_versions)] 81 (0, 0))], H_g_m_C, H_g_versions]) [1, 1, 1] rfl rfl rfl rfl has64 rfl rfl (border_open.c g cell v2 _ V2 s_g_m_C s_g_versions) (fun _ => ?_))
  refine at_s T rfl ?_
  refine at_end ?_
  refine at_sub [(0, (.pointer (some ⟨b_g, 0, none⟩))), (1, (.int .i64 cell)), (5, (.int .i64 v1.1)), (6, (.int .i64 v1.2)), (19, (.bool (!v2)))] ⟨rfl, rfl, rfl, rfl, rfl, trivial⟩ ?_
  refine at_then ?_
  refine at_cond rfl (fun c3 => ?_) (fun c3 => ?_)
  · replace H := if_t c3 H
    refine at_seq ?_
    refine at_region [0] rfl ?_
    refine at_s T rfl ?_
    refine at_end ?_
    refine at_sub [(4, (.slice none 0 0))] ⟨rfl, trivial⟩ ?_
    refine at_then ?_
    refine at_ret ?_
    refine at_rt ?_
    obtain rfl := Option.some.inj H
    refine at_addnil ?_
    exact at_post (T := T) rfl (.tmp rfl .nil) (fun w o => ⟨⟨(_, _), ⟨none, 0, [], SliceO.nil, rfl, rfl⟩⟩, rfl, own_to [4, 1, 1, 1, 0] rfl o⟩)
  · replace H := if_f (bf c3) H
    refine at_skip ?_
    refine at_then ?_
    refine at_seq ?_
    refine at_region [0] rfl ?_
    refine at_s T rfl ?_
    refine at_end ?_
    refine at_sub [(0, (.pointer (some ⟨b_g, 0, none⟩))), (1, (.int .i64 cell)), (5, (.int .i64 v1.1)), (6, (.int .i64 v1.2)), (7, (.slice none 0 0))] ⟨rfl, rfl, rfl, rfl, rfl, trivial⟩ ?_
    refine at_then ?_
    refine at_seq ?_
    refine at_seq ?_
    refine at_region [0, 1] rfl ?_
    obtain ⟨v3, V4, H⟩ := bind_e H
    refine at_cons (at_c (B := fun _ => []) [] rfl rfl rfl rfl has57 rfl rfl (border_sides.c  v3 _ V4) (fun _ => ?_))
    refine at_s T rfl ?_
    refine at_end ?_
    refine at_sub [(0, (.pointer (some ⟨b_g, 0, none⟩))), (1, (.int .i64 cell)), (5, (.int .i64 v1.1)), (6, (.int .i64 v1.2)), (7, (.slice none 0 0)), (20, (.agg #[(.int .i64 (rd v3 0)), (.int .i64 (rd v3 1)), (.int .i64 (rd v3 2)), (.int .i64 (rd v3 3))])), (21, (.int .i64 0))] ⟨rfl, rfl, rfl, rfl, rfl, rfl, rfl, trivial⟩ ?_
    refine at_then ?_
    refine at_block ?_
    refine at_addnil ?_
    refine at_loopL (σ := Nat × List api_Edge × Int × Option Addr × Nat × Hp) (fun ⟨k8, x6, x7, a6, n6, H6⟩ => border_Cross.l0 k8 g cell v1 v3 x6 x7 = some r ∧ SliceO k_api_Edge 52 x6 a6 n6 H6) (fun ⟨k8, x6, x7, a6, n6, H6⟩ => [(0, (.pointer (some ⟨b_g, 0, none⟩))), (1, (.int .i64 cell)), (5, (.int .i64 v1.1)), (6, (.int .i64 v1.2)), (7, (.slice a6 (List.length x6) n6)), (20, (.agg #[(.int .i64 (rd v3 0)), (.int .i64 (rd v3 1)), (.int .i64 (rd v3 2)), (.int .i64 (rd v3 3))])), (21, (.int .i64 x7))]) (fun ⟨k8, x6, x7, a6, n6, H6⟩ => [F, [(b_g, Obj.cells #[(.int .i64 g.m.W), (.int .i64 g.m.H), (.slice a_g_m_C (List.length g.m.C) n_g_m_C), (.int .i64 g.epoch), (.slice a_g_versions (List.length g.versions) n_g_versions)] 81 (0, 0))], H_g_m_C, H_g_versions, H6]) (fun s => s.1) (fuel, [], 0, none, 0, []) [0, 0, 0, 0, 0] ⟨H, SliceO.nil⟩ ⟨rfl, rfl, rfl, rfl, rfl, rfl, rfl, trivial⟩ rfl ?_
    rintro ⟨k8, x6, x7, a6, n6, H6⟩ ⟨Z5, s6⟩
    replace Z5 : border_Cross.l0 k8 g cell v1 v3 x6 x7 = some r := Z5
    rcases k8 with _ | k8
    · rw [border_Cross.l0] at Z5; cases Z5
    · rw [border_Cross.l0] at Z5
      refine at_seq ?_
      refine at_region [0] rfl ?_
      refine at_s T rfl ?_
      refine at_end ?_
      refine at_sub [(0, (.pointer (some ⟨b_g, 0, none⟩))), (1, (.int .i64 cell)), (5, (.int .i64 v1.1)), (6, (.int .i64 v1.2)), (7, (.slice a6 (List.length x6) n6)), (20, (.agg #[(.int .i64 (rd v3 0)), (.int .i64 (rd v3 1)), (.int .i64 (rd v3 2)), (.int .i64 (rd v3 3))])), (21, (.int .i64 x7)), (22, (.bool (decide (x7 < 4))))] ⟨rfl, rfl, rfl, rfl, rfl, rfl, rfl, rfl, trivial⟩ ?_
      refine at_then ?_
      refine at_seq ?_
      refine at_cond rfl (fun c6 => ?_) (fun c6 => ?_)
      · replace Z5 := if_t (of_decide_eq_true c6) Z5
        refine at_skip ?_
        refine at_then ?_
        refine at_seq ?_
        refine at_block ?_
        refine at_seq ?_
        refine at_region [0, 1] rfl ?_
        obtain ⟨c7, Z5⟩ := chk_e Z5
        refine at_v rfl (g_aidx T (Fl.int .i64) [(rd v3 0), (rd v3 1), (rd v3 2), (rd v3 3)] rfl rfl rfl rfl rfl rfl rfl rfl rfl c7 rfl) ?_
        refine at_s T rfl ?_
        refine at_end ?_
        refine at_sub [(0, (.pointer (some ⟨b_g, 0, none⟩))), (1, (.int .i64 cell)), (5, (.int .i64 v1.1)), (6, (.int .i64 v1.2)), (7, (.slice a6 (List.length x6) n6)), (9, (.int .i64 (rd [(rd v3 0), (rd v3 1), (rd v3 2), (rd v3 3)] x7))), (20, (.agg #[(.int .i64 (rd v3 0)), (.int .i64 (rd v3 1)), (.int .i64 (rd v3 2)), (.int .i64 (rd v3 3))])), (21, (.int .i64 x7))] ⟨rfl, rfl, rfl, rfl, rfl, rfl, rfl, rfl, trivial⟩ ?_
        refine at_then ?_
        refine at_seq ?_
        refine at_region [0, 1, 2, 3, 4, 5] rfl ?_
        iterate 4 refine at_s T rfl ?_
        obtain ⟨v9, V8, Z5⟩ := bind_e Z5
        refine at_cons (at_c (B := fun _ => []) [] rfl rfl rfl rfl has59 rfl rfl (border_over.c v1.1 v1.2 cell (rd [(rd v3 0), (rd v3 1), (rd v3 2), (rd v3 3)] x7) v9 _ V8) (fun _ => ?_))
        refine at_s T rfl ?_
        refine at_end ?_
        refine at_sub [(0, (.pointer (some ⟨b_g, 0, none⟩))), (1, (.int .i64 cell)), (5, (.int .i64 v1.1)), (6, (.int .i64 v1.2)), (7, (.slice a6 (List.length x6) n6)), (10, (.int .i64 v9)), (20, (.agg #[(.int .i64 (rd v3 0)), (.int .i64 (rd v3 1)), (.int .i64 (rd v3 2)), (.int .i64 (rd v3 3))])), (21, (.int .i64 x7))] ⟨rfl, rfl, rfl, rfl, rfl, rfl, rfl, rfl, trivial⟩ ?_
        refine at_then ?_
        obtain ⟨z11, Z9, Z5⟩ := bind_e Z5
        refine at_seq_mid (σ := Bool) (fun x10 => x10 = z11) (fun x10 => [(0, (.pointer (some ⟨b_g, 0, none⟩))), (1, (.int .i64 cell)), (5, (.int .i64 v1.1)), (6, (.int .i64 v1.2)), (7, (.slice a6 (List.length x6) n6)), (10, (.int .i64 v9)), (20, (.agg #[(.int .i64 (rd v3 0)), (.int .i64 (rd v3 1)), (.int .i64 (rd v3 2)), (.int .i64 (rd v3 3))])), (21, (.int .i64 x7)), (35, (.bool x10))]) (fun x10 => [F, [(b_g, Obj.cells #[(.int .i64 g.m.W), (.int .i64 g.m.H), (.slice a_g_m_C (List.length g.m.C) n_g_m_C), (.int .i64 g.epoch), (.slice a_g_versions (List.length g.versions) n_g_versions)] 81 (0, 0))], H_g_m_C, H_g_versions, H6]) ?_ ?_
        · refine at_region [0, 1, 2, 3, 4, 5, 6] rfl ?_
          iterate 3 refine at_s T rfl ?_
          refine at_case (s := 31) rfl (fun c10 => ?_) (fun c10 => ?_)
          · replace Z9 := if_t (of_decide_eq_true c10) Z9
            iterate 2 refine at_s T rfl ?_
            obtain ⟨v12, V11, Z9⟩ := bind_e Z9
            refine at_cons (at_c (As := [[(b_g, Obj.cells #[(.int .i64 g.m.W), (.int .i64 g.m.H), (.slice a_g_m_C (List.length g.m.C) n_g_m_C), (.int .i64 g.epoch), (.slice a_g_versions (List.length g.versions) n_g_versions)] 81 (0, 0))], H_g_m_C, H_g_versions]) (R := [F, H6]) (B := fun _ => [[(b_g, Obj.cells #[(.int .i64 g.m.W), (.int .i64 g.m.H), (.slice a_g_m_C (List.length g.m.C) n_g_m_C), (.int .i64 g.epoch), (.slice a_g_versions (List.length g.versions) n_g_versions)] 81 (0, 0))], H_g_m_C, H_g_versions]) [1, 1, 1] rfl rfl rfl rfl has64 rfl rfl (border_open.c g v9 v12 _ V11 s_g_m_C s_g_versions) (fun _ => ?_))
            refine at_s T rfl ?_
            refine at_end ?_
            refine at_sub [(0, (.pointer (some ⟨b_g, 0, none⟩))), (1, (.int .i64 cell)), (5, (.int .i64 v1.1)), (6, (.int .i64 v1.2)), (7, (.slice a6 (List.length x6) n6)), (10, (.int .i64 v9)), (20, (.agg #[(.int .i64 (rd v3 0)), (.int .i64 (rd v3 1)), (.int .i64 (rd v3 2)), (.int .i64 (rd v3 3))])), (21, (.int .i64 x7)), (35, (.bool v12))] ⟨rfl, rfl, rfl, rfl, rfl, rfl, rfl, rfl, rfl, trivial⟩ ?_
            refine at_then ?_
            obtain rfl := Option.some.inj Z9
            exact at_mid v12 [0, 1, 1, 1, 0] rfl ⟨rfl, rfl, rfl, rfl, rfl, rfl, rfl, rfl, rfl, trivial⟩ rfl
          · replace Z9 := if_f (of_decide_eq_false c10) Z9
            iterate 4 refine at_s T rfl ?_
            refine at_end ?_
            refine at_sub [(0, (.pointer (some ⟨b_g, 0, none⟩))), (1, (.int .i64 cell)), (5, (.int .i64 v1.1)), (6, (.int .i64 v1.2)), (7, (.slice a6 (List.length x6) n6)), (10, (.int .i64 v9)), (20, (.agg #[(.int .i64 (rd v3 0)), (.int .i64 (rd v3 1)), (.int .i64 (rd v3 2)), (.int .i64 (rd v3 3))])), (21, (.int .i64 x7)), (35, (.bool false))] ⟨rfl, rfl, rfl, rfl, rfl, rfl, rfl, rfl, rfl, trivial⟩ ?_
            refine at_then ?_
            obtain rfl := Option.some.inj Z9
            exact at_mid false [0, 0, 0, 0, 0] rfl ⟨rfl, rfl, rfl, rfl, rfl, rfl, rfl, rfl, rfl, trivial⟩ rfl
        · rintro x10 rfl
          refine at_cond rfl (fun c12 => ?_) (fun c12 => ?_)
          · replace Z5 := if_t c12 Z5
            refine at_region [0, 1, 2, 3, 4, 5, 6, 7, 8] rfl ?_
            iterate 4 refine at_s T rfl ?_
            obtain ⟨v13, V13, Z5⟩ := bind_e Z5
            refine at_cons (at_c (As := [[(b_g, Obj.cells #[(.int .i64 g.m.W), (.int .i64 g.m.H), (.slice a_g_m_C (List.length g.m.C) n_g_m_C), (.int .i64 g.epoch), (.slice a_g_versions (List.length g.versions) n_g_versions)] 81 (0, 0))], H_g_m_C, H_g_versions]) (R := [F, H6]) (B := fun _ => [[(b_g, Obj.cells #[(.int .i64 g.m.W), (.int .i64 g.m.H), (.slice a_g_m_C (List.length g.m.C) n_g_m_C), (.int .i64 g.epoch), (.slice a_g_versions (List.length g.versions) n_g_versions)] 81 (0, 0))], H_g_m_C, H_g_versions]) [1, 1, 1] rfl rfl rfl rfl has65 rfl rfl (grid_Grid_Cost.c g v9 v13 _ V13 s_g_m_C s_g_versions) (fun _ => ?_))
            refine at_s T rfl ?_
            refine at_cons (at_bs (k := k_api_Edge) T [(api_Edge.mk v9 v13)] rfl rfl rfl rfl rfl rfl rfl rfl rfl (fun a7 H7 s7 => ?_))
            obtain ⟨c14, Z5⟩ := chk_e Z5
            refine at_cons (at_ap (k := k_api_Edge) (xs := x6) T (g := 1) rfl rfl rfl rfl rfl rfl rfl rfl rfl rfl s6 (own_of s7 (j := 5) rfl) c14 rfl (fun a8 n8 H8 s8 => ?_))
            refine at_s T rfl ?_
            refine at_end ?_
            refine at_to [(0, (.pointer (some ⟨b_g, 0, none⟩))), (1, (.int .i64 cell)), (5, (.int .i64 v1.1)), (6, (.int .i64 v1.2)), (7, (.slice a8 (List.length (x6 ++ [(api_Edge.mk v9 v13)])) n8)), (20, (.agg #[(.int .i64 (rd v3 0)), (.int .i64 (rd v3 1)), (.int .i64 (rd v3 2)), (.int .i64 (rd v3 3))])), (21, (.int .i64 x7))] [0, 0, 0, 0, 0] [F, H8, [(b_g, Obj.cells #[(.int .i64 g.m.W), (.int .i64 g.m.H), (.slice a_g_m_C (List.length g.m.C) n_g_m_C), (.int .i64 g.epoch), (.slice a_g_versions (List.length g.versions) n_g_versions)] 81 (0, 0))], H_g_m_C, H_g_versions] ⟨rfl, rfl, rfl, rfl, rfl, rfl, rfl, trivial⟩ rfl ?_
            refine at_nb ?_
            refine at_then ?_
            refine at_region [0, 1] rfl ?_
            iterate 2 refine at_s T rfl ?_
            refine at_end ?_
            refine at_sub [(0, (.pointer (some ⟨b_g, 0, none⟩))), (1, (.int .i64 cell)), (5, (.int .i64 v1.1)), (6, (.int .i64 v1.2)), (7, (.slice a8 (List.length (x6 ++ [(api_Edge.mk v9 v13)])) n8)), (20, (.agg #[(.int .i64 (rd v3 0)), (.int .i64 (rd v3 1)), (.int .i64 (rd v3 2)), (.int .i64 (rd v3 3))])), (21, (.int .i64 (w64 (x7 + 1))))] ⟨rfl, rfl, rfl, rfl, rfl, rfl, rfl, trivial⟩ ?_
            refine at_then ?_
            exact at_roundL (k8, (x6 ++ [(api_Edge.mk v9 v13)]), (w64 (x7 + 1)), a8, n8, H8) [0, 1, 1, 1, 0] ⟨Z5, s8⟩ (Nat.lt_succ_self _) ⟨rfl, rfl, rfl, rfl, rfl, rfl, rfl, trivial⟩ rfl
          · replace Z5 := if_f (bf c12) Z5
            refine at_skip ?_
            refine at_nb ?_
            refine at_then ?_
            refine at_region [0, 1] rfl ?_
            iterate 2 refine at_s T rfl ?_
            refine at_end ?_
            refine at_sub [(0, (.pointer (some ⟨b_g, 0, none⟩))), (1, (.int .i64 cell)), (5, (.int .i64 v1.1)), (6, (.int .i64 v1.2)), (7, (.slice a6 (List.length x6) n6)), (20, (.agg #[(.int .i64 (rd v3 0)), (.int .i64 (rd v3 1)), (.int .i64 (rd v3 2)), (.int .i64 (rd v3 3))])), (21, (.int .i64 (w64 (x7 + 1))))] ⟨rfl, rfl, rfl, rfl, rfl, rfl, rfl, trivial⟩ ?_
            refine at_then ?_
            exact at_roundL (k8, x6, (w64 (x7 + 1)), a6, n6, H6) [0, 0, 0, 0, 0] ⟨Z5, s6⟩ (Nat.lt_succ_self _) ⟨rfl, rfl, rfl, rfl, rfl, rfl, rfl, trivial⟩ rfl
      · replace Z5 := if_f (of_decide_eq_false c6) Z5
        refine at_exit ?_
        refine at_xt ?_
        refine at_xt ?_
        refine at_xb ?_
        refine at_then ?_
        refine at_seq ?_
        refine at_region [0, 1] rfl ?_
        iterate 2 refine at_s T rfl ?_
        refine at_end ?_
        refine at_sub [(4, (.slice a6 (List.length x6) n6))] ⟨rfl, trivial⟩ ?_
        refine at_then ?_
        refine at_ret ?_
        obtain rfl := Option.some.inj Z5
        exact at_post (T := T) rfl (.tmp rfl .nil) (fun w o => ⟨⟨(_, _), ⟨a6, n6, H6, s6, rfl, rfl⟩⟩, rfl, own_to [4, 1, 1, 1, 0] rfl o⟩)

/-! ### herdsman/border.Runs: function 26 -/
def border_Runs.l0 : Nat → grid_Grid → Int → Int → (Int × Int) → (List Int) → List api_Run → Int → Int → Option (List api_Run)
  | 0, _, _, _, _, _, _, _, _ => none
  | k10 + 1, g, sector, side, v1, v3, x7, x8, x9 => if x9 < (List.length v3 : Int) then (if (0 ≤ x9 ∧ x9 < (List.length v3 : Int)) then ((where_Global.f v1.1 v1.2 sector (rd v3 x9)).bind fun v11 => (border_over.f v1.1 v1.2 v11 side).bind fun v12 => (if v12 < 0 then (some true) else ((border_open.f g v12).bind fun v15 => if (!v15) = true then (some true) else ((border_open.f g v11).bind fun v16 => some (!v16)))).bind fun x13 => if x13 = true then (border_Runs.l0 k10 g sector side v1 v3 x7 0 (w64 (x9 + 1))) else ((if (x8 == 0) = true then (if (List.length x7 + 1 ≤ 1099511627776) then (some (x7 ++ [(api_Run.mk x9 0)])) else none) else (some x7)).bind fun x17 => if (0 ≤ (w64 ((List.length x17 : Int) - 1)) ∧ (w64 ((List.length x17 : Int) - 1)) < (List.length x17 : Int)) then (border_Runs.l0 k10 g sector side v1 v3 (List.set x17 (Int.toNat (w64 ((List.length x17 : Int) - 1))) (api_Run.mk ((rd x17 (w64 ((List.length x17 : Int) - 1))).From) (w64 (x8 + 1)))) (w64 (x8 + 1)) (w64 (x9 + 1))) else none)) else none) else (some x7)
def border_Runs.f (g : grid_Grid) (sector : Int) (side : Int) : Option (List api_Run) := (grid_Grid_Size.f g).bind fun v1 => (where_Size.f v1.1 v1.2 sector).bind fun v2 => (border_along.f v2.1 v2.2 side).bind fun v3 => border_Runs.l0 fuel g sector side v1 v3 [] 0 0
def border_Runs.R (r : (List api_Run)) (u : Value) (G : List Hp) : Prop := ∃ (a0 : Option Addr) (n0 : Nat) (H0 : Hp), SliceO k_api_Run 49 r a0 n0 H0 ∧ u = (.slice a0 (List.length r) n0) ∧ G = [H0]
set_option maxHeartbeats 4000000 in
theorem border_Runs.c {b_g : Nat} {a_g_m_C : Option Addr} {n_g_m_C : Nat} {H_g_m_C : Hp} {a_g_versions : Option Addr} {n_g_versions : Nat} {H_g_versions : Hp} (g : grid_Grid) (sector : Int) (side : Int) (r : (List api_Run)) (F : Hp) (H : border_Runs.f g sector side = some r) (s_g_m_C : SliceO (Fl.int .u8) 5 g.m.C a_g_m_C n_g_m_C H_g_m_C) (s_g_versions : SliceO (Fl.int .i64) 2 g.versions a_g_versions n_g_versions H_g_versions) :
    CallsL Try.prog 26 [(.pointer (some ⟨b_g, 0, none⟩)), (.int .i64 sector), (.int .i64 side)] [[(b_g, Obj.cells #[(.int .i64 g.m.W), (.int .i64 g.m.H), (.slice a_g_m_C (List.length g.m.C) n_g_m_C), (.int .i64 g.epoch), (.slice a_g_versions (List.length g.versions) n_g_versions)] 81 (0, 0))], H_g_m_C, H_g_versions, F] (fun p : { p : Value × List Hp // border_Runs.R r p.1 p.2 } => p.1.1) (fun p => (p.1.2 ++ [[(b_g, Obj.cells #[(.int .i64 g.m.W), (.int .i64 g.m.H), (.slice a_g_m_C (List.length g.m.C) n_g_m_C), (.int .i64 g.epoch), (.slice a_g_versions (List.length g.versions) n_g_versions)] 81 (0, 0))], H_g_m_C, H_g_versions]) ++ [F]) := by
  unfold border_Runs.f at H
  refine calls_atL [(0, (.pointer (some ⟨b_g, 0, none⟩))), (1, (.int .i64 sector)), (2, (.int .i64 side))] Try.func26 rfl rfl ⟨rfl, rfl, rfl, trivial⟩ (fun W => ?_)
  refine at_seq ?_
  refine at_region [0] rfl ?_
  refine at_s T rfl ?_
  refine at_end ?_
  refine at_sub [(0, (.pointer (some ⟨b_g, 0, none⟩))), (1, (.int .i64 sector)), (2, (.int .i64 side))] ⟨rfl, rfl, rfl, trivial⟩ ?_
  refine at_then ?_
  refine at_seq ?_
  refine at_region [0, 1, 2, 3, 4, 5, 6] rfl ?_
  refine at_s T rfl ?_
  obtain ⟨v1, V1, H⟩ := bind_e H
  refine at_cons (at_c (As := [[(b_g, Obj.cells #[(.int .i64 g.m.W), (.int .i64 g.m.H), (.slice a_g_m_C (List.length g.m.C) n_g_m_C), (.int .i64 g.epoch), (.slice a_g_versions (List.length g.versions) n_g_versions)] 81 (0, 0))], H_g_m_C, H_g_versions]) (R := [F]) (B := fun _ => [[(b_g, Obj.cells #[(.int .i64 g.m.W), (.int .i64 g.m.H), (.slice a_g_m_C (List.length g.m.C) n_g_m_C), (.int .i64 g.epoch), (.slice a_g_versions (List.length g.versions) n_g_versions)] 81 (0, 0))], H_g_m_C, H_g_versions]) [0, 0, 0] rfl rfl rfl rfl has63 rfl rfl (grid_Grid_Size.c g v1 _ V1 s_g_m_C s_g_versions) (fun _ => ?_))
  iterate 5 refine at_s T rfl ?_
  refine at_end ?_
  refine at_sub [(0, (.pointer (some ⟨b_g, 0, none⟩))), (1, (.int .i64 sector)), (2, (.int .i64 side)), (7, (.int .i64 v1.1)), (8, (.int .i64 v1.2))] ⟨rfl, rfl, rfl, rfl, rfl, trivial⟩ ?_
  refine at_then ?_
  refine at_seq ?_
  refine at_region [0, 1, 2, 3, 4, 5, 6, 7, 8] rfl ?_
  iterate 3 refine at_s T rfl ?_
  obtain ⟨v2, V2, H⟩ := bind_e H
  refine at_cons (at_c (B := fun _ => []) [] rfl rfl rfl rfl has56 rfl rfl (where_Size.c v1.1 v1.2 sector v2 _ V2) (fun _ => ?_))
  iterate 5 refine at_s T rfl ?_
  refine at_end ?_
  refine at_sub [(0, (.pointer (some ⟨b_g, 0, none⟩))), (1, (.int .i64 sector)), (2, (.int .i64 side)), (7, (.int .i64 v1.1)), (8, (.int .i64 v1.2)), (9, (.int .i64 v2.1)), (10, (.int .i64 v2.2))] ⟨rfl, rfl, rfl, rfl, rfl, rfl, rfl, trivial⟩ ?_
  refine at_then ?_
  refine at_seq ?_
  refine at_region [0] rfl ?_
  refine at_s T rfl ?_
  refine at_end ?_
  refine at_sub [(0, (.pointer (some ⟨b_g, 0, none⟩))), (1, (.int .i64 sector)), (2, (.int .i64 side)), (7, (.int .i64 v1.1)), (8, (.int .i64 v1.2)), (9, (.int .i64 v2.1)), (10, (.int .i64 v2.2)), (11, (.slice none 0 0))] ⟨rfl, rfl, rfl, rfl, rfl, rfl, rfl, rfl, trivial⟩ ?_
  refine at_then ?_
  refine at_seq ?_
  refine at_region [0] rfl ?_
  refine at_s T rfl ?_
  refine at_end ?_
  refine at_sub [(0, (.pointer (some ⟨b_g, 0, none⟩))), (1, (.int .i64 sector)), (2, (.int .i64 side)), (7, (.int .i64 v1.1)), (8, (.int .i64 v1.2)), (9, (.int .i64 v2.1)), (10, (.int .i64 v2.2)), (11, (.slice none 0 0)), (12, (.int .i64 0))] ⟨rfl, rfl, rfl, rfl, rfl, rfl, rfl, rfl, rfl, trivial⟩ ?_
  refine at_then ?_
  refine at_seq ?_
  refine at_seq ?_
  refine at_region [0, 1, 2, 3, 4, 5] rfl ?_
  iterate 3 refine at_s T rfl ?_
  obtain ⟨v3, V3, H⟩ := bind_e H
  refine at_cons (at_cR (border_along.R v3) [] [] rfl rfl rfl rfl has58 rfl rfl (border_along.c v2.1 v2.2 side v3 _ V3) ?_)
  rintro _ _ ⟨a4, n4, H4, s4, rfl, rfl⟩
  iterate 2 refine at_s T rfl ?_
  refine at_end ?_
  refine at_sub [(0, (.pointer (some ⟨b_g, 0, none⟩))), (1, (.int .i64 sector)), (2, (.int .i64 side)), (7, (.int .i64 v1.1)), (8, (.int .i64 v1.2)), (11, (.slice none 0 0)), (12, (.int .i64 0)), (32, (.slice a4 (List.length v3) n4)), (33, (.int .i64 (List.length v3 : Int))), (34, (.int .i64 0))] ⟨rfl, rfl, rfl, rfl, rfl, rfl, rfl, rfl, rfl, rfl, trivial⟩ ?_
  refine at_then ?_
  refine at_block ?_
  refine at_addnil ?_
  refine at_loopL (σ := Nat × List api_Run × Int × Int × Option Addr × Nat × Hp) (fun ⟨k10, x7, x8, x9, a6, n6, H6⟩ => border_Runs.l0 k10 g sector side v1 v3 x7 x8 x9 = some r ∧ SliceO k_api_Run 49 x7 a6 n6 H6) (fun ⟨k10, x7, x8, x9, a6, n6, H6⟩ => [(0, (.pointer (some ⟨b_g, 0, none⟩))), (1, (.int .i64 sector)), (2, (.int .i64 side)), (7, (.int .i64 v1.1)), (8, (.int .i64 v1.2)), (11, (.slice a6 (List.length x7) n6)), (12, (.int .i64 x8)), (32, (.slice a4 (List.length v3) n4)), (33, (.int .i64 (List.length v3 : Int))), (34, (.int .i64 x9))]) (fun ⟨k10, x7, x8, x9, a6, n6, H6⟩ => [F, [(b_g, Obj.cells #[(.int .i64 g.m.W), (.int .i64 g.m.H), (.slice a_g_m_C (List.length g.m.C) n_g_m_C), (.int .i64 g.epoch), (.slice a_g_versions (List.length g.versions) n_g_versions)] 81 (0, 0))], H_g_m_C, H_g_versions, H6, H4]) (fun s => s.1) (fuel, [], 0, 0, none, 0, []) [0, 0, 0, 0, 1, 0] ⟨H, SliceO.nil⟩ ⟨rfl, rfl, rfl, rfl, rfl, rfl, rfl, rfl, rfl, rfl, trivial⟩ rfl ?_
  rintro ⟨k10, x7, x8, x9, a6, n6, H6⟩ ⟨Z4, s6⟩
  replace Z4 : border_Runs.l0 k10 g sector side v1 v3 x7 x8 x9 = some r := Z4
  rcases k10 with _ | k10
  · rw [border_Runs.l0] at Z4; cases Z4
  · rw [border_Runs.l0] at Z4
    refine at_seq ?_
    refine at_region [0] rfl ?_
    refine at_s T rfl ?_
    refine at_end ?_
    refine at_sub [(0, (.pointer (some ⟨b_g, 0, none⟩))), (1, (.int .i64 sector)), (2, (.int .i64 side)), (7, (.int .i64 v1.1)), (8, (.int .i64 v1.2)), (11, (.slice a6 (List.length x7) n6)), (12, (.int .i64 x8)), (32, (.slice a4 (List.length v3) n4)), (33, (.int .i64 (List.length v3 : Int))), (34, (.int .i64 x9)), (35, (.bool (decide (x9 < (List.length v3 : Int)))))] ⟨rfl, rfl, rfl, rfl, rfl, rfl, rfl, rfl, rfl, rfl, rfl, trivial⟩ ?_
    refine at_then ?_
    refine at_seq ?_
    refine at_cond rfl (fun c5 => ?_) (fun c5 => ?_)
    · replace Z4 := if_t (of_decide_eq_true c5) Z4
      refine at_skip ?_
      refine at_then ?_
      refine at_seq ?_
      refine at_block ?_
      refine at_seq ?_
      refine at_region [0, 1, 2, 3, 4] rfl ?_
      refine at_s T rfl ?_
      obtain ⟨c6, Z4⟩ := chk_e Z4
      obtain ⟨q7, o7, e7⟩ := s4.r.addr c6.1 c6.2
      refine at_v rfl (g_index T rfl rfl rfl rfl rfl e7 c6.1 c6.2) ?_
      refine at_v rfl (g_load T rfl rfl rfl rfl (in_elem1 (k := (Fl.int .i64)) (own_of s4 (j := 5) rfl) e7 c6 0 rfl)) ?_
      iterate 2 refine at_s T rfl ?_
      refine at_end ?_
      refine at_sub [(0, (.pointer (some ⟨b_g, 0, none⟩))), (1, (.int .i64 sector)), (2, (.int .i64 side)), (7, (.int .i64 v1.1)), (8, (.int .i64 v1.2)), (11, (.slice a6 (List.length x7) n6)), (12, (.int .i64 x8)), (13, (.int .i64 x9)), (14, (.int .i64 (rd v3 x9))), (32, (.slice a4 (List.length v3) n4)), (33, (.int .i64 (List.length v3 : Int))), (34, (.int .i64 x9))] ⟨rfl, rfl, rfl, rfl, rfl, rfl, rfl, rfl, rfl, rfl, rfl, rfl, trivial⟩ ?_
      refine at_then ?_
      refine at_seq ?_
      refine at_region [0, 1, 2, 3, 4, 5] rfl ?_
      iterate 4 refine at_s T rfl ?_
      obtain ⟨v11, V7, Z4⟩ := bind_e Z4
      refine at_cons (at_c (B := fun _ => []) [] rfl rfl rfl rfl has60 rfl rfl (where_Global.c v1.1 v1.2 sector (rd v3 x9) v11 _ V7) (fun _ => ?_))
      refine at_s T rfl ?_
      refine at_end ?_
      refine at_sub [(0, (.pointer (some ⟨b_g, 0, none⟩))), (1, (.int .i64 sector)), (2, (.int .i64 side)), (7, (.int .i64 v1.1)), (8, (.int .i64 v1.2)), (11, (.slice a6 (List.length x7) n6)), (12, (.int .i64 x8)), (13, (.int .i64 x9)), (15, (.int .i64 v11)), (32, (.slice a4 (List.length v3) n4)), (33, (.int .i64 (List.length v3 : Int))), (34, (.int .i64 x9))] ⟨rfl, rfl, rfl, rfl, rfl, rfl, rfl, rfl, rfl, rfl, rfl, rfl, trivial⟩ ?_
      refine at_then ?_
      refine at_seq ?_
      refine at_seq ?_
      refine at_region [0, 1, 2, 3, 4, 5] rfl ?_
      iterate 4 refine at_s T rfl ?_
      obtain ⟨v12, V8, Z4⟩ := bind_e Z4
      refine at_cons (at_c (B := fun _ => []) [] rfl rfl rfl rfl has59 rfl rfl (border_over.c v1.1 v1.2 v11 side v12 _ V8) (fun _ => ?_))
      refine at_s T rfl ?_
      refine at_end ?_
      refine at_sub [(0, (.pointer (some ⟨b_g, 0, none⟩))), (1, (.int .i64 sector)), (2, (.int .i64 side)), (7, (.int .i64 v1.1)), (8, (.int .i64 v1.2)), (11, (.slice a6 (List.length x7) n6)), (12, (.int .i64 x8)), (13, (.int .i64 x9)), (15, (.int .i64 v11)), (16, (.int .i64 v12)), (32, (.slice a4 (List.length v3) n4)), (33, (.int .i64 (List.length v3 : Int))), (34, (.int .i64 x9))] ⟨rfl, rfl, rfl, rfl, rfl, rfl, rfl, rfl, rfl, rfl, rfl, rfl, rfl, trivial⟩ ?_
      refine at_then ?_
      obtain ⟨z14, Z9, Z4⟩ := bind_e Z4
      refine at_seq_mid (σ := Bool) (fun x13 => x13 = z14) (fun x13 => [(0, (.pointer (some ⟨b_g, 0, none⟩))), (1, (.int .i64 sector)), (2, (.int .i64 side)), (7, (.int .i64 v1.1)), (8, (.int .i64 v1.2)), (11, (.slice a6 (List.length x7) n6)), (12, (.int .i64 x8)), (13, (.int .i64 x9)), (32, (.slice a4 (List.length v3) n4)), (33, (.int .i64 (List.length v3 : Int))), (34, (.int .i64 x9)), (62, (.bool x13))]) (fun x13 => [F, [(b_g, Obj.cells #[(.int .i64 g.m.W), (.int .i64 g.m.H), (.slice a_g_m_C (List.length g.m.C) n_g_m_C), (.int .i64 g.epoch), (.slice a_g_versions (List.length g.versions) n_g_versions)] 81 (0, 0))], H_g_m_C, H_g_versions, H6, H4]) ?_ ?_
      · refine at_region [0, 1, 2, 3, 4, 5, 6, 7, 8, 9, 10, 11, 12, 13] rfl ?_
        iterate 3 refine at_s T rfl ?_
        refine at_case (s := 51) rfl (fun c10 => ?_) (fun c10 => ?_)
        · replace Z9 := if_t (of_decide_eq_true c10) Z9
          iterate 11 refine at_s T rfl ?_
          refine at_end ?_
          refine at_sub [(0, (.pointer (some ⟨b_g, 0, none⟩))), (1, (.int .i64 sector)), (2, (.int .i64 side)), (7, (.int .i64 v1.1)), (8, (.int .i64 v1.2)), (11, (.slice a6 (List.length x7) n6)), (12, (.int .i64 x8)), (13, (.int .i64 x9)), (32, (.slice a4 (List.length v3) n4)), (33, (.int .i64 (List.length v3 : Int))), (34, (.int .i64 x9)), (62, (.bool true))] ⟨rfl, rfl, rfl, rfl, rfl, rfl, rfl, rfl, rfl, rfl, rfl, rfl, trivial⟩ ?_
          refine at_then ?_
          obtain rfl := Option.some.inj Z9
          exact at_mid true [0, 0, 0, 0, 0, 0] rfl ⟨rfl, rfl, rfl, rfl, rfl, rfl, rfl, rfl, rfl, rfl, rfl, rfl, trivial⟩ rfl
        · replace Z9 := if_f (of_decide_eq_false c10) Z9
          iterate 2 refine at_s T rfl ?_
          obtain ⟨v15, V11, Z9⟩ := bind_e Z9
          refine at_cons (at_c (As := [[(b_g, Obj.cells #[(.int .i64 g.m.W), (.int .i64 g.m.H), (.slice a_g_m_C (List.length g.m.C) n_g_m_C), (.int .i64 g.epoch), (.slice a_g_versions (List.length g.versions) n_g_versions)] 81 (0, 0))], H_g_m_C, H_g_versions]) (R := [F, H6, H4]) (B := fun _ => [[(b_g, Obj.cells #[(.int .i64 g.m.W), (.int .i64 g.m.H), (.slice a_g_m_C (List.length g.m.C) n_g_m_C), (.int .i64 g.epoch), (.slice a_g_versions (List.length g.versions) n_g_versions)] 81 (0, 0))], H_g_m_C, H_g_versions]) [1, 1, 1] rfl rfl rfl rfl has64 rfl rfl (border_open.c g v12 v15 _ V11 s_g_m_C s_g_versions) (fun _ => ?_))
          iterate 3 refine at_s T rfl ?_
          refine at_case (s := 57) rfl (fun c12 => ?_) (fun c12 => ?_)
          · replace Z9 := if_t c12 Z9
            iterate 5 refine at_s T rfl ?_
            refine at_end ?_
            refine at_sub [(0, (.pointer (some ⟨b_g, 0, none⟩))), (1, (.int .i64 sector)), (2, (.int .i64 side)), (7, (.int .i64 v1.1)), (8, (.int .i64 v1.2)), (11, (.slice a6 (List.length x7) n6)), (12, (.int .i64 x8)), (13, (.int .i64 x9)), (32, (.slice a4 (List.length v3) n4)), (33, (.int .i64 (List.length v3 : Int))), (34, (.int .i64 x9)), (62, (.bool true))] ⟨rfl, rfl, rfl, rfl, rfl, rfl, rfl, rfl, rfl, rfl, rfl, rfl, trivial⟩ ?_
            refine at_then ?_
            obtain rfl := Option.some.inj Z9
            exact at_mid true [0, 2, 2, 2, 0, 0] rfl ⟨rfl, rfl, rfl, rfl, rfl, rfl, rfl, rfl, rfl, rfl, rfl, rfl, trivial⟩ rfl
          · replace Z9 := if_f (bf c12) Z9
            iterate 2 refine at_s T rfl ?_
            obtain ⟨v16, V13, Z9⟩ := bind_e Z9
            refine at_cons (at_c (As := [[(b_g, Obj.cells #[(.int .i64 g.m.W), (.int .i64 g.m.H), (.slice a_g_m_C (List.length g.m.C) n_g_m_C), (.int .i64 g.epoch), (.slice a_g_versions (List.length g.versions) n_g_versions)] 81 (0, 0))], H_g_m_C, H_g_versions]) (R := [F, H6, H4]) (B := fun _ => [[(b_g, Obj.cells #[(.int .i64 g.m.W), (.int .i64 g.m.H), (.slice a_g_m_C (List.length g.m.C) n_g_m_C), (.int .i64 g.epoch), (.slice a_g_versions (List.length g.versions) n_g_versions)] 81 (0, 0))], H_g_m_C, H_g_versions]) [3, 3, 3] rfl rfl rfl rfl has64 rfl rfl (border_open.c g v11 v16 _ V13 s_g_m_C s_g_versions) (fun _ => ?_))
            iterate 2 refine at_s T rfl ?_
            refine at_end ?_
            refine at_sub [(0, (.pointer (some ⟨b_g, 0, none⟩))), (1, (.int .i64 sector)), (2, (.int .i64 side)), (7, (.int .i64 v1.1)), (8, (.int .i64 v1.2)), (11, (.slice a6 (List.length x7) n6)), (12, (.int .i64 x8)), (13, (.int .i64 x9)), (32, (.slice a4 (List.length v3) n4)), (33, (.int .i64 (List.length v3 : Int))), (34, (.int .i64 x9)), (62, (.bool (!v16)))] ⟨rfl, rfl, rfl, rfl, rfl, rfl, rfl, rfl, rfl, rfl, rfl, rfl, trivial⟩ ?_
            refine at_then ?_
            obtain rfl := Option.some.inj Z9
            exact at_mid (!v16) [0, 2, 2, 2, 0, 0] rfl ⟨rfl, rfl, rfl, rfl, rfl, rfl, rfl, rfl, rfl, rfl, rfl, rfl, trivial⟩ rfl
      · rintro x13 rfl
        refine at_cond rfl (fun c14 => ?_) (fun c14 => ?_)
        · replace Z4 := if_t c14 Z4
          refine at_seq ?_
          refine at_region [0] rfl ?_
          refine at_s T rfl ?_
          refine at_end ?_
          refine at_sub [(0, (.pointer (some ⟨b_g, 0, none⟩))), (1, (.int .i64 sector)), (2, (.int .i64 side)), (7, (.int .i64 v1.1)), (8, (.int .i64 v1.2)), (11, (.slice a6 (List.length x7) n6)), (12, (.int .i64 0)), (32, (.slice a4 (List.length v3) n4)), (33, (.int .i64 (List.length v3 : Int))), (34, (.int .i64 x9))] ⟨rfl, rfl, rfl, rfl, rfl, rfl, rfl, rfl, rfl, rfl, trivial⟩ ?_
          refine at_then ?_
          refine at_exit ?_
          refine at_xt ?_
          refine at_xb ?_
          refine at_then ?_
          refine at_region [0, 1] rfl ?_
          iterate 2 refine at_s T rfl ?_
          refine at_end ?_
          refine at_sub [(0, (.pointer (some ⟨b_g, 0, none⟩))), (1, (.int .i64 sector)), (2, (.int .i64 side)), (7, (.int .i64 v1.1)), (8, (.int .i64 v1.2)), (11, (.slice a6 (List.length x7) n6)), (12, (.int .i64 0)), (32, (.slice a4 (List.length v3) n4)), (33, (.int .i64 (List.length v3 : Int))), (34, (.int .i64 (w64 (x9 + 1))))] ⟨rfl, rfl, rfl, rfl, rfl, rfl, rfl, rfl, rfl, rfl, trivial⟩ ?_
          refine at_then ?_
          exact at_roundL (k10, x7, 0, (w64 (x9 + 1)), a6, n6, H6) [0, 0, 0, 0, 0, 0] ⟨Z4, s6⟩ (Nat.lt_succ_self _) ⟨rfl, rfl, rfl, rfl, rfl, rfl, rfl, rfl, rfl, rfl, trivial⟩ rfl
        · replace Z4 := if_f (bf c14) Z4
          refine at_skip ?_
          refine at_then ?_
          obtain ⟨z18, Z15, Z4⟩ := bind_e Z4
          refine at_seq_mid (σ := List api_Run × Option Addr × Nat × Hp) (fun ⟨x17, a8, n8, H8⟩ => x17 = z18 ∧ SliceO k_api_Run 49 x17 a8 n8 H8) (fun ⟨x17, a8, n8, H8⟩ => [(0, (.pointer (some ⟨b_g, 0, none⟩))), (1, (.int .i64 sector)), (2, (.int .i64 side)), (7, (.int .i64 v1.1)), (8, (.int .i64 v1.2)), (11, (.slice a8 (List.length x17) n8)), (12, (.int .i64 x8)), (32, (.slice a4 (List.length v3) n4)), (33, (.int .i64 (List.length v3 : Int))), (34, (.int .i64 x9))]) (fun ⟨x17, a8, n8, H8⟩ => [F, [(b_g, Obj.cells #[(.int .i64 g.m.W), (.int .i64 g.m.H), (.slice a_g_m_C (List.length g.m.C) n_g_m_C), (.int .i64 g.epoch), (.slice a_g_versions (List.length g.versions) n_g_versions)] 81 (0, 0))], H_g_m_C, H_g_versions, H8, H4]) ?_ ?_
          · refine at_seq ?_
            refine at_region [0, 1] rfl ?_
            iterate 2 refine at_s T rfl ?_
            refine at_end ?_
            refine at_sub [(0, (.pointer (some ⟨b_g, 0, none⟩))), (1, (.int .i64 sector)), (2, (.int .i64 side)), (7, (.int .i64 v1.1)), (8, (.int .i64 v1.2)), (11, (.slice a6 (List.length x7) n6)), (12, (.int .i64 x8)), (13, (.int .i64 x9)), (32, (.slice a4 (List.length v3) n4)), (33, (.int .i64 (List.length v3 : Int))), (34, (.int .i64 x9)), (64, (.bool (x8 == 0)))] ⟨rfl, rfl, rfl, rfl, rfl, rfl, rfl, rfl, rfl, rfl, rfl, rfl, trivial⟩ ?_
            refine at_then ?_
            refine at_cond rfl (fun c16 => ?_) (fun c16 => ?_)
            · replace Z15 := if_t c16 Z15
              refine at_region [0, 1, 2, 3, 4, 5] rfl ?_
              iterate 3 refine at_s T rfl ?_
              refine at_cons (at_bs (k := k_api_Run) T [(api_Run.mk x9 0)] rfl rfl rfl rfl rfl rfl rfl rfl rfl (fun a9 H9 s9 => ?_))
              obtain ⟨c17, Z15⟩ := chk_e Z15
              refine at_cons (at_ap (k := k_api_Run) (xs := x7) T (g := 4) rfl rfl rfl rfl rfl rfl rfl rfl rfl rfl s6 (own_of s9 (j := 6) rfl) c17 rfl (fun a10 n10 H10 s10 => ?_))
              refine at_s T rfl ?_
              refine at_end ?_
              refine at_to [(0, (.pointer (some ⟨b_g, 0, none⟩))), (1, (.int .i64 sector)), (2, (.int .i64 side)), (7, (.int .i64 v1.1)), (8, (.int .i64 v1.2)), (11, (.slice a10 (List.length (x7 ++ [(api_Run.mk x9 0)])) n10)), (12, (.int .i64 x8)), (32, (.slice a4 (List.length v3) n4)), (33, (.int .i64 (List.length v3 : Int))), (34, (.int .i64 x9))] [0, 0, 0, 0, 0, 0] [F, [(b_g, Obj.cells #[(.int .i64 g.m.W), (.int .i64 g.m.H), (.slice a_g_m_C (List.length g.m.C) n_g_m_C), (.int .i64 g.epoch), (.slice a_g_versions (List.length g.versions) n_g_versions)] 81 (0, 0))], H_g_m_C, H_g_versions, H10, H4] ⟨rfl, rfl, rfl, rfl, rfl, rfl, rfl, rfl, rfl, rfl, trivial⟩ rfl ?_
              refine at_then ?_
              obtain rfl := Option.some.inj Z15
              exact at_mid ((x7 ++ [(api_Run.mk x9 0)]), a10, n10, H10) [0, 0, 0, 0, 0, 0] ⟨rfl, s10⟩ ⟨rfl, rfl, rfl, rfl, rfl, rfl, rfl, rfl, rfl, rfl, trivial⟩ rfl
            · replace Z15 := if_f (bf c16) Z15
              refine at_skip ?_
              refine at_then ?_
              obtain rfl := Option.some.inj Z15
              exact at_mid (x7, a6, n6, H6) [0, 0, 0, 0, 0, 0] ⟨rfl, s6⟩ ⟨rfl, rfl, rfl, rfl, rfl, rfl, rfl, rfl, rfl, rfl, trivial⟩ rfl
          · rintro ⟨x17, a8, n8, H8⟩ ⟨rfl, s8⟩
            refine at_seq ?_
            refine at_region [0, 1, 2] rfl ?_
            iterate 3 refine at_s T rfl ?_
            refine at_end ?_
            refine at_sub [(0, (.pointer (some ⟨b_g, 0, none⟩))), (1, (.int .i64 sector)), (2, (.int .i64 side)), (7, (.int .i64 v1.1)), (8, (.int .i64 v1.2)), (11, (.slice a8 (List.length x17) n8)), (12, (.int .i64 (w64 (x8 + 1)))), (32, (.slice a4 (List.length v3) n4)), (33, (.int .i64 (List.length v3 : Int))), (34, (.int .i64 x9))] ⟨rfl, rfl, rfl, rfl, rfl, rfl, rfl, rfl, rfl, rfl, trivial⟩ ?_
            refine at_then ?_
            refine at_region [0, 1, 2, 3, 4, 5, 6, 7] rfl ?_
            iterate 5 refine at_s T rfl ?_
            obtain ⟨c18, Z4⟩ := chk_e Z4
            obtain ⟨q11, o11, e11⟩ := s8.r.addr c18.1 c18.2
            refine at_v rfl (g_index T rfl rfl rfl rfl rfl e11 c18.1 c18.2) ?_
            refine at_s T rfl ?_
            refine at_cons (at_se (k := k_api_Run) T 4 1 (api_Run.mk ((rd x17 (w64 ((List.length x17 : Int) - 1))).From) (w64 (x8 + 1))) rfl rfl rfl rfl rfl rfl s8 e11 c18 rfl rfl rfl (fun H12 s12 => ?_))
            refine at_to [(0, (.pointer (some ⟨b_g, 0, none⟩))), (1, (.int .i64 sector)), (2, (.int .i64 side)), (7, (.int .i64 v1.1)), (8, (.int .i64 v1.2)), (11, (.slice a8 (List.length (List.set x17 (Int.toNat (w64 ((List.length x17 : Int) - 1))) (api_Run.mk ((rd x17 (w64 ((List.length x17 : Int) - 1))).From) (w64 (x8 + 1))))) n8)), (12, (.int .i64 (w64 (x8 + 1)))), (32, (.slice a4 (List.length v3) n4)), (33, (.int .i64 (List.length v3 : Int))), (34, (.int .i64 x9))] [0, 0, 0, 0, 0, 0] [F, [(b_g, Obj.cells #[(.int .i64 g.m.W), (.int .i64 g.m.H), (.slice a_g_m_C (List.length g.m.C) n_g_m_C), (.int .i64 g.epoch), (.slice a_g_versions (List.length g.versions) n_g_versions)] 81 (0, 0))], H_g_m_C, H_g_versions, H12, H4] ⟨rfl, rfl, rfl, rfl, rfl, (by first | rfl | (simp only [List.length_set]; rfl)), rfl, rfl, rfl, rfl, trivial⟩ rfl ?_
            refine at_end ?_
            refine at_sub [(0, (.pointer (some ⟨b_g, 0, none⟩))), (1, (.int .i64 sector)), (2, (.int .i64 side)), (7, (.int .i64 v1.1)), (8, (.int .i64 v1.2)), (11, (.slice a8 (List.length (List.set x17 (Int.toNat (w64 ((List.length x17 : Int) - 1))) (api_Run.mk ((rd x17 (w64 ((List.length x17 : Int) - 1))).From) (w64 (x8 + 1))))) n8)), (12, (.int .i64 (w64 (x8 + 1)))), (32, (.slice a4 (List.length v3) n4)), (33, (.int .i64 (List.length v3 : Int))), (34, (.int .i64 x9))] ⟨rfl, rfl, rfl, rfl, rfl, rfl, rfl, rfl, rfl, rfl, trivial⟩ ?_
            refine at_nb ?_
            refine at_then ?_
            refine at_region [0, 1] rfl ?_
            iterate 2 refine at_s T rfl ?_
            refine at_end ?_
            refine at_sub [(0, (.pointer (some ⟨b_g, 0, none⟩))), (1, (.int .i64 sector)), (2, (.int .i64 side)), (7, (.int .i64 v1.1)), (8, (.int .i64 v1.2)), (11, (.slice a8 (List.length (List.set x17 (Int.toNat (w64 ((List.length x17 : Int) - 1))) (api_Run.mk ((rd x17 (w64 ((List.length x17 : Int) - 1))).From) (w64 (x8 + 1))))) n8)), (12, (.int .i64 (w64 (x8 + 1)))), (32, (.slice a4 (List.length v3) n4)), (33, (.int .i64 (List.length v3 : Int))), (34, (.int .i64 (w64 (x9 + 1))))] ⟨rfl, rfl, rfl, rfl, rfl, rfl, rfl, rfl, rfl, rfl, trivial⟩ ?_
            refine at_then ?_
            exact at_roundL (k10, (List.set x17 (Int.toNat (w64 ((List.length x17 : Int) - 1))) (api_Run.mk ((rd x17 (w64 ((List.length x17 : Int) - 1))).From) (w64 (x8 + 1)))), (w64 (x8 + 1)), (w64 (x9 + 1)), a8, n8, H12) [0, 0, 0, 0, 0, 0] ⟨Z4, s12⟩ (Nat.lt_succ_self _) ⟨rfl, rfl, rfl, rfl, rfl, rfl, rfl, rfl, rfl, rfl, trivial⟩ rfl
    · replace Z4 := if_f (of_decide_eq_false c5) Z4
      refine at_exit ?_
      refine at_xt ?_
      refine at_xt ?_
      refine at_xb ?_
      refine at_then ?_
      refine at_seq ?_
      refine at_region [0, 1] rfl ?_
      iterate 2 refine at_s T rfl ?_
      refine at_end ?_
      refine at_to [(6, (.slice a6 (List.length x7) n6))] [0, 0, 0, 0, 0] [F, [(b_g, Obj.cells #[(.int .i64 g.m.W), (.int .i64 g.m.H), (.slice a_g_m_C (List.length g.m.C) n_g_m_C), (.int .i64 g.epoch), (.slice a_g_versions (List.length g.versions) n_g_versions)] 81 (0, 0))], H_g_m_C, H_g_versions, H6] ⟨rfl, trivial⟩ rfl ?_
      refine at_then ?_
      refine at_ret ?_
      obtain rfl := Option.some.inj Z4
      exact at_post (T := T) rfl (.tmp rfl .nil) (fun w o => ⟨⟨(_, _), ⟨a6, n6, H6, s6, rfl, rfl⟩⟩, rfl, own_to [4, 1, 1, 1, 0] rfl o⟩)
end Go.Proofs.Yticdodeoljodiaa
