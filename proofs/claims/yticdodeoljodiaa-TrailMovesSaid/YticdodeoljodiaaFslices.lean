import Derived.Test.YticdodeoljodiaaT
import Derived.Test.YticdodeoljodiaaFmath
namespace Go.Proofs.Yticdodeoljodiaa
open Go.Hx
set_option maxRecDepth 100000
set_option linter.unusedVariables false
noncomputable section
/-! ### slices.Index[[]byte,byte]: function 87 -/
def slices_Index_byte_byte.l0 : Nat → (List Int) → Int → Int → Option Int
  | 0, _, _, _ => none
  | k3 + 1, s, v, x2 => if x2 < (List.length s : Int) then (if (0 ≤ x2 ∧ x2 < (List.length s : Int)) then (if (v == (rd s x2)) = true then (some x2) else (slices_Index_byte_byte.l0 k3 s v (w64 (x2 + 1)))) else none) else (some (-1))
def slices_Index_byte_byte.f (s : (List Int)) (v : Int) : Option Int := slices_Index_byte_byte.l0 fuel s v 0
set_option maxHeartbeats 4000000 in
theorem slices_Index_byte_byte.c {a_s : Option Addr} {n_s : Nat} (s : (List Int)) (v : Int) (r : Int) (F : Hp) (H : slices_Index_byte_byte.f s v = some r) (h_s : SliceR (Fl.int .u8) s a_s F) (c_s : List.length s ≤ n_s) :
    CallsL Try.prog 87 [(.slice a_s (List.length s) n_s), (.int .u8 v)] [F] (fun _ : Unit => (.int .i64 r)) (fun _ => [F]) := by
  unfold slices_Index_byte_byte.f at H
  refine calls_atL [(0, (.slice a_s (List.length s) n_s)), (1, (.int .u8 v))] Try.func87 rfl rfl ⟨rfl, rfl, trivial⟩ (fun W => ?_)
  refine at_seq ?_
  refine at_region [0] rfl ?_
  refine at_s T rfl ?_
  refine at_end ?_
  refine at_sub [(0, (.slice a_s (List.length s) n_s)), (1, (.int .u8 v))] ⟨rfl, rfl, trivial⟩ ?_
  refine at_then ?_
  refine at_seq ?_
  refine at_seq ?_
  refine at_region [0, 1, 2] rfl ?_
  iterate 3 refine at_s T rfl ?_
  refine at_end ?_
  refine at_sub [(0, (.slice a_s (List.length s) n_s)), (1, (.int .u8 v)), (7, (.int .i64 (List.length s : Int))), (8, (.int .i64 0))] ⟨rfl, rfl, rfl, rfl, trivial⟩ ?_
  refine at_then ?_
  refine at_block ?_
  refine at_loopL (σ := Nat × Int) (fun ⟨k3, x2⟩ => slices_Index_byte_byte.l0 k3 s v x2 = some r) (fun ⟨k3, x2⟩ => [(0, (.slice a_s (List.length s) n_s)), (1, (.int .u8 v)), (7, (.int .i64 (List.length s : Int))), (8, (.int .i64 x2))]) (fun ⟨k3, x2⟩ => [F]) (fun s => s.1) (fuel, 0) [0] H ⟨rfl, rfl, rfl, rfl, trivial⟩ rfl ?_
  rintro ⟨k3, x2⟩ Z1
  replace Z1 : slices_Index_byte_byte.l0 k3 s v x2 = some r := Z1
  rcases k3 with _ | k3
  · rw [slices_Index_byte_byte.l0] at Z1; cases Z1
  · rw [slices_Index_byte_byte.l0] at Z1
    refine at_seq ?_
    refine at_region [0] rfl ?_
    refine at_s T rfl ?_
    refine at_end ?_
    refine at_sub [(0, (.slice a_s (List.length s) n_s)), (1, (.int .u8 v)), (7, (.int .i64 (List.length s : Int))), (8, (.int .i64 x2)), (9, (.bool (decide (x2 < (List.length s : Int)))))] ⟨rfl, rfl, rfl, rfl, rfl, trivial⟩ ?_
    refine at_then ?_
    refine at_seq ?_
    refine at_cond rfl (fun c2 => ?_) (fun c2 => ?_)
    · replace Z1 := if_t (of_decide_eq_true c2) Z1
      refine at_skip ?_
      refine at_then ?_
      refine at_seq ?_
      refine at_block ?_
      refine at_seq ?_
      refine at_region [0, 1] rfl ?_
      iterate 2 refine at_s T rfl ?_
      refine at_end ?_
      refine at_sub [(0, (.slice a_s (List.length s) n_s)), (1, (.int .u8 v)), (5, (.int .i64 x2)), (7, (.int .i64 (List.length s : Int))), (8, (.int .i64 x2))] ⟨rfl, rfl, rfl, rfl, rfl, trivial⟩ ?_
      refine at_then ?_
      refine at_seq ?_
      refine at_region [0, 1, 2, 3, 4, 5] rfl ?_
      iterate 3 refine at_s T rfl ?_
      obtain ⟨c3, Z1⟩ := chk_e Z1
      obtain ⟨q1, o1, e1⟩ := h_s.addr c3.1 c3.2
      refine at_v rfl (g_index T rfl rfl rfl rfl rfl e1 c3.1 c3.2) ?_
      refine at_v rfl (g_load T rfl rfl rfl rfl (in_elem1 (k := (Fl.int .u8)) (ro_of h_s (j := 0) rfl) e1 c3 0 rfl)) ?_
      refine at_s T rfl ?_
      refine at_end ?_
      refine at_sub [(0, (.slice a_s (List.length s) n_s)), (1, (.int .u8 v)), (5, (.int .i64 x2)), (7, (.int .i64 (List.length s : Int))), (8, (.int .i64 x2)), (16, (.bool (v == (rd s x2))))] ⟨rfl, rfl, rfl, rfl, rfl, rfl, trivial⟩ ?_
      refine at_then ?_
      refine at_cond rfl (fun c4 => ?_) (fun c4 => ?_)
      · replace Z1 := if_t c4 Z1
        refine at_seq ?_
        refine at_region [0, 1] rfl ?_
        iterate 2 refine at_s T rfl ?_
        refine at_end ?_
        refine at_sub [(4, (.int .i64 x2))] ⟨rfl, trivial⟩ ?_
        refine at_then ?_
        refine at_ret ?_
        refine at_rb ?_
        refine at_rt ?_
        refine at_rt ?_
        refine at_rb ?_
        refine at_rt ?_
        obtain rfl := Option.some.inj Z1
        exact at_post (T := T) rfl (.tmp rfl .nil) (fun w o => ⟨(), rfl, own_to [0] rfl o⟩)
      · replace Z1 := if_f (bf c4) Z1
        refine at_skip ?_
        refine at_nb ?_
        refine at_then ?_
        refine at_region [0, 1] rfl ?_
        iterate 2 refine at_s T rfl ?_
        refine at_end ?_
        refine at_sub [(0, (.slice a_s (List.length s) n_s)), (1, (.int .u8 v)), (7, (.int .i64 (List.length s : Int))), (8, (.int .i64 (w64 (x2 + 1))))] ⟨rfl, rfl, rfl, rfl, trivial⟩ ?_
        refine at_then ?_
        exact at_roundL (k3, (w64 (x2 + 1))) [0] Z1 (Nat.lt_succ_self _) ⟨rfl, rfl, rfl, rfl, trivial⟩ rfl
    · replace Z1 := if_f (of_decide_eq_false c2) Z1
      refine at_exit ?_
      refine at_xt ?_
      refine at_xt ?_
      refine at_xb ?_
      refine at_then ?_
      refine at_seq ?_
      refine at_region [0] rfl ?_
      refine at_s T rfl ?_
      refine at_end ?_
      refine at_sub [(4, (.int .i64 (-1)))] ⟨rfl, trivial⟩ ?_
      refine at_then ?_
      refine at_ret ?_
      obtain rfl := Option.some.inj Z1
      exact at_post (T := T) rfl (.tmp rfl .nil) (fun w o => ⟨(), rfl, own_to [0] rfl o⟩)

/-! ### slices.Contains[[]byte,byte]: function 78 -/
def slices_Contains_byte_byte.f (s : (List Int)) (v : Int) : Option Bool := (slices_Index_byte_byte.f s v).bind fun v1 => some (decide (v1 ≥ 0))
set_option maxHeartbeats 4000000 in
theorem slices_Contains_byte_byte.c {a_s : Option Addr} {n_s : Nat} (s : (List Int)) (v : Int) (r : Bool) (F : Hp) (H : slices_Contains_byte_byte.f s v = some r) (h_s : SliceR (Fl.int .u8) s a_s F) (c_s : List.length s ≤ n_s) :
    CallsL Try.prog 78 [(.slice a_s (List.length s) n_s), (.int .u8 v)] [F] (fun _ : Unit => (.bool r)) (fun _ => [F]) := by
  unfold slices_Contains_byte_byte.f at H
  refine calls_atL [(0, (.slice a_s (List.length s) n_s)), (1, (.int .u8 v))] Try.func78 rfl rfl ⟨rfl, rfl, trivial⟩ (fun W => ?_)
  refine at_seq ?_
  refine at_region [0] rfl ?_
  refine at_s T rfl ?_
  refine at_end ?_
  refine at_sub [(0, (.slice a_s (List.length s) n_s)), (1, (.int .u8 v))] ⟨rfl, rfl, trivial⟩ ?_
  refine at_then ?_
  refine at_seq ?_
  refine at_region [0, 1, 2, 3, 4] rfl ?_
  iterate 2 refine at_s T rfl ?_
  obtain ⟨v1, V1, H⟩ := bind_e H
  refine at_cons (at_c (B := fun _ => []) [] rfl rfl rfl rfl has87 rfl rfl (slices_Index_byte_byte.c s v v1 _ V1 (ro_of h_s (j := 0) rfl) c_s) (fun _ => ?_))
  iterate 2 refine at_s T rfl ?_
  refine at_end ?_
  refine at_sub [(4, (.bool (decide (v1 ≥ 0))))] ⟨rfl, trivial⟩ ?_
  refine at_then ?_
  refine at_ret ?_
  obtain rfl := Option.some.inj H
  exact at_post (T := T) rfl (.tmp rfl .nil) (fun w o => ⟨(), rfl, own_to [0] rfl o⟩)

/-! ### slices.Repeat[[]int,int]: function 83 -/
def slices_Repeat_int_int.l0 : Nat → List Int → Int → Option (List Int)
  | 0, _, _ => none
  | k8 + 1, x6, x7 => if x7 < (List.length x6 : Int) then (if (0 ≤ x7 ∧ x7 ≤ (List.length x6 : Int) ∧ (List.length x6 : Int) ≤ (List.length x6 : Int)) then (if (0 ≤ (0 : Int) ∧ (0 : Int) ≤ x7 ∧ x7 ≤ (List.length x6 : Int)) then (slices_Repeat_int_int.l0 k8 (cpy x6 (Int.toNat x7) (min (List.length (sub' x6 0 x7)) (List.length (sub' x6 x7 (List.length x6 : Int)))) (sub' x6 0 x7)) (w64 (x7 + (((min (List.length (sub' x6 0 x7)) (List.length (sub' x6 x7 (List.length x6 : Int)))) : Nat) : Int)))) else none) else none) else (some x6)
def slices_Repeat_int_int.f (x : (List Int)) (count : Int) : Option (List Int) := if count < 0 then (none) else ((math_bits_Mul.f (wu64 (List.length x : Int)) (wu64 count)).bind fun v1 => if ((decide (v1.1 > 0)) || (decide (v1.2 > 9223372036854775807))) = true then (none) else (if (0 ≤ (w64 v1.2) ∧ (w64 v1.2) ≤ 1099511627776) then ((slices_Repeat_int_int.l0 fuel (cpy (List.replicate (Int.toNat (w64 v1.2)) (0 : Int)) 0 (min (List.length x) (List.length (List.replicate (Int.toNat (w64 v1.2)) (0 : Int)))) x) (((min (List.length x) (List.length (List.replicate (Int.toNat (w64 v1.2)) (0 : Int)))) : Nat) : Int)).bind fun x2 => some x2) else none))
def slices_Repeat_int_int.R (r : (List Int)) (u : Value) (G : List Hp) : Prop := ∃ (a0 : Option Addr) (n0 : Nat) (H0 : Hp), SliceO (Fl.int .i64) 3 r a0 n0 H0 ∧ u = (.slice a0 (List.length r) n0) ∧ G = [H0]
set_option maxHeartbeats 4000000 in
theorem slices_Repeat_int_int.c {a_x : Option Addr} {n_x : Nat} (x : (List Int)) (count : Int) (r : (List Int)) (F : Hp) (H : slices_Repeat_int_int.f x count = some r) (h_x : SliceR (Fl.int .i64) x a_x F) (c_x : List.length x ≤ n_x) :
    CallsL Try.prog 83 [(.slice a_x (List.length x) n_x), (.int .i64 count)] [F] (fun qp : { qp : Value × List Hp // slices_Repeat_int_int.R r qp.1 qp.2 } => qp.1.1) (fun qp => (qp.1.2 ++ []) ++ [F]) := by
  unfold slices_Repeat_int_int.f at H
  refine calls_atL [(0, (.slice a_x (List.length x) n_x)), (1, (.int .i64 count))] Try.func83 rfl rfl ⟨rfl, rfl, trivial⟩ (fun W => ?_)
  refine at_seq ?_
  refine at_region [0] rfl ?_
  refine at_s T rfl ?_
  refine at_end ?_
  refine at_sub [(0, (.slice a_x (List.length x) n_x)), (1, (.int .i64 count))] ⟨rfl, rfl, trivial⟩ ?_
  refine at_then ?_
  refine at_seq ?_
  refine at_seq ?_
  refine at_region [0, 1] rfl ?_
  iterate 2 refine at_s T rfl ?_
  refine at_end ?_
  refine at_sub [(0, (.slice a_x (List.length x) n_x)), (1, (.int .i64 count)), (10, (.bool (decide (count < 0))))] ⟨rfl, rfl, rfl, trivial⟩ ?_
  refine at_then ?_
  refine at_cond rfl (fun c1 => ?_) (fun c1 => ?_)
  · replace H := if_t (of_decide_eq_true c1) H
    cases H
  · replace H := if_f (of_decide_eq_false c1) H
    refine at_skip ?_
    refine at_then ?_
    refine at_seq ?_
    refine at_region [0, 1, 2, 3, 4, 5, 6, 7, 8, 9, 10] rfl ?_
    iterate 5 refine at_s T rfl ?_
    obtain ⟨v1, V2, H⟩ := bind_e H
    refine at_cons (at_c (B := fun _ => []) [] rfl rfl rfl rfl has88 rfl rfl (math_bits_Mul.c (wu64 (List.length x : Int)) (wu64 count) v1 _ V2) (fun _ => ?_))
    iterate 5 refine at_s T rfl ?_
    refine at_end ?_
    refine at_sub [(0, (.slice a_x (List.length x) n_x)), (5, (.int .u64 v1.1)), (6, (.int .u64 v1.2))] ⟨rfl, rfl, rfl, trivial⟩ ?_
    refine at_then ?_
    refine at_seq ?_
    refine at_seq ?_
    refine at_region [0, 1, 2, 3, 4, 5] rfl ?_
    iterate 3 refine at_s T rfl ?_
    refine at_grp T [3, 4, 5] (s := 23) (c := (decide (v1.1 > 0))) [(0, (.slice a_x (List.length x) n_x)), (6, (.int .u64 v1.2)), (26, (.bool ((decide (v1.1 > 0)) || (decide (v1.2 > 9223372036854775807)))))] rfl rfl rfl (fun c3 => ⟨rfl, rfl, (by rw [c3]; rfl), trivial⟩) (fun c3 => ⟨rfl, rfl, (by rw [c3]; rfl), trivial⟩) ?_
    refine at_end ?_
    refine at_sub [(0, (.slice a_x (List.length x) n_x)), (6, (.int .u64 v1.2)), (26, (.bool ((decide (v1.1 > 0)) || (decide (v1.2 > 9223372036854775807)))))] ⟨rfl, rfl, rfl, trivial⟩ ?_
    refine at_then ?_
    refine at_cond rfl (fun c4 => ?_) (fun c4 => ?_)
    · replace H := if_t c4 H
      cases H
    · replace H := if_f (bf c4) H
      refine at_skip ?_
      refine at_then ?_
      refine at_seq ?_
      refine at_region [0, 1, 2, 3] rfl ?_
      iterate 2 refine at_s T rfl ?_
      obtain ⟨c5, H⟩ := chk_e H
      refine at_cons (at_mk (k := (Fl.int .i64)) T (0 : Int) rfl rfl rfl rfl rfl rfl rfl rfl c5 rfl (fun a1 n1 H1 s1 => ?_))
      refine at_s T rfl ?_
      refine at_end ?_
      refine at_sub [(0, (.slice a_x (List.length x) n_x)), (7, (.slice a1 (List.length (List.replicate (Int.toNat (w64 v1.2)) (0 : Int))) n1))] ⟨rfl, rfl, trivial⟩ ?_
      refine at_then ?_
      refine at_seq ?_
      refine at_region [0, 1, 2, 3] rfl ?_
      iterate 2 refine at_s T rfl ?_
      have L6 : 0 + (List.length (List.replicate (Int.toNat (w64 v1.2)) (0 : Int))) ≤ List.length (List.replicate (Int.toNat (w64 v1.2)) (0 : Int)) := (fit0 _)
      refine at_cons (at_cp (k := (Fl.int .i64)) (xs := (List.replicate (Int.toNat (w64 v1.2)) (0 : Int))) (ys := x) (lo := 0) (g := 1) T rfl rfl rfl rfl rfl rfl rfl rfl s1 (ro_of h_x (j := 0) rfl) (.inl ⟨rfl, rfl⟩) L6 (fun H2 s2 => ?_))
      refine at_to [(7, (.slice a1 (List.length (cpy (List.replicate (Int.toNat (w64 v1.2)) (0 : Int)) 0 (min (List.length x) (List.length (List.replicate (Int.toNat (w64 v1.2)) (0 : Int)))) x)) n1)), (33, (.int .i64 (((min (List.length x) (List.length (List.replicate (Int.toNat (w64 v1.2)) (0 : Int)))) : Nat) : Int)))] [0, 0] [F, H2] ⟨(by first | rfl | (simp only [cpy_len L6]; rfl)), rfl, trivial⟩ rfl ?_
      refine at_s T rfl ?_
      refine at_end ?_
      refine at_sub [(7, (.slice a1 (List.length (cpy (List.replicate (Int.toNat (w64 v1.2)) (0 : Int)) 0 (min (List.length x) (List.length (List.replicate (Int.toNat (w64 v1.2)) (0 : Int)))) x)) n1)), (8, (.int .i64 (((min (List.length x) (List.length (List.replicate (Int.toNat (w64 v1.2)) (0 : Int)))) : Nat) : Int)))] ⟨rfl, rfl, trivial⟩ ?_
      refine at_then ?_
      obtain ⟨z3, Z7, H⟩ := bind_e H
      refine at_seq_mid (σ := List Int × Option Addr × Nat × Hp) (fun ⟨x2, a3, n3, H3⟩ => x2 = z3 ∧ SliceO (Fl.int .i64) 3 x2 a3 n3 H3) (fun ⟨x2, a3, n3, H3⟩ => [(7, (.slice a3 (List.length x2) n3))]) (fun ⟨x2, a3, n3, H3⟩ => [F, H3]) ?_ ?_
      · refine at_block ?_
        refine at_loopL (σ := Nat × List Int × Int × Option Addr × Nat × Hp) (fun ⟨k8, x6, x7, a5, n5, H5⟩ => slices_Repeat_int_int.l0 k8 x6 x7 = some z3 ∧ SliceO (Fl.int .i64) 3 x6 a5 n5 H5) (fun ⟨k8, x6, x7, a5, n5, H5⟩ => [(7, (.slice a5 (List.length x6) n5)), (8, (.int .i64 x7))]) (fun ⟨k8, x6, x7, a5, n5, H5⟩ => [F, H5]) (fun s => s.1) (fuel, (cpy (List.replicate (Int.toNat (w64 v1.2)) (0 : Int)) 0 (min (List.length x) (List.length (List.replicate (Int.toNat (w64 v1.2)) (0 : Int)))) x), (((min (List.length x) (List.length (List.replicate (Int.toNat (w64 v1.2)) (0 : Int)))) : Nat) : Int), a1, n1, H2) [0, 0] ⟨Z7, s2⟩ ⟨rfl, rfl, trivial⟩ rfl ?_
        rintro ⟨k8, x6, x7, a5, n5, H5⟩ ⟨Z8, s5⟩
        replace Z8 : slices_Repeat_int_int.l0 k8 x6 x7 = some z3 := Z8
        rcases k8 with _ | k8
        · rw [slices_Repeat_int_int.l0] at Z8; cases Z8
        · rw [slices_Repeat_int_int.l0] at Z8
          refine at_seq ?_
          refine at_seq ?_
          refine at_region [0, 1, 2, 3] rfl ?_
          iterate 4 refine at_s T rfl ?_
          refine at_end ?_
          refine at_sub [(7, (.slice a5 (List.length x6) n5)), (8, (.int .i64 x7)), (37, (.bool (decide (x7 < (List.length x6 : Int)))))] ⟨rfl, rfl, rfl, trivial⟩ ?_
          refine at_then ?_
          refine at_cond rfl (fun c9 => ?_) (fun c9 => ?_)
          · replace Z8 := if_t (of_decide_eq_true c9) Z8
            refine at_skip ?_
            refine at_then ?_
            refine at_block ?_
            refine at_region_m [[], [], [], [1, 2], [], [], [4, 5], [1, 2, 3, 4, 5, 6], [0, 1, 2, 3, 4, 5, 6, 7], [0, 1, 2, 3, 4, 5, 6, 7, 8]] [7] [F, H5] mix (by kernel_rfl) (by repeat first | exact pf_body | refine pf_then ?_ | refine pf_block ?_) (fun hg pf => ?_)
            refine atm_s T 0 hg pf (by kernel_rfl) (still_o [0, 0] rfl) rfl ?_
            refine atm_s T 1 hg pf (by kernel_rfl) (still_o [0, 0] rfl) rfl ?_
            refine atm_s T 2 hg pf (by kernel_rfl) (still_o [0, 0] rfl) rfl ?_
            obtain ⟨c10, Z8⟩ := chk_e Z8
            refine atm_v 3 hg pf (by kernel_rfl) (still_o [0, 0] rfl) rfl rfl (g_sub T rfl rfl rfl rfl rfl rfl c10 s5.cap_le) ?_
            refine atm_s T 4 hg pf (by kernel_rfl) (still_o [0, 0] rfl) rfl ?_
            refine atm_s T 5 hg pf (by kernel_rfl) (still_o [0, 0] rfl) rfl ?_
            obtain ⟨c11, Z8⟩ := chk_e Z8
            refine atm_v 6 hg pf (by kernel_rfl) (still_o [0, 0] rfl) rfl rfl (g_sub T rfl rfl rfl rfl rfl rfl c11 s5.cap_le) ?_
            refine atm_one 7 (by kernel_rfl) ?_
            have L12 : (Int.toNat x7) + (List.length (sub' x6 x7 (List.length x6 : Int))) ≤ List.length x6 := (sub_fit c10)
            refine at_cp (k := (Fl.int .i64)) (xs := x6) (ys := (sub' x6 0 x7)) (lo := (Int.toNat x7)) (g := 1) T rfl rfl rfl rfl rfl rfl rfl rfl s5 (sub_r (own_of s5 (j := 1) rfl) c11 s5.cap_le) (.inr rfl) L12 (fun H6 s6 => ?_)
            refine at_to [(7, (.slice a5 (List.length (cpy x6 (Int.toNat x7) (min (List.length (sub' x6 0 x7)) (List.length (sub' x6 x7 (List.length x6 : Int)))) (sub' x6 0 x7))) n5)), (8, (.int .i64 x7)), (37, (.bool (decide (x7 < (List.length x6 : Int))))), (38, (.int .i64 x7)), (39, (.slice a5 (List.length (cpy x6 (Int.toNat x7) (min (List.length (sub' x6 0 x7)) (List.length (sub' x6 x7 (List.length x6 : Int)))) (sub' x6 0 x7))) n5)), (40, (.int .i64 x7)), (41, (.slice (subA a5 n5 (Int.toNat x7) 1) (List.length (sub' x6 x7 (List.length x6 : Int))) (n5 - Int.toNat x7))), (42, (.slice a5 (List.length (cpy x6 (Int.toNat x7) (min (List.length (sub' x6 0 x7)) (List.length (sub' x6 x7 (List.length x6 : Int)))) (sub' x6 0 x7))) n5)), (43, (.int .i64 x7)), (44, (.slice (subA a5 n5 (Int.toNat 0) 1) (List.length (sub' x6 0 x7)) (n5 - Int.toNat 0))), (45, (.int .i64 (((min (List.length (sub' x6 0 x7)) (List.length (sub' x6 x7 (List.length x6 : Int)))) : Nat) : Int)))] [0, 0] [F, H6] ⟨(by first | rfl | (simp only [cpy_len L12]; rfl)), rfl, rfl, rfl, (by first | rfl | (simp only [cpy_len L12]; rfl)), rfl, rfl, (by first | rfl | (simp only [cpy_len L12]; rfl)), rfl, rfl, rfl, trivial⟩ rfl ?_
            refine atm_next (still_l (by kernel_rfl)) ?_
            refine atm_s T 8 hg pf (by kernel_rfl) (still_l (by kernel_rfl)) rfl ?_
            refine atm_s T 9 hg pf (by kernel_rfl) (still_l (by kernel_rfl)) rfl ?_
            refine atm_end (by kernel_rfl) ?_
            refine at_sub [(7, (.slice a5 (List.length (cpy x6 (Int.toNat x7) (min (List.length (sub' x6 0 x7)) (List.length (sub' x6 x7 (List.length x6 : Int)))) (sub' x6 0 x7))) n5)), (8, (.int .i64 (w64 (x7 + (((min (List.length (sub' x6 0 x7)) (List.length (sub' x6 x7 (List.length x6 : Int)))) : Nat) : Int)))))] ⟨rfl, rfl, trivial⟩ ?_
            refine at_nb ?_
            refine at_then ?_
            exact at_roundL (k8, (cpy x6 (Int.toNat x7) (min (List.length (sub' x6 0 x7)) (List.length (sub' x6 x7 (List.length x6 : Int)))) (sub' x6 0 x7)), (w64 (x7 + (((min (List.length (sub' x6 0 x7)) (List.length (sub' x6 x7 (List.length x6 : Int)))) : Nat) : Int))), a5, n5, H6) [0, 0] ⟨Z8, s6⟩ (Nat.lt_succ_self _) ⟨rfl, rfl, trivial⟩ rfl
          · replace Z8 := if_f (of_decide_eq_false c9) Z8
            refine at_exit ?_
            refine at_xt ?_
            refine at_xt ?_
            refine at_xb ?_
            refine at_then ?_
            obtain rfl := Option.some.inj Z8
            exact at_mid (x6, a5, n5, H5) [0, 0] ⟨rfl, s5⟩ ⟨rfl, trivial⟩ rfl
      · rintro ⟨x2, a3, n3, H3⟩ ⟨rfl, s3⟩
        refine at_seq ?_
        refine at_region [0, 1] rfl ?_
        iterate 2 refine at_s T rfl ?_
        refine at_end ?_
        refine at_sub [(4, (.slice a3 (List.length x2) n3))] ⟨rfl, trivial⟩ ?_
        refine at_then ?_
        refine at_ret ?_
        obtain rfl := Option.some.inj H
        exact at_post (T := T) rfl (.tmp rfl .nil) (fun w o => ⟨⟨(_, _), ⟨a3, n3, H3, s3, rfl, rfl⟩⟩, rfl, own_to [1, 0] rfl o⟩)
end

end Go.Proofs.Yticdodeoljodiaa
