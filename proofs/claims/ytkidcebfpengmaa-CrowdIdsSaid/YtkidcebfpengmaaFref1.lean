import Derived.Test.YtkidcebfpengmaaT
namespace Go.Proofs.Ytkidcebfpengmaa
open Go.Hx
set_option maxRecDepth 100000
set_option linter.unusedVariables false
/-! ### herdsman/herdsmanref1.Within: function 12 -/
def ref1_Within.f (n : Int) (lo : Int) (hi : Int) : Option Int := if (¬ (w64 ((w64 (hi - lo)) + 1)) = 0) then (if (Int.tmod n (w64 ((w64 (hi - lo)) + 1))) < 0 then (some (w64 (lo + (w64 ((w64 ((w64 ((Int.tmod n (w64 ((w64 (hi - lo)) + 1))) + hi)) - lo)) + 1))))) else (some (w64 (lo + (Int.tmod n (w64 ((w64 (hi - lo)) + 1))))))) else none
set_option maxHeartbeats 4000000 in
theorem ref1_Within.c (n : Int) (lo : Int) (hi : Int) (r : Int) (F : Hp) (H : ref1_Within.f n lo hi = some r) :
    CallsL Try.prog 12 [(.int .i64 n), (.int .i64 lo), (.int .i64 hi)] [F] (fun _ : Unit => (.int .i64 r)) (fun _ => [F]) := by
  unfold ref1_Within.f at H
  refine calls_atL [(0, (.int .i64 n)), (1, (.int .i64 lo)), (2, (.int .i64 hi))] Try.func12 rfl rfl ⟨rfl, rfl, rfl, trivial⟩ (fun W => ?_)
  refine at_seq ?_
  refine at_region [0] rfl ?_
  refine at_s T rfl ?_
  refine at_end ?_
  refine at_sub [(0, (.int .i64 n)), (1, (.int .i64 lo)), (2, (.int .i64 hi))] ⟨rfl, rfl, rfl, trivial⟩ ?_
  refine at_then ?_
  refine at_seq ?_
  refine at_region [0, 1, 2, 3, 4, 5, 6] rfl ?_
  iterate 5 refine at_s T rfl ?_
  obtain ⟨c1, H⟩ := chk_e H
  refine at_v rfl (g_rem rfl rfl rfl c1) ?_
  refine at_s T rfl ?_
  refine at_end ?_
  refine at_sub [(0, (.int .i64 (Int.tmod n (w64 ((w64 (hi - lo)) + 1))))), (1, (.int .i64 lo)), (2, (.int .i64 hi))] ⟨rfl, rfl, rfl, trivial⟩ ?_
  refine at_then ?_
  refine at_seq ?_
  refine at_seq ?_
  refine at_region [0, 1] rfl ?_
  iterate 2 refine at_s T rfl ?_
  refine at_end ?_
  refine at_sub [(0, (.int .i64 (Int.tmod n (w64 ((w64 (hi - lo)) + 1))))), (1, (.int .i64 lo)), (2, (.int .i64 hi)), (14, (.bool (decide ((Int.tmod n (w64 ((w64 (hi - lo)) + 1))) < 0))))] ⟨rfl, rfl, rfl, rfl, trivial⟩ ?_
  refine at_then ?_
  refine at_cond rfl (fun c2 => ?_) (fun c2 => ?_)
  · replace H := if_t (of_decide_eq_true c2) H
    refine at_region [0, 1, 2, 3, 4, 5, 6] rfl ?_
    iterate 7 refine at_s T rfl ?_
    refine at_end ?_
    refine at_sub [(0, (.int .i64 (w64 ((w64 ((w64 ((Int.tmod n (w64 ((w64 (hi - lo)) + 1))) + hi)) - lo)) + 1)))), (1, (.int .i64 lo))] ⟨rfl, rfl, trivial⟩ ?_
    refine at_then ?_
    refine at_seq ?_
    refine at_region [0, 1, 2, 3] rfl ?_
    iterate 4 refine at_s T rfl ?_
    refine at_end ?_
    refine at_sub [(6, (.int .i64 (w64 (lo + (w64 ((w64 ((w64 ((Int.tmod n (w64 ((w64 (hi - lo)) + 1))) + hi)) - lo)) + 1))))))] ⟨rfl, trivial⟩ ?_
    refine at_then ?_
    refine at_ret ?_
    obtain rfl := Option.some.inj H
    exact at_post (T := T) rfl (.tmp rfl .nil) (fun w o => ⟨(), rfl, own_to [0] rfl o⟩)
  · replace H := if_f (of_decide_eq_false c2) H
    refine at_skip ?_
    refine at_then ?_
    refine at_seq ?_
    refine at_region [0, 1, 2, 3] rfl ?_
    iterate 4 refine at_s T rfl ?_
    refine at_end ?_
    refine at_sub [(6, (.int .i64 (w64 (lo + (Int.tmod n (w64 ((w64 (hi - lo)) + 1)))))))] ⟨rfl, trivial⟩ ?_
    refine at_then ?_
    refine at_ret ?_
    obtain rfl := Option.some.inj H
    exact at_post (T := T) rfl (.tmp rfl .nil) (fun w o => ⟨(), rfl, own_to [0] rfl o⟩)

/-! ### herdsman/herdsmanref1.Ints: function 17 -/
def ref1_Ints.l0 : Nat → (List Int) → (List Int) → Int → Option Bool
  | 0, _, _, _ => none
  | k3 + 1, a, b, x2 => if x2 < (List.length a : Int) then (if (0 ≤ x2 ∧ x2 < (List.length a : Int)) then (if (0 ≤ x2 ∧ x2 < (List.length b : Int)) then (if ((rd a x2) != (rd b x2)) = true then (some false) else (ref1_Ints.l0 k3 a b (w64 (x2 + 1)))) else none) else none) else (some true)
def ref1_Ints.f (a : (List Int)) (b : (List Int)) : Option Bool := if ((List.length a : Int) != (List.length b : Int)) = true then (some false) else (ref1_Ints.l0 fuel a b 0)
set_option maxHeartbeats 4000000 in
theorem ref1_Ints.c {a_a : Option Addr} {n_a : Nat} {a_b : Option Addr} {n_b : Nat} (a : (List Int)) (b : (List Int)) (r : Bool) (F : Hp) (H : ref1_Ints.f a b = some r) (h_a : SliceR (Fl.int .i64) a a_a F) (c_a : List.length a ≤ n_a) (h_b : SliceR (Fl.int .i64) b a_b F) (c_b : List.length b ≤ n_b) :
    CallsL Try.prog 17 [(.slice a_a (List.length a) n_a), (.slice a_b (List.length b) n_b)] [F] (fun _ : Unit => (.bool r)) (fun _ => [F]) := by
  unfold ref1_Ints.f at H
  refine calls_atL [(0, (.slice a_a (List.length a) n_a)), (1, (.slice a_b (List.length b) n_b))] Try.func17 rfl rfl ⟨rfl, rfl, trivial⟩ (fun W => ?_)
  refine at_seq ?_
  refine at_region [0] rfl ?_
  refine at_s T rfl ?_
  refine at_end ?_
  refine at_sub [(0, (.slice a_a (List.length a) n_a)), (1, (.slice a_b (List.length b) n_b))] ⟨rfl, rfl, trivial⟩ ?_
  refine at_then ?_
  refine at_seq ?_
  refine at_seq ?_
  refine at_region [0, 1, 2, 3, 4] rfl ?_
  iterate 5 refine at_s T rfl ?_
  refine at_end ?_
  refine at_sub [(0, (.slice a_a (List.length a) n_a)), (1, (.slice a_b (List.length b) n_b)), (10, (.bool ((List.length a : Int) != (List.length b : Int))))] ⟨rfl, rfl, rfl, trivial⟩ ?_
  refine at_then ?_
  refine at_cond rfl (fun c1 => ?_) (fun c1 => ?_)
  · replace H := if_t c1 H
    refine at_seq ?_
    refine at_region [0] rfl ?_
    refine at_s T rfl ?_
    refine at_end ?_
    refine at_sub [(4, (.bool false))] ⟨rfl, trivial⟩ ?_
    refine at_then ?_
    refine at_ret ?_
    refine at_rt ?_
    obtain rfl := Option.some.inj H
    exact at_post (T := T) rfl (.tmp rfl .nil) (fun w o => ⟨(), rfl, own_to [0] rfl o⟩)
  · replace H := if_f (bf c1) H
    refine at_skip ?_
    refine at_then ?_
    refine at_seq ?_
    refine at_seq ?_
    refine at_region [0] rfl ?_
    refine at_s T rfl ?_
    refine at_end ?_
    refine at_sub [(0, (.slice a_a (List.length a) n_a)), (1, (.slice a_b (List.length b) n_b)), (5, (.int .i64 0))] ⟨rfl, rfl, rfl, trivial⟩ ?_
    refine at_then ?_
    refine at_block ?_
    refine at_loopL (σ := Nat × Int) (fun ⟨k3, x2⟩ => ref1_Ints.l0 k3 a b x2 = some r) (fun ⟨k3, x2⟩ => [(0, (.slice a_a (List.length a) n_a)), (1, (.slice a_b (List.length b) n_b)), (5, (.int .i64 x2))]) (fun ⟨k3, x2⟩ => [F]) (fun s => s.1) (fuel, 0) [0] H ⟨rfl, rfl, rfl, trivial⟩ rfl ?_
    rintro ⟨k3, x2⟩ Z2
    replace Z2 : ref1_Ints.l0 k3 a b x2 = some r := Z2
    rcases k3 with _ | k3
    · rw [ref1_Ints.l0] at Z2; cases Z2
    · rw [ref1_Ints.l0] at Z2
      refine at_seq ?_
      refine at_seq ?_
      refine at_region [0, 1, 2, 3] rfl ?_
      iterate 4 refine at_s T rfl ?_
      refine at_end ?_
      refine at_sub [(0, (.slice a_a (List.length a) n_a)), (1, (.slice a_b (List.length b) n_b)), (5, (.int .i64 x2)), (14, (.bool (decide (x2 < (List.length a : Int)))))] ⟨rfl, rfl, rfl, rfl, trivial⟩ ?_
      refine at_then ?_
      refine at_cond rfl (fun c3 => ?_) (fun c3 => ?_)
      · replace Z2 := if_t (of_decide_eq_true c3) Z2
        refine at_skip ?_
        refine at_then ?_
        refine at_seq ?_
        refine at_block ?_
        refine at_seq ?_
        refine at_region_q mix (by kernel_rfl) ?_
        iterate 2 refine atq_s T rfl ?_
        obtain ⟨c4, Z2⟩ := chk_e Z2
        obtain ⟨q1, o1, e1⟩ := h_a.addr c4.1 c4.2
        refine atq_v rfl rfl rfl (g_index T rfl rfl rfl rfl rfl e1 c4.1 c4.2) ?_
        refine atq_v rfl rfl rfl (g_load T rfl rfl rfl rfl (in_elem1 (k := (Fl.int .i64)) (ro_of h_a (j := 0) rfl) e1 c4 0 rfl)) ?_
        iterate 2 refine atq_s T rfl ?_
        obtain ⟨c5, Z2⟩ := chk_e Z2
        obtain ⟨q2, o2, e2⟩ := h_b.addr c5.1 c5.2
        refine atq_v rfl rfl rfl (g_index T rfl rfl rfl rfl rfl e2 c5.1 c5.2) ?_
        refine atq_v rfl rfl rfl (g_load T rfl rfl rfl rfl (in_elem1 (k := (Fl.int .i64)) (ro_of h_b (j := 0) rfl) e2 c5 0 rfl)) ?_
        refine atq_s T rfl ?_
        refine atq_end ?_
        refine at_sub [(0, (.slice a_a (List.length a) n_a)), (1, (.slice a_b (List.length b) n_b)), (5, (.int .i64 x2)), (25, (.bool ((rd a x2) != (rd b x2))))] ⟨rfl, rfl, rfl, rfl, trivial⟩ ?_
        refine at_then ?_
        refine at_cond rfl (fun c6 => ?_) (fun c6 => ?_)
        · replace Z2 := if_t c6 Z2
          refine at_seq ?_
          refine at_region [0] rfl ?_
          refine at_s T rfl ?_
          refine at_end ?_
          refine at_sub [(4, (.bool false))] ⟨rfl, trivial⟩ ?_
          refine at_then ?_
          refine at_ret ?_
          refine at_rb ?_
          refine at_rt ?_
          refine at_rt ?_
          refine at_rb ?_
          refine at_rt ?_
          obtain rfl := Option.some.inj Z2
          exact at_post (T := T) rfl (.tmp rfl .nil) (fun w o => ⟨(), rfl, own_to [0] rfl o⟩)
        · replace Z2 := if_f (bf c6) Z2
          refine at_skip ?_
          refine at_nb ?_
          refine at_then ?_
          refine at_region [0, 1, 2] rfl ?_
          iterate 3 refine at_s T rfl ?_
          refine at_end ?_
          refine at_sub [(0, (.slice a_a (List.length a) n_a)), (1, (.slice a_b (List.length b) n_b)), (5, (.int .i64 (w64 (x2 + 1))))] ⟨rfl, rfl, rfl, trivial⟩ ?_
          refine at_then ?_
          exact at_roundL (k3, (w64 (x2 + 1))) [0] Z2 (Nat.lt_succ_self _) ⟨rfl, rfl, rfl, trivial⟩ rfl
      · replace Z2 := if_f (of_decide_eq_false c3) Z2
        refine at_exit ?_
        refine at_xt ?_
        refine at_xt ?_
        refine at_xb ?_
        refine at_then ?_
        refine at_seq ?_
        refine at_region [0] rfl ?_
        refine at_s T rfl ?_
        refine at_end ?_
        refine at_sub [(4, (.bool true))] ⟨rfl, trivial⟩ ?_
        refine at_then ?_
        refine at_ret ?_
        obtain rfl := Option.some.inj Z2
        exact at_post (T := T) rfl (.tmp rfl .nil) (fun w o => ⟨(), rfl, own_to [0] rfl o⟩)

/-! ### herdsman/herdsmanref1.In: function 49 -/
def ref1_In.f (n : Int) (lo : Int) (hi : Int) : Option Bool := some ((decide (n ≥ lo)) && (decide (n ≤ hi)))
set_option maxHeartbeats 4000000 in
theorem ref1_In.c (n : Int) (lo : Int) (hi : Int) (r : Bool) (F : Hp) (H : ref1_In.f n lo hi = some r) :
    CallsL Try.prog 49 [(.int .i64 n), (.int .i64 lo), (.int .i64 hi)] [F] (fun _ : Unit => (.bool r)) (fun _ => [F]) := by
  unfold ref1_In.f at H
  refine calls_atL [(0, (.int .i64 n)), (1, (.int .i64 lo)), (2, (.int .i64 hi))] Try.func49 rfl rfl ⟨rfl, rfl, rfl, trivial⟩ (fun W => ?_)
  refine at_seq ?_
  refine at_region [0] rfl ?_
  refine at_s T rfl ?_
  refine at_end ?_
  refine at_sub [(0, (.int .i64 n)), (1, (.int .i64 lo)), (2, (.int .i64 hi))] ⟨rfl, rfl, rfl, trivial⟩ ?_
  refine at_then ?_
  refine at_seq ?_
  refine at_region [0, 1, 2, 3, 4, 5, 6, 7, 8] rfl ?_
  iterate 4 refine at_s T rfl ?_
  refine at_grp T [4, 5, 6, 7] (s := 10) (c := (decide (n ≥ lo))) [(14, (.bool ((decide (n ≥ lo)) && (decide (n ≤ hi)))))] rfl rfl rfl (fun c1 => ⟨(by rw [c1]; rfl), trivial⟩) (fun c1 => ⟨(by rw [c1]; rfl), trivial⟩) ?_
  refine at_s T rfl ?_
  refine at_end ?_
  refine at_sub [(6, (.bool ((decide (n ≥ lo)) && (decide (n ≤ hi)))))] ⟨rfl, trivial⟩ ?_
  refine at_then ?_
  refine at_ret ?_
  obtain rfl := Option.some.inj H
  exact at_post (T := T) rfl (.tmp rfl .nil) (fun w o => ⟨(), rfl, own_to [0] rfl o⟩)

/-! ### herdsman/herdsmanref1.May: function 47 -/
def ref1_May.f (w : Int) (h : Int) : Option Bool := ((ref1_In.f w 1 1024).bind fun v3 => if v3 = true then ((ref1_In.f h 1 1024).bind fun v4 => some v4) else (some false)).bind fun x1 => some x1
set_option maxHeartbeats 4000000 in
theorem ref1_May.c (w : Int) (h : Int) (r : Bool) (F : Hp) (H : ref1_May.f w h = some r) :
    CallsL Try.prog 47 [(.int .i64 w), (.int .i64 h)] [F] (fun _ : Unit => (.bool r)) (fun _ => [F]) := by
  unfold ref1_May.f at H
  refine calls_atL [(0, (.int .i64 w)), (1, (.int .i64 h))] Try.func47 rfl rfl ⟨rfl, rfl, trivial⟩ (fun W => ?_)
  refine at_seq ?_
  refine at_region [0] rfl ?_
  refine at_s T rfl ?_
  refine at_end ?_
  refine at_sub [(0, (.int .i64 w)), (1, (.int .i64 h))] ⟨rfl, rfl, trivial⟩ ?_
  refine at_then ?_
  obtain ⟨z2, Z1, H⟩ := bind_e H
  refine at_seq_mid (σ := Bool) (fun x1 => x1 = z2) (fun x1 => [(4, (.bool x1))]) (fun x1 => [F]) ?_ ?_
  · refine at_region [0, 1, 2, 3, 4, 5, 6] rfl ?_
    refine at_s T rfl ?_
    obtain ⟨v3, V2, Z1⟩ := bind_e Z1
    refine at_cons (at_c (B := fun _ => []) [] rfl rfl rfl rfl has49 rfl rfl (ref1_In.c w 1 1024 v3 _ V2) (fun _ => ?_))
    refine at_s T rfl ?_
    refine at_case (s := 7) rfl (fun c3 => ?_) (fun c3 => ?_)
    · replace Z1 := if_t c3 Z1
      refine at_s T rfl ?_
      obtain ⟨v4, V4, Z1⟩ := bind_e Z1
      refine at_cons (at_c (B := fun _ => []) [] rfl rfl rfl rfl has49 rfl rfl (ref1_In.c h 1 1024 v4 _ V4) (fun _ => ?_))
      iterate 2 refine at_s T rfl ?_
      refine at_end ?_
      refine at_sub [(4, (.bool v4))] ⟨rfl, trivial⟩ ?_
      refine at_then ?_
      obtain rfl := Option.some.inj Z1
      exact at_mid v4 [0] rfl ⟨rfl, trivial⟩ rfl
    · replace Z1 := if_f (bf c3) Z1
      iterate 4 refine at_s T rfl ?_
      refine at_end ?_
      refine at_sub [(4, (.bool false))] ⟨rfl, trivial⟩ ?_
      refine at_then ?_
      obtain rfl := Option.some.inj Z1
      exact at_mid false [0] rfl ⟨rfl, trivial⟩ rfl
  · rintro x1 rfl
    refine at_ret ?_
    obtain rfl := Option.some.inj H
    exact at_post (T := T) rfl (.tmp rfl .nil) (fun w o => ⟨(), rfl, own_to [0] rfl o⟩)

/-! ### herdsman/herdsmanref1.IsCell: function 48 -/
def ref1_IsCell.f (w : Int) (h : Int) (c : Int) : Option Bool := ((ref1_May.f w h).bind fun v3 => if v3 = true then ((ref1_In.f c 0 (w64 ((w64 (w * h)) - 1))).bind fun v4 => some v4) else (some false)).bind fun x1 => some x1
set_option maxHeartbeats 4000000 in
theorem ref1_IsCell.c (w : Int) (h : Int) (c : Int) (r : Bool) (F : Hp) (H : ref1_IsCell.f w h c = some r) :
    CallsL Try.prog 48 [(.int .i64 w), (.int .i64 h), (.int .i64 c)] [F] (fun _ : Unit => (.bool r)) (fun _ => [F]) := by
  unfold ref1_IsCell.f at H
  refine calls_atL [(0, (.int .i64 w)), (1, (.int .i64 h)), (2, (.int .i64 c))] Try.func48 rfl rfl ⟨rfl, rfl, rfl, trivial⟩ (fun W => ?_)
  refine at_seq ?_
  refine at_region [0] rfl ?_
  refine at_s T rfl ?_
  refine at_end ?_
  refine at_sub [(0, (.int .i64 w)), (1, (.int .i64 h)), (2, (.int .i64 c))] ⟨rfl, rfl, rfl, trivial⟩ ?_
  refine at_then ?_
  obtain ⟨z2, Z1, H⟩ := bind_e H
  refine at_seq_mid (σ := Bool) (fun x1 => x1 = z2) (fun x1 => [(6, (.bool x1))]) (fun x1 => [F]) ?_ ?_
  · refine at_region [0, 1, 2, 3, 4, 5, 6, 7, 8, 9, 10, 11] rfl ?_
    iterate 2 refine at_s T rfl ?_
    obtain ⟨v3, V2, Z1⟩ := bind_e Z1
    refine at_cons (at_c (B := fun _ => []) [] rfl rfl rfl rfl has47 rfl rfl (ref1_May.c w h v3 _ V2) (fun _ => ?_))
    refine at_s T rfl ?_
    refine at_case (s := 10) rfl (fun c3 => ?_) (fun c3 => ?_)
    · replace Z1 := if_t c3 Z1
      iterate 5 refine at_s T rfl ?_
      obtain ⟨v4, V4, Z1⟩ := bind_e Z1
      refine at_cons (at_c (B := fun _ => []) [] rfl rfl rfl rfl has49 rfl rfl (ref1_In.c c 0 (w64 ((w64 (w * h)) - 1)) v4 _ V4) (fun _ => ?_))
      iterate 2 refine at_s T rfl ?_
      refine at_end ?_
      refine at_sub [(6, (.bool v4))] ⟨rfl, trivial⟩ ?_
      refine at_then ?_
      obtain rfl := Option.some.inj Z1
      exact at_mid v4 [0] rfl ⟨rfl, trivial⟩ rfl
    · replace Z1 := if_f (bf c3) Z1
      iterate 8 refine at_s T rfl ?_
      refine at_end ?_
      refine at_sub [(6, (.bool false))] ⟨rfl, trivial⟩ ?_
      refine at_then ?_
      obtain rfl := Option.some.inj Z1
      exact at_mid false [0] rfl ⟨rfl, trivial⟩ rfl
  · rintro x1 rfl
    refine at_ret ?_
    obtain rfl := Option.some.inj H
    exact at_post (T := T) rfl (.tmp rfl .nil) (fun w o => ⟨(), rfl, own_to [0] rfl o⟩)

/-! ### herdsman/herdsmanref1.Step: function 50 -/
def ref1_Step.f (w : Int) (h : Int) (c : Int) (side : Int) : Option Int := ((ref1_IsCell.f w h c).bind fun v3 => if (!v3) = true then (some true) else ((ref1_In.f side 0 4).bind fun v4 => some (!v4))).bind fun x1 => if x1 = true then (some (-1)) else (if (¬ w = 0) then (if (¬ w = 0) then ((if (side == 0) = true then (some (w64 ((w64 (Int.tdiv c w)) - 1))) else (some (w64 (Int.tdiv c w)))).bind fun x5 => (if (side == 1) = true then (some (w64 ((Int.tmod c w) + 1))) else (some (Int.tmod c w))).bind fun x7 => (if (side == 2) = true then (some (w64 (x5 + 1))) else (some x5)).bind fun x9 => (if (side == 3) = true then (some (w64 (x7 - 1))) else (some x7)).bind fun x11 => ((ref1_In.f x11 0 (w64 (w - 1))).bind fun v15 => if (!v15) = true then (some true) else ((ref1_In.f x9 0 (w64 (h - 1))).bind fun v16 => some (!v16))).bind fun x13 => if x13 = true then (some (-1)) else (some (w64 ((w64 (x9 * w)) + x11)))) else none) else none)
set_option maxHeartbeats 4000000 in
theorem ref1_Step.c (w : Int) (h : Int) (c : Int) (side : Int) (r : Int) (F : Hp) (H : ref1_Step.f w h c side = some r) :
    CallsL Try.prog 50 [(.int .i64 w), (.int .i64 h), (.int .i64 c), (.int .i64 side)] [F] (fun _ : Unit => (.int .i64 r)) (fun _ => [F]) := by
  unfold ref1_Step.f at H
  refine calls_atL [(0, (.int .i64 w)), (1, (.int .i64 h)), (2, (.int .i64 c)), (3, (.int .i64 side))] Try.func50 rfl rfl ⟨rfl, rfl, rfl, rfl, trivial⟩ (fun W => ?_)
  refine at_seq ?_
  refine at_region [0] rfl ?_
  refine at_s T rfl ?_
  refine at_end ?_
  refine at_sub [(0, (.int .i64 w)), (1, (.int .i64 h)), (2, (.int .i64 c)), (3, (.int .i64 side))] ⟨rfl, rfl, rfl, rfl, trivial⟩ ?_
  refine at_then ?_
  refine at_seq ?_
  obtain ⟨z2, Z1, H⟩ := bind_e H
  refine at_seq_mid (σ := Bool) (fun x1 => x1 = z2) (fun x1 => [(0, (.int .i64 w)), (1, (.int .i64 h)), (2, (.int .i64 c)), (3, (.int .i64 side)), (20, (.bool x1))]) (fun x1 => [F]) ?_ ?_
  · refine at_region [0, 1, 2, 3, 4, 5, 6, 7, 8, 9] rfl ?_
    iterate 3 refine at_s T rfl ?_
    obtain ⟨v3, V2, Z1⟩ := bind_e Z1
    refine at_cons (at_c (B := fun _ => []) [] rfl rfl rfl rfl has48 rfl rfl (ref1_IsCell.c w h c v3 _ V2) (fun _ => ?_))
    iterate 2 refine at_s T rfl ?_
    refine at_case (s := 16) rfl (fun c3 => ?_) (fun c3 => ?_)
    · replace Z1 := if_t c3 Z1
      iterate 4 refine at_s T rfl ?_
      refine at_end ?_
      refine at_sub [(0, (.int .i64 w)), (1, (.int .i64 h)), (2, (.int .i64 c)), (3, (.int .i64 side)), (20, (.bool true))] ⟨rfl, rfl, rfl, rfl, rfl, trivial⟩ ?_
      refine at_then ?_
      obtain rfl := Option.some.inj Z1
      exact at_mid true [0] rfl ⟨rfl, rfl, rfl, rfl, rfl, trivial⟩ rfl
    · replace Z1 := if_f (bf c3) Z1
      refine at_s T rfl ?_
      obtain ⟨v4, V4, Z1⟩ := bind_e Z1
      refine at_cons (at_c (B := fun _ => []) [] rfl rfl rfl rfl has49 rfl rfl (ref1_In.c side 0 4 v4 _ V4) (fun _ => ?_))
      iterate 2 refine at_s T rfl ?_
      refine at_end ?_
      refine at_sub [(0, (.int .i64 w)), (1, (.int .i64 h)), (2, (.int .i64 c)), (3, (.int .i64 side)), (20, (.bool (!v4)))] ⟨rfl, rfl, rfl, rfl, rfl, trivial⟩ ?_
      refine at_then ?_
      obtain rfl := Option.some.inj Z1
      exact at_mid (!v4) [0] rfl ⟨rfl, rfl, rfl, rfl, rfl, trivial⟩ rfl
  · rintro x1 rfl
    refine at_cond rfl (fun c5 => ?_) (fun c5 => ?_)
    · replace H := if_t c5 H
      refine at_seq ?_
      refine at_region [0] rfl ?_
      refine at_s T rfl ?_
      refine at_end ?_
      refine at_sub [(8, (.int .i64 (-1)))] ⟨rfl, trivial⟩ ?_
      refine at_then ?_
      refine at_ret ?_
      refine at_rt ?_
      obtain rfl := Option.some.inj H
      exact at_post (T := T) rfl (.tmp rfl .nil) (fun w o => ⟨(), rfl, own_to [0] rfl o⟩)
    · replace H := if_f (bf c5) H
      refine at_skip ?_
      refine at_then ?_
      refine at_seq ?_
      refine at_region_q mix (by kernel_rfl) ?_
      iterate 2 refine atq_s T rfl ?_
      obtain ⟨c6, H⟩ := chk_e H
      refine atq_v rfl rfl rfl (g_rem rfl rfl rfl c6) ?_
      iterate 2 refine atq_s T rfl ?_
      obtain ⟨c7, H⟩ := chk_e H
      refine atq_v rfl rfl rfl (g_quo rfl rfl rfl c7) ?_
      iterate 2 refine atq_s T rfl ?_
      refine atq_end ?_
      refine at_sub [(0, (.int .i64 w)), (1, (.int .i64 h)), (3, (.int .i64 side)), (9, (.int .i64 (Int.tmod c w))), (10, (.int .i64 (w64 (Int.tdiv c w))))] ⟨rfl, rfl, rfl, rfl, rfl, trivial⟩ ?_
      refine at_then ?_
      obtain ⟨z6, Z8, H⟩ := bind_e H
      refine at_seq_mid (σ := Int) (fun x5 => x5 = z6) (fun x5 => [(0, (.int .i64 w)), (1, (.int .i64 h)), (3, (.int .i64 side)), (9, (.int .i64 (Int.tmod c w))), (10, (.int .i64 x5))]) (fun x5 => [F]) ?_ ?_
      · refine at_seq ?_
        refine at_region [0, 1] rfl ?_
        iterate 2 refine at_s T rfl ?_
        refine at_end ?_
        refine at_sub [(0, (.int .i64 w)), (1, (.int .i64 h)), (3, (.int .i64 side)), (9, (.int .i64 (Int.tmod c w))), (10, (.int .i64 (w64 (Int.tdiv c w)))), (28, (.bool (side == 0)))] ⟨rfl, rfl, rfl, rfl, rfl, rfl, trivial⟩ ?_
        refine at_then ?_
        refine at_cond rfl (fun c9 => ?_) (fun c9 => ?_)
        · replace Z8 := if_t c9 Z8
          refine at_region [0, 1, 2] rfl ?_
          iterate 3 refine at_s T rfl ?_
          refine at_end ?_
          refine at_sub [(0, (.int .i64 w)), (1, (.int .i64 h)), (3, (.int .i64 side)), (9, (.int .i64 (Int.tmod c w))), (10, (.int .i64 (w64 ((w64 (Int.tdiv c w)) - 1))))] ⟨rfl, rfl, rfl, rfl, rfl, trivial⟩ ?_
          refine at_then ?_
          obtain rfl := Option.some.inj Z8
          exact at_mid (w64 ((w64 (Int.tdiv c w)) - 1)) [0] rfl ⟨rfl, rfl, rfl, rfl, rfl, trivial⟩ rfl
        · replace Z8 := if_f (bf c9) Z8
          refine at_skip ?_
          refine at_then ?_
          obtain rfl := Option.some.inj Z8
          exact at_mid (w64 (Int.tdiv c w)) [0] rfl ⟨rfl, rfl, rfl, rfl, rfl, trivial⟩ rfl
      · rintro x5 rfl
        obtain ⟨z8, Z10, H⟩ := bind_e H
        refine at_seq_mid (σ := Int) (fun x7 => x7 = z8) (fun x7 => [(0, (.int .i64 w)), (1, (.int .i64 h)), (3, (.int .i64 side)), (9, (.int .i64 x7)), (10, (.int .i64 x5))]) (fun x7 => [F]) ?_ ?_
        · refine at_seq ?_
          refine at_region [0, 1] rfl ?_
          iterate 2 refine at_s T rfl ?_
          refine at_end ?_
          refine at_sub [(0, (.int .i64 w)), (1, (.int .i64 h)), (3, (.int .i64 side)), (9, (.int .i64 (Int.tmod c w))), (10, (.int .i64 x5)), (32, (.bool (side == 1)))] ⟨rfl, rfl, rfl, rfl, rfl, rfl, trivial⟩ ?_
          refine at_then ?_
          refine at_cond rfl (fun c11 => ?_) (fun c11 => ?_)
          · replace Z10 := if_t c11 Z10
            refine at_region [0, 1, 2] rfl ?_
            iterate 3 refine at_s T rfl ?_
            refine at_end ?_
            refine at_sub [(0, (.int .i64 w)), (1, (.int .i64 h)), (3, (.int .i64 side)), (9, (.int .i64 (w64 ((Int.tmod c w) + 1)))), (10, (.int .i64 x5))] ⟨rfl, rfl, rfl, rfl, rfl, trivial⟩ ?_
            refine at_then ?_
            obtain rfl := Option.some.inj Z10
            exact at_mid (w64 ((Int.tmod c w) + 1)) [0] rfl ⟨rfl, rfl, rfl, rfl, rfl, trivial⟩ rfl
          · replace Z10 := if_f (bf c11) Z10
            refine at_skip ?_
            refine at_then ?_
            obtain rfl := Option.some.inj Z10
            exact at_mid (Int.tmod c w) [0] rfl ⟨rfl, rfl, rfl, rfl, rfl, trivial⟩ rfl
        · rintro x7 rfl
          obtain ⟨z10, Z12, H⟩ := bind_e H
          refine at_seq_mid (σ := Int) (fun x9 => x9 = z10) (fun x9 => [(0, (.int .i64 w)), (1, (.int .i64 h)), (3, (.int .i64 side)), (9, (.int .i64 x7)), (10, (.int .i64 x9))]) (fun x9 => [F]) ?_ ?_
          · refine at_seq ?_
            refine at_region [0, 1] rfl ?_
            iterate 2 refine at_s T rfl ?_
            refine at_end ?_
            refine at_sub [(0, (.int .i64 w)), (1, (.int .i64 h)), (3, (.int .i64 side)), (9, (.int .i64 x7)), (10, (.int .i64 x5)), (36, (.bool (side == 2)))] ⟨rfl, rfl, rfl, rfl, rfl, rfl, trivial⟩ ?_
            refine at_then ?_
            refine at_cond rfl (fun c13 => ?_) (fun c13 => ?_)
            · replace Z12 := if_t c13 Z12
              refine at_region [0, 1, 2] rfl ?_
              iterate 3 refine at_s T rfl ?_
              refine at_end ?_
              refine at_sub [(0, (.int .i64 w)), (1, (.int .i64 h)), (3, (.int .i64 side)), (9, (.int .i64 x7)), (10, (.int .i64 (w64 (x5 + 1))))] ⟨rfl, rfl, rfl, rfl, rfl, trivial⟩ ?_
              refine at_then ?_
              obtain rfl := Option.some.inj Z12
              exact at_mid (w64 (x5 + 1)) [0] rfl ⟨rfl, rfl, rfl, rfl, rfl, trivial⟩ rfl
            · replace Z12 := if_f (bf c13) Z12
              refine at_skip ?_
              refine at_then ?_
              obtain rfl := Option.some.inj Z12
              exact at_mid x5 [0] rfl ⟨rfl, rfl, rfl, rfl, rfl, trivial⟩ rfl
          · rintro x9 rfl
            obtain ⟨z12, Z14, H⟩ := bind_e H
            refine at_seq_mid (σ := Int) (fun x11 => x11 = z12) (fun x11 => [(0, (.int .i64 w)), (1, (.int .i64 h)), (9, (.int .i64 x11)), (10, (.int .i64 x9))]) (fun x11 => [F]) ?_ ?_
            · refine at_seq ?_
              refine at_region [0, 1] rfl ?_
              iterate 2 refine at_s T rfl ?_
              refine at_end ?_
              refine at_sub [(0, (.int .i64 w)), (1, (.int .i64 h)), (9, (.int .i64 x7)), (10, (.int .i64 x9)), (40, (.bool (side == 3)))] ⟨rfl, rfl, rfl, rfl, rfl, trivial⟩ ?_
              refine at_then ?_
              refine at_cond rfl (fun c15 => ?_) (fun c15 => ?_)
              · replace Z14 := if_t c15 Z14
                refine at_region [0, 1, 2] rfl ?_
                iterate 3 refine at_s T rfl ?_
                refine at_end ?_
                refine at_sub [(0, (.int .i64 w)), (1, (.int .i64 h)), (9, (.int .i64 (w64 (x7 - 1)))), (10, (.int .i64 x9))] ⟨rfl, rfl, rfl, rfl, trivial⟩ ?_
                refine at_then ?_
                obtain rfl := Option.some.inj Z14
                exact at_mid (w64 (x7 - 1)) [0] rfl ⟨rfl, rfl, rfl, rfl, trivial⟩ rfl
              · replace Z14 := if_f (bf c15) Z14
                refine at_skip ?_
                refine at_then ?_
                obtain rfl := Option.some.inj Z14
                exact at_mid x7 [0] rfl ⟨rfl, rfl, rfl, rfl, trivial⟩ rfl
            · rintro x11 rfl
              refine at_seq ?_
              obtain ⟨z14, Z16, H⟩ := bind_e H
              refine at_seq_mid (σ := Bool) (fun x13 => x13 = z14) (fun x13 => [(0, (.int .i64 w)), (9, (.int .i64 x11)), (10, (.int .i64 x9)), (54, (.bool x13))]) (fun x13 => [F]) ?_ ?_
              · refine at_region [0, 1, 2, 3, 4, 5, 6, 7, 8, 9, 10, 11] rfl ?_
                iterate 3 refine at_s T rfl ?_
                obtain ⟨v15, V17, Z16⟩ := bind_e Z16
                refine at_cons (at_c (B := fun _ => []) [] rfl rfl rfl rfl has49 rfl rfl (ref1_In.c x11 0 (w64 (w - 1)) v15 _ V17) (fun _ => ?_))
                iterate 2 refine at_s T rfl ?_
                refine at_case (s := 48) rfl (fun c18 => ?_) (fun c18 => ?_)
                · replace Z16 := if_t c18 Z16
                  iterate 6 refine at_s T rfl ?_
                  refine at_end ?_
                  refine at_sub [(0, (.int .i64 w)), (9, (.int .i64 x11)), (10, (.int .i64 x9)), (54, (.bool true))] ⟨rfl, rfl, rfl, rfl, trivial⟩ ?_
                  refine at_then ?_
                  obtain rfl := Option.some.inj Z16
                  exact at_mid true [0] rfl ⟨rfl, rfl, rfl, rfl, trivial⟩ rfl
                · replace Z16 := if_f (bf c18) Z16
                  iterate 3 refine at_s T rfl ?_
                  obtain ⟨v16, V19, Z16⟩ := bind_e Z16
                  refine at_cons (at_c (B := fun _ => []) [] rfl rfl rfl rfl has49 rfl rfl (ref1_In.c x9 0 (w64 (h - 1)) v16 _ V19) (fun _ => ?_))
                  iterate 2 refine at_s T rfl ?_
                  refine at_end ?_
                  refine at_sub [(0, (.int .i64 w)), (9, (.int .i64 x11)), (10, (.int .i64 x9)), (54, (.bool (!v16)))] ⟨rfl, rfl, rfl, rfl, trivial⟩ ?_
                  refine at_then ?_
                  obtain rfl := Option.some.inj Z16
                  exact at_mid (!v16) [0] rfl ⟨rfl, rfl, rfl, rfl, trivial⟩ rfl
              · rintro x13 rfl
                refine at_cond rfl (fun c20 => ?_) (fun c20 => ?_)
                · replace H := if_t c20 H
                  refine at_seq ?_
                  refine at_region [0] rfl ?_
                  refine at_s T rfl ?_
                  refine at_end ?_
                  refine at_sub [(8, (.int .i64 (-1)))] ⟨rfl, trivial⟩ ?_
                  refine at_then ?_
                  refine at_ret ?_
                  refine at_rt ?_
                  obtain rfl := Option.some.inj H
                  exact at_post (T := T) rfl (.tmp rfl .nil) (fun w o => ⟨(), rfl, own_to [0] rfl o⟩)
                · replace H := if_f (bf c20) H
                  refine at_skip ?_
                  refine at_then ?_
                  refine at_seq ?_
                  refine at_region [0, 1, 2, 3, 4, 5] rfl ?_
                  iterate 6 refine at_s T rfl ?_
                  refine at_end ?_
                  refine at_sub [(8, (.int .i64 (w64 ((w64 (x9 * w)) + x11))))] ⟨rfl, trivial⟩ ?_
                  refine at_then ?_
                  refine at_ret ?_
                  obtain rfl := Option.some.inj H
                  exact at_post (T := T) rfl (.tmp rfl .nil) (fun w o => ⟨(), rfl, own_to [0] rfl o⟩)
end Go.Proofs.Ytkidcebfpengmaa
