import Derived.Test.YtmddmofncblfpaaT
namespace Go.Proofs.Ytmddmofncblfpaa
open Go.Hx
set_option maxRecDepth 100000
set_option linter.unusedVariables false
/-! ### herdsman/herdsmanref1.Within: function 15 -/
def ref1_Within.f (n : Int) (lo : Int) (hi : Int) : Option Int := if (¬ (w64 ((w64 (hi - lo)) + 1)) = 0) then (if (Int.tmod n (w64 ((w64 (hi - lo)) + 1))) < 0 then (some (w64 (lo + (w64 ((w64 ((w64 ((Int.tmod n (w64 ((w64 (hi - lo)) + 1))) + hi)) - lo)) + 1))))) else (some (w64 (lo + (Int.tmod n (w64 ((w64 (hi - lo)) + 1))))))) else none
set_option maxHeartbeats 4000000 in
theorem ref1_Within.c (n : Int) (lo : Int) (hi : Int) (r : Int) (F : Hp) (H : ref1_Within.f n lo hi = some r) :
    CallsL Try.prog 15 [(.int .i64 n), (.int .i64 lo), (.int .i64 hi)] [F] (fun _ : Unit => (.int .i64 r)) (fun _ => [F]) := by
  unfold ref1_Within.f at H
  refine calls_atL [(0, (.int .i64 n)), (1, (.int .i64 lo)), (2, (.int .i64 hi))] Try.func15 rfl rfl ⟨rfl, rfl, rfl, trivial⟩ (fun W => ?_)
  refine at_seq ?_
  refine at_region [0] rfl ?_
  refine at_s T rfl ?_
  refine at_end ?_
  refine at_sub [(0, (.int .i64 n)), (1, (.int .i64 lo)), (2, (.int .i64 hi))] ⟨rfl, rfl, rfl, trivial⟩ ?_
  refine at_then ?_
  refine at_seq ?_
  refine at_region [0, 1, 2, 3, 4, 5, 6] rfl ?_
  iterate 5 refine at_s T rfl ?_
  obtain ⟨c1, H⟩ := chk_e H
  refine at_v rfl (g_rem rfl rfl rfl c1) ?_
  refine at_s T rfl ?_
  refine at_end ?_
  refine at_sub [(0, (.int .i64 (Int.tmod n (w64 ((w64 (hi - lo)) + 1))))), (1, (.int .i64 lo)), (2, (.int .i64 hi))] ⟨rfl, rfl, rfl, trivial⟩ ?_
  refine at_then ?_
  refine at_seq ?_
  refine at_seq ?_
  refine at_region [0, 1] rfl ?_
  iterate 2 refine at_s T rfl ?_
  refine at_end ?_
  refine at_sub [(0, (.int .i64 (Int.tmod n (w64 ((w64 (hi - lo)) + 1))))), (1, (.int .i64 lo)), (2, (.int .i64 hi)), (14, (.bool (decide ((Int.tmod n (w64 ((w64 (hi - lo)) + 1))) < 0))))] ⟨rfl, rfl, rfl, rfl, trivial⟩ ?_
  refine at_then ?_
  refine at_cond rfl (fun c2 => ?_) (fun c2 => ?_)
  · replace H := if_t (of_decide_eq_true c2) H
    refine at_region [0, 1, 2, 3, 4, 5, 6] rfl ?_
    iterate 7 refine at_s T rfl ?_
    refine at_end ?_
    refine at_sub [(0, (.int .i64 (w64 ((w64 ((w64 ((Int.tmod n (w64 ((w64 (hi - lo)) + 1))) + hi)) - lo)) + 1)))), (1, (.int .i64 lo))] ⟨rfl, rfl, trivial⟩ ?_
    refine at_then ?_
    refine at_seq ?_
    refine at_region [0, 1, 2, 3] rfl ?_
    iterate 4 refine at_s T rfl ?_
    refine at_end ?_
    refine at_sub [(6, (.int .i64 (w64 (lo + (w64 ((w64 ((w64 ((Int.tmod n (w64 ((w64 (hi - lo)) + 1))) + hi)) - lo)) + 1))))))] ⟨rfl, trivial⟩ ?_
    refine at_then ?_
    refine at_ret ?_
    obtain rfl := Option.some.inj H
    exact at_post (T := T) rfl (.tmp rfl .nil) (fun w o => ⟨(), rfl, own_to [0] rfl o⟩)
  · replace H := if_f (of_decide_eq_false c2) H
    refine at_skip ?_
    refine at_then ?_
    refine at_seq ?_
    refine at_region [0, 1, 2, 3] rfl ?_
    iterate 4 refine at_s T rfl ?_
    refine at_end ?_
    refine at_sub [(6, (.int .i64 (w64 (lo + (Int.tmod n (w64 ((w64 (hi - lo)) + 1)))))))] ⟨rfl, trivial⟩ ?_
    refine at_then ?_
    refine at_ret ?_
    obtain rfl := Option.some.inj H
    exact at_post (T := T) rfl (.tmp rfl .nil) (fun w o => ⟨(), rfl, own_to [0] rfl o⟩)

/-! ### herdsman/herdsmanref1.Ints: function 48 -/
def ref1_Ints.l0 : Nat → (List Int) → (List Int) → Int → Option Bool
  | 0, _, _, _ => none
  | k3 + 1, a, b, x2 => if x2 < (List.length a : Int) then (if (0 ≤ x2 ∧ x2 < (List.length a : Int)) then (if (0 ≤ x2 ∧ x2 < (List.length b : Int)) then (if ((rd a x2) != (rd b x2)) = true then (some false) else (ref1_Ints.l0 k3 a b (w64 (x2 + 1)))) else none) else none) else (some true)
def ref1_Ints.f (a : (List Int)) (b : (List Int)) : Option Bool := if ((List.length a : Int) != (List.length b : Int)) = true then (some false) else (ref1_Ints.l0 fuel a b 0)
set_option maxHeartbeats 4000000 in
theorem ref1_Ints.c {a_a : Option Addr} {n_a : Nat} {a_b : Option Addr} {n_b : Nat} (a : (List Int)) (b : (List Int)) (r : Bool) (F : Hp) (H : ref1_Ints.f a b = some r) (h_a : SliceR (Fl.int .i64) a a_a F) (c_a : List.length a ≤ n_a) (h_b : SliceR (Fl.int .i64) b a_b F) (c_b : List.length b ≤ n_b) :
    CallsL Try.prog 48 [(.slice a_a (List.length a) n_a), (.slice a_b (List.length b) n_b)] [F] (fun _ : Unit => (.bool r)) (fun _ => [F]) := by
  unfold ref1_Ints.f at H
  refine calls_atL [(0, (.slice a_a (List.length a) n_a)), (1, (.slice a_b (List.length b) n_b))] Try.func48 rfl rfl ⟨rfl, rfl, trivial⟩ (fun W => ?_)
  refine at_seq ?_
  refine at_region [0] rfl ?_
  refine at_s T rfl ?_
  refine at_end ?_
  refine at_sub [(0, (.slice a_a (List.length a) n_a)), (1, (.slice a_b (List.length b) n_b))] ⟨rfl, rfl, trivial⟩ ?_
  refine at_then ?_
  refine at_seq ?_
  refine at_seq ?_
  refine at_region [0, 1, 2, 3, 4] rfl ?_
  iterate 5 refine at_s T rfl ?_
  refine at_end ?_
  refine at_sub [(0, (.slice a_a (List.length a) n_a)), (1, (.slice a_b (List.length b) n_b)), (10, (.bool ((List.length a : Int) != (List.length b : Int))))] ⟨rfl, rfl, rfl, trivial⟩ ?_
  refine at_then ?_
  refine at_cond rfl (fun c1 => ?_) (fun c1 => ?_)
  · replace H := if_t c1 H
    refine at_seq ?_
    refine at_region [0] rfl ?_
    refine at_s T rfl ?_
    refine at_end ?_
    refine at_sub [(4, (.bool false))] ⟨rfl, trivial⟩ ?_
    refine at_then ?_
    refine at_ret ?_
    refine at_rt ?_
    obtain rfl := Option.some.inj H
    exact at_post (T := T) rfl (.tmp rfl .nil) (fun w o => ⟨(), rfl, own_to [0] rfl o⟩)
  · replace H := if_f (bf c1) H
    refine at_skip ?_
    refine at_then ?_
    refine at_seq ?_
    refine at_seq ?_
    refine at_region [0] rfl ?_
    refine at_s T rfl ?_
    refine at_end ?_
    refine at_sub [(0, (.slice a_a (List.length a) n_a)), (1, (.slice a_b (List.length b) n_b)), (5, (.int .i64 0))] ⟨rfl, rfl, rfl, trivial⟩ ?_
    refine at_then ?_
    refine at_block ?_
    refine at_loopL (σ := Nat × Int) (fun ⟨k3, x2⟩ => ref1_Ints.l0 k3 a b x2 = some r) (fun ⟨k3, x2⟩ => [(0, (.slice a_a (List.length a) n_a)), (1, (.slice a_b (List.length b) n_b)), (5, (.int .i64 x2))]) (fun ⟨k3, x2⟩ => [F]) (fun s => s.1) (fuel, 0) [0] H ⟨rfl, rfl, rfl, trivial⟩ rfl ?_
    rintro ⟨k3, x2⟩ Z2
    replace Z2 : ref1_Ints.l0 k3 a b x2 = some r := Z2
    rcases k3 with _ | k3
    · rw [ref1_Ints.l0] at Z2; cases Z2
    · rw [ref1_Ints.l0] at Z2
      refine at_seq ?_
      refine at_seq ?_
      refine at_region [0, 1, 2, 3] rfl ?_
      iterate 4 refine at_s T rfl ?_
      refine at_end ?_
      refine at_sub [(0, (.slice a_a (List.length a) n_a)), (1, (.slice a_b (List.length b) n_b)), (5, (.int .i64 x2)), (14, (.bool (decide (x2 < (List.length a : Int)))))] ⟨rfl, rfl, rfl, rfl, trivial⟩ ?_
      refine at_then ?_
      refine at_cond rfl (fun c3 => ?_) (fun c3 => ?_)
      · replace Z2 := if_t (of_decide_eq_true c3) Z2
        refine at_skip ?_
        refine at_then ?_
        refine at_seq ?_
        refine at_block ?_
        refine at_seq ?_
        refine at_region_q mix (by kernel_rfl) ?_
        iterate 2 refine atq_s T rfl ?_
        obtain ⟨c4, Z2⟩ := chk_e Z2
        obtain ⟨q1, o1, e1⟩ := h_a.addr c4.1 c4.2
        refine atq_v rfl rfl rfl (g_index T rfl rfl rfl rfl rfl e1 c4.1 c4.2) ?_
        refine atq_v rfl rfl rfl (g_load T rfl rfl rfl rfl (in_elem1 (k := (Fl.int .i64)) (ro_of h_a (j := 0) rfl) e1 c4 0 rfl)) ?_
        iterate 2 refine atq_s T rfl ?_
        obtain ⟨c5, Z2⟩ := chk_e Z2
        obtain ⟨q2, o2, e2⟩ := h_b.addr c5.1 c5.2
        refine atq_v rfl rfl rfl (g_index T rfl rfl rfl rfl rfl e2 c5.1 c5.2) ?_
        refine atq_v rfl rfl rfl (g_load T rfl rfl rfl rfl (in_elem1 (k := (Fl.int .i64)) (ro_of h_b (j := 0) rfl) e2 c5 0 rfl)) ?_
        refine atq_s T rfl ?_
        refine atq_end ?_
        refine at_sub [(0, (.slice a_a (List.length a) n_a)), (1, (.slice a_b (List.length b) n_b)), (5, (.int .i64 x2)), (25, (.bool ((rd a x2) != (rd b x2))))] ⟨rfl, rfl, rfl, rfl, trivial⟩ ?_
        refine at_then ?_
        refine at_cond rfl (fun c6 => ?_) (fun c6 => ?_)
        · replace Z2 := if_t c6 Z2
          refine at_seq ?_
          refine at_region [0] rfl ?_
          refine at_s T rfl ?_
          refine at_end ?_
          refine at_sub [(4, (.bool false))] ⟨rfl, trivial⟩ ?_
          refine at_then ?_
          refine at_ret ?_
          refine at_rb ?_
          refine at_rt ?_
          refine at_rt ?_
          refine at_rb ?_
          refine at_rt ?_
          obtain rfl := Option.some.inj Z2
          exact at_post (T := T) rfl (.tmp rfl .nil) (fun w o => ⟨(), rfl, own_to [0] rfl o⟩)
        · replace Z2 := if_f (bf c6) Z2
          refine at_skip ?_
          refine at_nb ?_
          refine at_then ?_
          refine at_region [0, 1, 2] rfl ?_
          iterate 3 refine at_s T rfl ?_
          refine at_end ?_
          refine at_sub [(0, (.slice a_a (List.length a) n_a)), (1, (.slice a_b (List.length b) n_b)), (5, (.int .i64 (w64 (x2 + 1))))] ⟨rfl, rfl, rfl, trivial⟩ ?_
          refine at_then ?_
          exact at_roundL (k3, (w64 (x2 + 1))) [0] Z2 (Nat.lt_succ_self _) ⟨rfl, rfl, rfl, trivial⟩ rfl
      · replace Z2 := if_f (of_decide_eq_false c3) Z2
        refine at_exit ?_
        refine at_xt ?_
        refine at_xt ?_
        refine at_xb ?_
        refine at_then ?_
        refine at_seq ?_
        refine at_region [0] rfl ?_
        refine at_s T rfl ?_
        refine at_end ?_
        refine at_sub [(4, (.bool true))] ⟨rfl, trivial⟩ ?_
        refine at_then ?_
        refine at_ret ?_
        obtain rfl := Option.some.inj Z2
        exact at_post (T := T) rfl (.tmp rfl .nil) (fun w o => ⟨(), rfl, own_to [0] rfl o⟩)

/-! ### herdsman/herdsmanref1.In: function 17 -/
def ref1_In.f (n : Int) (lo : Int) (hi : Int) : Option Bool := some ((decide (n ≥ lo)) && (decide (n ≤ hi)))
set_option maxHeartbeats 4000000 in
theorem ref1_In.c (n : Int) (lo : Int) (hi : Int) (r : Bool) (F : Hp) (H : ref1_In.f n lo hi = some r) :
    CallsL Try.prog 17 [(.int .i64 n), (.int .i64 lo), (.int .i64 hi)] [F] (fun _ : Unit => (.bool r)) (fun _ => [F]) := by
  unfold ref1_In.f at H
  refine calls_atL [(0, (.int .i64 n)), (1, (.int .i64 lo)), (2, (.int .i64 hi))] Try.func17 rfl rfl ⟨rfl, rfl, rfl, trivial⟩ (fun W => ?_)
  refine at_seq ?_
  refine at_region [0] rfl ?_
  refine at_s T rfl ?_
  refine at_end ?_
  refine at_sub [(0, (.int .i64 n)), (1, (.int .i64 lo)), (2, (.int .i64 hi))] ⟨rfl, rfl, rfl, trivial⟩ ?_
  refine at_then ?_
  refine at_seq ?_
  refine at_region [0, 1, 2, 3, 4, 5, 6, 7, 8] rfl ?_
  iterate 4 refine at_s T rfl ?_
  refine at_grp T [4, 5, 6, 7] (s := 10) (c := (decide (n ≥ lo))) [(14, (.bool ((decide (n ≥ lo)) && (decide (n ≤ hi)))))] rfl rfl rfl (fun c1 => ⟨(by rw [c1]; rfl), trivial⟩) (fun c1 => ⟨(by rw [c1]; rfl), trivial⟩) ?_
  refine at_s T rfl ?_
  refine at_end ?_
  refine at_sub [(6, (.bool ((decide (n ≥ lo)) && (decide (n ≤ hi)))))] ⟨rfl, trivial⟩ ?_
  refine at_then ?_
  refine at_ret ?_
  obtain rfl := Option.some.inj H
  exact at_post (T := T) rfl (.tmp rfl .nil) (fun w o => ⟨(), rfl, own_to [0] rfl o⟩)

/-! ### herdsman/herdsmanref1.May: function 61 -/
def ref1_May.f (w : Int) (h : Int) : Option Bool := ((ref1_In.f w 1 1024).bind fun v3 => if v3 = true then ((ref1_In.f h 1 1024).bind fun v4 => some v4) else (some false)).bind fun x1 => some x1
set_option maxHeartbeats 4000000 in
theorem ref1_May.c (w : Int) (h : Int) (r : Bool) (F : Hp) (H : ref1_May.f w h = some r) :
    CallsL Try.prog 61 [(.int .i64 w), (.int .i64 h)] [F] (fun _ : Unit => (.bool r)) (fun _ => [F]) := by
  unfold ref1_May.f at H
  refine calls_atL [(0, (.int .i64 w)), (1, (.int .i64 h))] Try.func61 rfl rfl ⟨rfl, rfl, trivial⟩ (fun W => ?_)
  refine at_seq ?_
  refine at_region [0] rfl ?_
  refine at_s T rfl ?_
  refine at_end ?_
  refine at_sub [(0, (.int .i64 w)), (1, (.int .i64 h))] ⟨rfl, rfl, trivial⟩ ?_
  refine at_then ?_
  obtain ⟨z2, Z1, H⟩ := bind_e H
  refine at_seq_mid (σ := Bool) (fun x1 => x1 = z2) (fun x1 => [(4, (.bool x1))]) (fun x1 => [F]) ?_ ?_
  · refine at_region [0, 1, 2, 3, 4, 5, 6] rfl ?_
    refine at_s T rfl ?_
    obtain ⟨v3, V2, Z1⟩ := bind_e Z1
    refine at_cons (at_c (B := fun _ => []) [] rfl rfl rfl rfl has17 rfl rfl (ref1_In.c w 1 1024 v3 _ V2) (fun _ => ?_))
    refine at_s T rfl ?_
    refine at_case (s := 7) rfl (fun c3 => ?_) (fun c3 => ?_)
    · replace Z1 := if_t c3 Z1
      refine at_s T rfl ?_
      obtain ⟨v4, V4, Z1⟩ := bind_e Z1
      refine at_cons (at_c (B := fun _ => []) [] rfl rfl rfl rfl has17 rfl rfl (ref1_In.c h 1 1024 v4 _ V4) (fun _ => ?_))
      iterate 2 refine at_s T rfl ?_
      refine at_end ?_
      refine at_sub [(4, (.bool v4))] ⟨rfl, trivial⟩ ?_
      refine at_then ?_
      obtain rfl := Option.some.inj Z1
      exact at_mid v4 [0] rfl ⟨rfl, trivial⟩ rfl
    · replace Z1 := if_f (bf c3) Z1
      iterate 4 refine at_s T rfl ?_
      refine at_end ?_
      refine at_sub [(4, (.bool false))] ⟨rfl, trivial⟩ ?_
      refine at_then ?_
      obtain rfl := Option.some.inj Z1
      exact at_mid false [0] rfl ⟨rfl, trivial⟩ rfl
  · rintro x1 rfl
    refine at_ret ?_
    obtain rfl := Option.some.inj H
    exact at_post (T := T) rfl (.tmp rfl .nil) (fun w o => ⟨(), rfl, own_to [0] rfl o⟩)

/-! ### herdsman/herdsmanref1.IsCell: function 62 -/
def ref1_IsCell.f (w : Int) (h : Int) (c : Int) : Option Bool := ((ref1_May.f w h).bind fun v3 => if v3 = true then ((ref1_In.f c 0 (w64 ((w64 (w * h)) - 1))).bind fun v4 => some v4) else (some false)).bind fun x1 => some x1
set_option maxHeartbeats 4000000 in
theorem ref1_IsCell.c (w : Int) (h : Int) (c : Int) (r : Bool) (F : Hp) (H : ref1_IsCell.f w h c = some r) :
    CallsL Try.prog 62 [(.int .i64 w), (.int .i64 h), (.int .i64 c)] [F] (fun _ : Unit => (.bool r)) (fun _ => [F]) := by
  unfold ref1_IsCell.f at H
  refine calls_atL [(0, (.int .i64 w)), (1, (.int .i64 h)), (2, (.int .i64 c))] Try.func62 rfl rfl ⟨rfl, rfl, rfl, trivial⟩ (fun W => ?_)
  refine at_seq ?_
  refine at_region [0] rfl ?_
  refine at_s T rfl ?_
  refine at_end ?_
  refine at_sub [(0, (.int .i64 w)), (1, (.int .i64 h)), (2, (.int .i64 c))] ⟨rfl, rfl, rfl, trivial⟩ ?_
  refine at_then ?_
  obtain ⟨z2, Z1, H⟩ := bind_e H
  refine at_seq_mid (σ := Bool) (fun x1 => x1 = z2) (fun x1 => [(6, (.bool x1))]) (fun x1 => [F]) ?_ ?_
  · refine at_region [0, 1, 2, 3, 4, 5, 6, 7, 8, 9, 10, 11] rfl ?_
    iterate 2 refine at_s T rfl ?_
    obtain ⟨v3, V2, Z1⟩ := bind_e Z1
    refine at_cons (at_c (B := fun _ => []) [] rfl rfl rfl rfl has61 rfl rfl (ref1_May.c w h v3 _ V2) (fun _ => ?_))
    refine at_s T rfl ?_
    refine at_case (s := 10) rfl (fun c3 => ?_) (fun c3 => ?_)
    · replace Z1 := if_t c3 Z1
      iterate 5 refine at_s T rfl ?_
      obtain ⟨v4, V4, Z1⟩ := bind_e Z1
      refine at_cons (at_c (B := fun _ => []) [] rfl rfl rfl rfl has17 rfl rfl (ref1_In.c c 0 (w64 ((w64 (w * h)) - 1)) v4 _ V4) (fun _ => ?_))
      iterate 2 refine at_s T rfl ?_
      refine at_end ?_
      refine at_sub [(6, (.bool v4))] ⟨rfl, trivial⟩ ?_
      refine at_then ?_
      obtain rfl := Option.some.inj Z1
      exact at_mid v4 [0] rfl ⟨rfl, trivial⟩ rfl
    · replace Z1 := if_f (bf c3) Z1
      iterate 8 refine at_s T rfl ?_
      refine at_end ?_
      refine at_sub [(6, (.bool false))] ⟨rfl, trivial⟩ ?_
      refine at_then ?_
      obtain rfl := Option.some.inj Z1
      exact at_mid false [0] rfl ⟨rfl, trivial⟩ rfl
  · rintro x1 rfl
    refine at_ret ?_
    obtain rfl := Option.some.inj H
    exact at_post (T := T) rfl (.tmp rfl .nil) (fun w o => ⟨(), rfl, own_to [0] rfl o⟩)

/-! ### herdsman/herdsmanref1.Sectors: function 66 -/
def ref1_Sectors.f (w : Int) (h : Int) : Option (Int × Int) := (ref1_May.f w h).bind fun v1 => if (!v1) = true then (some (0, 0)) else (some ((w64 (Int.tdiv (w64 ((w64 (w + 16)) - 1)) 16)), (w64 (Int.tdiv (w64 ((w64 (h + 16)) - 1)) 16))))
set_option maxHeartbeats 4000000 in
theorem ref1_Sectors.c (w : Int) (h : Int) (r : (Int × Int)) (F : Hp) (H : ref1_Sectors.f w h = some r) :
    CallsL Try.prog 66 [(.int .i64 w), (.int .i64 h)] [F] (fun _ : Unit => (.tuple #[(.int .i64 r.1), (.int .i64 r.2)])) (fun _ => [F]) := by
  unfold ref1_Sectors.f at H
  refine calls_atL [(0, (.int .i64 w)), (1, (.int .i64 h))] Try.func66 rfl rfl ⟨rfl, rfl, trivial⟩ (fun W => ?_)
  refine at_seq ?_
  refine at_region [0, 1] rfl ?_
  iterate 2 refine at_s T rfl ?_
  refine at_end ?_
  refine at_sub [(0, (.int .i64 w)), (1, (.int .i64 h))] ⟨rfl, rfl, trivial⟩ ?_
  refine at_then ?_
  refine at_seq ?_
  refine at_seq ?_
  refine at_region [0, 1, 2, 3] rfl ?_
  iterate 2 refine at_s T rfl ?_
  obtain ⟨v1, V1, H⟩ := bind_e H
  refine at_cons (at_c (B := fun _ => []) [] rfl rfl rfl rfl has61 rfl rfl (ref1_May.c w h v1 _ V1) (fun _ => ?_))
  refine at_s T rfl ?_
  refine at_end ?_
  refine at_sub [(0, (.int .i64 w)), (1, (.int .i64 h)), (9, (.bool (!v1)))] ⟨rfl, rfl, rfl, trivial⟩ ?_
  refine at_then ?_
  refine at_cond rfl (fun c2 => ?_) (fun c2 => ?_)
  · replace H := if_t c2 H
    refine at_seq ?_
    refine at_region [0, 1] rfl ?_
    iterate 2 refine at_s T rfl ?_
    refine at_end ?_
    refine at_sub [(4, (.int .i64 0)), (5, (.int .i64 0))] ⟨rfl, rfl, trivial⟩ ?_
    refine at_then ?_
    refine at_ret ?_
    refine at_rt ?_
    obtain rfl := Option.some.inj H
    exact at_post (T := T) rfl (.tmp rfl (.tmp rfl .nil)) (fun w o => ⟨(), rfl, own_to [0] rfl o⟩)
  · replace H := if_f (bf c2) H
    refine at_skip ?_
    refine at_then ?_
    refine at_seq ?_
    refine at_region [0, 1, 2, 3, 4, 5, 6, 7, 8, 9] rfl ?_
    iterate 10 refine at_s T rfl ?_
    refine at_end ?_
    refine at_sub [(4, (.int .i64 (w64 (Int.tdiv (w64 ((w64 (w + 16)) - 1)) 16)))), (5, (.int .i64 (w64 (Int.tdiv (w64 ((w64 (h + 16)) - 1)) 16))))] ⟨rfl, rfl, trivial⟩ ?_
    refine at_then ?_
    refine at_ret ?_
    obtain rfl := Option.some.inj H
    exact at_post (T := T) rfl (.tmp rfl (.tmp rfl .nil)) (fun w o => ⟨(), rfl, own_to [0] rfl o⟩)

/-! ### herdsman/herdsmanref1.Sector: function 63 -/
def ref1_Sector.f (w : Int) (h : Int) (c : Int) : Option Int := (ref1_IsCell.f w h c).bind fun v1 => if (!v1) = true then (some (-1)) else ((ref1_Sectors.f w h).bind fun v2 => if (¬ w = 0) then (if (¬ w = 0) then (some (w64 ((w64 ((w64 (Int.tdiv (w64 (Int.tdiv c w)) 16)) * v2.1)) + (w64 (Int.tdiv (Int.tmod c w) 16))))) else none) else none)
set_option maxHeartbeats 4000000 in
theorem ref1_Sector.c (w : Int) (h : Int) (c : Int) (r : Int) (F : Hp) (H : ref1_Sector.f w h c = some r) :
    CallsL Try.prog 63 [(.int .i64 w), (.int .i64 h), (.int .i64 c)] [F] (fun _ : Unit => (.int .i64 r)) (fun _ => [F]) := by
  unfold ref1_Sector.f at H
  refine calls_atL [(0, (.int .i64 w)), (1, (.int .i64 h)), (2, (.int .i64 c))] Try.func63 rfl rfl ⟨rfl, rfl, rfl, trivial⟩ (fun W => ?_)
  refine at_seq ?_
  refine at_region [0] rfl ?_
  refine at_s T rfl ?_
  refine at_end ?_
  refine at_sub [(0, (.int .i64 w)), (1, (.int .i64 h)), (2, (.int .i64 c))] ⟨rfl, rfl, rfl, trivial⟩ ?_
  refine at_then ?_
  refine at_seq ?_
  refine at_seq ?_
  refine at_region [0, 1, 2, 3, 4] rfl ?_
  iterate 3 refine at_s T rfl ?_
  obtain ⟨v1, V1, H⟩ := bind_e H
  refine at_cons (at_c (B := fun _ => []) [] rfl rfl rfl rfl has62 rfl rfl (ref1_IsCell.c w h c v1 _ V1) (fun _ => ?_))
  refine at_s T rfl ?_
  refine at_end ?_
  refine at_sub [(0, (.int .i64 w)), (1, (.int .i64 h)), (2, (.int .i64 c)), (13, (.bool (!v1)))] ⟨rfl, rfl, rfl, rfl, trivial⟩ ?_
  refine at_then ?_
  refine at_cond rfl (fun c2 => ?_) (fun c2 => ?_)
  · replace H := if_t c2 H
    refine at_seq ?_
    refine at_region [0] rfl ?_
    refine at_s T rfl ?_
    refine at_end ?_
    refine at_sub [(6, (.int .i64 (-1)))] ⟨rfl, trivial⟩ ?_
    refine at_then ?_
    refine at_ret ?_
    refine at_rt ?_
    obtain rfl := Option.some.inj H
    exact at_post (T := T) rfl (.tmp rfl .nil) (fun w o => ⟨(), rfl, own_to [0] rfl o⟩)
  · replace H := if_f (bf c2) H
    refine at_skip ?_
    refine at_then ?_
    refine at_seq ?_
    refine at_region [0, 1, 2, 3, 4, 5, 6, 7] rfl ?_
    iterate 2 refine at_s T rfl ?_
    obtain ⟨v2, V3, H⟩ := bind_e H
    refine at_cons (at_c (B := fun _ => []) [] rfl rfl rfl rfl has66 rfl rfl (ref1_Sectors.c w h v2 _ V3) (fun _ => ?_))
    iterate 5 refine at_s T rfl ?_
    refine at_end ?_
    refine at_sub [(0, (.int .i64 w)), (2, (.int .i64 c)), (7, (.int .i64 v2.1))] ⟨rfl, rfl, rfl, trivial⟩ ?_
    refine at_then ?_
    refine at_seq ?_
    refine at_region_q mix (by kernel_rfl) ?_
    iterate 2 refine atq_s T rfl ?_
    obtain ⟨c4, H⟩ := chk_e H
    refine atq_v rfl rfl rfl (g_quo rfl rfl rfl c4) ?_
    iterate 5 refine atq_s T rfl ?_
    obtain ⟨c5, H⟩ := chk_e H
    refine atq_v rfl rfl rfl (g_rem rfl rfl rfl c5) ?_
    iterate 3 refine atq_s T rfl ?_
    refine atq_end ?_
    refine at_sub [(6, (.int .i64 (w64 ((w64 ((w64 (Int.tdiv (w64 (Int.tdiv c w)) 16)) * v2.1)) + (w64 (Int.tdiv (Int.tmod c w) 16))))))] ⟨rfl, trivial⟩ ?_
    refine at_then ?_
    refine at_ret ?_
    obtain rfl := Option.some.inj H
    exact at_post (T := T) rfl (.tmp rfl .nil) (fun w o => ⟨(), rfl, own_to [0] rfl o⟩)
end Go.Proofs.Ytmddmofncblfpaa
