import Derived.Test.YtonjonpepfepfaaDoorT
namespace Go.Proofs.YtonjonpepfepfaaDoor
open Go.Hx
set_option maxRecDepth 100000
set_option linter.unusedVariables false
noncomputable section
/-! ### herdsman/herdsmanref1.Bytes: function 12 -/
def ref1_Bytes.f (a : (List Int)) (b : (List Int)) : Option Bool := some (strEq a b)
set_option maxHeartbeats 4000000 in
theorem ref1_Bytes.c {a_a : Option Addr} {n_a : Nat} {a_b : Option Addr} {n_b : Nat} (a : (List Int)) (b : (List Int)) (r : Bool) (F : Hp) (H : ref1_Bytes.f a b = some r) (h_a : SliceR (Fl.int .u8) a a_a F) (c_a : List.length a ≤ n_a) (h_b : SliceR (Fl.int .u8) b a_b F) (c_b : List.length b ≤ n_b) :
    CallsL Tryd.prog 12 [(.slice a_a (List.length a) n_a), (.slice a_b (List.length b) n_b)] [F] (fun _ : Unit => (.bool r)) (fun _ => [F]) := by
  unfold ref1_Bytes.f at H
  refine calls_atL [(0, (.slice a_a (List.length a) n_a)), (1, (.slice a_b (List.length b) n_b))] Tryd.func12 rfl rfl ⟨rfl, rfl, trivial⟩ (fun W => ?_)
  refine at_seq ?_
  refine at_region [0] rfl ?_
  refine at_s T rfl ?_
  refine at_end ?_
  refine at_sub [(0, (.slice a_a (List.length a) n_a)), (1, (.slice a_b (List.length b) n_b))] ⟨rfl, rfl, trivial⟩ ?_
  refine at_then ?_
  refine at_seq ?_
  refine at_region [0, 1, 2, 3, 4, 5] rfl ?_
  refine at_s T rfl ?_
  refine at_v rfl (g_tostr T rfl rfl rfl rfl rfl (ro_of h_a (j := 0) rfl)) ?_
  refine at_s T rfl ?_
  refine at_v rfl (g_tostr T rfl rfl rfl rfl rfl (ro_of h_b (j := 0) rfl)) ?_
  refine at_v rfl (g_streq rfl rfl rfl) ?_
  refine at_s T rfl ?_
  refine at_end ?_
  refine at_sub [(4, (.bool (strEq a b)))] ⟨rfl, trivial⟩ ?_
  refine at_then ?_
  refine at_ret ?_
  obtain rfl := Option.some.inj H
  exact at_post (T := T) rfl (.tmp rfl .nil) (fun w o => ⟨(), rfl, own_to [0] rfl o⟩)

/-! ### herdsman/herdsmanref1.Within: function 8 -/
def ref1_Within.f (n : Int) (lo : Int) (hi : Int) : Option Int := if (¬ (w64 ((w64 (hi - lo)) + 1)) = 0) then (if (Int.tmod n (w64 ((w64 (hi - lo)) + 1))) < 0 then (some (w64 (lo + (w64 ((w64 ((w64 ((Int.tmod n (w64 ((w64 (hi - lo)) + 1))) + hi)) - lo)) + 1))))) else (some (w64 (lo + (Int.tmod n (w64 ((w64 (hi - lo)) + 1))))))) else none
set_option maxHeartbeats 4000000 in
theorem ref1_Within.c (n : Int) (lo : Int) (hi : Int) (r : Int) (F : Hp) (H : ref1_Within.f n lo hi = some r) :
    CallsL Tryd.prog 8 [(.int .i64 n), (.int .i64 lo), (.int .i64 hi)] [F] (fun _ : Unit => (.int .i64 r)) (fun _ => [F]) := by
  unfold ref1_Within.f at H
  refine calls_atL [(0, (.int .i64 n)), (1, (.int .i64 lo)), (2, (.int .i64 hi))] Tryd.func8 rfl rfl ⟨rfl, rfl, rfl, trivial⟩ (fun W => ?_)
  refine at_seq ?_
  refine at_region [0] rfl ?_
  refine at_s T rfl ?_
  refine at_end ?_
  refine at_sub [(0, (.int .i64 n)), (1, (.int .i64 lo)), (2, (.int .i64 hi))] ⟨rfl, rfl, rfl, trivial⟩ ?_
  refine at_then ?_
  refine at_seq ?_
  refine at_region [0, 1, 2, 3, 4, 5, 6] rfl ?_
  iterate 5 refine at_s T rfl ?_
  obtain ⟨c1, H⟩ := chk_e H
  refine at_v rfl (g_rem rfl rfl rfl c1) ?_
  refine at_s T rfl ?_
  refine at_end ?_
  refine at_sub [(0, (.int .i64 (Int.tmod n (w64 ((w64 (hi - lo)) + 1))))), (1, (.int .i64 lo)), (2, (.int .i64 hi))] ⟨rfl, rfl, rfl, trivial⟩ ?_
  refine at_then ?_
  refine at_seq ?_
  refine at_seq ?_
  refine at_region [0, 1] rfl ?_
  iterate 2 refine at_s T rfl ?_
  refine at_end ?_
  refine at_sub [(0, (.int .i64 (Int.tmod n (w64 ((w64 (hi - lo)) + 1))))), (1, (.int .i64 lo)), (2, (.int .i64 hi)), (14, (.bool (decide ((Int.tmod n (w64 ((w64 (hi - lo)) + 1))) < 0))))] ⟨rfl, rfl, rfl, rfl, trivial⟩ ?_
  refine at_then ?_
  refine at_cond rfl (fun c2 => ?_) (fun c2 => ?_)
  · replace H := if_t (of_decide_eq_true c2) H
    refine at_region [0, 1, 2, 3, 4, 5, 6] rfl ?_
    iterate 7 refine at_s T rfl ?_
    refine at_end ?_
    refine at_sub [(0, (.int .i64 (w64 ((w64 ((w64 ((Int.tmod n (w64 ((w64 (hi - lo)) + 1))) + hi)) - lo)) + 1)))), (1, (.int .i64 lo))] ⟨rfl, rfl, trivial⟩ ?_
    refine at_then ?_
    refine at_seq ?_
    refine at_region [0, 1, 2, 3] rfl ?_
    iterate 4 refine at_s T rfl ?_
    refine at_end ?_
    refine at_sub [(6, (.int .i64 (w64 (lo + (w64 ((w64 ((w64 ((Int.tmod n (w64 ((w64 (hi - lo)) + 1))) + hi)) - lo)) + 1))))))] ⟨rfl, trivial⟩ ?_
    refine at_then ?_
    refine at_ret ?_
    obtain rfl := Option.some.inj H
    exact at_post (T := T) rfl (.tmp rfl .nil) (fun w o => ⟨(), rfl, own_to [0] rfl o⟩)
  · replace H := if_f (of_decide_eq_false c2) H
    refine at_skip ?_
    refine at_then ?_
    refine at_seq ?_
    refine at_region [0, 1, 2, 3] rfl ?_
    iterate 4 refine at_s T rfl ?_
    refine at_end ?_
    refine at_sub [(6, (.int .i64 (w64 (lo + (Int.tmod n (w64 ((w64 (hi - lo)) + 1)))))))] ⟨rfl, trivial⟩ ?_
    refine at_then ?_
    refine at_ret ?_
    obtain rfl := Option.some.inj H
    exact at_post (T := T) rfl (.tmp rfl .nil) (fun w o => ⟨(), rfl, own_to [0] rfl o⟩)

/-! ### herdsman/herdsmanref1.In: function 17 -/
def ref1_In.f (n : Int) (lo : Int) (hi : Int) : Option Bool := some ((decide (n ≥ lo)) && (decide (n ≤ hi)))
set_option maxHeartbeats 4000000 in
theorem ref1_In.c (n : Int) (lo : Int) (hi : Int) (r : Bool) (F : Hp) (H : ref1_In.f n lo hi = some r) :
    CallsL Tryd.prog 17 [(.int .i64 n), (.int .i64 lo), (.int .i64 hi)] [F] (fun _ : Unit => (.bool r)) (fun _ => [F]) := by
  unfold ref1_In.f at H
  refine calls_atL [(0, (.int .i64 n)), (1, (.int .i64 lo)), (2, (.int .i64 hi))] Tryd.func17 rfl rfl ⟨rfl, rfl, rfl, trivial⟩ (fun W => ?_)
  refine at_seq ?_
  refine at_region [0] rfl ?_
  refine at_s T rfl ?_
  refine at_end ?_
  refine at_sub [(0, (.int .i64 n)), (1, (.int .i64 lo)), (2, (.int .i64 hi))] ⟨rfl, rfl, rfl, trivial⟩ ?_
  refine at_then ?_
  refine at_seq ?_
  refine at_region [0, 1, 2, 3, 4, 5, 6, 7, 8] rfl ?_
  iterate 4 refine at_s T rfl ?_
  refine at_grp T [4, 5, 6, 7] (s := 10) (c := (decide (n ≥ lo))) [(14, (.bool ((decide (n ≥ lo)) && (decide (n ≤ hi)))))] rfl rfl rfl (fun c1 => ⟨(by rw [c1]; rfl), trivial⟩) (fun c1 => ⟨(by rw [c1]; rfl), trivial⟩) ?_
  refine at_s T rfl ?_
  refine at_end ?_
  refine at_sub [(6, (.bool ((decide (n ≥ lo)) && (decide (n ≤ hi)))))] ⟨rfl, trivial⟩ ?_
  refine at_then ?_
  refine at_ret ?_
  obtain rfl := Option.some.inj H
  exact at_post (T := T) rfl (.tmp rfl .nil) (fun w o => ⟨(), rfl, own_to [0] rfl o⟩)

/-! ### herdsman/herdsmanref1.full: function 18 -/
def ref1_full.l0 : Nat → (List Int) → Int → Option Bool
  | 0, _, _ => none
  | k3 + 1, c, x2 => if x2 < (List.length c : Int) then (if (0 ≤ x2 ∧ x2 < (List.length c : Int)) then (if ((rd c x2) == 0) = true then (some false) else (ref1_full.l0 k3 c (w64 (x2 + 1)))) else none) else (some true)
def ref1_full.f (c : (List Int)) : Option Bool := ref1_full.l0 fuel c 0
set_option maxHeartbeats 4000000 in
theorem ref1_full.c {a_c : Option Addr} {n_c : Nat} (c : (List Int)) (r : Bool) (F : Hp) (H : ref1_full.f c = some r) (h_c : SliceR (Fl.int .u8) c a_c F) (c_c : List.length c ≤ n_c) :
    CallsL Tryd.prog 18 [(.slice a_c (List.length c) n_c)] [F] (fun _ : Unit => (.bool r)) (fun _ => [F]) := by
  unfold ref1_full.f at H
  refine calls_atL [(0, (.slice a_c (List.length c) n_c))] Tryd.func18 rfl rfl ⟨rfl, trivial⟩ (fun W => ?_)
  refine at_seq ?_
  refine at_region [0] rfl ?_
  refine at_s T rfl ?_
  refine at_end ?_
  refine at_sub [(0, (.slice a_c (List.length c) n_c))] ⟨rfl, trivial⟩ ?_
  refine at_then ?_
  refine at_seq ?_
  refine at_seq ?_
  refine at_region [0] rfl ?_
  refine at_s T rfl ?_
  refine at_end ?_
  refine at_sub [(0, (.slice a_c (List.length c) n_c)), (3, (.int .i64 0))] ⟨rfl, rfl, trivial⟩ ?_
  refine at_then ?_
  refine at_block ?_
  refine at_loopL (σ := Nat × Int) (fun ⟨k3, x2⟩ => ref1_full.l0 k3 c x2 = some r) (fun ⟨k3, x2⟩ => [(0, (.slice a_c (List.length c) n_c)), (3, (.int .i64 x2))]) (fun ⟨k3, x2⟩ => [F]) (fun s => s.1) (fuel, 0) [0] H ⟨rfl, rfl, trivial⟩ rfl ?_
  rintro ⟨k3, x2⟩ Z1
  replace Z1 : ref1_full.l0 k3 c x2 = some r := Z1
  rcases k3 with _ | k3
  · rw [ref1_full.l0] at Z1; cases Z1
  · rw [ref1_full.l0] at Z1
    refine at_seq ?_
    refine at_seq ?_
    refine at_region [0, 1, 2, 3] rfl ?_
    iterate 4 refine at_s T rfl ?_
    refine at_end ?_
    refine at_sub [(0, (.slice a_c (List.length c) n_c)), (3, (.int .i64 x2)), (7, (.bool (decide (x2 < (List.length c : Int)))))] ⟨rfl, rfl, rfl, trivial⟩ ?_
    refine at_then ?_
    refine at_cond rfl (fun c2 => ?_) (fun c2 => ?_)
    · replace Z1 := if_t (of_decide_eq_true c2) Z1
      refine at_skip ?_
      refine at_then ?_
      refine at_seq ?_
      refine at_block ?_
      refine at_seq ?_
      refine at_region [0, 1, 2, 3, 4] rfl ?_
      iterate 2 refine at_s T rfl ?_
      obtain ⟨c3, Z1⟩ := chk_e Z1
      obtain ⟨q1, o1, e1⟩ := h_c.addr c3.1 c3.2
      refine at_v rfl (g_index T rfl rfl rfl rfl rfl e1 c3.1 c3.2) ?_
      refine at_v rfl (g_load T rfl rfl rfl rfl (in_elem1 (k := (Fl.int .u8)) (ro_of h_c (j := 0) rfl) e1 c3 0 rfl)) ?_
      refine at_s T rfl ?_
      refine at_end ?_
      refine at_sub [(0, (.slice a_c (List.length c) n_c)), (3, (.int .i64 x2)), (14, (.bool ((rd c x2) == 0)))] ⟨rfl, rfl, rfl, trivial⟩ ?_
      refine at_then ?_
      refine at_cond rfl (fun c4 => ?_) (fun c4 => ?_)
      · replace Z1 := if_t c4 Z1
        refine at_seq ?_
        refine at_region [0] rfl ?_
        refine at_s T rfl ?_
        refine at_end ?_
        refine at_sub [(2, (.bool false))] ⟨rfl, trivial⟩ ?_
        refine at_then ?_
        refine at_ret ?_
        refine at_rb ?_
        refine at_rt ?_
        refine at_rt ?_
        refine at_rb ?_
        refine at_rt ?_
        obtain rfl := Option.some.inj Z1
        exact at_post (T := T) rfl (.tmp rfl .nil) (fun w o => ⟨(), rfl, own_to [0] rfl o⟩)
      · replace Z1 := if_f (bf c4) Z1
        refine at_skip ?_
        refine at_nb ?_
        refine at_then ?_
        refine at_region [0, 1, 2] rfl ?_
        iterate 3 refine at_s T rfl ?_
        refine at_end ?_
        refine at_sub [(0, (.slice a_c (List.length c) n_c)), (3, (.int .i64 (w64 (x2 + 1))))] ⟨rfl, rfl, trivial⟩ ?_
        refine at_then ?_
        exact at_roundL (k3, (w64 (x2 + 1))) [0] Z1 (Nat.lt_succ_self _) ⟨rfl, rfl, trivial⟩ rfl
    · replace Z1 := if_f (of_decide_eq_false c2) Z1
      refine at_exit ?_
      refine at_xt ?_
      refine at_xt ?_
      refine at_xb ?_
      refine at_then ?_
      refine at_seq ?_
      refine at_region [0] rfl ?_
      refine at_s T rfl ?_
      refine at_end ?_
      refine at_sub [(2, (.bool true))] ⟨rfl, trivial⟩ ?_
      refine at_then ?_
      refine at_ret ?_
      obtain rfl := Option.some.inj Z1
      exact at_post (T := T) rfl (.tmp rfl .nil) (fun w o => ⟨(), rfl, own_to [0] rfl o⟩)

/-! ### herdsman/herdsmanref1.runs: function 32 -/
def ref1_runs.l1 : Nat → (List Int) → Int → Int → Option Int
  | 0, _, _, _ => none
  | k13 + 1, c, x4, x12 => (if (w64 (x4 + x12)) < (List.length c : Int) then (if (0 ≤ (w64 (x4 + x12)) ∧ (w64 (x4 + x12)) < (List.length c : Int)) then (if (0 ≤ x4 ∧ x4 < (List.length c : Int)) then (some ((rd c (w64 (x4 + x12))) == (rd c x4))) else none) else none) else (some false)).bind fun x14 => if x14 = true then (ref1_runs.l1 k13 c x4 (w64 (x12 + 1))) else (some x12)
def ref1_runs.l0 : Nat → (List Int) → List Int → Int → Option (List Int)
  | 0, _, _, _ => none
  | k5 + 1, c, x3, x4 => if x4 < (List.length c : Int) then (((ref1_runs.l1 fuel c x4 1).bind fun x9 => if (0 ≤ x4 ∧ x4 < (List.length c : Int)) then (if (List.length x3 + 2 ≤ 1099511627776) then (some ((x3 ++ [(wu8 (w64 (x9 - 1))), (rd c x4)]), (w64 (x4 + x9)))) else none) else none).bind fun (x6, x7) => ref1_runs.l0 k5 c x6 x7) else (some x3)
def ref1_runs.f (c : (List Int)) : Option (List Int) := ref1_runs.l0 fuel c [2] 0
def ref1_runs.R (r : (List Int)) (u : Value) (G : List Hp) : Prop := ∃ (a0 : Option Addr) (n0 : Nat) (H0 : Hp), SliceO (Fl.int .u8) 5 r a0 n0 H0 ∧ u = (.slice a0 (List.length r) n0) ∧ G = [H0]
set_option maxHeartbeats 4000000 in
theorem ref1_runs.c {a_c : Option Addr} {n_c : Nat} (c : (List Int)) (r : (List Int)) (F : Hp) (H : ref1_runs.f c = some r) (h_c : SliceR (Fl.int .u8) c a_c F) (c_c : List.length c ≤ n_c) :
    CallsL Tryd.prog 32 [(.slice a_c (List.length c) n_c)] [F] (fun qp : { qp : Value × List Hp // ref1_runs.R r qp.1 qp.2 } => qp.1.1) (fun qp => (qp.1.2 ++ []) ++ [F]) := by
  unfold ref1_runs.f at H
  refine calls_atL [(0, (.slice a_c (List.length c) n_c))] Tryd.func32 rfl rfl ⟨rfl, trivial⟩ (fun W => ?_)
  refine at_seq ?_
  refine at_region [0] rfl ?_
  refine at_s T rfl ?_
  refine at_end ?_
  refine at_sub [(0, (.slice a_c (List.length c) n_c))] ⟨rfl, trivial⟩ ?_
  refine at_then ?_
  refine at_seq ?_
  refine at_region [0, 1] rfl ?_
  refine at_cons (at_bs (k := (Fl.int .u8)) T [2] rfl rfl rfl rfl rfl rfl rfl rfl rfl (fun a1 H1 s1 => ?_))
  refine at_s T rfl ?_
  refine at_end ?_
  refine at_sub [(0, (.slice a_c (List.length c) n_c)), (3, (.slice a1 (List.length [2]) (List.length [2])))] ⟨rfl, rfl, trivial⟩ ?_
  refine at_then ?_
  refine at_seq ?_
  refine at_seq ?_
  refine at_region [0] rfl ?_
  refine at_s T rfl ?_
  refine at_end ?_
  refine at_sub [(0, (.slice a_c (List.length c) n_c)), (3, (.slice a1 (List.length [2]) (List.length [2]))), (4, (.int .i64 0))] ⟨rfl, rfl, rfl, trivial⟩ ?_
  refine at_then ?_
  refine at_block ?_
  refine at_loopL (σ := Nat × List Int × Int × Option Addr × Nat × Hp) (fun ⟨k5, x3, x4, a3, n3, H3⟩ => ref1_runs.l0 k5 c x3 x4 = some r ∧ SliceO (Fl.int .u8) 5 x3 a3 n3 H3) (fun ⟨k5, x3, x4, a3, n3, H3⟩ => [(0, (.slice a_c (List.length c) n_c)), (3, (.slice a3 (List.length x3) n3)), (4, (.int .i64 x4))]) (fun ⟨k5, x3, x4, a3, n3, H3⟩ => [F, H3]) (fun s => s.1) (fuel, [2], 0, a1, (List.length [2]), H1) [0, 0] ⟨H, s1⟩ ⟨rfl, rfl, rfl, trivial⟩ rfl ?_
  rintro ⟨k5, x3, x4, a3, n3, H3⟩ ⟨Z1, s3⟩
  replace Z1 : ref1_runs.l0 k5 c x3 x4 = some r := Z1
  rcases k5 with _ | k5
  · rw [ref1_runs.l0] at Z1; cases Z1
  · rw [ref1_runs.l0] at Z1
    refine at_seq ?_
    refine at_seq ?_
    refine at_region [0, 1, 2, 3] rfl ?_
    iterate 4 refine at_s T rfl ?_
    refine at_end ?_
    refine at_sub [(0, (.slice a_c (List.length c) n_c)), (3, (.slice a3 (List.length x3) n3)), (4, (.int .i64 x4)), (10, (.bool (decide (x4 < (List.length c : Int)))))] ⟨rfl, rfl, rfl, rfl, trivial⟩ ?_
    refine at_then ?_
    refine at_cond rfl (fun c2 => ?_) (fun c2 => ?_)
    · replace Z1 := if_t (of_decide_eq_true c2) Z1
      refine at_skip ?_
      refine at_then ?_
      obtain ⟨z8, Z3, Z1⟩ := bind_e Z1
      refine at_any_mid (σ := List Int × Int × Option Addr × Nat × Hp) (fun ⟨x6, x7, a4, n4, H4⟩ => (x6, x7) = z8 ∧ SliceO (Fl.int .u8) 5 x6 a4 n4 H4) (fun ⟨x6, x7, a4, n4, H4⟩ => [(0, (.slice a_c (List.length c) n_c)), (3, (.slice a4 (List.length x6) n4)), (4, (.int .i64 x7))]) (fun ⟨x6, x7, a4, n4, H4⟩ => [F, H4]) ?_ ?_
      · refine at_block ?_
        refine at_seq ?_
        refine at_region [0] rfl ?_
        refine at_s T rfl ?_
        refine at_end ?_
        refine at_sub [(0, (.slice a_c (List.length c) n_c)), (3, (.slice a3 (List.length x3) n3)), (4, (.int .i64 x4)), (5, (.int .i64 1))] ⟨rfl, rfl, rfl, rfl, trivial⟩ ?_
        refine at_then ?_
        obtain ⟨z10, Z4, Z3⟩ := bind_e Z3
        refine at_seq_mid (σ := Int) (fun x9 => x9 = z10) (fun x9 => [(0, (.slice a_c (List.length c) n_c)), (3, (.slice a3 (List.length x3) n3)), (4, (.int .i64 x4)), (5, (.int .i64 x9))]) (fun x9 => [F, H3]) ?_ ?_
        · refine at_block ?_
          refine at_loopL (σ := Nat × Int) (fun ⟨k13, x12⟩ => ref1_runs.l1 k13 c x4 x12 = some z10) (fun ⟨k13, x12⟩ => [(0, (.slice a_c (List.length c) n_c)), (3, (.slice a3 (List.length x3) n3)), (4, (.int .i64 x4)), (5, (.int .i64 x12))]) (fun ⟨k13, x12⟩ => [F, H3]) (fun s => s.1) (fuel, 1) [0, 0] Z4 ⟨rfl, rfl, rfl, rfl, trivial⟩ rfl ?_
          rintro ⟨k13, x12⟩ Z5
          replace Z5 : ref1_runs.l1 k13 c x4 x12 = some z10 := Z5
          rcases k13 with _ | k13
          · rw [ref1_runs.l1] at Z5; cases Z5
          · rw [ref1_runs.l1] at Z5
            refine at_seq ?_
            obtain ⟨z15, Z6, Z5⟩ := bind_e Z5
            refine at_seq_mid (σ := Bool) (fun x14 => x14 = z15) (fun x14 => [(0, (.slice a_c (List.length c) n_c)), (3, (.slice a3 (List.length x3) n3)), (4, (.int .i64 x4)), (5, (.int .i64 x12)), (29, (.bool x14))]) (fun x14 => [F, H3]) ?_ ?_
            · refine at_region_q mix (by kernel_rfl) ?_
              iterate 7 refine atq_s T rfl ?_
              refine atq_case (s := 17) rfl (fun c7 => ?_) (fun c7 => ?_)
              · replace Z6 := if_t (of_decide_eq_true c7) Z6
                iterate 4 refine atq_s T rfl ?_
                obtain ⟨c8, Z6⟩ := chk_e Z6
                obtain ⟨q5, o5, e5⟩ := h_c.addr c8.1 c8.2
                refine atq_v rfl rfl rfl (g_index T rfl rfl rfl rfl rfl e5 c8.1 c8.2) ?_
                refine atq_v rfl rfl rfl (g_load T rfl rfl rfl rfl (in_elem1 (k := (Fl.int .u8)) (ro_of h_c (j := 0) rfl) e5 c8 0 rfl)) ?_
                iterate 2 refine atq_s T rfl ?_
                obtain ⟨c9, Z6⟩ := chk_e Z6
                refine atq_v rfl rfl rfl (g_index T rfl rfl rfl rfl rfl e5 c9.1 c9.2) ?_
                refine atq_v rfl rfl rfl (g_load T rfl rfl rfl rfl (in_elem1 (k := (Fl.int .u8)) (ro_of h_c (j := 0) rfl) e5 c9 0 rfl)) ?_
                iterate 2 refine atq_s T rfl ?_
                refine atq_end ?_
                refine at_sub [(0, (.slice a_c (List.length c) n_c)), (3, (.slice a3 (List.length x3) n3)), (4, (.int .i64 x4)), (5, (.int .i64 x12)), (29, (.bool ((rd c (w64 (x4 + x12))) == (rd c x4))))] ⟨rfl, rfl, rfl, rfl, rfl, trivial⟩ ?_
                refine at_then ?_
                obtain rfl := Option.some.inj Z6
                exact at_mid ((rd c (w64 (x4 + x12))) == (rd c x4)) [0, 0] rfl ⟨rfl, rfl, rfl, rfl, rfl, trivial⟩ rfl
              · replace Z6 := if_f (of_decide_eq_false c7) Z6
                iterate 12 refine atq_s T rfl ?_
                refine atq_end ?_
                refine at_sub [(0, (.slice a_c (List.length c) n_c)), (3, (.slice a3 (List.length x3) n3)), (4, (.int .i64 x4)), (5, (.int .i64 x12)), (29, (.bool false))] ⟨rfl, rfl, rfl, rfl, rfl, trivial⟩ ?_
                refine at_then ?_
                obtain rfl := Option.some.inj Z6
                exact at_mid false [0, 0] rfl ⟨rfl, rfl, rfl, rfl, rfl, trivial⟩ rfl
            · rintro x14 rfl
              refine at_cond rfl (fun c10 => ?_) (fun c10 => ?_)
              · replace Z5 := if_t c10 Z5
                refine at_skip ?_
                refine at_then ?_
                refine at_block ?_
                refine at_region [0, 1, 2] rfl ?_
                iterate 3 refine at_s T rfl ?_
                refine at_end ?_
                refine at_sub [(0, (.slice a_c (List.length c) n_c)), (3, (.slice a3 (List.length x3) n3)), (4, (.int .i64 x4)), (5, (.int .i64 (w64 (x12 + 1))))] ⟨rfl, rfl, rfl, rfl, trivial⟩ ?_
                refine at_nb ?_
                refine at_then ?_
                exact at_roundL (k13, (w64 (x12 + 1))) [0, 0] Z5 (Nat.lt_succ_self _) ⟨rfl, rfl, rfl, rfl, trivial⟩ rfl
              · replace Z5 := if_f (bf c10) Z5
                refine at_exit ?_
                refine at_xt ?_
                refine at_xt ?_
                refine at_xb ?_
                refine at_then ?_
                obtain rfl := Option.some.inj Z5
                exact at_mid x12 [0, 0] rfl ⟨rfl, rfl, rfl, rfl, trivial⟩ rfl
        · rintro x9 rfl
          refine at_seq ?_
          refine at_region [0, 1, 2, 3, 4, 5, 6, 7, 8, 9, 10] rfl ?_
          iterate 6 refine at_s T rfl ?_
          obtain ⟨c11, Z3⟩ := chk_e Z3
          obtain ⟨q6, o6, e6⟩ := h_c.addr c11.1 c11.2
          refine at_v rfl (g_index T rfl rfl rfl rfl rfl e6 c11.1 c11.2) ?_
          refine at_v rfl (g_load T rfl rfl rfl rfl (in_elem1 (k := (Fl.int .u8)) (ro_of h_c (j := 0) rfl) e6 c11 0 rfl)) ?_
          refine at_cons (at_bs (k := (Fl.int .u8)) T [(wu8 (w64 (x9 - 1))), (rd c x4)] rfl rfl rfl rfl rfl rfl rfl rfl rfl (fun a7 H7 s7 => ?_))
          obtain ⟨c12, Z3⟩ := chk_e Z3
          refine at_cons (at_ap (k := (Fl.int .u8)) (xs := x3) T (g := 1) rfl rfl rfl rfl rfl rfl rfl rfl rfl rfl s3 (own_of s7 (j := 2) rfl) c12 rfl (fun a8 n8 H8 s8 => ?_))
          refine at_s T rfl ?_
          refine at_end ?_
          refine at_to [(0, (.slice a_c (List.length c) n_c)), (3, (.slice a8 (List.length (x3 ++ [(wu8 (w64 (x9 - 1))), (rd c x4)])) n8)), (4, (.int .i64 x4)), (5, (.int .i64 x9))] [0, 0] [F, H8] ⟨rfl, rfl, rfl, rfl, trivial⟩ rfl ?_
          refine at_then ?_
          refine at_region [0, 1, 2, 3] rfl ?_
          iterate 4 refine at_s T rfl ?_
          refine at_end ?_
          refine at_sub [(0, (.slice a_c (List.length c) n_c)), (3, (.slice a8 (List.length (x3 ++ [(wu8 (w64 (x9 - 1))), (rd c x4)])) n8)), (4, (.int .i64 (w64 (x4 + x9))))] ⟨rfl, rfl, rfl, trivial⟩ ?_
          refine at_nb ?_
          refine at_then ?_
          obtain rfl := Option.some.inj Z3
          exact at_mid ((x3 ++ [(wu8 (w64 (x9 - 1))), (rd c x4)]), (w64 (x4 + x9)), a8, n8, H8) [0, 0] ⟨rfl, s8⟩ ⟨rfl, rfl, rfl, trivial⟩ rfl
      · rintro ⟨x6, x7, a4, n4, H4⟩ ⟨rfl, s4⟩
        refine at_then ?_
        exact at_roundL (k5, x6, x7, a4, n4, H4) [0, 0] ⟨Z1, s4⟩ (Nat.lt_succ_self _) ⟨rfl, rfl, rfl, trivial⟩ rfl
    · replace Z1 := if_f (of_decide_eq_false c2) Z1
      refine at_exit ?_
      refine at_xt ?_
      refine at_xt ?_
      refine at_xb ?_
      refine at_then ?_
      refine at_seq ?_
      refine at_region [0, 1] rfl ?_
      iterate 2 refine at_s T rfl ?_
      refine at_end ?_
      refine at_sub [(2, (.slice a3 (List.length x3) n3))] ⟨rfl, trivial⟩ ?_
      refine at_then ?_
      refine at_ret ?_
      obtain rfl := Option.some.inj Z1
      exact at_post (T := T) rfl (.tmp rfl .nil) (fun w o => ⟨⟨(_, _), ⟨a3, n3, H3, s3, rfl, rfl⟩⟩, rfl, own_to [1, 0] rfl o⟩)

/-! ### herdsman/herdsmanref1.PutTile: function 19 -/
def ref1_PutTile.f (t : api_Tile) : Option (Int × (List Int)) := (ref1_runs.f t.C).bind fun v1 => if ((List.length v1 : Int) == 3) = true then (if (0 ≤ (0 : Int) ∧ (0 : Int) < (List.length t.C : Int)) then (some (0, [0, (rd t.C 0)])) else none) else (if (List.length v1 : Int) < (w64 (1 + (List.length t.C : Int))) then (some (2, v1)) else (if (List.length [1] + List.length t.C ≤ 1099511627776) then (some (1, ([1] ++ t.C))) else none))
def ref1_PutTile.R (r : (Int × (List Int))) (u : Value) (G : List Hp) : Prop := ∃ (a0 : Option Addr) (n0 : Nat) (H0 : Hp), SliceO (Fl.int .u8) 5 r.2 a0 n0 H0 ∧ u = (.tuple #[(.int .i64 r.1), (.slice a0 (List.length r.2) n0)]) ∧ G = [H0]
set_option maxHeartbeats 4000000 in
theorem ref1_PutTile.c {a_t_C : Option Addr} {n_t_C : Nat} (t : api_Tile) (r : (Int × (List Int))) (F : Hp) (H : ref1_PutTile.f t = some r) (h_t_C : SliceR (Fl.int .u8) t.C a_t_C F) (c_t_C : List.length t.C ≤ n_t_C) :
    CallsL Tryd.prog 19 [(.agg #[(.int .i64 t.W), (.int .i64 t.H), (.slice a_t_C (List.length t.C) n_t_C)])] [F] (fun qp : { qp : Value × List Hp // ref1_PutTile.R r qp.1 qp.2 } => qp.1.1) (fun qp => (qp.1.2 ++ []) ++ [F]) := by
  unfold ref1_PutTile.f at H
  refine calls_atL [(0, (.agg #[(.int .i64 t.W), (.int .i64 t.H), (.slice a_t_C (List.length t.C) n_t_C)]))] Tryd.func19 rfl rfl ⟨rfl, trivial⟩ (fun W => ?_)
  refine at_seq ?_
  refine at_region [0, 1, 2] rfl ?_
  refine at_cons (at_bx T [(.int .i64 t.W), (.int .i64 t.H), (.slice a_t_C (List.length t.C) n_t_C)] rfl rfl rfl rfl (fun b1 => ?_))
  iterate 2 refine at_s T rfl ?_
  refine at_end ?_
  refine at_sub [(1, (.pointer (some ⟨b1, 0, none⟩)))] ⟨rfl, trivial⟩ ?_
  refine at_then ?_
  refine at_seq ?_
  refine at_region [0, 1, 2, 3] rfl ?_
  refine at_s T rfl ?_
  refine at_v rfl (g_load T rfl rfl rfl rfl (in_var (j := 1) rfl rfl)) ?_
  obtain ⟨v1, V1, H⟩ := bind_e H
  refine at_cons (at_cR (ref1_runs.R v1) [] [] rfl rfl rfl rfl has32 rfl rfl (ref1_runs.c t.C v1 _ V1 (ro_of h_t_C (j := 0) rfl) c_t_C) ?_)
  rintro _ _ ⟨a2, n2, H2, s2, rfl, rfl⟩
  refine at_s T rfl ?_
  refine at_end ?_
  refine at_sub [(1, (.pointer (some ⟨b1, 0, none⟩))), (4, (.slice a2 (List.length v1) n2))] ⟨rfl, rfl, trivial⟩ ?_
  refine at_then ?_
  refine at_seq ?_
  refine at_seq ?_
  refine at_region [0, 1, 2] rfl ?_
  iterate 3 refine at_s T rfl ?_
  refine at_end ?_
  refine at_sub [(1, (.pointer (some ⟨b1, 0, none⟩))), (4, (.slice a2 (List.length v1) n2)), (10, (.bool ((List.length v1 : Int) == 3)))] ⟨rfl, rfl, rfl, trivial⟩ ?_
  refine at_then ?_
  refine at_cond rfl (fun c2 => ?_) (fun c2 => ?_)
  · replace H := if_t c2 H
    refine at_seq ?_
    refine at_region_m [[], [0], [0, 1], [0, 1, 2], [0, 1, 2, 3], [], [0, 1, 2, 3, 4, 5]] [] [F, [(b1, Obj.cells #[(.int .i64 t.W), (.int .i64 t.H), (.slice a_t_C (List.length t.C) n_t_C)] 26 (0, 0))], H2] mix (by kernel_rfl) (by repeat first | exact pf_body | refine pf_then ?_ | refine pf_block ?_) (fun hg pf => ?_)
    refine atm_s T 0 hg pf (by kernel_rfl) (still_o [0, 0, 0] rfl) rfl ?_
    refine atm_v 1 hg pf (by kernel_rfl) (still_o [0, 0, 0] rfl) rfl rfl (g_load T rfl rfl rfl rfl (in_var (j := 1) rfl rfl)) ?_
    obtain ⟨c3, H⟩ := chk_e H
    obtain ⟨q3, o3, e3⟩ := h_t_C.addr c3.1 c3.2
    refine atm_v 2 hg pf (by kernel_rfl) (still_o [0, 0, 0] rfl) rfl rfl (g_index T rfl rfl rfl rfl rfl e3 c3.1 c3.2) ?_
    refine atm_v 3 hg pf (by kernel_rfl) (still_o [0, 0, 0] rfl) rfl rfl (g_load T rfl rfl rfl rfl (in_elem1 (k := (Fl.int .u8)) (ro_of h_t_C (j := 0) rfl) e3 c3 0 rfl)) ?_
    refine atm_s T 5 hg pf (by kernel_rfl) (still_o [0, 0, 0] rfl) rfl ?_
    refine atm_one 4 (by kernel_rfl) ?_
    refine at_bs (k := (Fl.int .u8)) T [0, (rd t.C 0)] rfl rfl rfl rfl rfl rfl rfl rfl rfl (fun a4 H4 s4 => ?_)
    refine atm_next (still_o [0, 0, 0] rfl) ?_
    refine atm_s T 6 hg pf (by kernel_rfl) (still_o [0, 0, 0] rfl) rfl ?_
    refine atm_end (by kernel_rfl) ?_
    refine at_to [(2, (.int .i64 0)), (3, (.slice a4 (List.length [0, (rd t.C 0)]) (List.length [0, (rd t.C 0)])))] [0, 2] [F, H4] ⟨rfl, rfl, trivial⟩ rfl ?_
    refine at_then ?_
    refine at_ret ?_
    refine at_rt ?_
    obtain rfl := Option.some.inj H
    exact at_post (T := T) rfl (.tmp rfl (.tmp rfl .nil)) (fun w o => ⟨⟨(_, _), ⟨a4, (List.length [0, (rd t.C 0)]), H4, s4, rfl, rfl⟩⟩, rfl, own_to [1, 0] rfl o⟩)
  · replace H := if_f (bf c2) H
    refine at_skip ?_
    refine at_then ?_
    refine at_seq ?_
    refine at_seq ?_
    refine at_region [0, 1, 2, 3, 4, 5, 6] rfl ?_
    iterate 3 refine at_s T rfl ?_
    refine at_v rfl (g_load T rfl rfl rfl rfl (in_var (j := 1) rfl rfl)) ?_
    iterate 3 refine at_s T rfl ?_
    refine at_end ?_
    refine at_sub [(1, (.pointer (some ⟨b1, 0, none⟩))), (4, (.slice a2 (List.length v1) n2)), (22, (.bool (decide ((List.length v1 : Int) < (w64 (1 + (List.length t.C : Int)))))))] ⟨rfl, rfl, rfl, trivial⟩ ?_
    refine at_then ?_
    refine at_cond rfl (fun c4 => ?_) (fun c4 => ?_)
    · replace H := if_t (of_decide_eq_true c4) H
      refine at_seq ?_
      refine at_region [0, 1, 2] rfl ?_
      iterate 3 refine at_s T rfl ?_
      refine at_end ?_
      refine at_to [(2, (.int .i64 2)), (3, (.slice a2 (List.length v1) n2))] [0, 1] [F, H2] ⟨rfl, rfl, trivial⟩ rfl ?_
      refine at_then ?_
      refine at_ret ?_
      refine at_rt ?_
      obtain rfl := Option.some.inj H
      exact at_post (T := T) rfl (.tmp rfl (.tmp rfl .nil)) (fun w o => ⟨⟨(_, _), ⟨a2, n2, H2, s2, rfl, rfl⟩⟩, rfl, own_to [1, 0] rfl o⟩)
    · replace H := if_f (of_decide_eq_false c4) H
      refine at_skip ?_
      refine at_then ?_
      refine at_seq ?_
      refine at_region [0, 1, 2, 3, 4, 5] rfl ?_
      refine at_cons (at_bs (k := (Fl.int .u8)) T [1] rfl rfl rfl rfl rfl rfl rfl rfl rfl (fun a5 H5 s5 => ?_))
      refine at_s T rfl ?_
      refine at_v rfl (g_load T rfl rfl rfl rfl (in_var (j := 1) rfl rfl)) ?_
      obtain ⟨c5, H⟩ := chk_e H
      refine at_cons (at_ap (k := (Fl.int .u8)) (xs := [1]) T (g := 3) rfl rfl rfl rfl rfl rfl rfl rfl rfl rfl s5 (ro_of h_t_C (j := 0) rfl) c5 rfl (fun a6 n6 H6 s6 => ?_))
      iterate 2 refine at_s T rfl ?_
      refine at_end ?_
      refine at_to [(2, (.int .i64 1)), (3, (.slice a6 (List.length ([1] ++ t.C)) n6))] [0, 2] [F, H6] ⟨rfl, rfl, trivial⟩ rfl ?_
      refine at_then ?_
      refine at_ret ?_
      obtain rfl := Option.some.inj H
      exact at_post (T := T) rfl (.tmp rfl (.tmp rfl .nil)) (fun w o => ⟨⟨(_, _), ⟨a6, n6, H6, s6, rfl, rfl⟩⟩, rfl, own_to [1, 0] rfl o⟩)

/-! ### herdsman/herdsmanref1.GetTile: function 10 -/
def ref1_GetTile.l2 : Nat → (List Int) → Int → List Int → Int → Option (Sum (api_Tile × Int × Int) (List Int))
  | 0, _, _, _, _ => none
  | k26 + 1, b, x16, x24, x25 => if x25 < (w64 ((w64 (rd b x16)) + 1)) then (if (List.length x24 + 1 ≤ 1099511627776) then (ref1_GetTile.l2 k26 b x16 (x24 ++ [(rd b (w64 (x16 + 1)))]) (w64 (x25 + 1))) else none) else (some (Sum.inr x24))
def ref1_GetTile.l1 : Nat → (List Int) → Int → Int → List Int → Int → Option (Sum (api_Tile × Int × Int) ((List Int) × Int))
  | 0, _, _, _, _, _ => none
  | k17 + 1, b, w, h, x15, x16 => if (List.length x15 : Int) < (w64 (w * h)) then ((if (w64 ((List.length b : Int) - x16)) < 2 then (some (Sum.inl ((api_Tile.mk 0 0 []), 0, 2))) else (if (0 ≤ x16 ∧ x16 < (List.length b : Int)) then (if (0 ≤ (w64 (x16 + 1)) ∧ (w64 (x16 + 1)) < (List.length b : Int)) then ((if ((rd b (w64 (x16 + 1))) == 0) = true then (some true) else (if (w64 ((List.length x15 : Int) + (w64 ((w64 (rd b x16)) + 1)))) > (w64 (w * h)) then (some true) else (if (List.length x15 : Int) > 0 then (if (0 ≤ (w64 ((List.length x15 : Int) - 1)) ∧ (w64 ((List.length x15 : Int) - 1)) < (List.length x15 : Int)) then (some ((rd x15 (w64 ((List.length x15 : Int) - 1))) == (rd b (w64 (x16 + 1))))) else none) else (some false)))).bind fun x20 => if x20 = true then (some (Sum.inl ((api_Tile.mk 0 0 []), 0, 3))) else (ref1_GetTile.l2 fuel b x16 x15 0)) else none) else none)).bind fun zz => match zz with | Sum.inl q => some (Sum.inl q) | Sum.inr x18 => ref1_GetTile.l1 k17 b w h x18 (w64 (x16 + 2))) else (some (Sum.inr (x15, x16)))
def ref1_GetTile.l0 : Nat → (List Int) → Int → Int → List Int → Int → Option (Sum (api_Tile × Int × Int) ((List Int) × Int))
  | 0, _, _, _, _, _ => none
  | k12 + 1, b, w, h, x10, x11 => if x11 < (w64 (w * h)) then (if (0 ≤ (1 : Int) ∧ (1 : Int) < (List.length b : Int)) then (if (List.length x10 + 1 ≤ 1099511627776) then (ref1_GetTile.l0 k12 b w h (x10 ++ [(rd b 1)]) (w64 (x11 + 1))) else none) else none) else (some (Sum.inr (x10, 2)))
def ref1_GetTile.f (b : (List Int)) (w : Int) (h : Int) : Option (api_Tile × Int × Int) := ((ref1_In.f w 1 16).bind fun v3 => if (!v3) = true then (some true) else ((ref1_In.f h 1 16).bind fun v4 => some (!v4))).bind fun x1 => if x1 = true then (some ((api_Tile.mk 0 0 []), 0, 1)) else (if ((List.length b : Int) == 0) = true then (some ((api_Tile.mk 0 0 []), 0, 2)) else ((if (0 ≤ (0 : Int) ∧ (0 : Int) < (List.length b : Int)) then (if ((rd b 0) == 0) = true then (if (List.length b : Int) < 2 then (some (Sum.inl ((api_Tile.mk 0 0 []), 0, 2))) else (ref1_GetTile.l0 fuel b w h [] 0)) else (if ((rd b 0) == 1) = true then (if (w64 ((List.length b : Int) - 1)) < (w64 (w * h)) then (some (Sum.inl ((api_Tile.mk 0 0 []), 0, 2))) else (if (0 ≤ (1 : Int) ∧ (1 : Int) ≤ (w64 (1 + (w64 (w * h)))) ∧ (w64 (1 + (w64 (w * h)))) ≤ (List.length b : Int)) then (if (List.length ([] : List Int) + List.length (sub' b 1 (w64 (1 + (w64 (w * h))))) ≤ 1099511627776) then (some (Sum.inr (([] ++ (sub' b 1 (w64 (1 + (w64 (w * h)))))), (w64 (1 + (w64 (w * h))))))) else none) else none)) else (if ((rd b 0) == 2) = true then (ref1_GetTile.l1 fuel b w h [] 1) else (some (Sum.inl ((api_Tile.mk 0 0 []), 0, 3)))))) else none).bind fun zz => match zz with | Sum.inl q => some q | Sum.inr (x5, x6) => (ref1_full.f x5).bind fun v27 => if (!v27) = true then (some ((api_Tile.mk 0 0 []), 0, 3)) else ((ref1_PutTile.f (api_Tile.mk w h x5)).bind fun v28 => if (0 ≤ (0 : Int) ∧ (0 : Int) ≤ x6 ∧ x6 ≤ (List.length b : Int)) then ((ref1_Bytes.f v28.2 (sub' b 0 x6)).bind fun v29 => if (!v29) = true then (some ((api_Tile.mk 0 0 []), 0, 3)) else (some ((api_Tile.mk w h x5), x6, 0))) else none)))
def ref1_GetTile.R (r : (api_Tile × Int × Int)) (u : Value) (G : List Hp) : Prop := ∃ (a0 : Option Addr) (n0 : Nat) (H0 : Hp), SliceO (Fl.int .u8) 5 r.1.C a0 n0 H0 ∧ u = (.tuple #[(.agg #[(.int .i64 r.1.W), (.int .i64 r.1.H), (.slice a0 (List.length r.1.C) n0)]), (.int .i64 r.2.1), (.int .i64 r.2.2)]) ∧ G = [H0]
set_option maxHeartbeats 4000000 in
theorem ref1_GetTile.c {a_b : Option Addr} {n_b : Nat} (b : (List Int)) (w : Int) (h : Int) (r : (api_Tile × Int × Int)) (F : Hp) (H : ref1_GetTile.f b w h = some r) (h_b : SliceR (Fl.int .u8) b a_b F) (c_b : List.length b ≤ n_b) :
    CallsL Tryd.prog 10 [(.slice a_b (List.length b) n_b), (.int .i64 w), (.int .i64 h)] [F] (fun qp : { qp : Value × List Hp // ref1_GetTile.R r qp.1 qp.2 } => qp.1.1) (fun qp => (qp.1.2 ++ []) ++ [F]) := by
  unfold ref1_GetTile.f at H
  refine calls_atL [(0, (.slice a_b (List.length b) n_b)), (1, (.int .i64 w)), (2, (.int .i64 h))] Tryd.func10 rfl rfl ⟨rfl, rfl, rfl, trivial⟩ (fun W => ?_)
  refine at_seq ?_
  refine at_region [0, 1, 2] rfl ?_
  refine at_cons (at_al T [(.int .i64 0), (.int .i64 0), (.slice none 0 0)] rfl rfl rfl rfl (fun b1 => ?_))
  iterate 2 refine at_s T rfl ?_
  refine at_end ?_
  refine at_sub [(0, (.slice a_b (List.length b) n_b)), (1, (.int .i64 w)), (2, (.int .i64 h)), (6, (.pointer (some ⟨b1, 0, none⟩)))] ⟨rfl, rfl, rfl, rfl, trivial⟩ ?_
  refine at_then ?_
  refine at_seq ?_
  refine at_region [0, 1, 2] rfl ?_
  refine at_s T rfl ?_
  refine at_cons (at_al T [(.int .i64 0), (.int .i64 0), (.slice none 0 0)] rfl rfl rfl rfl (fun b2 => ?_))
  refine at_cons (at_st T 2 [(.int .i64 0), (.int .i64 0), (.slice none 0 0)] rfl rfl rfl rfl rfl rfl rfl rfl rfl rfl ?_)
  refine at_end ?_
  refine at_sub [(0, (.slice a_b (List.length b) n_b)), (1, (.int .i64 w)), (2, (.int .i64 h)), (6, (.pointer (some ⟨b1, 0, none⟩))), (9, (.pointer (some ⟨b2, 0, none⟩)))] ⟨rfl, rfl, rfl, rfl, rfl, trivial⟩ ?_
  refine at_then ?_
  refine at_seq ?_
  obtain ⟨z2, Z1, H⟩ := bind_e H
  refine at_seq_mid (σ := Bool) (fun x1 => x1 = z2) (fun x1 => [(0, (.slice a_b (List.length b) n_b)), (1, (.int .i64 w)), (2, (.int .i64 h)), (6, (.pointer (some ⟨b1, 0, none⟩))), (9, (.pointer (some ⟨b2, 0, none⟩))), (27, (.bool x1))]) (fun x1 => [F, [(b1, Obj.cells #[(.int .i64 0), (.int .i64 0), (.slice none 0 0)] 26 (0, 0))], [(b2, Obj.cells #[(.int .i64 0), (.int .i64 0), (.slice none 0 0)] 26 (0, 0))]]) ?_ ?_
  · refine at_region [0, 1, 2, 3, 4, 5, 6, 7] rfl ?_
    refine at_s T rfl ?_
    obtain ⟨v3, V2, Z1⟩ := bind_e Z1
    refine at_cons (at_c (B := fun _ => []) [] rfl rfl rfl rfl has17 rfl rfl (ref1_In.c w 1 16 v3 _ V2) (fun _ => ?_))
    iterate 2 refine at_s T rfl ?_
    refine at_case (s := 23) rfl (fun c3 => ?_) (fun c3 => ?_)
    · replace Z1 := if_t c3 Z1
      iterate 4 refine at_s T rfl ?_
      refine at_end ?_
      refine at_sub [(0, (.slice a_b (List.length b) n_b)), (1, (.int .i64 w)), (2, (.int .i64 h)), (6, (.pointer (some ⟨b1, 0, none⟩))), (9, (.pointer (some ⟨b2, 0, none⟩))), (27, (.bool true))] ⟨rfl, rfl, rfl, rfl, rfl, rfl, trivial⟩ ?_
      refine at_then ?_
      obtain rfl := Option.some.inj Z1
      exact at_mid true [0, 0, 0] rfl ⟨rfl, rfl, rfl, rfl, rfl, rfl, trivial⟩ rfl
    · replace Z1 := if_f (bf c3) Z1
      refine at_s T rfl ?_
      obtain ⟨v4, V4, Z1⟩ := bind_e Z1
      refine at_cons (at_c (B := fun _ => []) [] rfl rfl rfl rfl has17 rfl rfl (ref1_In.c h 1 16 v4 _ V4) (fun _ => ?_))
      iterate 2 refine at_s T rfl ?_
      refine at_end ?_
      refine at_sub [(0, (.slice a_b (List.length b) n_b)), (1, (.int .i64 w)), (2, (.int .i64 h)), (6, (.pointer (some ⟨b1, 0, none⟩))), (9, (.pointer (some ⟨b2, 0, none⟩))), (27, (.bool (!v4)))] ⟨rfl, rfl, rfl, rfl, rfl, rfl, trivial⟩ ?_
      refine at_then ?_
      obtain rfl := Option.some.inj Z1
      exact at_mid (!v4) [0, 0, 0] rfl ⟨rfl, rfl, rfl, rfl, rfl, rfl, trivial⟩ rfl
  · rintro x1 rfl
    refine at_cond rfl (fun c5 => ?_) (fun c5 => ?_)
    · replace H := if_t c5 H
      refine at_seq ?_
      refine at_region [0, 1, 2, 3] rfl ?_
      refine at_v rfl (g_loadA T (cs := [(.int .i64 0), (.int .i64 0), (.slice none 0 0)]) rfl rfl rfl rfl rfl rfl (in_varA (j := 2) rfl rfl)) ?_
      refine at_cons (at_st T 1 [(.int .i64 0), (.int .i64 0), (.slice none 0 0)] rfl rfl rfl rfl rfl rfl rfl rfl rfl rfl ?_)
      iterate 2 refine at_s T rfl ?_
      refine at_end ?_
      refine at_to [(6, (.pointer (some ⟨b1, 0, none⟩))), (7, (.int .i64 0)), (8, (.int .i64 1))] [0, 0] [F, [(b1, Obj.cells #[(.int .i64 0), (.int .i64 0), (.slice none 0 0)] 26 (0, 0))]] ⟨rfl, rfl, rfl, trivial⟩ rfl ?_
      refine at_then ?_
      refine at_ret ?_
      refine at_rt ?_
      obtain rfl := Option.some.inj H
      refine at_addnil ?_
      exact at_post (T := T) rfl (.aggv (j := 1) [(.int .i64 0), (.int .i64 0), (.slice none 0 0)] rfl rfl rfl rfl rfl rfl rfl (.tmp rfl (.tmp rfl .nil))) (fun w o => ⟨⟨(_, _), ⟨none, 0, [], SliceO.nil, rfl, rfl⟩⟩, rfl, own_to [2, 0] rfl o⟩)
    · replace H := if_f (bf c5) H
      refine at_skip ?_
      refine at_then ?_
      refine at_seq ?_
      refine at_seq ?_
      refine at_region [0, 1, 2] rfl ?_
      iterate 3 refine at_s T rfl ?_
      refine at_end ?_
      refine at_sub [(0, (.slice a_b (List.length b) n_b)), (1, (.int .i64 w)), (2, (.int .i64 h)), (6, (.pointer (some ⟨b1, 0, none⟩))), (9, (.pointer (some ⟨b2, 0, none⟩))), (31, (.bool ((List.length b : Int) == 0)))] ⟨rfl, rfl, rfl, rfl, rfl, rfl, trivial⟩ ?_
      refine at_then ?_
      refine at_cond rfl (fun c6 => ?_) (fun c6 => ?_)
      · replace H := if_t c6 H
        refine at_seq ?_
        refine at_region [0, 1, 2, 3] rfl ?_
        refine at_v rfl (g_loadA T (cs := [(.int .i64 0), (.int .i64 0), (.slice none 0 0)]) rfl rfl rfl rfl rfl rfl (in_varA (j := 2) rfl rfl)) ?_
        refine at_cons (at_st T 1 [(.int .i64 0), (.int .i64 0), (.slice none 0 0)] rfl rfl rfl rfl rfl rfl rfl rfl rfl rfl ?_)
        iterate 2 refine at_s T rfl ?_
        refine at_end ?_
        refine at_to [(6, (.pointer (some ⟨b1, 0, none⟩))), (7, (.int .i64 0)), (8, (.int .i64 2))] [0, 0] [F, [(b1, Obj.cells #[(.int .i64 0), (.int .i64 0), (.slice none 0 0)] 26 (0, 0))]] ⟨rfl, rfl, rfl, trivial⟩ rfl ?_
        refine at_then ?_
        refine at_ret ?_
        refine at_rt ?_
        obtain rfl := Option.some.inj H
        refine at_addnil ?_
        exact at_post (T := T) rfl (.aggv (j := 1) [(.int .i64 0), (.int .i64 0), (.slice none 0 0)] rfl rfl rfl rfl rfl rfl rfl (.tmp rfl (.tmp rfl .nil))) (fun w o => ⟨⟨(_, _), ⟨none, 0, [], SliceO.nil, rfl, rfl⟩⟩, rfl, own_to [2, 0] rfl o⟩)
      · replace H := if_f (bf c6) H
        refine at_skip ?_
        refine at_then ?_
        refine at_seq ?_
        refine at_region [0, 1, 2, 3] rfl ?_
        iterate 4 refine at_s T rfl ?_
        refine at_end ?_
        refine at_sub [(0, (.slice a_b (List.length b) n_b)), (1, (.int .i64 w)), (2, (.int .i64 h)), (6, (.pointer (some ⟨b1, 0, none⟩))), (9, (.pointer (some ⟨b2, 0, none⟩))), (10, (.int .i64 (w64 (w * h))))] ⟨rfl, rfl, rfl, rfl, rfl, rfl, trivial⟩ ?_
        refine at_then ?_
        refine at_seq ?_
        refine at_region [0, 1, 2, 3, 4] rfl ?_
        iterate 3 refine at_s T rfl ?_
        refine at_cons (at_al T [(.int .i64 0), (.int .i64 0), (.slice none 0 0)] rfl rfl rfl rfl (fun b5 => ?_))
        refine at_cons (at_st T 3 [(.int .i64 w), (.int .i64 h), (.slice none 0 0)] rfl rfl rfl rfl rfl rfl rfl rfl rfl rfl ?_)
        refine at_end ?_
        refine at_sub [(0, (.slice a_b (List.length b) n_b)), (6, (.pointer (some ⟨b1, 0, none⟩))), (9, (.pointer (some ⟨b2, 0, none⟩))), (10, (.int .i64 (w64 (w * h)))), (11, (.pointer (some ⟨b5, 0, none⟩)))] ⟨rfl, rfl, rfl, rfl, rfl, trivial⟩ ?_
        refine at_then ?_
        refine at_seq ?_
        refine at_region [0] rfl ?_
        refine at_s T rfl ?_
        refine at_end ?_
        refine at_sub [(0, (.slice a_b (List.length b) n_b)), (6, (.pointer (some ⟨b1, 0, none⟩))), (9, (.pointer (some ⟨b2, 0, none⟩))), (10, (.int .i64 (w64 (w * h)))), (11, (.pointer (some ⟨b5, 0, none⟩))), (12, (.int .i64 1))] ⟨rfl, rfl, rfl, rfl, rfl, rfl, trivial⟩ ?_
        refine at_then ?_
        obtain ⟨z7, Z7, H⟩ := bind_e H
        refine at_seq_mid (σ := List Int × Int × Option Addr × Nat × Hp) (fun ⟨x5, x6, a6, n6, H6⟩ => (Sum.inr (x5, x6)) = z7 ∧ SliceO (Fl.int .u8) 5 x5 a6 n6 H6) (fun ⟨x5, x6, a6, n6, H6⟩ => [(0, (.slice a_b (List.length b) n_b)), (6, (.pointer (some ⟨b1, 0, none⟩))), (9, (.pointer (some ⟨b2, 0, none⟩))), (11, (.pointer (some ⟨b5, 0, none⟩))), (12, (.int .i64 x6))]) (fun ⟨x5, x6, a6, n6, H6⟩ => [F, [(b1, Obj.cells #[(.int .i64 0), (.int .i64 0), (.slice none 0 0)] 26 (0, 0))], [(b2, Obj.cells #[(.int .i64 0), (.int .i64 0), (.slice none 0 0)] 26 (0, 0))], [(b5, Obj.cells #[(.int .i64 w), (.int .i64 h), (.slice a6 (List.length x5) n6)] 26 (0, 0))], H6]) ?_ ?_
        · refine at_seq ?_
          refine at_region [0, 1, 2] rfl ?_
          refine at_s T rfl ?_
          obtain ⟨c8, Z7⟩ := chk_e Z7
          obtain ⟨q7, o7, e7⟩ := h_b.addr c8.1 c8.2
          refine at_v rfl (g_index T rfl rfl rfl rfl rfl e7 c8.1 c8.2) ?_
          refine at_v rfl (g_load T rfl rfl rfl rfl (in_elem1 (k := (Fl.int .u8)) (ro_of h_b (j := 0) rfl) e7 c8 0 rfl)) ?_
          refine at_end ?_
          refine at_sub [(0, (.slice a_b (List.length b) n_b)), (6, (.pointer (some ⟨b1, 0, none⟩))), (9, (.pointer (some ⟨b2, 0, none⟩))), (10, (.int .i64 (w64 (w * h)))), (11, (.pointer (some ⟨b5, 0, none⟩))), (12, (.int .i64 1)), (41, (.int .u8 (rd b 0)))] ⟨rfl, rfl, rfl, rfl, rfl, rfl, rfl, trivial⟩ ?_
          refine at_then ?_
          refine at_block ?_
          refine at_seq ?_
          refine at_region [0, 1] rfl ?_
          iterate 2 refine at_s T rfl ?_
          refine at_end ?_
          refine at_sub [(0, (.slice a_b (List.length b) n_b)), (6, (.pointer (some ⟨b1, 0, none⟩))), (9, (.pointer (some ⟨b2, 0, none⟩))), (10, (.int .i64 (w64 (w * h)))), (11, (.pointer (some ⟨b5, 0, none⟩))), (12, (.int .i64 1)), (41, (.int .u8 (rd b 0))), (43, (.bool ((rd b 0) == 0)))] ⟨rfl, rfl, rfl, rfl, rfl, rfl, rfl, rfl, trivial⟩ ?_
          refine at_then ?_
          refine at_cond rfl (fun c9 => ?_) (fun c9 => ?_)
          · replace Z7 := if_t c9 Z7
            refine at_seq ?_
            refine at_seq ?_
            refine at_region [0, 1, 2] rfl ?_
            iterate 3 refine at_s T rfl ?_
            refine at_end ?_
            refine at_sub [(0, (.slice a_b (List.length b) n_b)), (6, (.pointer (some ⟨b1, 0, none⟩))), (9, (.pointer (some ⟨b2, 0, none⟩))), (10, (.int .i64 (w64 (w * h)))), (11, (.pointer (some ⟨b5, 0, none⟩))), (47, (.bool (decide ((List.length b : Int) < 2))))] ⟨rfl, rfl, rfl, rfl, rfl, rfl, trivial⟩ ?_
            refine at_then ?_
            refine at_cond rfl (fun c10 => ?_) (fun c10 => ?_)
            · replace Z7 := if_t (of_decide_eq_true c10) Z7
              refine at_seq ?_
              refine at_region [0, 1, 2, 3] rfl ?_
              refine at_v rfl (g_loadA T (cs := [(.int .i64 0), (.int .i64 0), (.slice none 0 0)]) rfl rfl rfl rfl rfl rfl (in_varA (j := 2) rfl rfl)) ?_
              refine at_cons (at_st T 1 [(.int .i64 0), (.int .i64 0), (.slice none 0 0)] rfl rfl rfl rfl rfl rfl rfl rfl rfl rfl ?_)
              iterate 2 refine at_s T rfl ?_
              refine at_end ?_
              refine at_to [(6, (.pointer (some ⟨b1, 0, none⟩))), (7, (.int .i64 0)), (8, (.int .i64 2))] [0, 0] [F, [(b1, Obj.cells #[(.int .i64 0), (.int .i64 0), (.slice none 0 0)] 26 (0, 0))]] ⟨rfl, rfl, rfl, trivial⟩ rfl ?_
              refine at_then ?_
              refine at_ret ?_
              refine at_rt ?_
              refine at_rb ?_
              refine at_rt ?_
              obtain rfl := Option.some.inj Z7
              obtain rfl := Option.some.inj (show some ((api_Tile.mk 0 0 []), 0, 2) = some r from H)
              refine at_addnil ?_
              exact at_post (T := T) rfl (.aggv (j := 1) [(.int .i64 0), (.int .i64 0), (.slice none 0 0)] rfl rfl rfl rfl rfl rfl rfl (.tmp rfl (.tmp rfl .nil))) (fun w o => ⟨⟨(_, _), ⟨none, 0, [], SliceO.nil, rfl, rfl⟩⟩, rfl, own_to [2, 0] rfl o⟩)
            · replace Z7 := if_f (of_decide_eq_false c10) Z7
              refine at_skip ?_
              refine at_then ?_
              refine at_seq ?_
              refine at_seq ?_
              refine at_region [0] rfl ?_
              refine at_s T rfl ?_
              refine at_end ?_
              refine at_sub [(0, (.slice a_b (List.length b) n_b)), (6, (.pointer (some ⟨b1, 0, none⟩))), (9, (.pointer (some ⟨b2, 0, none⟩))), (10, (.int .i64 (w64 (w * h)))), (11, (.pointer (some ⟨b5, 0, none⟩))), (13, (.int .i64 0))] ⟨rfl, rfl, rfl, rfl, rfl, rfl, trivial⟩ ?_
              refine at_then ?_
              refine at_block ?_
              refine at_addnil ?_
              refine at_loopL (σ := Nat × List Int × Int × Option Addr × Nat × Hp) (fun ⟨k12, x10, x11, a10, n10, H10⟩ => ref1_GetTile.l0 k12 b w h x10 x11 = some z7 ∧ SliceO (Fl.int .u8) 5 x10 a10 n10 H10) (fun ⟨k12, x10, x11, a10, n10, H10⟩ => [(0, (.slice a_b (List.length b) n_b)), (6, (.pointer (some ⟨b1, 0, none⟩))), (9, (.pointer (some ⟨b2, 0, none⟩))), (10, (.int .i64 (w64 (w * h)))), (11, (.pointer (some ⟨b5, 0, none⟩))), (13, (.int .i64 x11))]) (fun ⟨k12, x10, x11, a10, n10, H10⟩ => [F, [(b1, Obj.cells #[(.int .i64 0), (.int .i64 0), (.slice none 0 0)] 26 (0, 0))], [(b2, Obj.cells #[(.int .i64 0), (.int .i64 0), (.slice none 0 0)] 26 (0, 0))], [(b5, Obj.cells #[(.int .i64 w), (.int .i64 h), (.slice a10 (List.length x10) n10)] 26 (0, 0))], H10]) (fun s => s.1) (fuel, [], 0, none, 0, []) [0, 0, 0, 0, 0] ⟨Z7, SliceO.nil⟩ ⟨rfl, rfl, rfl, rfl, rfl, rfl, trivial⟩ rfl ?_
              rintro ⟨k12, x10, x11, a10, n10, H10⟩ ⟨Z11, s10⟩
              replace Z11 : ref1_GetTile.l0 k12 b w h x10 x11 = some z7 := Z11
              rcases k12 with _ | k12
              · rw [ref1_GetTile.l0] at Z11; cases Z11
              · rw [ref1_GetTile.l0] at Z11
                refine at_seq ?_
                refine at_seq ?_
                refine at_region [0, 1, 2] rfl ?_
                iterate 3 refine at_s T rfl ?_
                refine at_end ?_
                refine at_sub [(0, (.slice a_b (List.length b) n_b)), (6, (.pointer (some ⟨b1, 0, none⟩))), (9, (.pointer (some ⟨b2, 0, none⟩))), (10, (.int .i64 (w64 (w * h)))), (11, (.pointer (some ⟨b5, 0, none⟩))), (13, (.int .i64 x11)), (51, (.bool (decide (x11 < (w64 (w * h))))))] ⟨rfl, rfl, rfl, rfl, rfl, rfl, rfl, trivial⟩ ?_
                refine at_then ?_
                refine at_cond rfl (fun c12 => ?_) (fun c12 => ?_)
                · replace Z11 := if_t (of_decide_eq_true c12) Z11
                  refine at_skip ?_
                  refine at_then ?_
                  refine at_seq ?_
                  refine at_block ?_
                  refine at_region_m [[], [0], [], [2], [2, 3], [2, 3, 4], [0, 1, 2, 3, 4, 5], [0, 1, 2, 3, 4, 5, 6], [0, 1, 2, 3, 4, 5, 6, 7]] [6, 8] [F, [(b1, Obj.cells #[(.int .i64 0), (.int .i64 0), (.slice none 0 0)] 26 (0, 0))], [(b2, Obj.cells #[(.int .i64 0), (.int .i64 0), (.slice none 0 0)] 26 (0, 0))], [(b5, Obj.cells #[(.int .i64 w), (.int .i64 h), (.slice a10 (List.length x10) n10)] 26 (0, 0))], H10] mix (by kernel_rfl) (by repeat first | exact pf_body | refine pf_then ?_ | refine pf_block ?_) (fun hg pf => ?_)
                  refine atm_s T 0 hg pf (by kernel_rfl) (still_o [0, 0, 0, 0, 0] rfl) rfl ?_
                  refine atm_v 1 hg pf (by kernel_rfl) (still_o [0, 0, 0, 0, 0] rfl) rfl rfl (g_load T rfl rfl rfl rfl (in_var (j := 3) rfl rfl)) ?_
                  refine atm_s T 2 hg pf (by kernel_rfl) (still_o [0, 0, 0, 0, 0] rfl) rfl ?_
                  obtain ⟨c13, Z11⟩ := chk_e Z11
                  obtain ⟨q11, o11, e11⟩ := h_b.addr c13.1 c13.2
                  refine atm_v 3 hg pf (by kernel_rfl) (still_o [0, 0, 0, 0, 0] rfl) rfl rfl (g_index T rfl rfl rfl rfl rfl e11 c13.1 c13.2) ?_
                  refine atm_v 4 hg pf (by kernel_rfl) (still_o [0, 0, 0, 0, 0] rfl) rfl rfl (g_load T rfl rfl rfl rfl (in_elem1 (k := (Fl.int .u8)) (ro_of h_b (j := 0) rfl) e11 c13 0 rfl)) ?_
                  refine atm_one 5 (by kernel_rfl) ?_
                  refine at_bs (k := (Fl.int .u8)) T [(rd b 1)] rfl rfl rfl rfl rfl rfl rfl rfl rfl (fun a12 H12 s12 => ?_)
                  refine atm_next (still_o [0, 0, 0, 0, 0] rfl) ?_
                  refine atm_one 6 (by kernel_rfl) ?_
                  obtain ⟨c14, Z11⟩ := chk_e Z11
                  refine at_ap (k := (Fl.int .u8)) (xs := x10) T (g := 4) rfl rfl rfl rfl rfl rfl rfl rfl rfl rfl s10 (own_of s12 (j := 5) rfl) c14 rfl (fun a13 n13 H13 s13 => ?_)
                  refine atm_next (still_l (by kernel_rfl)) ?_
                  refine atm_s T 7 hg pf (by kernel_rfl) (still_l (by kernel_rfl)) rfl ?_
                  refine atm_one 8 (by kernel_rfl) ?_
                  refine at_st T 3 [(.int .i64 w), (.int .i64 h), (.slice a13 (List.length (x10 ++ [(rd b 1)])) n13)] rfl rfl rfl rfl rfl rfl rfl rfl rfl rfl ?_
                  refine atm_next (still_l (by kernel_rfl)) ?_
                  refine atm_end (by kernel_rfl) ?_
                  refine at_to [(0, (.slice a_b (List.length b) n_b)), (6, (.pointer (some ⟨b1, 0, none⟩))), (9, (.pointer (some ⟨b2, 0, none⟩))), (10, (.int .i64 (w64 (w * h)))), (11, (.pointer (some ⟨b5, 0, none⟩))), (13, (.int .i64 x11))] [0, 0, 0, 0, 0] [F, [(b1, Obj.cells #[(.int .i64 0), (.int .i64 0), (.slice none 0 0)] 26 (0, 0))], [(b2, Obj.cells #[(.int .i64 0), (.int .i64 0), (.slice none 0 0)] 26 (0, 0))], [(b5, Obj.cells #[(.int .i64 w), (.int .i64 h), (.slice a13 (List.length (x10 ++ [(rd b 1)])) n13)] 26 (0, 0))], H13] ⟨rfl, rfl, rfl, rfl, rfl, rfl, trivial⟩ rfl ?_
                  refine at_nb ?_
                  refine at_then ?_
                  refine at_region [0, 1, 2] rfl ?_
                  iterate 3 refine at_s T rfl ?_
                  refine at_end ?_
                  refine at_sub [(0, (.slice a_b (List.length b) n_b)), (6, (.pointer (some ⟨b1, 0, none⟩))), (9, (.pointer (some ⟨b2, 0, none⟩))), (10, (.int .i64 (w64 (w * h)))), (11, (.pointer (some ⟨b5, 0, none⟩))), (13, (.int .i64 (w64 (x11 + 1))))] ⟨rfl, rfl, rfl, rfl, rfl, rfl, trivial⟩ ?_
                  refine at_then ?_
                  exact at_roundL (k12, (x10 ++ [(rd b 1)]), (w64 (x11 + 1)), a13, n13, H13) [0, 0, 0, 0, 0] ⟨Z11, s13⟩ (Nat.lt_succ_self _) ⟨rfl, rfl, rfl, rfl, rfl, rfl, trivial⟩ rfl
                · replace Z11 := if_f (of_decide_eq_false c12) Z11
                  refine at_exit ?_
                  refine at_xt ?_
                  refine at_xt ?_
                  refine at_xb ?_
                  refine at_then ?_
                  refine at_region [0] rfl ?_
                  refine at_s T rfl ?_
                  refine at_end ?_
                  refine at_sub [(0, (.slice a_b (List.length b) n_b)), (6, (.pointer (some ⟨b1, 0, none⟩))), (9, (.pointer (some ⟨b2, 0, none⟩))), (11, (.pointer (some ⟨b5, 0, none⟩))), (12, (.int .i64 2))] ⟨rfl, rfl, rfl, rfl, rfl, trivial⟩ ?_
                  refine at_nb ?_
                  refine at_then ?_
                  obtain rfl := Option.some.inj Z11
                  exact at_mid (x10, 2, a10, n10, H10) [0, 0, 0, 0, 0] ⟨rfl, s10⟩ ⟨rfl, rfl, rfl, rfl, rfl, trivial⟩ rfl
          · replace Z7 := if_f (bf c9) Z7
            refine at_seq ?_
            refine at_region [0, 1] rfl ?_
            iterate 2 refine at_s T rfl ?_
            refine at_end ?_
            refine at_sub [(0, (.slice a_b (List.length b) n_b)), (6, (.pointer (some ⟨b1, 0, none⟩))), (9, (.pointer (some ⟨b2, 0, none⟩))), (10, (.int .i64 (w64 (w * h)))), (11, (.pointer (some ⟨b5, 0, none⟩))), (12, (.int .i64 1)), (41, (.int .u8 (rd b 0))), (62, (.bool ((rd b 0) == 1)))] ⟨rfl, rfl, rfl, rfl, rfl, rfl, rfl, rfl, trivial⟩ ?_
            refine at_then ?_
            refine at_cond rfl (fun c15 => ?_) (fun c15 => ?_)
            · replace Z7 := if_t c15 Z7
              refine at_seq ?_
              refine at_seq ?_
              refine at_region [0, 1, 2, 3, 4] rfl ?_
              iterate 5 refine at_s T rfl ?_
              refine at_end ?_
              refine at_sub [(0, (.slice a_b (List.length b) n_b)), (6, (.pointer (some ⟨b1, 0, none⟩))), (9, (.pointer (some ⟨b2, 0, none⟩))), (10, (.int .i64 (w64 (w * h)))), (11, (.pointer (some ⟨b5, 0, none⟩))), (68, (.bool (decide ((w64 ((List.length b : Int) - 1)) < (w64 (w * h))))))] ⟨rfl, rfl, rfl, rfl, rfl, rfl, trivial⟩ ?_
              refine at_then ?_
              refine at_cond rfl (fun c16 => ?_) (fun c16 => ?_)
              · replace Z7 := if_t (of_decide_eq_true c16) Z7
                refine at_seq ?_
                refine at_region [0, 1, 2, 3] rfl ?_
                refine at_v rfl (g_loadA T (cs := [(.int .i64 0), (.int .i64 0), (.slice none 0 0)]) rfl rfl rfl rfl rfl rfl (in_varA (j := 2) rfl rfl)) ?_
                refine at_cons (at_st T 1 [(.int .i64 0), (.int .i64 0), (.slice none 0 0)] rfl rfl rfl rfl rfl rfl rfl rfl rfl rfl ?_)
                iterate 2 refine at_s T rfl ?_
                refine at_end ?_
                refine at_to [(6, (.pointer (some ⟨b1, 0, none⟩))), (7, (.int .i64 0)), (8, (.int .i64 2))] [0, 0] [F, [(b1, Obj.cells #[(.int .i64 0), (.int .i64 0), (.slice none 0 0)] 26 (0, 0))]] ⟨rfl, rfl, rfl, trivial⟩ rfl ?_
                refine at_then ?_
                refine at_ret ?_
                refine at_rt ?_
                refine at_rb ?_
                refine at_rt ?_
                obtain rfl := Option.some.inj Z7
                obtain rfl := Option.some.inj (show some ((api_Tile.mk 0 0 []), 0, 2) = some r from H)
                refine at_addnil ?_
                exact at_post (T := T) rfl (.aggv (j := 1) [(.int .i64 0), (.int .i64 0), (.slice none 0 0)] rfl rfl rfl rfl rfl rfl rfl (.tmp rfl (.tmp rfl .nil))) (fun w o => ⟨⟨(_, _), ⟨none, 0, [], SliceO.nil, rfl, rfl⟩⟩, rfl, own_to [2, 0] rfl o⟩)
              · replace Z7 := if_f (of_decide_eq_false c16) Z7
                refine at_skip ?_
                refine at_then ?_
                refine at_seq ?_
                refine at_region_m [[], [0], [], [], [3], [2, 3, 4], [0, 1, 2, 3, 4, 5], [0, 1, 2, 3, 4, 5, 6], [0, 1, 2, 3, 4, 5, 6, 7]] [8] [F, [(b1, Obj.cells #[(.int .i64 0), (.int .i64 0), (.slice none 0 0)] 26 (0, 0))], [(b2, Obj.cells #[(.int .i64 0), (.int .i64 0), (.slice none 0 0)] 26 (0, 0))], [(b5, Obj.cells #[(.int .i64 w), (.int .i64 h), (.slice none 0 0)] 26 (0, 0))]] mix (by kernel_rfl) (by repeat first | exact pf_body | refine pf_then ?_ | refine pf_block ?_) (fun hg pf => ?_)
                refine atm_s T 0 hg pf (by kernel_rfl) (still_o [0, 0, 0, 0] rfl) rfl ?_
                refine atm_v 1 hg pf (by kernel_rfl) (still_o [0, 0, 0, 0] rfl) rfl rfl (g_load T rfl rfl rfl rfl (in_var (j := 3) rfl rfl)) ?_
                refine atm_s T 2 hg pf (by kernel_rfl) (still_o [0, 0, 0, 0] rfl) rfl ?_
                refine atm_s T 3 hg pf (by kernel_rfl) (still_o [0, 0, 0, 0] rfl) rfl ?_
                refine atm_s T 4 hg pf (by kernel_rfl) (still_o [0, 0, 0, 0] rfl) rfl ?_
                obtain ⟨c17, Z7⟩ := chk_e Z7
                refine atm_v 5 hg pf (by kernel_rfl) (still_o [0, 0, 0, 0] rfl) rfl rfl (g_sub T rfl rfl rfl rfl rfl rfl c17 c_b) ?_
                refine atm_one 6 (by kernel_rfl) ?_
                refine at_addnil ?_
                obtain ⟨c18, Z7⟩ := chk_e Z7
                refine at_ap (k := (Fl.int .u8)) (xs := ([] : List Int)) T (g := 4) rfl rfl rfl rfl rfl rfl rfl rfl rfl rfl SliceO.nil (sub_r (ro_of h_b (j := 0) rfl) c17 c_b) c18 rfl (fun a16 n16 H16 s16 => ?_)
                refine atm_next (still_o [0, 0, 0, 0] rfl) ?_
                refine atm_s T 7 hg pf (by kernel_rfl) (still_o [0, 0, 0, 0] rfl) rfl ?_
                refine atm_one 8 (by kernel_rfl) ?_
                refine at_st T 3 [(.int .i64 w), (.int .i64 h), (.slice a16 (List.length ([] ++ (sub' b 1 (w64 (1 + (w64 (w * h))))))) n16)] rfl rfl rfl rfl rfl rfl rfl rfl rfl rfl ?_
                refine atm_next (still_l (by kernel_rfl)) ?_
                refine atm_end (by kernel_rfl) ?_
                refine at_sub [(0, (.slice a_b (List.length b) n_b)), (6, (.pointer (some ⟨b1, 0, none⟩))), (9, (.pointer (some ⟨b2, 0, none⟩))), (10, (.int .i64 (w64 (w * h)))), (11, (.pointer (some ⟨b5, 0, none⟩)))] ⟨rfl, rfl, rfl, rfl, rfl, trivial⟩ ?_
                refine at_then ?_
                refine at_region [0, 1, 2] rfl ?_
                iterate 3 refine at_s T rfl ?_
                refine at_end ?_
                refine at_sub [(0, (.slice a_b (List.length b) n_b)), (6, (.pointer (some ⟨b1, 0, none⟩))), (9, (.pointer (some ⟨b2, 0, none⟩))), (11, (.pointer (some ⟨b5, 0, none⟩))), (12, (.int .i64 (w64 (1 + (w64 (w * h))))))] ⟨rfl, rfl, rfl, rfl, rfl, trivial⟩ ?_
                refine at_nb ?_
                refine at_then ?_
                obtain rfl := Option.some.inj Z7
                exact at_mid (([] ++ (sub' b 1 (w64 (1 + (w64 (w * h)))))), (w64 (1 + (w64 (w * h)))), a16, n16, H16) [0, 0, 0, 0, 0] ⟨rfl, s16⟩ ⟨rfl, rfl, rfl, rfl, rfl, trivial⟩ rfl
            · replace Z7 := if_f (bf c15) Z7
              refine at_seq ?_
              refine at_region [0, 1] rfl ?_
              iterate 2 refine at_s T rfl ?_
              refine at_end ?_
              refine at_sub [(0, (.slice a_b (List.length b) n_b)), (6, (.pointer (some ⟨b1, 0, none⟩))), (9, (.pointer (some ⟨b2, 0, none⟩))), (10, (.int .i64 (w64 (w * h)))), (11, (.pointer (some ⟨b5, 0, none⟩))), (12, (.int .i64 1)), (80, (.bool ((rd b 0) == 2)))] ⟨rfl, rfl, rfl, rfl, rfl, rfl, rfl, trivial⟩ ?_
              refine at_then ?_
              refine at_cond rfl (fun c19 => ?_) (fun c19 => ?_)
              · replace Z7 := if_t c19 Z7
                refine at_block ?_
                refine at_addnil ?_
                refine at_loopL (σ := Nat × List Int × Int × Option Addr × Nat × Hp) (fun ⟨k17, x15, x16, a18, n18, H18⟩ => ref1_GetTile.l1 k17 b w h x15 x16 = some z7 ∧ SliceO (Fl.int .u8) 5 x15 a18 n18 H18) (fun ⟨k17, x15, x16, a18, n18, H18⟩ => [(0, (.slice a_b (List.length b) n_b)), (6, (.pointer (some ⟨b1, 0, none⟩))), (9, (.pointer (some ⟨b2, 0, none⟩))), (10, (.int .i64 (w64 (w * h)))), (11, (.pointer (some ⟨b5, 0, none⟩))), (12, (.int .i64 x16))]) (fun ⟨k17, x15, x16, a18, n18, H18⟩ => [F, [(b1, Obj.cells #[(.int .i64 0), (.int .i64 0), (.slice none 0 0)] 26 (0, 0))], [(b2, Obj.cells #[(.int .i64 0), (.int .i64 0), (.slice none 0 0)] 26 (0, 0))], [(b5, Obj.cells #[(.int .i64 w), (.int .i64 h), (.slice a18 (List.length x15) n18)] 26 (0, 0))], H18]) (fun s => s.1) (fuel, [], 1, none, 0, []) [0, 0, 0, 0, 0] ⟨Z7, SliceO.nil⟩ ⟨rfl, rfl, rfl, rfl, rfl, rfl, trivial⟩ rfl ?_
                rintro ⟨k17, x15, x16, a18, n18, H18⟩ ⟨Z20, s18⟩
                replace Z20 : ref1_GetTile.l1 k17 b w h x15 x16 = some z7 := Z20
                rcases k17 with _ | k17
                · rw [ref1_GetTile.l1] at Z20; cases Z20
                · rw [ref1_GetTile.l1] at Z20
                  refine at_seq ?_
                  refine at_seq ?_
                  refine at_region [0, 1, 2, 3, 4] rfl ?_
                  refine at_s T rfl ?_
                  refine at_v rfl (g_load T rfl rfl rfl rfl (in_var (j := 3) rfl rfl)) ?_
                  iterate 3 refine at_s T rfl ?_
                  refine at_end ?_
                  refine at_sub [(0, (.slice a_b (List.length b) n_b)), (6, (.pointer (some ⟨b1, 0, none⟩))), (9, (.pointer (some ⟨b2, 0, none⟩))), (10, (.int .i64 (w64 (w * h)))), (11, (.pointer (some ⟨b5, 0, none⟩))), (12, (.int .i64 x16)), (86, (.bool (decide ((List.length x15 : Int) < (w64 (w * h))))))] ⟨rfl, rfl, rfl, rfl, rfl, rfl, rfl, trivial⟩ ?_
                  refine at_then ?_
                  refine at_cond rfl (fun c21 => ?_) (fun c21 => ?_)
                  · replace Z20 := if_t (of_decide_eq_true c21) Z20
                    refine at_skip ?_
                    refine at_then ?_
                    obtain ⟨z19, Z22, Z20⟩ := bind_e Z20
                    refine at_any_mid (σ := List Int × Option Addr × Nat × Hp) (fun ⟨x18, a19, n19, H19⟩ => (Sum.inr x18) = z19 ∧ SliceO (Fl.int .u8) 5 x18 a19 n19 H19) (fun ⟨x18, a19, n19, H19⟩ => [(0, (.slice a_b (List.length b) n_b)), (6, (.pointer (some ⟨b1, 0, none⟩))), (9, (.pointer (some ⟨b2, 0, none⟩))), (10, (.int .i64 (w64 (w * h)))), (11, (.pointer (some ⟨b5, 0, none⟩))), (12, (.int .i64 (w64 (x16 + 2))))]) (fun ⟨x18, a19, n19, H19⟩ => [F, [(b1, Obj.cells #[(.int .i64 0), (.int .i64 0), (.slice none 0 0)] 26 (0, 0))], [(b2, Obj.cells #[(.int .i64 0), (.int .i64 0), (.slice none 0 0)] 26 (0, 0))], [(b5, Obj.cells #[(.int .i64 w), (.int .i64 h), (.slice a19 (List.length x18) n19)] 26 (0, 0))], H19]) ?_ ?_
                    · refine at_block ?_
                      refine at_seq ?_
                      refine at_seq ?_
                      refine at_region [0, 1, 2, 3, 4] rfl ?_
                      iterate 5 refine at_s T rfl ?_
                      refine at_end ?_
                      refine at_sub [(0, (.slice a_b (List.length b) n_b)), (6, (.pointer (some ⟨b1, 0, none⟩))), (9, (.pointer (some ⟨b2, 0, none⟩))), (10, (.int .i64 (w64 (w * h)))), (11, (.pointer (some ⟨b5, 0, none⟩))), (12, (.int .i64 x16)), (91, (.bool (decide ((w64 ((List.length b : Int) - x16)) < 2))))] ⟨rfl, rfl, rfl, rfl, rfl, rfl, rfl, trivial⟩ ?_
                      refine at_then ?_
                      refine at_cond rfl (fun c23 => ?_) (fun c23 => ?_)
                      · replace Z22 := if_t (of_decide_eq_true c23) Z22
                        refine at_seq ?_
                        refine at_region [0, 1, 2, 3] rfl ?_
                        refine at_v rfl (g_loadA T (cs := [(.int .i64 0), (.int .i64 0), (.slice none 0 0)]) rfl rfl rfl rfl rfl rfl (in_varA (j := 2) rfl rfl)) ?_
                        refine at_cons (at_st T 1 [(.int .i64 0), (.int .i64 0), (.slice none 0 0)] rfl rfl rfl rfl rfl rfl rfl rfl rfl rfl ?_)
                        iterate 2 refine at_s T rfl ?_
                        refine at_end ?_
                        refine at_to [(6, (.pointer (some ⟨b1, 0, none⟩))), (7, (.int .i64 0)), (8, (.int .i64 2))] [0, 0] [F, [(b1, Obj.cells #[(.int .i64 0), (.int .i64 0), (.slice none 0 0)] 26 (0, 0))]] ⟨rfl, rfl, rfl, trivial⟩ rfl ?_
                        refine at_then ?_
                        refine at_ret ?_
                        refine at_rt ?_
                        refine at_rb ?_
                        refine at_rt ?_
                        refine at_rt ?_
                        refine at_rb ?_
                        refine at_rb ?_
                        refine at_rt ?_
                        obtain rfl := Option.some.inj Z22
                        obtain rfl := Option.some.inj (show some (Sum.inl ((api_Tile.mk 0 0 []), 0, 2)) = some z7 from Z20)
                        obtain rfl := Option.some.inj (show some ((api_Tile.mk 0 0 []), 0, 2) = some r from H)
                        refine at_addnil ?_
                        exact at_post (T := T) rfl (.aggv (j := 1) [(.int .i64 0), (.int .i64 0), (.slice none 0 0)] rfl rfl rfl rfl rfl rfl rfl (.tmp rfl (.tmp rfl .nil))) (fun w o => ⟨⟨(_, _), ⟨none, 0, [], SliceO.nil, rfl, rfl⟩⟩, rfl, own_to [2, 0] rfl o⟩)
                      · replace Z22 := if_f (of_decide_eq_false c23) Z22
                        refine at_skip ?_
                        refine at_then ?_
                        refine at_seq ?_
                        refine at_region_q mix (by kernel_rfl) ?_
                        iterate 2 refine atq_s T rfl ?_
                        obtain ⟨c24, Z22⟩ := chk_e Z22
                        obtain ⟨q21, o21, e21⟩ := h_b.addr c24.1 c24.2
                        refine atq_v rfl rfl rfl (g_index T rfl rfl rfl rfl rfl e21 c24.1 c24.2) ?_
                        refine atq_v rfl rfl rfl (g_load T rfl rfl rfl rfl (in_elem1 (k := (Fl.int .u8)) (ro_of h_b (j := 0) rfl) e21 c24 0 rfl)) ?_
                        iterate 5 refine atq_s T rfl ?_
                        obtain ⟨c25, Z22⟩ := chk_e Z22
                        refine atq_v rfl rfl rfl (g_index T rfl rfl rfl rfl rfl e21 c25.1 c25.2) ?_
                        refine atq_v rfl rfl rfl (g_load T rfl rfl rfl rfl (in_elem1 (k := (Fl.int .u8)) (ro_of h_b (j := 0) rfl) e21 c25 0 rfl)) ?_
                        iterate 2 refine atq_s T rfl ?_
                        refine atq_end ?_
                        refine at_sub [(0, (.slice a_b (List.length b) n_b)), (6, (.pointer (some ⟨b1, 0, none⟩))), (9, (.pointer (some ⟨b2, 0, none⟩))), (10, (.int .i64 (w64 (w * h)))), (11, (.pointer (some ⟨b5, 0, none⟩))), (12, (.int .i64 x16)), (14, (.int .i64 (w64 ((w64 (rd b x16)) + 1)))), (15, (.int .u8 (rd b (w64 (x16 + 1)))))] ⟨rfl, rfl, rfl, rfl, rfl, rfl, rfl, rfl, trivial⟩ ?_
                        refine at_then ?_
                        refine at_seq ?_
                        obtain ⟨z21, Z26, Z22⟩ := bind_e Z22
                        refine at_seq_mid (σ := Bool) (fun x20 => x20 = z21) (fun x20 => [(0, (.slice a_b (List.length b) n_b)), (6, (.pointer (some ⟨b1, 0, none⟩))), (9, (.pointer (some ⟨b2, 0, none⟩))), (10, (.int .i64 (w64 (w * h)))), (11, (.pointer (some ⟨b5, 0, none⟩))), (12, (.int .i64 x16)), (14, (.int .i64 (w64 ((w64 (rd b x16)) + 1)))), (15, (.int .u8 (rd b (w64 (x16 + 1))))), (132, (.bool x20))]) (fun x20 => [F, [(b1, Obj.cells #[(.int .i64 0), (.int .i64 0), (.slice none 0 0)] 26 (0, 0))], [(b2, Obj.cells #[(.int .i64 0), (.int .i64 0), (.slice none 0 0)] 26 (0, 0))], [(b5, Obj.cells #[(.int .i64 w), (.int .i64 h), (.slice a18 (List.length x15) n18)] 26 (0, 0))], H18]) ?_ ?_
                        · refine at_region [0, 1, 2, 3, 4, 5, 6, 7, 8, 9, 10, 11, 12, 13, 14, 15, 16, 17, 18, 19, 20, 21, 22, 23, 24, 25, 26, 27, 28] rfl ?_
                          iterate 3 refine at_s T rfl ?_
                          refine at_case (s := 106) rfl (fun c27 => ?_) (fun c27 => ?_)
                          · replace Z26 := if_t c27 Z26
                            iterate 26 refine at_s T rfl ?_
                            refine at_end ?_
                            refine at_sub [(0, (.slice a_b (List.length b) n_b)), (6, (.pointer (some ⟨b1, 0, none⟩))), (9, (.pointer (some ⟨b2, 0, none⟩))), (10, (.int .i64 (w64 (w * h)))), (11, (.pointer (some ⟨b5, 0, none⟩))), (12, (.int .i64 x16)), (14, (.int .i64 (w64 ((w64 (rd b x16)) + 1)))), (15, (.int .u8 (rd b (w64 (x16 + 1))))), (132, (.bool true))] ⟨rfl, rfl, rfl, rfl, rfl, rfl, rfl, rfl, rfl, trivial⟩ ?_
                            refine at_then ?_
                            obtain rfl := Option.some.inj Z26
                            exact at_mid true [0, 0, 0, 0, 0] rfl ⟨rfl, rfl, rfl, rfl, rfl, rfl, rfl, rfl, rfl, trivial⟩ rfl
                          · replace Z26 := if_f (bf c27) Z26
                            refine at_s T rfl ?_
                            refine at_v rfl (g_load T rfl rfl rfl rfl (in_var (j := 3) rfl rfl)) ?_
                            iterate 7 refine at_s T rfl ?_
                            refine at_case (s := 115) rfl (fun c28 => ?_) (fun c28 => ?_)
                            · replace Z26 := if_t (of_decide_eq_true c28) Z26
                              iterate 17 refine at_s T rfl ?_
                              refine at_end ?_
                              refine at_sub [(0, (.slice a_b (List.length b) n_b)), (6, (.pointer (some ⟨b1, 0, none⟩))), (9, (.pointer (some ⟨b2, 0, none⟩))), (10, (.int .i64 (w64 (w * h)))), (11, (.pointer (some ⟨b5, 0, none⟩))), (12, (.int .i64 x16)), (14, (.int .i64 (w64 ((w64 (rd b x16)) + 1)))), (15, (.int .u8 (rd b (w64 (x16 + 1))))), (132, (.bool true))] ⟨rfl, rfl, rfl, rfl, rfl, rfl, rfl, rfl, rfl, trivial⟩ ?_
                              refine at_then ?_
                              obtain rfl := Option.some.inj Z26
                              exact at_mid true [0, 0, 0, 0, 0] rfl ⟨rfl, rfl, rfl, rfl, rfl, rfl, rfl, rfl, rfl, trivial⟩ rfl
                            · replace Z26 := if_f (of_decide_eq_false c28) Z26
                              refine at_s T rfl ?_
                              refine at_v rfl (g_load T rfl rfl rfl rfl (in_var (j := 3) rfl rfl)) ?_
                              iterate 3 refine at_s T rfl ?_
                              refine at_case (s := 120) rfl (fun c29 => ?_) (fun c29 => ?_)
                              · replace Z26 := if_t (of_decide_eq_true c29) Z26
                                refine at_s T rfl ?_
                                refine at_v rfl (g_load T rfl rfl rfl rfl (in_var (j := 3) rfl rfl)) ?_
                                refine at_s T rfl ?_
                                refine at_v rfl (g_load T rfl rfl rfl rfl (in_var (j := 3) rfl rfl)) ?_
                                iterate 2 refine at_s T rfl ?_
                                obtain ⟨c30, Z26⟩ := chk_e Z26
                                obtain ⟨q22, o22, e22⟩ := s18.r.addr c30.1 c30.2
                                refine at_v rfl (g_index T rfl rfl rfl rfl rfl e22 c30.1 c30.2) ?_
                                refine at_v rfl (g_load T rfl rfl rfl rfl (in_elem1 (k := (Fl.int .u8)) (own_of s18 (j := 4) rfl) e22 c30 0 rfl)) ?_
                                iterate 4 refine at_s T rfl ?_
                                refine at_end ?_
                                refine at_sub [(0, (.slice a_b (List.length b) n_b)), (6, (.pointer (some ⟨b1, 0, none⟩))), (9, (.pointer (some ⟨b2, 0, none⟩))), (10, (.int .i64 (w64 (w * h)))), (11, (.pointer (some ⟨b5, 0, none⟩))), (12, (.int .i64 x16)), (14, (.int .i64 (w64 ((w64 (rd b x16)) + 1)))), (15, (.int .u8 (rd b (w64 (x16 + 1))))), (132, (.bool ((rd x15 (w64 ((List.length x15 : Int) - 1))) == (rd b (w64 (x16 + 1))))))] ⟨rfl, rfl, rfl, rfl, rfl, rfl, rfl, rfl, rfl, trivial⟩ ?_
                                refine at_then ?_
                                obtain rfl := Option.some.inj Z26
                                exact at_mid ((rd x15 (w64 ((List.length x15 : Int) - 1))) == (rd b (w64 (x16 + 1)))) [0, 0, 0, 0, 0] rfl ⟨rfl, rfl, rfl, rfl, rfl, rfl, rfl, rfl, rfl, trivial⟩ rfl
                              · replace Z26 := if_f (of_decide_eq_false c29) Z26
                                iterate 12 refine at_s T rfl ?_
                                refine at_end ?_
                                refine at_sub [(0, (.slice a_b (List.length b) n_b)), (6, (.pointer (some ⟨b1, 0, none⟩))), (9, (.pointer (some ⟨b2, 0, none⟩))), (10, (.int .i64 (w64 (w * h)))), (11, (.pointer (some ⟨b5, 0, none⟩))), (12, (.int .i64 x16)), (14, (.int .i64 (w64 ((w64 (rd b x16)) + 1)))), (15, (.int .u8 (rd b (w64 (x16 + 1))))), (132, (.bool false))] ⟨rfl, rfl, rfl, rfl, rfl, rfl, rfl, rfl, rfl, trivial⟩ ?_
                                refine at_then ?_
                                obtain rfl := Option.some.inj Z26
                                exact at_mid false [0, 0, 0, 0, 0] rfl ⟨rfl, rfl, rfl, rfl, rfl, rfl, rfl, rfl, rfl, trivial⟩ rfl
                        · rintro x20 rfl
                          refine at_cond rfl (fun c31 => ?_) (fun c31 => ?_)
                          · replace Z22 := if_t c31 Z22
                            refine at_seq ?_
                            refine at_region [0, 1, 2, 3] rfl ?_
                            refine at_v rfl (g_loadA T (cs := [(.int .i64 0), (.int .i64 0), (.slice none 0 0)]) rfl rfl rfl rfl rfl rfl (in_varA (j := 2) rfl rfl)) ?_
                            refine at_cons (at_st T 1 [(.int .i64 0), (.int .i64 0), (.slice none 0 0)] rfl rfl rfl rfl rfl rfl rfl rfl rfl rfl ?_)
                            iterate 2 refine at_s T rfl ?_
                            refine at_end ?_
                            refine at_to [(6, (.pointer (some ⟨b1, 0, none⟩))), (7, (.int .i64 0)), (8, (.int .i64 3))] [0, 0] [F, [(b1, Obj.cells #[(.int .i64 0), (.int .i64 0), (.slice none 0 0)] 26 (0, 0))]] ⟨rfl, rfl, rfl, trivial⟩ rfl ?_
                            refine at_then ?_
                            refine at_ret ?_
                            refine at_rt ?_
                            refine at_rb ?_
                            refine at_rt ?_
                            refine at_rt ?_
                            refine at_rb ?_
                            refine at_rb ?_
                            refine at_rt ?_
                            obtain rfl := Option.some.inj Z22
                            obtain rfl := Option.some.inj (show some (Sum.inl ((api_Tile.mk 0 0 []), 0, 3)) = some z7 from Z20)
                            obtain rfl := Option.some.inj (show some ((api_Tile.mk 0 0 []), 0, 3) = some r from H)
                            refine at_addnil ?_
                            exact at_post (T := T) rfl (.aggv (j := 1) [(.int .i64 0), (.int .i64 0), (.slice none 0 0)] rfl rfl rfl rfl rfl rfl rfl (.tmp rfl (.tmp rfl .nil))) (fun w o => ⟨⟨(_, _), ⟨none, 0, [], SliceO.nil, rfl, rfl⟩⟩, rfl, own_to [2, 0] rfl o⟩)
                          · replace Z22 := if_f (bf c31) Z22
                            refine at_skip ?_
                            refine at_then ?_
                            refine at_seq ?_
                            refine at_seq ?_
                            refine at_region [0] rfl ?_
                            refine at_s T rfl ?_
                            refine at_end ?_
                            refine at_sub [(0, (.slice a_b (List.length b) n_b)), (6, (.pointer (some ⟨b1, 0, none⟩))), (9, (.pointer (some ⟨b2, 0, none⟩))), (10, (.int .i64 (w64 (w * h)))), (11, (.pointer (some ⟨b5, 0, none⟩))), (12, (.int .i64 x16)), (14, (.int .i64 (w64 ((w64 (rd b x16)) + 1)))), (15, (.int .u8 (rd b (w64 (x16 + 1))))), (16, (.int .i64 0))] ⟨rfl, rfl, rfl, rfl, rfl, rfl, rfl, rfl, rfl, trivial⟩ ?_
                            refine at_then ?_
                            refine at_block ?_
                            refine at_loopL (σ := Nat × List Int × Int × Option Addr × Nat × Hp) (fun ⟨k26, x24, x25, a25, n25, H25⟩ => ref1_GetTile.l2 k26 b x16 x24 x25 = some z19 ∧ SliceO (Fl.int .u8) 5 x24 a25 n25 H25) (fun ⟨k26, x24, x25, a25, n25, H25⟩ => [(0, (.slice a_b (List.length b) n_b)), (6, (.pointer (some ⟨b1, 0, none⟩))), (9, (.pointer (some ⟨b2, 0, none⟩))), (10, (.int .i64 (w64 (w * h)))), (11, (.pointer (some ⟨b5, 0, none⟩))), (12, (.int .i64 x16)), (14, (.int .i64 (w64 ((w64 (rd b x16)) + 1)))), (15, (.int .u8 (rd b (w64 (x16 + 1))))), (16, (.int .i64 x25))]) (fun ⟨k26, x24, x25, a25, n25, H25⟩ => [F, [(b1, Obj.cells #[(.int .i64 0), (.int .i64 0), (.slice none 0 0)] 26 (0, 0))], [(b2, Obj.cells #[(.int .i64 0), (.int .i64 0), (.slice none 0 0)] 26 (0, 0))], [(b5, Obj.cells #[(.int .i64 w), (.int .i64 h), (.slice a25 (List.length x24) n25)] 26 (0, 0))], H25]) (fun s => s.1) (fuel, x15, 0, a18, n18, H18) [0, 0, 0, 0, 0] ⟨Z22, s18⟩ ⟨rfl, rfl, rfl, rfl, rfl, rfl, rfl, rfl, rfl, trivial⟩ rfl ?_
                            rintro ⟨k26, x24, x25, a25, n25, H25⟩ ⟨Z32, s25⟩
                            replace Z32 : ref1_GetTile.l2 k26 b x16 x24 x25 = some z19 := Z32
                            rcases k26 with _ | k26
                            · rw [ref1_GetTile.l2] at Z32; cases Z32
                            · rw [ref1_GetTile.l2] at Z32
                              refine at_seq ?_
                              refine at_seq ?_
                              refine at_region [0, 1, 2] rfl ?_
                              iterate 3 refine at_s T rfl ?_
                              refine at_end ?_
                              refine at_sub [(0, (.slice a_b (List.length b) n_b)), (6, (.pointer (some ⟨b1, 0, none⟩))), (9, (.pointer (some ⟨b2, 0, none⟩))), (10, (.int .i64 (w64 (w * h)))), (11, (.pointer (some ⟨b5, 0, none⟩))), (12, (.int .i64 x16)), (14, (.int .i64 (w64 ((w64 (rd b x16)) + 1)))), (15, (.int .u8 (rd b (w64 (x16 + 1))))), (16, (.int .i64 x25)), (136, (.bool (decide (x25 < (w64 ((w64 (rd b x16)) + 1))))))] ⟨rfl, rfl, rfl, rfl, rfl, rfl, rfl, rfl, rfl, rfl, trivial⟩ ?_
                              refine at_then ?_
                              refine at_cond rfl (fun c33 => ?_) (fun c33 => ?_)
                              · replace Z32 := if_t (of_decide_eq_true c33) Z32
                                refine at_skip ?_
                                refine at_then ?_
                                refine at_seq ?_
                                refine at_block ?_
                                refine at_region [0, 1, 2, 3, 4, 5, 6] rfl ?_
                                refine at_s T rfl ?_
                                refine at_v rfl (g_load T rfl rfl rfl rfl (in_var (j := 3) rfl rfl)) ?_
                                refine at_s T rfl ?_
                                refine at_cons (at_bs (k := (Fl.int .u8)) T [(rd b (w64 (x16 + 1)))] rfl rfl rfl rfl rfl rfl rfl rfl rfl (fun a26 H26 s26 => ?_))
                                obtain ⟨c34, Z32⟩ := chk_e Z32
                                refine at_cons (at_ap (k := (Fl.int .u8)) (xs := x24) T (g := 4) rfl rfl rfl rfl rfl rfl rfl rfl rfl rfl s25 (own_of s26 (j := 5) rfl) c34 rfl (fun a27 n27 H27 s27 => ?_))
                                refine at_s T rfl ?_
                                refine at_cons (at_st T 3 [(.int .i64 w), (.int .i64 h), (.slice a27 (List.length (x24 ++ [(rd b (w64 (x16 + 1)))])) n27)] rfl rfl rfl rfl rfl rfl rfl rfl rfl rfl ?_)
                                refine at_end ?_
                                refine at_to [(0, (.slice a_b (List.length b) n_b)), (6, (.pointer (some ⟨b1, 0, none⟩))), (9, (.pointer (some ⟨b2, 0, none⟩))), (10, (.int .i64 (w64 (w * h)))), (11, (.pointer (some ⟨b5, 0, none⟩))), (12, (.int .i64 x16)), (14, (.int .i64 (w64 ((w64 (rd b x16)) + 1)))), (15, (.int .u8 (rd b (w64 (x16 + 1))))), (16, (.int .i64 x25))] [0, 0, 0, 0, 0] [F, [(b1, Obj.cells #[(.int .i64 0), (.int .i64 0), (.slice none 0 0)] 26 (0, 0))], [(b2, Obj.cells #[(.int .i64 0), (.int .i64 0), (.slice none 0 0)] 26 (0, 0))], [(b5, Obj.cells #[(.int .i64 w), (.int .i64 h), (.slice a27 (List.length (x24 ++ [(rd b (w64 (x16 + 1)))])) n27)] 26 (0, 0))], H27] ⟨rfl, rfl, rfl, rfl, rfl, rfl, rfl, rfl, rfl, trivial⟩ rfl ?_
                                refine at_nb ?_
                                refine at_then ?_
                                refine at_region [0, 1, 2] rfl ?_
                                iterate 3 refine at_s T rfl ?_
                                refine at_end ?_
                                refine at_sub [(0, (.slice a_b (List.length b) n_b)), (6, (.pointer (some ⟨b1, 0, none⟩))), (9, (.pointer (some ⟨b2, 0, none⟩))), (10, (.int .i64 (w64 (w * h)))), (11, (.pointer (some ⟨b5, 0, none⟩))), (12, (.int .i64 x16)), (14, (.int .i64 (w64 ((w64 (rd b x16)) + 1)))), (15, (.int .u8 (rd b (w64 (x16 + 1))))), (16, (.int .i64 (w64 (x25 + 1))))] ⟨rfl, rfl, rfl, rfl, rfl, rfl, rfl, rfl, rfl, trivial⟩ ?_
                                refine at_then ?_
                                exact at_roundL (k26, (x24 ++ [(rd b (w64 (x16 + 1)))]), (w64 (x25 + 1)), a27, n27, H27) [0, 0, 0, 0, 0] ⟨Z32, s27⟩ (Nat.lt_succ_self _) ⟨rfl, rfl, rfl, rfl, rfl, rfl, rfl, rfl, rfl, trivial⟩ rfl
                              · replace Z32 := if_f (of_decide_eq_false c33) Z32
                                refine at_exit ?_
                                refine at_xt ?_
                                refine at_xt ?_
                                refine at_xb ?_
                                refine at_then ?_
                                refine at_region [0, 1, 2] rfl ?_
                                iterate 3 refine at_s T rfl ?_
                                refine at_end ?_
                                refine at_sub [(0, (.slice a_b (List.length b) n_b)), (6, (.pointer (some ⟨b1, 0, none⟩))), (9, (.pointer (some ⟨b2, 0, none⟩))), (10, (.int .i64 (w64 (w * h)))), (11, (.pointer (some ⟨b5, 0, none⟩))), (12, (.int .i64 (w64 (x16 + 2))))] ⟨rfl, rfl, rfl, rfl, rfl, rfl, trivial⟩ ?_
                                refine at_nb ?_
                                refine at_then ?_
                                obtain rfl := Option.some.inj Z32
                                exact at_mid (x24, a25, n25, H25) [0, 0, 0, 0, 0] ⟨rfl, s25⟩ ⟨rfl, rfl, rfl, rfl, rfl, rfl, trivial⟩ rfl
                    · rintro ⟨x18, a19, n19, H19⟩ ⟨rfl, s19⟩
                      refine at_then ?_
                      exact at_roundL (k17, x18, (w64 (x16 + 2)), a19, n19, H19) [0, 0, 0, 0, 0] ⟨Z20, s19⟩ (Nat.lt_succ_self _) ⟨rfl, rfl, rfl, rfl, rfl, rfl, trivial⟩ rfl
                  · replace Z20 := if_f (of_decide_eq_false c21) Z20
                    refine at_exit ?_
                    refine at_xt ?_
                    refine at_xt ?_
                    refine at_xb ?_
                    refine at_nb ?_
                    refine at_then ?_
                    obtain rfl := Option.some.inj Z20
                    exact at_mid (x15, x16, a18, n18, H18) [0, 0, 0, 0, 0] ⟨rfl, s18⟩ ⟨rfl, rfl, rfl, rfl, rfl, trivial⟩ rfl
              · replace Z7 := if_f (bf c19) Z7
                refine at_seq ?_
                refine at_region [0, 1, 2, 3] rfl ?_
                refine at_v rfl (g_loadA T (cs := [(.int .i64 0), (.int .i64 0), (.slice none 0 0)]) rfl rfl rfl rfl rfl rfl (in_varA (j := 2) rfl rfl)) ?_
                refine at_cons (at_st T 1 [(.int .i64 0), (.int .i64 0), (.slice none 0 0)] rfl rfl rfl rfl rfl rfl rfl rfl rfl rfl ?_)
                iterate 2 refine at_s T rfl ?_
                refine at_end ?_
                refine at_to [(6, (.pointer (some ⟨b1, 0, none⟩))), (7, (.int .i64 0)), (8, (.int .i64 3))] [0, 0] [F, [(b1, Obj.cells #[(.int .i64 0), (.int .i64 0), (.slice none 0 0)] 26 (0, 0))]] ⟨rfl, rfl, rfl, trivial⟩ rfl ?_
                refine at_then ?_
                refine at_ret ?_
                refine at_rb ?_
                refine at_rt ?_
                obtain rfl := Option.some.inj Z7
                obtain rfl := Option.some.inj (show some ((api_Tile.mk 0 0 []), 0, 3) = some r from H)
                refine at_addnil ?_
                exact at_post (T := T) rfl (.aggv (j := 1) [(.int .i64 0), (.int .i64 0), (.slice none 0 0)] rfl rfl rfl rfl rfl rfl rfl (.tmp rfl (.tmp rfl .nil))) (fun w o => ⟨⟨(_, _), ⟨none, 0, [], SliceO.nil, rfl, rfl⟩⟩, rfl, own_to [2, 0] rfl o⟩)
        · rintro ⟨x5, x6, a6, n6, H6⟩ ⟨rfl, s6⟩
          refine at_seq ?_
          refine at_seq ?_
          refine at_region [0, 1, 2, 3] rfl ?_
          refine at_s T rfl ?_
          refine at_v rfl (g_load T rfl rfl rfl rfl (in_var (j := 3) rfl rfl)) ?_
          obtain ⟨v27, V35, H⟩ := bind_e H
          refine at_cons (at_c (B := fun _ => []) [] rfl rfl rfl rfl has18 rfl rfl (ref1_full.c x5 v27 _ V35 (own_of s6 (j := 4) rfl) s6.cap_le) (fun _ => ?_))
          refine at_s T rfl ?_
          refine at_end ?_
          refine at_sub [(0, (.slice a_b (List.length b) n_b)), (6, (.pointer (some ⟨b1, 0, none⟩))), (9, (.pointer (some ⟨b2, 0, none⟩))), (11, (.pointer (some ⟨b5, 0, none⟩))), (12, (.int .i64 x6)), (150, (.bool (!v27)))] ⟨rfl, rfl, rfl, rfl, rfl, rfl, trivial⟩ ?_
          refine at_then ?_
          refine at_cond rfl (fun c36 => ?_) (fun c36 => ?_)
          · replace H := if_t c36 H
            refine at_seq ?_
            refine at_region [0, 1, 2, 3] rfl ?_
            refine at_v rfl (g_loadA T (cs := [(.int .i64 0), (.int .i64 0), (.slice none 0 0)]) rfl rfl rfl rfl rfl rfl (in_varA (j := 2) rfl rfl)) ?_
            refine at_cons (at_st T 1 [(.int .i64 0), (.int .i64 0), (.slice none 0 0)] rfl rfl rfl rfl rfl rfl rfl rfl rfl rfl ?_)
            iterate 2 refine at_s T rfl ?_
            refine at_end ?_
            refine at_to [(6, (.pointer (some ⟨b1, 0, none⟩))), (7, (.int .i64 0)), (8, (.int .i64 3))] [0, 0] [F, [(b1, Obj.cells #[(.int .i64 0), (.int .i64 0), (.slice none 0 0)] 26 (0, 0))]] ⟨rfl, rfl, rfl, trivial⟩ rfl ?_
            refine at_then ?_
            refine at_ret ?_
            refine at_rt ?_
            obtain rfl := Option.some.inj H
            refine at_addnil ?_
            exact at_post (T := T) rfl (.aggv (j := 1) [(.int .i64 0), (.int .i64 0), (.slice none 0 0)] rfl rfl rfl rfl rfl rfl rfl (.tmp rfl (.tmp rfl .nil))) (fun w o => ⟨⟨(_, _), ⟨none, 0, [], SliceO.nil, rfl, rfl⟩⟩, rfl, own_to [2, 0] rfl o⟩)
          · replace H := if_f (bf c36) H
            refine at_skip ?_
            refine at_then ?_
            refine at_seq ?_
            refine at_seq ?_
            refine at_region [0, 1, 2, 3, 4, 5, 6] rfl ?_
            refine at_v rfl (g_loadA T (cs := [(.int .i64 w), (.int .i64 h), (.slice a6 (List.length x5) n6)]) rfl rfl rfl rfl rfl rfl (in_varA (j := 3) rfl rfl)) ?_
            obtain ⟨v28, V37, H⟩ := bind_e H
            refine at_cons (at_cR (ref1_PutTile.R v28) [] [] rfl rfl rfl rfl has19 rfl rfl (ref1_PutTile.c (api_Tile.mk w h x5) v28 _ V37 (own_of s6 (j := 4) rfl) s6.cap_le) ?_)
            rintro _ _ ⟨a30, n30, H30, s30, rfl, rfl⟩
            iterate 5 refine at_s T rfl ?_
            refine at_end ?_
            refine at_sub [(0, (.slice a_b (List.length b) n_b)), (6, (.pointer (some ⟨b1, 0, none⟩))), (9, (.pointer (some ⟨b2, 0, none⟩))), (11, (.pointer (some ⟨b5, 0, none⟩))), (12, (.int .i64 x6)), (18, (.slice a30 (List.length v28.2) n30))] ⟨rfl, rfl, rfl, rfl, rfl, rfl, trivial⟩ ?_
            refine at_then ?_
            refine at_seq ?_
            refine at_region [0, 1, 2, 3, 4, 5] rfl ?_
            iterate 3 refine at_s T rfl ?_
            obtain ⟨c38, H⟩ := chk_e H
            refine at_v rfl (g_sub T rfl rfl rfl rfl rfl rfl c38 c_b) ?_
            obtain ⟨v29, V39, H⟩ := bind_e H
            refine at_cons (at_c (B := fun _ => []) [] rfl rfl rfl rfl has12 rfl rfl (ref1_Bytes.c v28.2 (sub' b 0 x6) v29 _ V39 (own_of s30 (j := 5) rfl) s30.cap_le (sub_r (ro_of h_b (j := 0) rfl) c38 c_b) (sub_cap c38 c_b)) (fun _ => ?_))
            refine at_s T rfl ?_
            refine at_end ?_
            refine at_to [(6, (.pointer (some ⟨b1, 0, none⟩))), (9, (.pointer (some ⟨b2, 0, none⟩))), (11, (.pointer (some ⟨b5, 0, none⟩))), (12, (.int .i64 x6)), (162, (.bool (!v29)))] [0, 0, 0, 0, 0] [F, [(b1, Obj.cells #[(.int .i64 0), (.int .i64 0), (.slice none 0 0)] 26 (0, 0))], [(b2, Obj.cells #[(.int .i64 0), (.int .i64 0), (.slice none 0 0)] 26 (0, 0))], [(b5, Obj.cells #[(.int .i64 w), (.int .i64 h), (.slice a6 (List.length x5) n6)] 26 (0, 0))], H6] ⟨rfl, rfl, rfl, rfl, rfl, trivial⟩ rfl ?_
            refine at_then ?_
            refine at_cond rfl (fun c40 => ?_) (fun c40 => ?_)
            · replace H := if_t c40 H
              refine at_seq ?_
              refine at_region [0, 1, 2, 3] rfl ?_
              refine at_v rfl (g_loadA T (cs := [(.int .i64 0), (.int .i64 0), (.slice none 0 0)]) rfl rfl rfl rfl rfl rfl (in_varA (j := 2) rfl rfl)) ?_
              refine at_cons (at_st T 1 [(.int .i64 0), (.int .i64 0), (.slice none 0 0)] rfl rfl rfl rfl rfl rfl rfl rfl rfl rfl ?_)
              iterate 2 refine at_s T rfl ?_
              refine at_end ?_
              refine at_to [(6, (.pointer (some ⟨b1, 0, none⟩))), (7, (.int .i64 0)), (8, (.int .i64 3))] [0, 0] [F, [(b1, Obj.cells #[(.int .i64 0), (.int .i64 0), (.slice none 0 0)] 26 (0, 0))]] ⟨rfl, rfl, rfl, trivial⟩ rfl ?_
              refine at_then ?_
              refine at_ret ?_
              refine at_rt ?_
              obtain rfl := Option.some.inj H
              refine at_addnil ?_
              exact at_post (T := T) rfl (.aggv (j := 1) [(.int .i64 0), (.int .i64 0), (.slice none 0 0)] rfl rfl rfl rfl rfl rfl rfl (.tmp rfl (.tmp rfl .nil))) (fun w o => ⟨⟨(_, _), ⟨none, 0, [], SliceO.nil, rfl, rfl⟩⟩, rfl, own_to [2, 0] rfl o⟩)
            · replace H := if_f (bf c40) H
              refine at_skip ?_
              refine at_then ?_
              refine at_seq ?_
              refine at_region [0, 1, 2, 3, 4] rfl ?_
              refine at_v rfl (g_loadA T (cs := [(.int .i64 w), (.int .i64 h), (.slice a6 (List.length x5) n6)]) rfl rfl rfl rfl rfl rfl (in_varA (j := 3) rfl rfl)) ?_
              refine at_s T rfl ?_
              refine at_cons (at_st T 1 [(.int .i64 w), (.int .i64 h), (.slice a6 (List.length x5) n6)] rfl rfl rfl rfl rfl rfl rfl rfl rfl rfl ?_)
              iterate 2 refine at_s T rfl ?_
              refine at_end ?_
              refine at_to [(6, (.pointer (some ⟨b1, 0, none⟩))), (7, (.int .i64 x6)), (8, (.int .i64 0))] [0, 0, 2] [F, [(b1, Obj.cells #[(.int .i64 w), (.int .i64 h), (.slice a6 (List.length x5) n6)] 26 (0, 0))], H6] ⟨rfl, rfl, rfl, trivial⟩ rfl ?_
              refine at_then ?_
              refine at_ret ?_
              obtain rfl := Option.some.inj H
              exact at_post (T := T) rfl (.aggv (j := 1) [(.int .i64 w), (.int .i64 h), (.slice a6 (List.length x5) n6)] rfl rfl rfl rfl rfl rfl rfl (.tmp rfl (.tmp rfl .nil))) (fun w o => ⟨⟨(_, _), ⟨a6, n6, H6, s6, rfl, rfl⟩⟩, rfl, own_to [2, 0] rfl o⟩)

/-! ### herdsman/herdsmanref1.SameTile: function 11 -/
def ref1_SameTile.f (a : api_Tile) (b : api_Tile) : Option Bool := (if (a.W == b.W) = true then (if (a.H == b.H) = true then ((ref1_Bytes.f a.C b.C).bind fun v3 => some v3) else (some false)) else (some false)).bind fun x1 => some x1
set_option maxHeartbeats 4000000 in
theorem ref1_SameTile.c {a_a_C : Option Addr} {n_a_C : Nat} {a_b_C : Option Addr} {n_b_C : Nat} (a : api_Tile) (b : api_Tile) (r : Bool) (F : Hp) (H : ref1_SameTile.f a b = some r) (h_a_C : SliceR (Fl.int .u8) a.C a_a_C F) (c_a_C : List.length a.C ≤ n_a_C) (h_b_C : SliceR (Fl.int .u8) b.C a_b_C F) (c_b_C : List.length b.C ≤ n_b_C) :
    CallsL Tryd.prog 11 [(.agg #[(.int .i64 a.W), (.int .i64 a.H), (.slice a_a_C (List.length a.C) n_a_C)]), (.agg #[(.int .i64 b.W), (.int .i64 b.H), (.slice a_b_C (List.length b.C) n_b_C)])] [F] (fun _ : Unit => (.bool r)) (fun _ => [F]) := by
  unfold ref1_SameTile.f at H
  refine calls_atL [(0, (.agg #[(.int .i64 a.W), (.int .i64 a.H), (.slice a_a_C (List.length a.C) n_a_C)])), (1, (.agg #[(.int .i64 b.W), (.int .i64 b.H), (.slice a_b_C (List.length b.C) n_b_C)]))] Tryd.func11 rfl rfl ⟨rfl, rfl, trivial⟩ (fun W => ?_)
  refine at_seq ?_
  refine at_region [0, 1, 2] rfl ?_
  refine at_cons (at_bx T [(.int .i64 a.W), (.int .i64 a.H), (.slice a_a_C (List.length a.C) n_a_C)] rfl rfl rfl rfl (fun b1 => ?_))
  refine at_cons (at_bx T [(.int .i64 b.W), (.int .i64 b.H), (.slice a_b_C (List.length b.C) n_b_C)] rfl rfl rfl rfl (fun b2 => ?_))
  refine at_s T rfl ?_
  refine at_end ?_
  refine at_sub [(2, (.pointer (some ⟨b1, 0, none⟩))), (3, (.pointer (some ⟨b2, 0, none⟩)))] ⟨rfl, rfl, trivial⟩ ?_
  refine at_then ?_
  obtain ⟨z2, Z1, H⟩ := bind_e H
  refine at_seq_mid (σ := Bool) (fun x1 => x1 = z2) (fun x1 => [(4, (.bool x1))]) (fun x1 => [F]) ?_ ?_
  · refine at_region [0, 1, 2, 3, 4, 5, 6, 7, 8, 9, 10, 11, 12, 13, 14, 15, 16, 17, 18, 19] rfl ?_
    refine at_s T rfl ?_
    refine at_v rfl (g_load T rfl rfl rfl rfl (in_var (j := 1) rfl rfl)) ?_
    refine at_s T rfl ?_
    refine at_v rfl (g_load T rfl rfl rfl rfl (in_var (j := 2) rfl rfl)) ?_
    iterate 2 refine at_s T rfl ?_
    refine at_case (s := 10) rfl (fun c2 => ?_) (fun c2 => ?_)
    · replace Z1 := if_t c2 Z1
      refine at_s T rfl ?_
      refine at_v rfl (g_load T rfl rfl rfl rfl (in_var (j := 1) rfl rfl)) ?_
      refine at_s T rfl ?_
      refine at_v rfl (g_load T rfl rfl rfl rfl (in_var (j := 2) rfl rfl)) ?_
      iterate 3 refine at_s T rfl ?_
      refine at_case (s := 17) rfl (fun c3 => ?_) (fun c3 => ?_)
      · replace Z1 := if_t c3 Z1
        refine at_s T rfl ?_
        refine at_v rfl (g_load T rfl rfl rfl rfl (in_var (j := 1) rfl rfl)) ?_
        refine at_s T rfl ?_
        refine at_v rfl (g_load T rfl rfl rfl rfl (in_var (j := 2) rfl rfl)) ?_
        obtain ⟨v3, V4, Z1⟩ := bind_e Z1
        refine at_cons (at_c (B := fun _ => []) [] rfl rfl rfl rfl has12 rfl rfl (ref1_Bytes.c a.C b.C v3 _ V4 (ro_of h_a_C (j := 0) rfl) c_a_C (ro_of h_b_C (j := 0) rfl) c_b_C) (fun _ => ?_))
        iterate 2 refine at_s T rfl ?_
        refine at_end ?_
        refine at_to [(4, (.bool v3))] [0] [F] ⟨rfl, trivial⟩ rfl ?_
        refine at_then ?_
        obtain rfl := Option.some.inj Z1
        exact at_mid v3 [0] rfl ⟨rfl, trivial⟩ rfl
      · replace Z1 := if_f (bf c3) Z1
        iterate 7 refine at_s T rfl ?_
        refine at_end ?_
        refine at_to [(4, (.bool false))] [0] [F] ⟨rfl, trivial⟩ rfl ?_
        refine at_then ?_
        obtain rfl := Option.some.inj Z1
        exact at_mid false [0] rfl ⟨rfl, trivial⟩ rfl
    · replace Z1 := if_f (bf c2) Z1
      iterate 14 refine at_s T rfl ?_
      refine at_end ?_
      refine at_to [(4, (.bool false))] [0] [F] ⟨rfl, trivial⟩ rfl ?_
      refine at_then ?_
      obtain rfl := Option.some.inj Z1
      exact at_mid false [0] rfl ⟨rfl, trivial⟩ rfl
  · rintro x1 rfl
    refine at_ret ?_
    obtain rfl := Option.some.inj H
    exact at_post (T := T) rfl (.tmp rfl .nil) (fun w o => ⟨(), rfl, own_to [0] rfl o⟩)

/-! ### herdsman/herdsmanref1.OwnTile: function 20 -/
def ref1_OwnTile.f (t : api_Tile) : Option api_Tile := if (List.length ([] : List Int) + List.length t.C ≤ 1099511627776) then (some (api_Tile.mk t.W t.H (([] : List Int) ++ t.C))) else none
def ref1_OwnTile.R (r : api_Tile) (u : Value) (G : List Hp) : Prop := ∃ (a0 : Option Addr) (n0 : Nat) (H0 : Hp), SliceO (Fl.int .u8) 5 r.C a0 n0 H0 ∧ u = (.agg #[(.int .i64 r.W), (.int .i64 r.H), (.slice a0 (List.length r.C) n0)]) ∧ G = [H0]
set_option maxHeartbeats 4000000 in
theorem ref1_OwnTile.c {a_t_C : Option Addr} {n_t_C : Nat} (t : api_Tile) (r : api_Tile) (F : Hp) (H : ref1_OwnTile.f t = some r) (h_t_C : SliceR (Fl.int .u8) t.C a_t_C F) (c_t_C : List.length t.C ≤ n_t_C) :
    CallsL Tryd.prog 20 [(.agg #[(.int .i64 t.W), (.int .i64 t.H), (.slice a_t_C (List.length t.C) n_t_C)])] [F] (fun qp : { qp : Value × List Hp // ref1_OwnTile.R r qp.1 qp.2 } => qp.1.1) (fun qp => (qp.1.2 ++ []) ++ [F]) := by
  unfold ref1_OwnTile.f at H
  refine calls_atL [(0, (.agg #[(.int .i64 t.W), (.int .i64 t.H), (.slice a_t_C (List.length t.C) n_t_C)]))] Tryd.func20 rfl rfl ⟨rfl, trivial⟩ (fun W => ?_)
  refine at_seq ?_
  refine at_region [0, 1] rfl ?_
  refine at_cons (at_bx T [(.int .i64 t.W), (.int .i64 t.H), (.slice a_t_C (List.length t.C) n_t_C)] rfl rfl rfl rfl (fun b1 => ?_))
  refine at_cons (at_al T [(.int .i64 0), (.int .i64 0), (.slice none 0 0)] rfl rfl rfl rfl (fun b2 => ?_))
  refine at_end ?_
  refine at_sub [(1, (.pointer (some ⟨b1, 0, none⟩))), (2, (.pointer (some ⟨b2, 0, none⟩)))] ⟨rfl, rfl, trivial⟩ ?_
  refine at_then ?_
  refine at_seq ?_
  refine at_region [0, 1, 2, 3, 4, 5] rfl ?_
  refine at_cons (at_bs (k := (Fl.int .u8)) T ([] : List Int) rfl rfl rfl rfl rfl rfl rfl rfl rfl (fun a3 H3 s3 => ?_))
  refine at_s T rfl ?_
  refine at_v rfl (g_load T rfl rfl rfl rfl (in_var (j := 1) rfl rfl)) ?_
  obtain ⟨c1, H⟩ := chk_e H
  refine at_cons (at_ap (k := (Fl.int .u8)) (xs := ([] : List Int)) T (g := 3) rfl rfl rfl rfl rfl rfl rfl rfl rfl rfl s3 (ro_of h_t_C (j := 0) rfl) c1 rfl (fun a4 n4 H4 s4 => ?_))
  refine at_s T rfl ?_
  refine at_cons (at_st T 1 [(.int .i64 t.W), (.int .i64 t.H), (.slice a4 (List.length (([] : List Int) ++ t.C)) n4)] rfl rfl rfl rfl rfl rfl rfl rfl rfl rfl ?_)
  refine at_end ?_
  refine at_sub [(1, (.pointer (some ⟨b1, 0, none⟩))), (2, (.pointer (some ⟨b2, 0, none⟩)))] ⟨rfl, rfl, trivial⟩ ?_
  refine at_then ?_
  refine at_seq ?_
  refine at_region [0, 1] rfl ?_
  refine at_v rfl (g_loadA T (cs := [(.int .i64 t.W), (.int .i64 t.H), (.slice a4 (List.length (([] : List Int) ++ t.C)) n4)]) rfl rfl rfl rfl rfl rfl (in_varA (j := 1) rfl rfl)) ?_
  refine at_cons (at_st T 2 [(.int .i64 t.W), (.int .i64 t.H), (.slice a4 (List.length (([] : List Int) ++ t.C)) n4)] rfl rfl rfl rfl rfl rfl rfl rfl rfl rfl ?_)
  refine at_end ?_
  refine at_to [(2, (.pointer (some ⟨b2, 0, none⟩)))] [0, 1, 1] [F, [(b2, Obj.cells #[(.int .i64 t.W), (.int .i64 t.H), (.slice a4 (List.length (([] : List Int) ++ t.C)) n4)] 26 (0, 0))], H4] ⟨rfl, trivial⟩ rfl ?_
  refine at_then ?_
  refine at_ret ?_
  obtain rfl := Option.some.inj H
  exact at_post (T := T) rfl (.aggv (j := 1) [(.int .i64 t.W), (.int .i64 t.H), (.slice a4 (List.length (([] : List Int) ++ t.C)) n4)] rfl rfl rfl rfl rfl rfl rfl .nil) (fun w o => ⟨⟨(_, _), ⟨a4, n4, H4, s4, rfl, rfl⟩⟩, rfl, own_to [2, 0] rfl o⟩)

/-! ### herdsman/herdsmanref1.Cost: function 33 -/
def ref1_Cost.f (x : Int) : Option Int := if ((Int.tmod x 8) == 7) = true then (some 255) else (if x < 160 then (some (wu8 (1 + (Int.tmod x 4)))) else (some x))
set_option maxHeartbeats 4000000 in
theorem ref1_Cost.c (x : Int) (r : Int) (F : Hp) (H : ref1_Cost.f x = some r) :
    CallsL Tryd.prog 33 [(.int .u8 x)] [F] (fun _ : Unit => (.int .u8 r)) (fun _ => [F]) := by
  unfold ref1_Cost.f at H
  refine calls_atL [(0, (.int .u8 x))] Tryd.func33 rfl rfl ⟨rfl, trivial⟩ (fun W => ?_)
  refine at_seq ?_
  refine at_region [0] rfl ?_
  refine at_s T rfl ?_
  refine at_end ?_
  refine at_sub [(0, (.int .u8 x))] ⟨rfl, trivial⟩ ?_
  refine at_then ?_
  refine at_seq ?_
  refine at_seq ?_
  refine at_region [0, 1, 2] rfl ?_
  iterate 3 refine at_s T rfl ?_
  refine at_end ?_
  refine at_sub [(0, (.int .u8 x)), (5, (.bool ((Int.tmod x 8) == 7)))] ⟨rfl, rfl, trivial⟩ ?_
  refine at_then ?_
  refine at_cond rfl (fun c1 => ?_) (fun c1 => ?_)
  · replace H := if_t c1 H
    refine at_seq ?_
    refine at_region [0] rfl ?_
    refine at_s T rfl ?_
    refine at_end ?_
    refine at_sub [(2, (.int .u8 255))] ⟨rfl, trivial⟩ ?_
    refine at_then ?_
    refine at_ret ?_
    refine at_rt ?_
    obtain rfl := Option.some.inj H
    exact at_post (T := T) rfl (.tmp rfl .nil) (fun w o => ⟨(), rfl, own_to [0] rfl o⟩)
  · replace H := if_f (bf c1) H
    refine at_skip ?_
    refine at_then ?_
    refine at_seq ?_
    refine at_seq ?_
    refine at_region [0, 1] rfl ?_
    iterate 2 refine at_s T rfl ?_
    refine at_end ?_
    refine at_sub [(0, (.int .u8 x)), (7, (.bool (decide (x < 160))))] ⟨rfl, rfl, trivial⟩ ?_
    refine at_then ?_
    refine at_cond rfl (fun c2 => ?_) (fun c2 => ?_)
    · replace H := if_t (of_decide_eq_true c2) H
      refine at_seq ?_
      refine at_region [0, 1, 2, 3] rfl ?_
      iterate 4 refine at_s T rfl ?_
      refine at_end ?_
      refine at_sub [(2, (.int .u8 (wu8 (1 + (Int.tmod x 4)))))] ⟨rfl, trivial⟩ ?_
      refine at_then ?_
      refine at_ret ?_
      refine at_rt ?_
      obtain rfl := Option.some.inj H
      exact at_post (T := T) rfl (.tmp rfl .nil) (fun w o => ⟨(), rfl, own_to [0] rfl o⟩)
    · replace H := if_f (of_decide_eq_false c2) H
      refine at_skip ?_
      refine at_then ?_
      refine at_seq ?_
      refine at_region [0, 1] rfl ?_
      iterate 2 refine at_s T rfl ?_
      refine at_end ?_
      refine at_sub [(2, (.int .u8 x))] ⟨rfl, trivial⟩ ?_
      refine at_then ?_
      refine at_ret ?_
      obtain rfl := Option.some.inj H
      exact at_post (T := T) rfl (.tmp rfl .nil) (fun w o => ⟨(), rfl, own_to [0] rfl o⟩)

/-! ### herdsman/herdsmanref1.MadeTile: function 21 -/
def ref1_MadeTile.l0 : Nat → (List Int) → Int → Int → List Int → Int → Option api_Tile
  | 0, _, _, _, _, _ => none
  | k7 + 1, c, v1, v2, x5, x6 => if x6 < (w64 (v1 * v2)) then (if (List.length c : Int) > 0 then (if (¬ (List.length c : Int) = 0) then (if (¬ (List.length c : Int) = 0) then (if (0 ≤ (Int.tmod (w64 (x6 + (w64 ((w64 (Int.tdiv x6 (List.length c : Int))) * 5)))) (List.length c : Int)) ∧ (Int.tmod (w64 (x6 + (w64 ((w64 (Int.tdiv x6 (List.length c : Int))) * 5)))) (List.length c : Int)) < (List.length c : Int)) then ((ref1_Cost.f (rd c (Int.tmod (w64 (x6 + (w64 ((w64 (Int.tdiv x6 (List.length c : Int))) * 5)))) (List.length c : Int)))).bind fun v8 => if (List.length x5 + 1 ≤ 1099511627776) then (ref1_MadeTile.l0 k7 c v1 v2 (x5 ++ [v8]) (w64 (x6 + 1))) else none) else none) else none) else none) else ((ref1_Cost.f 1).bind fun v9 => if (List.length x5 + 1 ≤ 1099511627776) then (ref1_MadeTile.l0 k7 c v1 v2 (x5 ++ [v9]) (w64 (x6 + 1))) else none)) else (some (api_Tile.mk v1 v2 x5))
def ref1_MadeTile.f (w : Int) (h : Int) (c : (List Int)) : Option api_Tile := (ref1_Within.f w 1 16).bind fun v1 => (ref1_Within.f h 1 16).bind fun v2 => ref1_MadeTile.l0 fuel c v1 v2 [] 0
def ref1_MadeTile.R (r : api_Tile) (u : Value) (G : List Hp) : Prop := ∃ (a0 : Option Addr) (n0 : Nat) (H0 : Hp), SliceO (Fl.int .u8) 5 r.C a0 n0 H0 ∧ u = (.agg #[(.int .i64 r.W), (.int .i64 r.H), (.slice a0 (List.length r.C) n0)]) ∧ G = [H0]
set_option maxHeartbeats 4000000 in
theorem ref1_MadeTile.c {a_c : Option Addr} {n_c : Nat} (w : Int) (h : Int) (c : (List Int)) (r : api_Tile) (F : Hp) (H : ref1_MadeTile.f w h c = some r) (h_c : SliceR (Fl.int .u8) c a_c F) (c_c : List.length c ≤ n_c) :
    CallsL Tryd.prog 21 [(.int .i64 w), (.int .i64 h), (.slice a_c (List.length c) n_c)] [F] (fun qp : { qp : Value × List Hp // ref1_MadeTile.R r qp.1 qp.2 } => qp.1.1) (fun qp => (qp.1.2 ++ []) ++ [F]) := by
  unfold ref1_MadeTile.f at H
  refine calls_atL [(0, (.int .i64 w)), (1, (.int .i64 h)), (2, (.slice a_c (List.length c) n_c))] Tryd.func21 rfl rfl ⟨rfl, rfl, rfl, trivial⟩ (fun W => ?_)
  refine at_seq ?_
  refine at_region [0] rfl ?_
  refine at_cons (at_al T [(.int .i64 0), (.int .i64 0), (.slice none 0 0)] rfl rfl rfl rfl (fun b1 => ?_))
  refine at_end ?_
  refine at_sub [(0, (.int .i64 w)), (1, (.int .i64 h)), (2, (.slice a_c (List.length c) n_c)), (6, (.pointer (some ⟨b1, 0, none⟩)))] ⟨rfl, rfl, rfl, rfl, trivial⟩ ?_
  refine at_then ?_
  refine at_seq ?_
  refine at_region [0, 1, 2, 3, 4, 5, 6] rfl ?_
  refine at_s T rfl ?_
  obtain ⟨v1, V1, H⟩ := bind_e H
  refine at_cons (at_c (B := fun _ => []) [] rfl rfl rfl rfl has8 rfl rfl (ref1_Within.c w 1 16 v1 _ V1) (fun _ => ?_))
  refine at_s T rfl ?_
  obtain ⟨v2, V2, H⟩ := bind_e H
  refine at_cons (at_c (B := fun _ => []) [] rfl rfl rfl rfl has8 rfl rfl (ref1_Within.c h 1 16 v2 _ V2) (fun _ => ?_))
  refine at_s T rfl ?_
  refine at_cons (at_al T [(.int .i64 0), (.int .i64 0), (.slice none 0 0)] rfl rfl rfl rfl (fun b2 => ?_))
  refine at_cons (at_st T 2 [(.int .i64 v1), (.int .i64 v2), (.slice none 0 0)] rfl rfl rfl rfl rfl rfl rfl rfl rfl rfl ?_)
  refine at_end ?_
  refine at_sub [(2, (.slice a_c (List.length c) n_c)), (6, (.pointer (some ⟨b1, 0, none⟩))), (7, (.pointer (some ⟨b2, 0, none⟩)))] ⟨rfl, rfl, rfl, trivial⟩ ?_
  refine at_then ?_
  refine at_seq ?_
  refine at_seq ?_
  refine at_region [0] rfl ?_
  refine at_s T rfl ?_
  refine at_end ?_
  refine at_sub [(2, (.slice a_c (List.length c) n_c)), (6, (.pointer (some ⟨b1, 0, none⟩))), (7, (.pointer (some ⟨b2, 0, none⟩))), (8, (.int .i64 0))] ⟨rfl, rfl, rfl, rfl, trivial⟩ ?_
  refine at_then ?_
  refine at_block ?_
  refine at_addnil ?_
  refine at_loopL (σ := Nat × List Int × Int × Option Addr × Nat × Hp) (fun ⟨k7, x5, x6, a4, n4, H4⟩ => ref1_MadeTile.l0 k7 c v1 v2 x5 x6 = some r ∧ SliceO (Fl.int .u8) 5 x5 a4 n4 H4) (fun ⟨k7, x5, x6, a4, n4, H4⟩ => [(2, (.slice a_c (List.length c) n_c)), (6, (.pointer (some ⟨b1, 0, none⟩))), (7, (.pointer (some ⟨b2, 0, none⟩))), (8, (.int .i64 x6))]) (fun ⟨k7, x5, x6, a4, n4, H4⟩ => [F, [(b1, Obj.cells #[(.int .i64 0), (.int .i64 0), (.slice none 0 0)] 26 (0, 0))], [(b2, Obj.cells #[(.int .i64 v1), (.int .i64 v2), (.slice a4 (List.length x5) n4)] 26 (0, 0))], H4]) (fun s => s.1) (fuel, [], 0, none, 0, []) [0, 0, 0, 0] ⟨H, SliceO.nil⟩ ⟨rfl, rfl, rfl, rfl, trivial⟩ rfl ?_
  rintro ⟨k7, x5, x6, a4, n4, H4⟩ ⟨Z3, s4⟩
  replace Z3 : ref1_MadeTile.l0 k7 c v1 v2 x5 x6 = some r := Z3
  rcases k7 with _ | k7
  · rw [ref1_MadeTile.l0] at Z3; cases Z3
  · rw [ref1_MadeTile.l0] at Z3
    refine at_seq ?_
    refine at_seq ?_
    refine at_region [0, 1, 2, 3, 4, 5, 6] rfl ?_
    iterate 2 refine at_s T rfl ?_
    refine at_v rfl (g_load T rfl rfl rfl rfl (in_var (j := 2) rfl rfl)) ?_
    refine at_s T rfl ?_
    refine at_v rfl (g_load T rfl rfl rfl rfl (in_var (j := 2) rfl rfl)) ?_
    iterate 2 refine at_s T rfl ?_
    refine at_end ?_
    refine at_sub [(2, (.slice a_c (List.length c) n_c)), (6, (.pointer (some ⟨b1, 0, none⟩))), (7, (.pointer (some ⟨b2, 0, none⟩))), (8, (.int .i64 x6)), (22, (.bool (decide (x6 < (w64 (v1 * v2))))))] ⟨rfl, rfl, rfl, rfl, rfl, trivial⟩ ?_
    refine at_then ?_
    refine at_cond rfl (fun c4 => ?_) (fun c4 => ?_)
    · replace Z3 := if_t (of_decide_eq_true c4) Z3
      refine at_skip ?_
      refine at_then ?_
      refine at_seq ?_
      refine at_block ?_
      refine at_seq ?_
      refine at_region [0] rfl ?_
      refine at_s T rfl ?_
      refine at_end ?_
      refine at_sub [(2, (.slice a_c (List.length c) n_c)), (6, (.pointer (some ⟨b1, 0, none⟩))), (7, (.pointer (some ⟨b2, 0, none⟩))), (8, (.int .i64 x6)), (9, (.int .u8 1))] ⟨rfl, rfl, rfl, rfl, rfl, trivial⟩ ?_
      refine at_then ?_
      refine at_seq ?_
      refine at_seq ?_
      refine at_region [0, 1, 2] rfl ?_
      iterate 3 refine at_s T rfl ?_
      refine at_end ?_
      refine at_sub [(2, (.slice a_c (List.length c) n_c)), (6, (.pointer (some ⟨b1, 0, none⟩))), (7, (.pointer (some ⟨b2, 0, none⟩))), (8, (.int .i64 x6)), (9, (.int .u8 1)), (10, (.int .i64 (List.length c : Int)))] ⟨rfl, rfl, rfl, rfl, rfl, rfl, trivial⟩ ?_
      refine at_then ?_
      refine at_seq ?_
      refine at_region [0, 1] rfl ?_
      iterate 2 refine at_s T rfl ?_
      refine at_end ?_
      refine at_sub [(2, (.slice a_c (List.length c) n_c)), (6, (.pointer (some ⟨b1, 0, none⟩))), (7, (.pointer (some ⟨b2, 0, none⟩))), (8, (.int .i64 x6)), (9, (.int .u8 1)), (10, (.int .i64 (List.length c : Int))), (28, (.bool (decide ((List.length c : Int) > 0))))] ⟨rfl, rfl, rfl, rfl, rfl, rfl, rfl, trivial⟩ ?_
      refine at_then ?_
      refine at_cond rfl (fun c5 => ?_) (fun c5 => ?_)
      · replace Z3 := if_t (of_decide_eq_true c5) Z3
        refine at_region [0, 1, 2, 3, 4, 5, 6, 7, 8, 9, 10, 11] rfl ?_
        iterate 4 refine at_s T rfl ?_
        obtain ⟨c6, Z3⟩ := chk_e Z3
        refine at_v rfl (g_quo rfl rfl rfl c6) ?_
        iterate 3 refine at_s T rfl ?_
        obtain ⟨c7, Z3⟩ := chk_e Z3
        refine at_v rfl (g_rem rfl rfl rfl c7) ?_
        obtain ⟨c8, Z3⟩ := chk_e Z3
        obtain ⟨q5, o5, e5⟩ := h_c.addr c8.1 c8.2
        refine at_v rfl (g_index T rfl rfl rfl rfl rfl e5 c8.1 c8.2) ?_
        refine at_v rfl (g_load T rfl rfl rfl rfl (in_elem1 (k := (Fl.int .u8)) (ro_of h_c (j := 0) rfl) e5 c8 0 rfl)) ?_
        refine at_s T rfl ?_
        refine at_end ?_
        refine at_sub [(2, (.slice a_c (List.length c) n_c)), (6, (.pointer (some ⟨b1, 0, none⟩))), (7, (.pointer (some ⟨b2, 0, none⟩))), (8, (.int .i64 x6)), (9, (.int .u8 (rd c (Int.tmod (w64 (x6 + (w64 ((w64 (Int.tdiv x6 (List.length c : Int))) * 5)))) (List.length c : Int)))))] ⟨rfl, rfl, rfl, rfl, rfl, trivial⟩ ?_
        refine at_then ?_
        refine at_region_m [[], [0], [], [2], [2, 3], [0, 1, 2, 3, 4], [0, 1, 2, 3, 4, 5], [0, 1, 2, 3, 4, 5, 6]] [5, 7] [F, [(b1, Obj.cells #[(.int .i64 0), (.int .i64 0), (.slice none 0 0)] 26 (0, 0))], [(b2, Obj.cells #[(.int .i64 v1), (.int .i64 v2), (.slice a4 (List.length x5) n4)] 26 (0, 0))], H4] mix (by kernel_rfl) (by repeat first | exact pf_body | refine pf_then ?_ | refine pf_block ?_) (fun hg pf => ?_)
        refine atm_s T 0 hg pf (by kernel_rfl) (still_o [0, 0, 0, 0] rfl) rfl ?_
        refine atm_v 1 hg pf (by kernel_rfl) (still_o [0, 0, 0, 0] rfl) rfl rfl (g_load T rfl rfl rfl rfl (in_var (j := 2) rfl rfl)) ?_
        refine atm_s T 2 hg pf (by kernel_rfl) (still_o [0, 0, 0, 0] rfl) rfl ?_
        refine atm_one 3 (by kernel_rfl) ?_
        obtain ⟨v8, V9, Z3⟩ := bind_e Z3
        refine at_c (B := fun _ => []) [] rfl rfl rfl rfl has33 rfl rfl (ref1_Cost.c (rd c (Int.tmod (w64 (x6 + (w64 ((w64 (Int.tdiv x6 (List.length c : Int))) * 5)))) (List.length c : Int))) v8 _ V9) (fun _ => ?_)
        refine atm_next (still_o [0, 0, 0, 0] rfl) ?_
        refine atm_one 4 (by kernel_rfl) ?_
        refine at_bs (k := (Fl.int .u8)) T [v8] rfl rfl rfl rfl rfl rfl rfl rfl rfl (fun a6 H6 s6 => ?_)
        refine atm_next (still_o [0, 0, 0, 0] rfl) ?_
        refine atm_one 5 (by kernel_rfl) ?_
        obtain ⟨c10, Z3⟩ := chk_e Z3
        refine at_ap (k := (Fl.int .u8)) (xs := x5) T (g := 3) rfl rfl rfl rfl rfl rfl rfl rfl rfl rfl s4 (own_of s6 (j := 4) rfl) c10 rfl (fun a7 n7 H7 s7 => ?_)
        refine atm_next (still_l (by kernel_rfl)) ?_
        refine atm_s T 6 hg pf (by kernel_rfl) (still_l (by kernel_rfl)) rfl ?_
        refine atm_one 7 (by kernel_rfl) ?_
        refine at_st T 2 [(.int .i64 v1), (.int .i64 v2), (.slice a7 (List.length (x5 ++ [v8])) n7)] rfl rfl rfl rfl rfl rfl rfl rfl rfl rfl ?_
        refine atm_next (still_l (by kernel_rfl)) ?_
        refine atm_end (by kernel_rfl) ?_
        refine at_to [(2, (.slice a_c (List.length c) n_c)), (6, (.pointer (some ⟨b1, 0, none⟩))), (7, (.pointer (some ⟨b2, 0, none⟩))), (8, (.int .i64 x6))] [0, 0, 0, 0] [F, [(b1, Obj.cells #[(.int .i64 0), (.int .i64 0), (.slice none 0 0)] 26 (0, 0))], [(b2, Obj.cells #[(.int .i64 v1), (.int .i64 v2), (.slice a7 (List.length (x5 ++ [v8])) n7)] 26 (0, 0))], H7] ⟨rfl, rfl, rfl, rfl, trivial⟩ rfl ?_
        refine at_nb ?_
        refine at_then ?_
        refine at_region [0, 1, 2] rfl ?_
        iterate 3 refine at_s T rfl ?_
        refine at_end ?_
        refine at_sub [(2, (.slice a_c (List.length c) n_c)), (6, (.pointer (some ⟨b1, 0, none⟩))), (7, (.pointer (some ⟨b2, 0, none⟩))), (8, (.int .i64 (w64 (x6 + 1))))] ⟨rfl, rfl, rfl, rfl, trivial⟩ ?_
        refine at_then ?_
        exact at_roundL (k7, (x5 ++ [v8]), (w64 (x6 + 1)), a7, n7, H7) [0, 0, 0, 0] ⟨Z3, s7⟩ (Nat.lt_succ_self _) ⟨rfl, rfl, rfl, rfl, trivial⟩ rfl
      · replace Z3 := if_f (of_decide_eq_false c5) Z3
        refine at_skip ?_
        refine at_then ?_
        refine at_region_m [[], [0], [], [2], [2, 3], [0, 1, 2, 3, 4], [0, 1, 2, 3, 4, 5], [0, 1, 2, 3, 4, 5, 6]] [5, 7] [F, [(b1, Obj.cells #[(.int .i64 0), (.int .i64 0), (.slice none 0 0)] 26 (0, 0))], [(b2, Obj.cells #[(.int .i64 v1), (.int .i64 v2), (.slice a4 (List.length x5) n4)] 26 (0, 0))], H4] mix (by kernel_rfl) (by repeat first | exact pf_body | refine pf_then ?_ | refine pf_block ?_) (fun hg pf => ?_)
        refine atm_s T 0 hg pf (by kernel_rfl) (still_o [0, 0, 0, 0] rfl) rfl ?_
        refine atm_v 1 hg pf (by kernel_rfl) (still_o [0, 0, 0, 0] rfl) rfl rfl (g_load T rfl rfl rfl rfl (in_var (j := 2) rfl rfl)) ?_
        refine atm_s T 2 hg pf (by kernel_rfl) (still_o [0, 0, 0, 0] rfl) rfl ?_
        refine atm_one 3 (by kernel_rfl) ?_
        obtain ⟨v9, V11, Z3⟩ := bind_e Z3
        refine at_c (B := fun _ => []) [] rfl rfl rfl rfl has33 rfl rfl (ref1_Cost.c 1 v9 _ V11) (fun _ => ?_)
        refine atm_next (still_o [0, 0, 0, 0] rfl) ?_
        refine atm_one 4 (by kernel_rfl) ?_
        refine at_bs (k := (Fl.int .u8)) T [v9] rfl rfl rfl rfl rfl rfl rfl rfl rfl (fun a8 H8 s8 => ?_)
        refine atm_next (still_o [0, 0, 0, 0] rfl) ?_
        refine atm_one 5 (by kernel_rfl) ?_
        obtain ⟨c12, Z3⟩ := chk_e Z3
        refine at_ap (k := (Fl.int .u8)) (xs := x5) T (g := 3) rfl rfl rfl rfl rfl rfl rfl rfl rfl rfl s4 (own_of s8 (j := 4) rfl) c12 rfl (fun a9 n9 H9 s9 => ?_)
        refine atm_next (still_l (by kernel_rfl)) ?_
        refine atm_s T 6 hg pf (by kernel_rfl) (still_l (by kernel_rfl)) rfl ?_
        refine atm_one 7 (by kernel_rfl) ?_
        refine at_st T 2 [(.int .i64 v1), (.int .i64 v2), (.slice a9 (List.length (x5 ++ [v9])) n9)] rfl rfl rfl rfl rfl rfl rfl rfl rfl rfl ?_
        refine atm_next (still_l (by kernel_rfl)) ?_
        refine atm_end (by kernel_rfl) ?_
        refine at_to [(2, (.slice a_c (List.length c) n_c)), (6, (.pointer (some ⟨b1, 0, none⟩))), (7, (.pointer (some ⟨b2, 0, none⟩))), (8, (.int .i64 x6))] [0, 0, 0, 0] [F, [(b1, Obj.cells #[(.int .i64 0), (.int .i64 0), (.slice none 0 0)] 26 (0, 0))], [(b2, Obj.cells #[(.int .i64 v1), (.int .i64 v2), (.slice a9 (List.length (x5 ++ [v9])) n9)] 26 (0, 0))], H9] ⟨rfl, rfl, rfl, rfl, trivial⟩ rfl ?_
        refine at_nb ?_
        refine at_then ?_
        refine at_region [0, 1, 2] rfl ?_
        iterate 3 refine at_s T rfl ?_
        refine at_end ?_
        refine at_sub [(2, (.slice a_c (List.length c) n_c)), (6, (.pointer (some ⟨b1, 0, none⟩))), (7, (.pointer (some ⟨b2, 0, none⟩))), (8, (.int .i64 (w64 (x6 + 1))))] ⟨rfl, rfl, rfl, rfl, trivial⟩ ?_
        refine at_then ?_
        exact at_roundL (k7, (x5 ++ [v9]), (w64 (x6 + 1)), a9, n9, H9) [0, 0, 0, 0] ⟨Z3, s9⟩ (Nat.lt_succ_self _) ⟨rfl, rfl, rfl, rfl, trivial⟩ rfl
    · replace Z3 := if_f (of_decide_eq_false c4) Z3
      refine at_exit ?_
      refine at_xt ?_
      refine at_xt ?_
      refine at_xb ?_
      refine at_then ?_
      refine at_seq ?_
      refine at_region [0, 1] rfl ?_
      refine at_v rfl (g_loadA T (cs := [(.int .i64 v1), (.int .i64 v2), (.slice a4 (List.length x5) n4)]) rfl rfl rfl rfl rfl rfl (in_varA (j := 2) rfl rfl)) ?_
      refine at_cons (at_st T 1 [(.int .i64 v1), (.int .i64 v2), (.slice a4 (List.length x5) n4)] rfl rfl rfl rfl rfl rfl rfl rfl rfl rfl ?_)
      refine at_end ?_
      refine at_to [(6, (.pointer (some ⟨b1, 0, none⟩)))] [0, 0, 1] [F, [(b1, Obj.cells #[(.int .i64 v1), (.int .i64 v2), (.slice a4 (List.length x5) n4)] 26 (0, 0))], H4] ⟨rfl, trivial⟩ rfl ?_
      refine at_then ?_
      refine at_ret ?_
      obtain rfl := Option.some.inj Z3
      exact at_post (T := T) rfl (.aggv (j := 1) [(.int .i64 v1), (.int .i64 v2), (.slice a4 (List.length x5) n4)] rfl rfl rfl rfl rfl rfl rfl .nil) (fun w o => ⟨⟨(_, _), ⟨a4, n4, H4, s4, rfl, rfl⟩⟩, rfl, own_to [2, 0] rfl o⟩)
end

end Go.Proofs.YtonjonpepfepfaaDoor
