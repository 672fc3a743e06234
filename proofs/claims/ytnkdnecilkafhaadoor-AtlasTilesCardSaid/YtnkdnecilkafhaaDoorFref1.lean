import Derived.Test.YtnkdnecilkafhaaDoorT
namespace Go.Proofs.YtnkdnecilkafhaaDoor
open Go.Hx
set_option maxRecDepth 100000
set_option linter.unusedVariables false
noncomputable section
/-! ### herdsman/herdsmanref1.Bytes: function 16 -/
def ref1_Bytes.f (a : (List Int)) (b : (List Int)) : Option Bool := some (strEq a b)
set_option maxHeartbeats 4000000 in
theorem ref1_Bytes.c {a_a : Option Addr} {n_a : Nat} {a_b : Option Addr} {n_b : Nat} (a : (List Int)) (b : (List Int)) (r : Bool) (F : Hp) (H : ref1_Bytes.f a b = some r) (h_a : SliceR (Fl.int .u8) a a_a F) (c_a : List.length a ≤ n_a) (h_b : SliceR (Fl.int .u8) b a_b F) (c_b : List.length b ≤ n_b) :
    CallsL Tryd.prog 16 [(.slice a_a (List.length a) n_a), (.slice a_b (List.length b) n_b)] [F] (fun _ : Unit => (.bool r)) (fun _ => [F]) := by
  unfold ref1_Bytes.f at H
  refine calls_atL [(0, (.slice a_a (List.length a) n_a)), (1, (.slice a_b (List.length b) n_b))] Tryd.func16 rfl rfl ⟨rfl, rfl, trivial⟩ (fun W => ?_)
  refine at_seq ?_
  refine at_region [0] rfl ?_
  refine at_s T rfl ?_
  refine at_end ?_
  refine at_sub [(0, (.slice a_a (List.length a) n_a)), (1, (.slice a_b (List.length b) n_b))] ⟨rfl, rfl, trivial⟩ ?_
  refine at_then ?_
  refine at_seq ?_
  refine at_region [0, 1, 2, 3, 4, 5] rfl ?_
  refine at_s T rfl ?_
  refine at_v rfl (g_tostr T rfl rfl rfl rfl rfl (ro_of h_a (j := 0) rfl)) ?_
  refine at_s T rfl ?_
  refine at_v rfl (g_tostr T rfl rfl rfl rfl rfl (ro_of h_b (j := 0) rfl)) ?_
  refine at_v rfl (g_streq rfl rfl rfl) ?_
  refine at_s T rfl ?_
  refine at_end ?_
  refine at_sub [(4, (.bool (strEq a b)))] ⟨rfl, trivial⟩ ?_
  refine at_then ?_
  refine at_ret ?_
  obtain rfl := Option.some.inj H
  exact at_post (T := T) rfl (.tmp rfl .nil) (fun w o => ⟨(), rfl, own_to [0] rfl o⟩)

/-! ### herdsman/herdsmanref1.Within: function 12 -/
def ref1_Within.f (n : Int) (lo : Int) (hi : Int) : Option Int := if (¬ (w64 ((w64 (hi - lo)) + 1)) = 0) then (if (Int.tmod n (w64 ((w64 (hi - lo)) + 1))) < 0 then (some (w64 (lo + (w64 ((w64 ((w64 ((Int.tmod n (w64 ((w64 (hi - lo)) + 1))) + hi)) - lo)) + 1))))) else (some (w64 (lo + (Int.tmod n (w64 ((w64 (hi - lo)) + 1))))))) else none
set_option maxHeartbeats 4000000 in
theorem ref1_Within.c (n : Int) (lo : Int) (hi : Int) (r : Int) (F : Hp) (H : ref1_Within.f n lo hi = some r) :
    CallsL Tryd.prog 12 [(.int .i64 n), (.int .i64 lo), (.int .i64 hi)] [F] (fun _ : Unit => (.int .i64 r)) (fun _ => [F]) := by
  unfold ref1_Within.f at H
  refine calls_atL [(0, (.int .i64 n)), (1, (.int .i64 lo)), (2, (.int .i64 hi))] Tryd.func12 rfl rfl ⟨rfl, rfl, rfl, trivial⟩ (fun W => ?_)
  refine at_seq ?_
  refine at_region [0] rfl ?_
  refine at_s T rfl ?_
  refine at_end ?_
  refine at_sub [(0, (.int .i64 n)), (1, (.int .i64 lo)), (2, (.int .i64 hi))] ⟨rfl, rfl, rfl, trivial⟩ ?_
  refine at_then ?_
  refine at_seq ?_
  refine at_region [0, 1, 2, 3, 4, 5, 6] rfl ?_
  iterate 5 refine at_s T rfl ?_
  obtain ⟨c1, H⟩ := chk_e H
  refine at_v rfl (g_rem rfl rfl rfl c1) ?_
  refine at_s T rfl ?_
  refine at_end ?_
  refine at_sub [(0, (.int .i64 (Int.tmod n (w64 ((w64 (hi - lo)) + 1))))), (1, (.int .i64 lo)), (2, (.int .i64 hi))] ⟨rfl, rfl, rfl, trivial⟩ ?_
  refine at_then ?_
  refine at_seq ?_
  refine at_seq ?_
  refine at_region [0, 1] rfl ?_
  iterate 2 refine at_s T rfl ?_
  refine at_end ?_
  refine at_sub [(0, (.int .i64 (Int.tmod n (w64 ((w64 (hi - lo)) + 1))))), (1, (.int .i64 lo)), (2, (.int .i64 hi)), (14, (.bool (decide ((Int.tmod n (w64 ((w64 (hi - lo)) + 1))) < 0))))] ⟨rfl, rfl, rfl, rfl, trivial⟩ ?_
  refine at_then ?_
  refine at_cond rfl (fun c2 => ?_) (fun c2 => ?_)
  · replace H := if_t (of_decide_eq_true c2) H
    refine at_region [0, 1, 2, 3, 4, 5, 6] rfl ?_
    iterate 7 refine at_s T rfl ?_
    refine at_end ?_
    refine at_sub [(0, (.int .i64 (w64 ((w64 ((w64 ((Int.tmod n (w64 ((w64 (hi - lo)) + 1))) + hi)) - lo)) + 1)))), (1, (.int .i64 lo))] ⟨rfl, rfl, trivial⟩ ?_
    refine at_then ?_
    refine at_seq ?_
    refine at_region [0, 1, 2, 3] rfl ?_
    iterate 4 refine at_s T rfl ?_
    refine at_end ?_
    refine at_sub [(6, (.int .i64 (w64 (lo + (w64 ((w64 ((w64 ((Int.tmod n (w64 ((w64 (hi - lo)) + 1))) + hi)) - lo)) + 1))))))] ⟨rfl, trivial⟩ ?_
    refine at_then ?_
    refine at_ret ?_
    obtain rfl := Option.some.inj H
    exact at_post (T := T) rfl (.tmp rfl .nil) (fun w o => ⟨(), rfl, own_to [0] rfl o⟩)
  · replace H := if_f (of_decide_eq_false c2) H
    refine at_skip ?_
    refine at_then ?_
    refine at_seq ?_
    refine at_region [0, 1, 2, 3] rfl ?_
    iterate 4 refine at_s T rfl ?_
    refine at_end ?_
    refine at_sub [(6, (.int .i64 (w64 (lo + (Int.tmod n (w64 ((w64 (hi - lo)) + 1)))))))] ⟨rfl, trivial⟩ ?_
    refine at_then ?_
    refine at_ret ?_
    obtain rfl := Option.some.inj H
    exact at_post (T := T) rfl (.tmp rfl .nil) (fun w o => ⟨(), rfl, own_to [0] rfl o⟩)

/-! ### herdsman/herdsmanref1.Cost: function 31 -/
def ref1_Cost.f (x : Int) : Option Int := if ((Int.tmod x 8) == 7) = true then (some 255) else (if x < 160 then (some (wu8 (1 + (Int.tmod x 4)))) else (some x))
set_option maxHeartbeats 4000000 in
theorem ref1_Cost.c (x : Int) (r : Int) (F : Hp) (H : ref1_Cost.f x = some r) :
    CallsL Tryd.prog 31 [(.int .u8 x)] [F] (fun _ : Unit => (.int .u8 r)) (fun _ => [F]) := by
  unfold ref1_Cost.f at H
  refine calls_atL [(0, (.int .u8 x))] Tryd.func31 rfl rfl ⟨rfl, trivial⟩ (fun W => ?_)
  refine at_seq ?_
  refine at_region [0] rfl ?_
  refine at_s T rfl ?_
  refine at_end ?_
  refine at_sub [(0, (.int .u8 x))] ⟨rfl, trivial⟩ ?_
  refine at_then ?_
  refine at_seq ?_
  refine at_seq ?_
  refine at_region [0, 1, 2] rfl ?_
  iterate 3 refine at_s T rfl ?_
  refine at_end ?_
  refine at_sub [(0, (.int .u8 x)), (5, (.bool ((Int.tmod x 8) == 7)))] ⟨rfl, rfl, trivial⟩ ?_
  refine at_then ?_
  refine at_cond rfl (fun c1 => ?_) (fun c1 => ?_)
  · replace H := if_t c1 H
    refine at_seq ?_
    refine at_region [0] rfl ?_
    refine at_s T rfl ?_
    refine at_end ?_
    refine at_sub [(2, (.int .u8 255))] ⟨rfl, trivial⟩ ?_
    refine at_then ?_
    refine at_ret ?_
    refine at_rt ?_
    obtain rfl := Option.some.inj H
    exact at_post (T := T) rfl (.tmp rfl .nil) (fun w o => ⟨(), rfl, own_to [0] rfl o⟩)
  · replace H := if_f (bf c1) H
    refine at_skip ?_
    refine at_then ?_
    refine at_seq ?_
    refine at_seq ?_
    refine at_region [0, 1] rfl ?_
    iterate 2 refine at_s T rfl ?_
    refine at_end ?_
    refine at_sub [(0, (.int .u8 x)), (7, (.bool (decide (x < 160))))] ⟨rfl, rfl, trivial⟩ ?_
    refine at_then ?_
    refine at_cond rfl (fun c2 => ?_) (fun c2 => ?_)
    · replace H := if_t (of_decide_eq_true c2) H
      refine at_seq ?_
      refine at_region [0, 1, 2, 3] rfl ?_
      iterate 4 refine at_s T rfl ?_
      refine at_end ?_
      refine at_sub [(2, (.int .u8 (wu8 (1 + (Int.tmod x 4)))))] ⟨rfl, trivial⟩ ?_
      refine at_then ?_
      refine at_ret ?_
      refine at_rt ?_
      obtain rfl := Option.some.inj H
      exact at_post (T := T) rfl (.tmp rfl .nil) (fun w o => ⟨(), rfl, own_to [0] rfl o⟩)
    · replace H := if_f (of_decide_eq_false c2) H
      refine at_skip ?_
      refine at_then ?_
      refine at_seq ?_
      refine at_region [0, 1] rfl ?_
      iterate 2 refine at_s T rfl ?_
      refine at_end ?_
      refine at_sub [(2, (.int .u8 x))] ⟨rfl, trivial⟩ ?_
      refine at_then ?_
      refine at_ret ?_
      obtain rfl := Option.some.inj H
      exact at_post (T := T) rfl (.tmp rfl .nil) (fun w o => ⟨(), rfl, own_to [0] rfl o⟩)

/-! ### herdsman/herdsmanref1.Made: function 11 -/
def ref1_Made.l0 : Nat → (List Int) → Int → Int → List Int → Int → Option api_Map
  | 0, _, _, _, _, _ => none
  | k7 + 1, c, v1, v2, x5, x6 => if x6 < (w64 (v1 * v2)) then (if (List.length c : Int) > 0 then (if (¬ (List.length c : Int) = 0) then (if (¬ (List.length c : Int) = 0) then (if (0 ≤ (Int.tmod (w64 (x6 + (w64 ((w64 (Int.tdiv x6 (List.length c : Int))) * 5)))) (List.length c : Int)) ∧ (Int.tmod (w64 (x6 + (w64 ((w64 (Int.tdiv x6 (List.length c : Int))) * 5)))) (List.length c : Int)) < (List.length c : Int)) then ((ref1_Cost.f (rd c (Int.tmod (w64 (x6 + (w64 ((w64 (Int.tdiv x6 (List.length c : Int))) * 5)))) (List.length c : Int)))).bind fun v8 => if (List.length x5 + 1 ≤ 1099511627776) then (ref1_Made.l0 k7 c v1 v2 (x5 ++ [v8]) (w64 (x6 + 1))) else none) else none) else none) else none) else ((ref1_Cost.f 1).bind fun v9 => if (List.length x5 + 1 ≤ 1099511627776) then (ref1_Made.l0 k7 c v1 v2 (x5 ++ [v9]) (w64 (x6 + 1))) else none)) else (some (api_Map.mk v1 v2 x5))
def ref1_Made.f (w : Int) (h : Int) (c : (List Int)) : Option api_Map := (ref1_Within.f w 1 40).bind fun v1 => (ref1_Within.f h 1 40).bind fun v2 => ref1_Made.l0 fuel c v1 v2 [] 0
def ref1_Made.R (r : api_Map) (u : Value) (G : List Hp) : Prop := ∃ (a0 : Option Addr) (n0 : Nat) (H0 : Hp), SliceO (Fl.int .u8) 5 r.C a0 n0 H0 ∧ u = (.agg #[(.int .i64 r.W), (.int .i64 r.H), (.slice a0 (List.length r.C) n0)]) ∧ G = [H0]
set_option maxHeartbeats 4000000 in
theorem ref1_Made.c {a_c : Option Addr} {n_c : Nat} (w : Int) (h : Int) (c : (List Int)) (r : api_Map) (F : Hp) (H : ref1_Made.f w h c = some r) (h_c : SliceR (Fl.int .u8) c a_c F) (c_c : List.length c ≤ n_c) :
    CallsL Tryd.prog 11 [(.int .i64 w), (.int .i64 h), (.slice a_c (List.length c) n_c)] [F] (fun qp : { qp : Value × List Hp // ref1_Made.R r qp.1 qp.2 } => qp.1.1) (fun qp => (qp.1.2 ++ []) ++ [F]) := by
  unfold ref1_Made.f at H
  refine calls_atL [(0, (.int .i64 w)), (1, (.int .i64 h)), (2, (.slice a_c (List.length c) n_c))] Tryd.func11 rfl rfl ⟨rfl, rfl, rfl, trivial⟩ (fun W => ?_)
  refine at_seq ?_
  refine at_region [0] rfl ?_
  refine at_cons (at_al T [(.int .i64 0), (.int .i64 0), (.slice none 0 0)] rfl rfl rfl rfl (fun b1 => ?_))
  refine at_end ?_
  refine at_sub [(0, (.int .i64 w)), (1, (.int .i64 h)), (2, (.slice a_c (List.length c) n_c)), (6, (.pointer (some ⟨b1, 0, none⟩)))] ⟨rfl, rfl, rfl, rfl, trivial⟩ ?_
  refine at_then ?_
  refine at_seq ?_
  refine at_region [0, 1, 2, 3, 4, 5, 6] rfl ?_
  refine at_s T rfl ?_
  obtain ⟨v1, V1, H⟩ := bind_e H
  refine at_cons (at_c (B := fun _ => []) [] rfl rfl rfl rfl has12 rfl rfl (ref1_Within.c w 1 40 v1 _ V1) (fun _ => ?_))
  refine at_s T rfl ?_
  obtain ⟨v2, V2, H⟩ := bind_e H
  refine at_cons (at_c (B := fun _ => []) [] rfl rfl rfl rfl has12 rfl rfl (ref1_Within.c h 1 40 v2 _ V2) (fun _ => ?_))
  refine at_s T rfl ?_
  refine at_cons (at_al T [(.int .i64 0), (.int .i64 0), (.slice none 0 0)] rfl rfl rfl rfl (fun b2 => ?_))
  refine at_cons (at_st T 2 [(.int .i64 v1), (.int .i64 v2), (.slice none 0 0)] rfl rfl rfl rfl rfl rfl rfl rfl rfl rfl ?_)
  refine at_end ?_
  refine at_sub [(2, (.slice a_c (List.length c) n_c)), (6, (.pointer (some ⟨b1, 0, none⟩))), (7, (.pointer (some ⟨b2, 0, none⟩)))] ⟨rfl, rfl, rfl, trivial⟩ ?_
  refine at_then ?_
  refine at_seq ?_
  refine at_seq ?_
  refine at_region [0] rfl ?_
  refine at_s T rfl ?_
  refine at_end ?_
  refine at_sub [(2, (.slice a_c (List.length c) n_c)), (6, (.pointer (some ⟨b1, 0, none⟩))), (7, (.pointer (some ⟨b2, 0, none⟩))), (8, (.int .i64 0))] ⟨rfl, rfl, rfl, rfl, trivial⟩ ?_
  refine at_then ?_
  refine at_block ?_
  refine at_addnil ?_
  refine at_loopL (σ := Nat × List Int × Int × Option Addr × Nat × Hp) (fun ⟨k7, x5, x6, a4, n4, H4⟩ => ref1_Made.l0 k7 c v1 v2 x5 x6 = some r ∧ SliceO (Fl.int .u8) 5 x5 a4 n4 H4) (fun ⟨k7, x5, x6, a4, n4, H4⟩ => [(2, (.slice a_c (List.length c) n_c)), (6, (.pointer (some ⟨b1, 0, none⟩))), (7, (.pointer (some ⟨b2, 0, none⟩))), (8, (.int .i64 x6))]) (fun ⟨k7, x5, x6, a4, n4, H4⟩ => [F, [(b1, Obj.cells #[(.int .i64 0), (.int .i64 0), (.slice none 0 0)] 26 (0, 0))], [(b2, Obj.cells #[(.int .i64 v1), (.int .i64 v2), (.slice a4 (List.length x5) n4)] 26 (0, 0))], H4]) (fun s => s.1) (fuel, [], 0, none, 0, []) [0, 0, 0, 0] ⟨H, SliceO.nil⟩ ⟨rfl, rfl, rfl, rfl, trivial⟩ rfl ?_
  rintro ⟨k7, x5, x6, a4, n4, H4⟩ ⟨Z3, s4⟩
  replace Z3 : ref1_Made.l0 k7 c v1 v2 x5 x6 = some r := Z3
  rcases k7 with _ | k7
  · rw [ref1_Made.l0] at Z3; cases Z3
  · rw [ref1_Made.l0] at Z3
    refine at_seq ?_
    refine at_seq ?_
    refine at_region [0, 1, 2, 3, 4, 5, 6] rfl ?_
    iterate 2 refine at_s T rfl ?_
    refine at_v rfl (g_load T rfl rfl rfl rfl (in_var (j := 2) rfl rfl)) ?_
    refine at_s T rfl ?_
    refine at_v rfl (g_load T rfl rfl rfl rfl (in_var (j := 2) rfl rfl)) ?_
    iterate 2 refine at_s T rfl ?_
    refine at_end ?_
    refine at_sub [(2, (.slice a_c (List.length c) n_c)), (6, (.pointer (some ⟨b1, 0, none⟩))), (7, (.pointer (some ⟨b2, 0, none⟩))), (8, (.int .i64 x6)), (22, (.bool (decide (x6 < (w64 (v1 * v2))))))] ⟨rfl, rfl, rfl, rfl, rfl, trivial⟩ ?_
    refine at_then ?_
    refine at_cond rfl (fun c4 => ?_) (fun c4 => ?_)
    · replace Z3 := if_t (of_decide_eq_true c4) Z3
      refine at_skip ?_
      refine at_then ?_
      refine at_seq ?_
      refine at_block ?_
      refine at_seq ?_
      refine at_region [0] rfl ?_
      refine at_s T rfl ?_
      refine at_end ?_
      refine at_sub [(2, (.slice a_c (List.length c) n_c)), (6, (.pointer (some ⟨b1, 0, none⟩))), (7, (.pointer (some ⟨b2, 0, none⟩))), (8, (.int .i64 x6)), (9, (.int .u8 1))] ⟨rfl, rfl, rfl, rfl, rfl, trivial⟩ ?_
      refine at_then ?_
      refine at_seq ?_
      refine at_seq ?_
      refine at_region [0, 1, 2] rfl ?_
      iterate 3 refine at_s T rfl ?_
      refine at_end ?_
      refine at_sub [(2, (.slice a_c (List.length c) n_c)), (6, (.pointer (some ⟨b1, 0, none⟩))), (7, (.pointer (some ⟨b2, 0, none⟩))), (8, (.int .i64 x6)), (9, (.int .u8 1)), (10, (.int .i64 (List.length c : Int)))] ⟨rfl, rfl, rfl, rfl, rfl, rfl, trivial⟩ ?_
      refine at_then ?_
      refine at_seq ?_
      refine at_region [0, 1] rfl ?_
      iterate 2 refine at_s T rfl ?_
      refine at_end ?_
      refine at_sub [(2, (.slice a_c (List.length c) n_c)), (6, (.pointer (some ⟨b1, 0, none⟩))), (7, (.pointer (some ⟨b2, 0, none⟩))), (8, (.int .i64 x6)), (9, (.int .u8 1)), (10, (.int .i64 (List.length c : Int))), (28, (.bool (decide ((List.length c : Int) > 0))))] ⟨rfl, rfl, rfl, rfl, rfl, rfl, rfl, trivial⟩ ?_
      refine at_then ?_
      refine at_cond rfl (fun c5 => ?_) (fun c5 => ?_)
      · replace Z3 := if_t (of_decide_eq_true c5) Z3
        refine at_region [0, 1, 2, 3, 4, 5, 6, 7, 8, 9, 10, 11] rfl ?_
        iterate 4 refine at_s T rfl ?_
        obtain ⟨c6, Z3⟩ := chk_e Z3
        refine at_v rfl (g_quo rfl rfl rfl c6) ?_
        iterate 3 refine at_s T rfl ?_
        obtain ⟨c7, Z3⟩ := chk_e Z3
        refine at_v rfl (g_rem rfl rfl rfl c7) ?_
        obtain ⟨c8, Z3⟩ := chk_e Z3
        obtain ⟨q5, o5, e5⟩ := h_c.addr c8.1 c8.2
        refine at_v rfl (g_index T rfl rfl rfl rfl rfl e5 c8.1 c8.2) ?_
        refine at_v rfl (g_load T rfl rfl rfl rfl (in_elem1 (k := (Fl.int .u8)) (ro_of h_c (j := 0) rfl) e5 c8 0 rfl)) ?_
        refine at_s T rfl ?_
        refine at_end ?_
        refine at_sub [(2, (.slice a_c (List.length c) n_c)), (6, (.pointer (some ⟨b1, 0, none⟩))), (7, (.pointer (some ⟨b2, 0, none⟩))), (8, (.int .i64 x6)), (9, (.int .u8 (rd c (Int.tmod (w64 (x6 + (w64 ((w64 (Int.tdiv x6 (List.length c : Int))) * 5)))) (List.length c : Int)))))] ⟨rfl, rfl, rfl, rfl, rfl, trivial⟩ ?_
        refine at_then ?_
        refine at_region_m [[], [0], [], [2], [2, 3], [0, 1, 2, 3, 4], [0, 1, 2, 3, 4, 5], [0, 1, 2, 3, 4, 5, 6]] [5, 7] [F, [(b1, Obj.cells #[(.int .i64 0), (.int .i64 0), (.slice none 0 0)] 26 (0, 0))], [(b2, Obj.cells #[(.int .i64 v1), (.int .i64 v2), (.slice a4 (List.length x5) n4)] 26 (0, 0))], H4] mix (by kernel_rfl) (by repeat first | exact pf_body | refine pf_then ?_ | refine pf_block ?_) (fun hg pf => ?_)
        refine atm_s T 0 hg pf (by kernel_rfl) (still_o [0, 0, 0, 0] rfl) rfl ?_
        refine atm_v 1 hg pf (by kernel_rfl) (still_o [0, 0, 0, 0] rfl) rfl rfl (g_load T rfl rfl rfl rfl (in_var (j := 2) rfl rfl)) ?_
        refine atm_s T 2 hg pf (by kernel_rfl) (still_o [0, 0, 0, 0] rfl) rfl ?_
        refine atm_one 3 (by kernel_rfl) ?_
        obtain ⟨v8, V9, Z3⟩ := bind_e Z3
        refine at_c (B := fun _ => []) [] rfl rfl rfl rfl has31 rfl rfl (ref1_Cost.c (rd c (Int.tmod (w64 (x6 + (w64 ((w64 (Int.tdiv x6 (List.length c : Int))) * 5)))) (List.length c : Int))) v8 _ V9) (fun _ => ?_)
        refine atm_next (still_o [0, 0, 0, 0] rfl) ?_
        refine atm_one 4 (by kernel_rfl) ?_
        refine at_bs (k := (Fl.int .u8)) T [v8] rfl rfl rfl rfl rfl rfl rfl rfl rfl (fun a6 H6 s6 => ?_)
        refine atm_next (still_o [0, 0, 0, 0] rfl) ?_
        refine atm_one 5 (by kernel_rfl) ?_
        obtain ⟨c10, Z3⟩ := chk_e Z3
        refine at_ap (k := (Fl.int .u8)) (xs := x5) T (g := 3) rfl rfl rfl rfl rfl rfl rfl rfl rfl rfl s4 (own_of s6 (j := 4) rfl) c10 rfl (fun a7 n7 H7 s7 => ?_)
        refine atm_next (still_l (by kernel_rfl)) ?_
        refine atm_s T 6 hg pf (by kernel_rfl) (still_l (by kernel_rfl)) rfl ?_
        refine atm_one 7 (by kernel_rfl) ?_
        refine at_st T 2 [(.int .i64 v1), (.int .i64 v2), (.slice a7 (List.length (x5 ++ [v8])) n7)] rfl rfl rfl rfl rfl rfl rfl rfl rfl rfl ?_
        refine atm_next (still_l (by kernel_rfl)) ?_
        refine atm_end (by kernel_rfl) ?_
        refine at_to [(2, (.slice a_c (List.length c) n_c)), (6, (.pointer (some ⟨b1, 0, none⟩))), (7, (.pointer (some ⟨b2, 0, none⟩))), (8, (.int .i64 x6))] [0, 0, 0, 0] [F, [(b1, Obj.cells #[(.int .i64 0), (.int .i64 0), (.slice none 0 0)] 26 (0, 0))], [(b2, Obj.cells #[(.int .i64 v1), (.int .i64 v2), (.slice a7 (List.length (x5 ++ [v8])) n7)] 26 (0, 0))], H7] ⟨rfl, rfl, rfl, rfl, trivial⟩ rfl ?_
        refine at_nb ?_
        refine at_then ?_
        refine at_region [0, 1, 2] rfl ?_
        iterate 3 refine at_s T rfl ?_
        refine at_end ?_
        refine at_sub [(2, (.slice a_c (List.length c) n_c)), (6, (.pointer (some ⟨b1, 0, none⟩))), (7, (.pointer (some ⟨b2, 0, none⟩))), (8, (.int .i64 (w64 (x6 + 1))))] ⟨rfl, rfl, rfl, rfl, trivial⟩ ?_
        refine at_then ?_
        exact at_roundL (k7, (x5 ++ [v8]), (w64 (x6 + 1)), a7, n7, H7) [0, 0, 0, 0] ⟨Z3, s7⟩ (Nat.lt_succ_self _) ⟨rfl, rfl, rfl, rfl, trivial⟩ rfl
      · replace Z3 := if_f (of_decide_eq_false c5) Z3
        refine at_skip ?_
        refine at_then ?_
        refine at_region_m [[], [0], [], [2], [2, 3], [0, 1, 2, 3, 4], [0, 1, 2, 3, 4, 5], [0, 1, 2, 3, 4, 5, 6]] [5, 7] [F, [(b1, Obj.cells #[(.int .i64 0), (.int .i64 0), (.slice none 0 0)] 26 (0, 0))], [(b2, Obj.cells #[(.int .i64 v1), (.int .i64 v2), (.slice a4 (List.length x5) n4)] 26 (0, 0))], H4] mix (by kernel_rfl) (by repeat first | exact pf_body | refine pf_then ?_ | refine pf_block ?_) (fun hg pf => ?_)
        refine atm_s T 0 hg pf (by kernel_rfl) (still_o [0, 0, 0, 0] rfl) rfl ?_
        refine atm_v 1 hg pf (by kernel_rfl) (still_o [0, 0, 0, 0] rfl) rfl rfl (g_load T rfl rfl rfl rfl (in_var (j := 2) rfl rfl)) ?_
        refine atm_s T 2 hg pf (by kernel_rfl) (still_o [0, 0, 0, 0] rfl) rfl ?_
        refine atm_one 3 (by kernel_rfl) ?_
        obtain ⟨v9, V11, Z3⟩ := bind_e Z3
        refine at_c (B := fun _ => []) [] rfl rfl rfl rfl has31 rfl rfl (ref1_Cost.c 1 v9 _ V11) (fun _ => ?_)
        refine atm_next (still_o [0, 0, 0, 0] rfl) ?_
        refine atm_one 4 (by kernel_rfl) ?_
        refine at_bs (k := (Fl.int .u8)) T [v9] rfl rfl rfl rfl rfl rfl rfl rfl rfl (fun a8 H8 s8 => ?_)
        refine atm_next (still_o [0, 0, 0, 0] rfl) ?_
        refine atm_one 5 (by kernel_rfl) ?_
        obtain ⟨c12, Z3⟩ := chk_e Z3
        refine at_ap (k := (Fl.int .u8)) (xs := x5) T (g := 3) rfl rfl rfl rfl rfl rfl rfl rfl rfl rfl s4 (own_of s8 (j := 4) rfl) c12 rfl (fun a9 n9 H9 s9 => ?_)
        refine atm_next (still_l (by kernel_rfl)) ?_
        refine atm_s T 6 hg pf (by kernel_rfl) (still_l (by kernel_rfl)) rfl ?_
        refine atm_one 7 (by kernel_rfl) ?_
        refine at_st T 2 [(.int .i64 v1), (.int .i64 v2), (.slice a9 (List.length (x5 ++ [v9])) n9)] rfl rfl rfl rfl rfl rfl rfl rfl rfl rfl ?_
        refine atm_next (still_l (by kernel_rfl)) ?_
        refine atm_end (by kernel_rfl) ?_
        refine at_to [(2, (.slice a_c (List.length c) n_c)), (6, (.pointer (some ⟨b1, 0, none⟩))), (7, (.pointer (some ⟨b2, 0, none⟩))), (8, (.int .i64 x6))] [0, 0, 0, 0] [F, [(b1, Obj.cells #[(.int .i64 0), (.int .i64 0), (.slice none 0 0)] 26 (0, 0))], [(b2, Obj.cells #[(.int .i64 v1), (.int .i64 v2), (.slice a9 (List.length (x5 ++ [v9])) n9)] 26 (0, 0))], H9] ⟨rfl, rfl, rfl, rfl, trivial⟩ rfl ?_
        refine at_nb ?_
        refine at_then ?_
        refine at_region [0, 1, 2] rfl ?_
        iterate 3 refine at_s T rfl ?_
        refine at_end ?_
        refine at_sub [(2, (.slice a_c (List.length c) n_c)), (6, (.pointer (some ⟨b1, 0, none⟩))), (7, (.pointer (some ⟨b2, 0, none⟩))), (8, (.int .i64 (w64 (x6 + 1))))] ⟨rfl, rfl, rfl, rfl, trivial⟩ ?_
        refine at_then ?_
        exact at_roundL (k7, (x5 ++ [v9]), (w64 (x6 + 1)), a9, n9, H9) [0, 0, 0, 0] ⟨Z3, s9⟩ (Nat.lt_succ_self _) ⟨rfl, rfl, rfl, rfl, trivial⟩ rfl
    · replace Z3 := if_f (of_decide_eq_false c4) Z3
      refine at_exit ?_
      refine at_xt ?_
      refine at_xt ?_
      refine at_xb ?_
      refine at_then ?_
      refine at_seq ?_
      refine at_region [0, 1] rfl ?_
      refine at_v rfl (g_loadA T (cs := [(.int .i64 v1), (.int .i64 v2), (.slice a4 (List.length x5) n4)]) rfl rfl rfl rfl rfl rfl (in_varA (j := 2) rfl rfl)) ?_
      refine at_cons (at_st T 1 [(.int .i64 v1), (.int .i64 v2), (.slice a4 (List.length x5) n4)] rfl rfl rfl rfl rfl rfl rfl rfl rfl rfl ?_)
      refine at_end ?_
      refine at_to [(6, (.pointer (some ⟨b1, 0, none⟩)))] [0, 0, 1] [F, [(b1, Obj.cells #[(.int .i64 v1), (.int .i64 v2), (.slice a4 (List.length x5) n4)] 26 (0, 0))], H4] ⟨rfl, trivial⟩ rfl ?_
      refine at_then ?_
      refine at_ret ?_
      obtain rfl := Option.some.inj Z3
      exact at_post (T := T) rfl (.aggv (j := 1) [(.int .i64 v1), (.int .i64 v2), (.slice a4 (List.length x5) n4)] rfl rfl rfl rfl rfl rfl rfl .nil) (fun w o => ⟨⟨(_, _), ⟨a4, n4, H4, s4, rfl, rfl⟩⟩, rfl, own_to [2, 0] rfl o⟩)

/-! ### herdsman/herdsmanref1.In: function 25 -/
def ref1_In.f (n : Int) (lo : Int) (hi : Int) : Option Bool := some ((decide (n ≥ lo)) && (decide (n ≤ hi)))
set_option maxHeartbeats 4000000 in
theorem ref1_In.c (n : Int) (lo : Int) (hi : Int) (r : Bool) (F : Hp) (H : ref1_In.f n lo hi = some r) :
    CallsL Tryd.prog 25 [(.int .i64 n), (.int .i64 lo), (.int .i64 hi)] [F] (fun _ : Unit => (.bool r)) (fun _ => [F]) := by
  unfold ref1_In.f at H
  refine calls_atL [(0, (.int .i64 n)), (1, (.int .i64 lo)), (2, (.int .i64 hi))] Tryd.func25 rfl rfl ⟨rfl, rfl, rfl, trivial⟩ (fun W => ?_)
  refine at_seq ?_
  refine at_region [0] rfl ?_
  refine at_s T rfl ?_
  refine at_end ?_
  refine at_sub [(0, (.int .i64 n)), (1, (.int .i64 lo)), (2, (.int .i64 hi))] ⟨rfl, rfl, rfl, trivial⟩ ?_
  refine at_then ?_
  refine at_seq ?_
  refine at_region [0, 1, 2, 3, 4, 5, 6, 7, 8] rfl ?_
  iterate 4 refine at_s T rfl ?_
  refine at_grp T [4, 5, 6, 7] (s := 10) (c := (decide (n ≥ lo))) [(14, (.bool ((decide (n ≥ lo)) && (decide (n ≤ hi)))))] rfl rfl rfl (fun c1 => ⟨(by rw [c1]; rfl), trivial⟩) (fun c1 => ⟨(by rw [c1]; rfl), trivial⟩) ?_
  refine at_s T rfl ?_
  refine at_end ?_
  refine at_sub [(6, (.bool ((decide (n ≥ lo)) && (decide (n ≤ hi)))))] ⟨rfl, trivial⟩ ?_
  refine at_then ?_
  refine at_ret ?_
  obtain rfl := Option.some.inj H
  exact at_post (T := T) rfl (.tmp rfl .nil) (fun w o => ⟨(), rfl, own_to [0] rfl o⟩)

/-! ### herdsman/herdsmanref1.May: function 34 -/
def ref1_May.f (w : Int) (h : Int) : Option Bool := ((ref1_In.f w 1 1024).bind fun v3 => if v3 = true then ((ref1_In.f h 1 1024).bind fun v4 => some v4) else (some false)).bind fun x1 => some x1
set_option maxHeartbeats 4000000 in
theorem ref1_May.c (w : Int) (h : Int) (r : Bool) (F : Hp) (H : ref1_May.f w h = some r) :
    CallsL Tryd.prog 34 [(.int .i64 w), (.int .i64 h)] [F] (fun _ : Unit => (.bool r)) (fun _ => [F]) := by
  unfold ref1_May.f at H
  refine calls_atL [(0, (.int .i64 w)), (1, (.int .i64 h))] Tryd.func34 rfl rfl ⟨rfl, rfl, trivial⟩ (fun W => ?_)
  refine at_seq ?_
  refine at_region [0] rfl ?_
  refine at_s T rfl ?_
  refine at_end ?_
  refine at_sub [(0, (.int .i64 w)), (1, (.int .i64 h))] ⟨rfl, rfl, trivial⟩ ?_
  refine at_then ?_
  obtain ⟨z2, Z1, H⟩ := bind_e H
  refine at_seq_mid (σ := Bool) (fun x1 => x1 = z2) (fun x1 => [(4, (.bool x1))]) (fun x1 => [F]) ?_ ?_
  · refine at_region [0, 1, 2, 3, 4, 5, 6] rfl ?_
    refine at_s T rfl ?_
    obtain ⟨v3, V2, Z1⟩ := bind_e Z1
    refine at_cons (at_c (B := fun _ => []) [] rfl rfl rfl rfl has25 rfl rfl (ref1_In.c w 1 1024 v3 _ V2) (fun _ => ?_))
    refine at_s T rfl ?_
    refine at_case (s := 7) rfl (fun c3 => ?_) (fun c3 => ?_)
    · replace Z1 := if_t c3 Z1
      refine at_s T rfl ?_
      obtain ⟨v4, V4, Z1⟩ := bind_e Z1
      refine at_cons (at_c (B := fun _ => []) [] rfl rfl rfl rfl has25 rfl rfl (ref1_In.c h 1 1024 v4 _ V4) (fun _ => ?_))
      iterate 2 refine at_s T rfl ?_
      refine at_end ?_
      refine at_sub [(4, (.bool v4))] ⟨rfl, trivial⟩ ?_
      refine at_then ?_
      obtain rfl := Option.some.inj Z1
      exact at_mid v4 [0] rfl ⟨rfl, trivial⟩ rfl
    · replace Z1 := if_f (bf c3) Z1
      iterate 4 refine at_s T rfl ?_
      refine at_end ?_
      refine at_sub [(4, (.bool false))] ⟨rfl, trivial⟩ ?_
      refine at_then ?_
      obtain rfl := Option.some.inj Z1
      exact at_mid false [0] rfl ⟨rfl, trivial⟩ rfl
  · rintro x1 rfl
    refine at_ret ?_
    obtain rfl := Option.some.inj H
    exact at_post (T := T) rfl (.tmp rfl .nil) (fun w o => ⟨(), rfl, own_to [0] rfl o⟩)

/-! ### herdsman/herdsmanref1.Sectors: function 42 -/
def ref1_Sectors.f (w : Int) (h : Int) : Option (Int × Int) := (ref1_May.f w h).bind fun v1 => if (!v1) = true then (some (0, 0)) else (some ((w64 (Int.tdiv (w64 ((w64 (w + 16)) - 1)) 16)), (w64 (Int.tdiv (w64 ((w64 (h + 16)) - 1)) 16))))
set_option maxHeartbeats 4000000 in
theorem ref1_Sectors.c (w : Int) (h : Int) (r : (Int × Int)) (F : Hp) (H : ref1_Sectors.f w h = some r) :
    CallsL Tryd.prog 42 [(.int .i64 w), (.int .i64 h)] [F] (fun _ : Unit => (.tuple #[(.int .i64 r.1), (.int .i64 r.2)])) (fun _ => [F]) := by
  unfold ref1_Sectors.f at H
  refine calls_atL [(0, (.int .i64 w)), (1, (.int .i64 h))] Tryd.func42 rfl rfl ⟨rfl, rfl, trivial⟩ (fun W => ?_)
  refine at_seq ?_
  refine at_region [0, 1] rfl ?_
  iterate 2 refine at_s T rfl ?_
  refine at_end ?_
  refine at_sub [(0, (.int .i64 w)), (1, (.int .i64 h))] ⟨rfl, rfl, trivial⟩ ?_
  refine at_then ?_
  refine at_seq ?_
  refine at_seq ?_
  refine at_region [0, 1, 2, 3] rfl ?_
  iterate 2 refine at_s T rfl ?_
  obtain ⟨v1, V1, H⟩ := bind_e H
  refine at_cons (at_c (B := fun _ => []) [] rfl rfl rfl rfl has34 rfl rfl (ref1_May.c w h v1 _ V1) (fun _ => ?_))
  refine at_s T rfl ?_
  refine at_end ?_
  refine at_sub [(0, (.int .i64 w)), (1, (.int .i64 h)), (9, (.bool (!v1)))] ⟨rfl, rfl, rfl, trivial⟩ ?_
  refine at_then ?_
  refine at_cond rfl (fun c2 => ?_) (fun c2 => ?_)
  · replace H := if_t c2 H
    refine at_seq ?_
    refine at_region [0, 1] rfl ?_
    iterate 2 refine at_s T rfl ?_
    refine at_end ?_
    refine at_sub [(4, (.int .i64 0)), (5, (.int .i64 0))] ⟨rfl, rfl, trivial⟩ ?_
    refine at_then ?_
    refine at_ret ?_
    refine at_rt ?_
    obtain rfl := Option.some.inj H
    exact at_post (T := T) rfl (.tmp rfl (.tmp rfl .nil)) (fun w o => ⟨(), rfl, own_to [0] rfl o⟩)
  · replace H := if_f (bf c2) H
    refine at_skip ?_
    refine at_then ?_
    refine at_seq ?_
    refine at_region [0, 1, 2, 3, 4, 5, 6, 7, 8, 9] rfl ?_
    iterate 10 refine at_s T rfl ?_
    refine at_end ?_
    refine at_sub [(4, (.int .i64 (w64 (Int.tdiv (w64 ((w64 (w + 16)) - 1)) 16)))), (5, (.int .i64 (w64 (Int.tdiv (w64 ((w64 (h + 16)) - 1)) 16))))] ⟨rfl, rfl, trivial⟩ ?_
    refine at_then ?_
    refine at_ret ?_
    obtain rfl := Option.some.inj H
    exact at_post (T := T) rfl (.tmp rfl (.tmp rfl .nil)) (fun w o => ⟨(), rfl, own_to [0] rfl o⟩)

/-! ### herdsman/herdsmanref1.Count: function 21 -/
def ref1_Count.f (w : Int) (h : Int) : Option Int := (ref1_Sectors.f w h).bind fun v1 => some (w64 (v1.1 * v1.2))
set_option maxHeartbeats 4000000 in
theorem ref1_Count.c (w : Int) (h : Int) (r : Int) (F : Hp) (H : ref1_Count.f w h = some r) :
    CallsL Tryd.prog 21 [(.int .i64 w), (.int .i64 h)] [F] (fun _ : Unit => (.int .i64 r)) (fun _ => [F]) := by
  unfold ref1_Count.f at H
  refine calls_atL [(0, (.int .i64 w)), (1, (.int .i64 h))] Tryd.func21 rfl rfl ⟨rfl, rfl, trivial⟩ (fun W => ?_)
  refine at_seq ?_
  refine at_region [0] rfl ?_
  refine at_s T rfl ?_
  refine at_end ?_
  refine at_sub [(0, (.int .i64 w)), (1, (.int .i64 h))] ⟨rfl, rfl, trivial⟩ ?_
  refine at_then ?_
  refine at_seq ?_
  refine at_region [0, 1, 2, 3, 4, 5, 6, 7] rfl ?_
  iterate 2 refine at_s T rfl ?_
  obtain ⟨v1, V1, H⟩ := bind_e H
  refine at_cons (at_c (B := fun _ => []) [] rfl rfl rfl rfl has42 rfl rfl (ref1_Sectors.c w h v1 _ V1) (fun _ => ?_))
  iterate 5 refine at_s T rfl ?_
  refine at_end ?_
  refine at_sub [(5, (.int .i64 v1.1)), (6, (.int .i64 v1.2))] ⟨rfl, rfl, trivial⟩ ?_
  refine at_then ?_
  refine at_seq ?_
  refine at_region [0, 1, 2, 3] rfl ?_
  iterate 4 refine at_s T rfl ?_
  refine at_end ?_
  refine at_sub [(4, (.int .i64 (w64 (v1.1 * v1.2))))] ⟨rfl, trivial⟩ ?_
  refine at_then ?_
  refine at_ret ?_
  obtain rfl := Option.some.inj H
  exact at_post (T := T) rfl (.tmp rfl .nil) (fun w o => ⟨(), rfl, own_to [0] rfl o⟩)

/-! ### herdsman/herdsmanref1.Size: function 35 -/
def ref1_Size.f (w : Int) (h : Int) (s : Int) : Option (Int × Int) := (ref1_Count.f w h).bind fun v1 => (ref1_In.f s 0 (w64 (v1 - 1))).bind fun v2 => if (!v2) = true then (some (0, 0)) else ((ref1_Sectors.f w h).bind fun v3 => if (¬ v3.1 = 0) then (if (¬ v3.1 = 0) then (some ((if (w64 (w - (w64 (16 * (Int.tmod s v3.1))))) < 16 then (w64 (w - (w64 (16 * (Int.tmod s v3.1))))) else 16), (if (w64 (h - (w64 (16 * (w64 (Int.tdiv s v3.1)))))) < 16 then (w64 (h - (w64 (16 * (w64 (Int.tdiv s v3.1)))))) else 16))) else none) else none)
set_option maxHeartbeats 4000000 in
theorem ref1_Size.c (w : Int) (h : Int) (s : Int) (r : (Int × Int)) (F : Hp) (H : ref1_Size.f w h s = some r) :
    CallsL Tryd.prog 35 [(.int .i64 w), (.int .i64 h), (.int .i64 s)] [F] (fun _ : Unit => (.tuple #[(.int .i64 r.1), (.int .i64 r.2)])) (fun _ => [F]) := by
  unfold ref1_Size.f at H
  refine calls_atL [(0, (.int .i64 w)), (1, (.int .i64 h)), (2, (.int .i64 s))] Tryd.func35 rfl rfl ⟨rfl, rfl, rfl, trivial⟩ (fun W => ?_)
  refine at_seq ?_
  refine at_region [0, 1] rfl ?_
  iterate 2 refine at_s T rfl ?_
  refine at_end ?_
  refine at_sub [(0, (.int .i64 w)), (1, (.int .i64 h)), (2, (.int .i64 s))] ⟨rfl, rfl, rfl, trivial⟩ ?_
  refine at_then ?_
  refine at_seq ?_
  refine at_seq ?_
  refine at_region [0, 1, 2, 3, 4, 5, 6] rfl ?_
  iterate 3 refine at_s T rfl ?_
  obtain ⟨v1, V1, H⟩ := bind_e H
  refine at_cons (at_c (B := fun _ => []) [] rfl rfl rfl rfl has21 rfl rfl (ref1_Count.c w h v1 _ V1) (fun _ => ?_))
  refine at_s T rfl ?_
  obtain ⟨v2, V2, H⟩ := bind_e H
  refine at_cons (at_c (B := fun _ => []) [] rfl rfl rfl rfl has25 rfl rfl (ref1_In.c s 0 (w64 (v1 - 1)) v2 _ V2) (fun _ => ?_))
  refine at_s T rfl ?_
  refine at_end ?_
  refine at_sub [(0, (.int .i64 w)), (1, (.int .i64 h)), (2, (.int .i64 s)), (16, (.bool (!v2)))] ⟨rfl, rfl, rfl, rfl, trivial⟩ ?_
  refine at_then ?_
  refine at_cond rfl (fun c3 => ?_) (fun c3 => ?_)
  · replace H := if_t c3 H
    refine at_seq ?_
    refine at_region [0, 1] rfl ?_
    iterate 2 refine at_s T rfl ?_
    refine at_end ?_
    refine at_sub [(6, (.int .i64 0)), (7, (.int .i64 0))] ⟨rfl, rfl, trivial⟩ ?_
    refine at_then ?_
    refine at_ret ?_
    refine at_rt ?_
    obtain rfl := Option.some.inj H
    exact at_post (T := T) rfl (.tmp rfl (.tmp rfl .nil)) (fun w o => ⟨(), rfl, own_to [0] rfl o⟩)
  · replace H := if_f (bf c3) H
    refine at_skip ?_
    refine at_then ?_
    refine at_seq ?_
    refine at_region [0, 1, 2, 3, 4, 5, 6, 7] rfl ?_
    iterate 2 refine at_s T rfl ?_
    obtain ⟨v3, V4, H⟩ := bind_e H
    refine at_cons (at_c (B := fun _ => []) [] rfl rfl rfl rfl has42 rfl rfl (ref1_Sectors.c w h v3 _ V4) (fun _ => ?_))
    iterate 5 refine at_s T rfl ?_
    refine at_end ?_
    refine at_sub [(0, (.int .i64 w)), (1, (.int .i64 h)), (2, (.int .i64 s)), (8, (.int .i64 v3.1))] ⟨rfl, rfl, rfl, rfl, trivial⟩ ?_
    refine at_then ?_
    refine at_seq ?_
    refine at_region_q mix (by kernel_rfl) ?_
    iterate 3 refine atq_s T rfl ?_
    obtain ⟨c5, H⟩ := chk_e H
    refine atq_v rfl rfl rfl (g_rem rfl rfl rfl c5) ?_
    iterate 6 refine atq_s T rfl ?_
    obtain ⟨c6, H⟩ := chk_e H
    refine atq_v rfl rfl rfl (g_quo rfl rfl rfl c6) ?_
    iterate 5 refine atq_s T rfl ?_
    refine atq_end ?_
    refine at_sub [(6, (.int .i64 (if (w64 (w - (w64 (16 * (Int.tmod s v3.1))))) < 16 then (w64 (w - (w64 (16 * (Int.tmod s v3.1))))) else 16))), (7, (.int .i64 (if (w64 (h - (w64 (16 * (w64 (Int.tdiv s v3.1)))))) < 16 then (w64 (h - (w64 (16 * (w64 (Int.tdiv s v3.1)))))) else 16)))] ⟨rfl, rfl, trivial⟩ ?_
    refine at_then ?_
    refine at_ret ?_
    obtain rfl := Option.some.inj H
    exact at_post (T := T) rfl (.tmp rfl (.tmp rfl .nil)) (fun w o => ⟨(), rfl, own_to [0] rfl o⟩)

/-! ### herdsman/herdsmanref1.Global: function 46 -/
def ref1_Global.f (w : Int) (h : Int) (s : Int) (l : Int) : Option Int := (ref1_Size.f w h s).bind fun v1 => (ref1_In.f l 0 (w64 ((w64 (v1.1 * v1.2)) - 1))).bind fun v2 => if (!v2) = true then (some (-1)) else ((ref1_Sectors.f w h).bind fun v3 => if (¬ v3.1 = 0) then (if (¬ v1.1 = 0) then (if (¬ v3.1 = 0) then (if (¬ v1.1 = 0) then (some (w64 ((w64 ((w64 ((w64 ((w64 (16 * (w64 (Int.tdiv s v3.1)))) + (w64 (Int.tdiv l v1.1)))) * w)) + (w64 (16 * (Int.tmod s v3.1))))) + (Int.tmod l v1.1)))) else none) else none) else none) else none)
set_option maxHeartbeats 4000000 in
theorem ref1_Global.c (w : Int) (h : Int) (s : Int) (l : Int) (r : Int) (F : Hp) (H : ref1_Global.f w h s l = some r) :
    CallsL Tryd.prog 46 [(.int .i64 w), (.int .i64 h), (.int .i64 s), (.int .i64 l)] [F] (fun _ : Unit => (.int .i64 r)) (fun _ => [F]) := by
  unfold ref1_Global.f at H
  refine calls_atL [(0, (.int .i64 w)), (1, (.int .i64 h)), (2, (.int .i64 s)), (3, (.int .i64 l))] Tryd.func46 rfl rfl ⟨rfl, rfl, rfl, rfl, trivial⟩ (fun W => ?_)
  refine at_seq ?_
  refine at_region [0] rfl ?_
  refine at_s T rfl ?_
  refine at_end ?_
  refine at_sub [(0, (.int .i64 w)), (1, (.int .i64 h)), (2, (.int .i64 s)), (3, (.int .i64 l))] ⟨rfl, rfl, rfl, rfl, trivial⟩ ?_
  refine at_then ?_
  refine at_seq ?_
  refine at_region [0, 1, 2, 3, 4, 5, 6, 7, 8] rfl ?_
  iterate 3 refine at_s T rfl ?_
  obtain ⟨v1, V1, H⟩ := bind_e H
  refine at_cons (at_c (B := fun _ => []) [] rfl rfl rfl rfl has35 rfl rfl (ref1_Size.c w h s v1 _ V1) (fun _ => ?_))
  iterate 5 refine at_s T rfl ?_
  refine at_end ?_
  refine at_sub [(0, (.int .i64 w)), (1, (.int .i64 h)), (2, (.int .i64 s)), (3, (.int .i64 l)), (9, (.int .i64 v1.1)), (10, (.int .i64 v1.2))] ⟨rfl, rfl, rfl, rfl, rfl, rfl, trivial⟩ ?_
  refine at_then ?_
  refine at_seq ?_
  refine at_seq ?_
  refine at_region [0, 1, 2, 3, 4, 5, 6] rfl ?_
  iterate 5 refine at_s T rfl ?_
  obtain ⟨v2, V2, H⟩ := bind_e H
  refine at_cons (at_c (B := fun _ => []) [] rfl rfl rfl rfl has25 rfl rfl (ref1_In.c l 0 (w64 ((w64 (v1.1 * v1.2)) - 1)) v2 _ V2) (fun _ => ?_))
  refine at_s T rfl ?_
  refine at_end ?_
  refine at_sub [(0, (.int .i64 w)), (1, (.int .i64 h)), (2, (.int .i64 s)), (3, (.int .i64 l)), (9, (.int .i64 v1.1)), (26, (.bool (!v2)))] ⟨rfl, rfl, rfl, rfl, rfl, rfl, trivial⟩ ?_
  refine at_then ?_
  refine at_cond rfl (fun c3 => ?_) (fun c3 => ?_)
  · replace H := if_t c3 H
    refine at_seq ?_
    refine at_region [0] rfl ?_
    refine at_s T rfl ?_
    refine at_end ?_
    refine at_sub [(8, (.int .i64 (-1)))] ⟨rfl, trivial⟩ ?_
    refine at_then ?_
    refine at_ret ?_
    refine at_rt ?_
    obtain rfl := Option.some.inj H
    exact at_post (T := T) rfl (.tmp rfl .nil) (fun w o => ⟨(), rfl, own_to [0] rfl o⟩)
  · replace H := if_f (bf c3) H
    refine at_skip ?_
    refine at_then ?_
    refine at_seq ?_
    refine at_region [0, 1, 2, 3, 4, 5, 6, 7] rfl ?_
    iterate 2 refine at_s T rfl ?_
    obtain ⟨v3, V4, H⟩ := bind_e H
    refine at_cons (at_c (B := fun _ => []) [] rfl rfl rfl rfl has42 rfl rfl (ref1_Sectors.c w h v3 _ V4) (fun _ => ?_))
    iterate 5 refine at_s T rfl ?_
    refine at_end ?_
    refine at_sub [(0, (.int .i64 w)), (2, (.int .i64 s)), (3, (.int .i64 l)), (9, (.int .i64 v1.1)), (11, (.int .i64 v3.1))] ⟨rfl, rfl, rfl, rfl, rfl, trivial⟩ ?_
    refine at_then ?_
    refine at_seq ?_
    refine at_region_q mix (by kernel_rfl) ?_
    iterate 2 refine atq_s T rfl ?_
    obtain ⟨c5, H⟩ := chk_e H
    refine atq_v rfl rfl rfl (g_quo rfl rfl rfl c5) ?_
    iterate 3 refine atq_s T rfl ?_
    obtain ⟨c6, H⟩ := chk_e H
    refine atq_v rfl rfl rfl (g_quo rfl rfl rfl c6) ?_
    iterate 5 refine atq_s T rfl ?_
    obtain ⟨c7, H⟩ := chk_e H
    refine atq_v rfl rfl rfl (g_rem rfl rfl rfl c7) ?_
    iterate 4 refine atq_s T rfl ?_
    obtain ⟨c8, H⟩ := chk_e H
    refine atq_v rfl rfl rfl (g_rem rfl rfl rfl c8) ?_
    iterate 2 refine atq_s T rfl ?_
    refine atq_end ?_
    refine at_sub [(8, (.int .i64 (w64 ((w64 ((w64 ((w64 ((w64 (16 * (w64 (Int.tdiv s v3.1)))) + (w64 (Int.tdiv l v1.1)))) * w)) + (w64 (16 * (Int.tmod s v3.1))))) + (Int.tmod l v1.1)))))] ⟨rfl, trivial⟩ ?_
    refine at_then ?_
    refine at_ret ?_
    obtain rfl := Option.some.inj H
    exact at_post (T := T) rfl (.tmp rfl .nil) (fun w o => ⟨(), rfl, own_to [0] rfl o⟩)

/-! ### herdsman/herdsmanref1.TileOf: function 26 -/
def ref1_TileOf.l0 : Nat → api_Map → Int → (Int × Int) → List Int → Int → Option api_Map
  | 0, _, _, _, _, _ => none
  | k6 + 1, m, s, v1, x4, x5 => if x5 < (w64 (v1.1 * v1.2)) then ((ref1_Global.f m.W m.H s x5).bind fun v7 => if (0 ≤ v7 ∧ v7 < (List.length m.C : Int)) then (if (List.length x4 + 1 ≤ 1099511627776) then (ref1_TileOf.l0 k6 m s v1 (x4 ++ [(rd m.C v7)]) (w64 (x5 + 1))) else none) else none) else (some (api_Map.mk v1.1 v1.2 x4))
def ref1_TileOf.f (m : api_Map) (s : Int) : Option api_Map := (ref1_Size.f m.W m.H s).bind fun v1 => ref1_TileOf.l0 fuel m s v1 [] 0
def ref1_TileOf.R (r : api_Map) (u : Value) (G : List Hp) : Prop := ∃ (a0 : Option Addr) (n0 : Nat) (H0 : Hp), SliceO (Fl.int .u8) 5 r.C a0 n0 H0 ∧ u = (.agg #[(.int .i64 r.W), (.int .i64 r.H), (.slice a0 (List.length r.C) n0)]) ∧ G = [H0]
set_option maxHeartbeats 4000000 in
theorem ref1_TileOf.c {a_m_C : Option Addr} {n_m_C : Nat} (m : api_Map) (s : Int) (r : api_Map) (F : Hp) (H : ref1_TileOf.f m s = some r) (h_m_C : SliceR (Fl.int .u8) m.C a_m_C F) (c_m_C : List.length m.C ≤ n_m_C) :
    CallsL Tryd.prog 26 [(.agg #[(.int .i64 m.W), (.int .i64 m.H), (.slice a_m_C (List.length m.C) n_m_C)]), (.int .i64 s)] [F] (fun qp : { qp : Value × List Hp // ref1_TileOf.R r qp.1 qp.2 } => qp.1.1) (fun qp => (qp.1.2 ++ []) ++ [F]) := by
  unfold ref1_TileOf.f at H
  refine calls_atL [(0, (.agg #[(.int .i64 m.W), (.int .i64 m.H), (.slice a_m_C (List.length m.C) n_m_C)])), (1, (.int .i64 s))] Tryd.func26 rfl rfl ⟨rfl, rfl, trivial⟩ (fun W => ?_)
  refine at_seq ?_
  refine at_region [0, 1] rfl ?_
  refine at_cons (at_bx T [(.int .i64 m.W), (.int .i64 m.H), (.slice a_m_C (List.length m.C) n_m_C)] rfl rfl rfl rfl (fun b1 => ?_))
  refine at_cons (at_al T [(.int .i64 0), (.int .i64 0), (.slice none 0 0)] rfl rfl rfl rfl (fun b2 => ?_))
  refine at_end ?_
  refine at_sub [(1, (.int .i64 s)), (2, (.pointer (some ⟨b1, 0, none⟩))), (4, (.pointer (some ⟨b2, 0, none⟩)))] ⟨rfl, rfl, rfl, trivial⟩ ?_
  refine at_then ?_
  refine at_seq ?_
  refine at_region [0, 1, 2, 3, 4, 5, 6, 7, 8, 9, 10] rfl ?_
  refine at_s T rfl ?_
  refine at_v rfl (g_load T rfl rfl rfl rfl (in_var (j := 1) rfl rfl)) ?_
  refine at_s T rfl ?_
  refine at_v rfl (g_load T rfl rfl rfl rfl (in_var (j := 1) rfl rfl)) ?_
  refine at_s T rfl ?_
  obtain ⟨v1, V1, H⟩ := bind_e H
  refine at_cons (at_c (B := fun _ => []) [] rfl rfl rfl rfl has35 rfl rfl (ref1_Size.c m.W m.H s v1 _ V1) (fun _ => ?_))
  iterate 5 refine at_s T rfl ?_
  refine at_end ?_
  refine at_sub [(1, (.int .i64 s)), (2, (.pointer (some ⟨b1, 0, none⟩))), (4, (.pointer (some ⟨b2, 0, none⟩))), (5, (.int .i64 v1.1)), (6, (.int .i64 v1.2))] ⟨rfl, rfl, rfl, rfl, rfl, trivial⟩ ?_
  refine at_then ?_
  refine at_seq ?_
  refine at_region [0, 1, 2, 3, 4] rfl ?_
  iterate 3 refine at_s T rfl ?_
  refine at_cons (at_al T [(.int .i64 0), (.int .i64 0), (.slice none 0 0)] rfl rfl rfl rfl (fun b3 => ?_))
  refine at_cons (at_st T 3 [(.int .i64 v1.1), (.int .i64 v1.2), (.slice none 0 0)] rfl rfl rfl rfl rfl rfl rfl rfl rfl rfl ?_)
  refine at_end ?_
  refine at_sub [(1, (.int .i64 s)), (2, (.pointer (some ⟨b1, 0, none⟩))), (4, (.pointer (some ⟨b2, 0, none⟩))), (5, (.int .i64 v1.1)), (6, (.int .i64 v1.2)), (7, (.pointer (some ⟨b3, 0, none⟩)))] ⟨rfl, rfl, rfl, rfl, rfl, rfl, trivial⟩ ?_
  refine at_then ?_
  refine at_seq ?_
  refine at_seq ?_
  refine at_region [0] rfl ?_
  refine at_s T rfl ?_
  refine at_end ?_
  refine at_sub [(1, (.int .i64 s)), (2, (.pointer (some ⟨b1, 0, none⟩))), (4, (.pointer (some ⟨b2, 0, none⟩))), (5, (.int .i64 v1.1)), (6, (.int .i64 v1.2)), (7, (.pointer (some ⟨b3, 0, none⟩))), (8, (.int .i64 0))] ⟨rfl, rfl, rfl, rfl, rfl, rfl, rfl, trivial⟩ ?_
  refine at_then ?_
  refine at_block ?_
  refine at_addnil ?_
  refine at_loopL (σ := Nat × List Int × Int × Option Addr × Nat × Hp) (fun ⟨k6, x4, x5, a5, n5, H5⟩ => ref1_TileOf.l0 k6 m s v1 x4 x5 = some r ∧ SliceO (Fl.int .u8) 5 x4 a5 n5 H5) (fun ⟨k6, x4, x5, a5, n5, H5⟩ => [(1, (.int .i64 s)), (2, (.pointer (some ⟨b1, 0, none⟩))), (4, (.pointer (some ⟨b2, 0, none⟩))), (5, (.int .i64 v1.1)), (6, (.int .i64 v1.2)), (7, (.pointer (some ⟨b3, 0, none⟩))), (8, (.int .i64 x5))]) (fun ⟨k6, x4, x5, a5, n5, H5⟩ => [F, [(b1, Obj.cells #[(.int .i64 m.W), (.int .i64 m.H), (.slice a_m_C (List.length m.C) n_m_C)] 26 (0, 0))], [(b2, Obj.cells #[(.int .i64 0), (.int .i64 0), (.slice none 0 0)] 41 (0, 0))], [(b3, Obj.cells #[(.int .i64 v1.1), (.int .i64 v1.2), (.slice a5 (List.length x4) n5)] 41 (0, 0))], H5]) (fun s => s.1) (fuel, [], 0, none, 0, []) [0, 0, 0, 0, 0] ⟨H, SliceO.nil⟩ ⟨rfl, rfl, rfl, rfl, rfl, rfl, rfl, trivial⟩ rfl ?_
  rintro ⟨k6, x4, x5, a5, n5, H5⟩ ⟨Z2, s5⟩
  replace Z2 : ref1_TileOf.l0 k6 m s v1 x4 x5 = some r := Z2
  rcases k6 with _ | k6
  · rw [ref1_TileOf.l0] at Z2; cases Z2
  · rw [ref1_TileOf.l0] at Z2
    refine at_seq ?_
    refine at_seq ?_
    refine at_region [0, 1, 2, 3, 4] rfl ?_
    iterate 5 refine at_s T rfl ?_
    refine at_end ?_
    refine at_sub [(1, (.int .i64 s)), (2, (.pointer (some ⟨b1, 0, none⟩))), (4, (.pointer (some ⟨b2, 0, none⟩))), (5, (.int .i64 v1.1)), (6, (.int .i64 v1.2)), (7, (.pointer (some ⟨b3, 0, none⟩))), (8, (.int .i64 x5)), (25, (.bool (decide (x5 < (w64 (v1.1 * v1.2))))))] ⟨rfl, rfl, rfl, rfl, rfl, rfl, rfl, rfl, trivial⟩ ?_
    refine at_then ?_
    refine at_cond rfl (fun c3 => ?_) (fun c3 => ?_)
    · replace Z2 := if_t (of_decide_eq_true c3) Z2
      refine at_skip ?_
      refine at_then ?_
      refine at_seq ?_
      refine at_block ?_
      refine at_region_m [[], [0], [], [2], [], [4], [], [6], [], [], [4, 5, 6, 7, 8, 9], [2, 3, 4, 5, 6, 7, 8, 9, 10], [2, 3, 4, 5, 6, 7, 8, 9, 10, 11], [2, 3, 4, 5, 6, 7, 8, 9, 10, 11, 12], [0, 1, 2, 3, 4, 5, 6, 7, 8, 9, 10, 11, 12, 13], [0, 1, 2, 3, 4, 5, 6, 7, 8, 9, 10, 11, 12, 13, 14], [0, 1, 2, 3, 4, 5, 6, 7, 8, 9, 10, 11, 12, 13, 14, 15]] [14, 16] [F, [(b1, Obj.cells #[(.int .i64 m.W), (.int .i64 m.H), (.slice a_m_C (List.length m.C) n_m_C)] 26 (0, 0))], [(b2, Obj.cells #[(.int .i64 0), (.int .i64 0), (.slice none 0 0)] 41 (0, 0))], [(b3, Obj.cells #[(.int .i64 v1.1), (.int .i64 v1.2), (.slice a5 (List.length x4) n5)] 41 (0, 0))], H5] mix (by kernel_rfl) (by repeat first | exact pf_body | refine pf_then ?_ | refine pf_block ?_) (fun hg pf => ?_)
      refine atm_s T 0 hg pf (by kernel_rfl) (still_o [0, 0, 0, 0, 0] rfl) rfl ?_
      refine atm_v 1 hg pf (by kernel_rfl) (still_o [0, 0, 0, 0, 0] rfl) rfl rfl (g_load T rfl rfl rfl rfl (in_var (j := 3) rfl rfl)) ?_
      refine atm_s T 2 hg pf (by kernel_rfl) (still_o [0, 0, 0, 0, 0] rfl) rfl ?_
      refine atm_v 3 hg pf (by kernel_rfl) (still_o [0, 0, 0, 0, 0] rfl) rfl rfl (g_load T rfl rfl rfl rfl (in_var (j := 1) rfl rfl)) ?_
      refine atm_s T 4 hg pf (by kernel_rfl) (still_o [0, 0, 0, 0, 0] rfl) rfl ?_
      refine atm_v 5 hg pf (by kernel_rfl) (still_o [0, 0, 0, 0, 0] rfl) rfl rfl (g_load T rfl rfl rfl rfl (in_var (j := 1) rfl rfl)) ?_
      refine atm_s T 6 hg pf (by kernel_rfl) (still_o [0, 0, 0, 0, 0] rfl) rfl ?_
      refine atm_v 7 hg pf (by kernel_rfl) (still_o [0, 0, 0, 0, 0] rfl) rfl rfl (g_load T rfl rfl rfl rfl (in_var (j := 1) rfl rfl)) ?_
      refine atm_s T 8 hg pf (by kernel_rfl) (still_o [0, 0, 0, 0, 0] rfl) rfl ?_
      refine atm_s T 9 hg pf (by kernel_rfl) (still_o [0, 0, 0, 0, 0] rfl) rfl ?_
      refine atm_one 10 (by kernel_rfl) ?_
      obtain ⟨v7, V4, Z2⟩ := bind_e Z2
      refine at_c (B := fun _ => []) [] rfl rfl rfl rfl has46 rfl rfl (ref1_Global.c m.W m.H s x5 v7 _ V4) (fun _ => ?_)
      refine atm_next (still_o [0, 0, 0, 0, 0] rfl) ?_
      obtain ⟨c5, Z2⟩ := chk_e Z2
      obtain ⟨q6, o6, e6⟩ := h_m_C.addr c5.1 c5.2
      refine atm_v 11 hg pf (by kernel_rfl) (still_o [0, 0, 0, 0, 0] rfl) rfl rfl (g_index T rfl rfl rfl rfl rfl e6 c5.1 c5.2) ?_
      refine atm_v 12 hg pf (by kernel_rfl) (still_o [0, 0, 0, 0, 0] rfl) rfl rfl (g_load T rfl rfl rfl rfl (in_elem1 (k := (Fl.int .u8)) (ro_of h_m_C (j := 0) rfl) e6 c5 0 rfl)) ?_
      refine atm_one 13 (by kernel_rfl) ?_
      refine at_bs (k := (Fl.int .u8)) T [(rd m.C v7)] rfl rfl rfl rfl rfl rfl rfl rfl rfl (fun a7 H7 s7 => ?_)
      refine atm_next (still_o [0, 0, 0, 0, 0] rfl) ?_
      refine atm_one 14 (by kernel_rfl) ?_
      obtain ⟨c6, Z2⟩ := chk_e Z2
      refine at_ap (k := (Fl.int .u8)) (xs := x4) T (g := 4) rfl rfl rfl rfl rfl rfl rfl rfl rfl rfl s5 (own_of s7 (j := 5) rfl) c6 rfl (fun a8 n8 H8 s8 => ?_)
      refine atm_next (still_l (by kernel_rfl)) ?_
      refine atm_s T 15 hg pf (by kernel_rfl) (still_l (by kernel_rfl)) rfl ?_
      refine atm_one 16 (by kernel_rfl) ?_
      refine at_st T 3 [(.int .i64 v1.1), (.int .i64 v1.2), (.slice a8 (List.length (x4 ++ [(rd m.C v7)])) n8)] rfl rfl rfl rfl rfl rfl rfl rfl rfl rfl ?_
      refine atm_next (still_l (by kernel_rfl)) ?_
      refine atm_end (by kernel_rfl) ?_
      refine at_to [(1, (.int .i64 s)), (2, (.pointer (some ⟨b1, 0, none⟩))), (4, (.pointer (some ⟨b2, 0, none⟩))), (5, (.int .i64 v1.1)), (6, (.int .i64 v1.2)), (7, (.pointer (some ⟨b3, 0, none⟩))), (8, (.int .i64 x5))] [0, 0, 0, 0, 0] [F, [(b1, Obj.cells #[(.int .i64 m.W), (.int .i64 m.H), (.slice a_m_C (List.length m.C) n_m_C)] 26 (0, 0))], [(b2, Obj.cells #[(.int .i64 0), (.int .i64 0), (.slice none 0 0)] 41 (0, 0))], [(b3, Obj.cells #[(.int .i64 v1.1), (.int .i64 v1.2), (.slice a8 (List.length (x4 ++ [(rd m.C v7)])) n8)] 41 (0, 0))], H8] ⟨rfl, rfl, rfl, rfl, rfl, rfl, rfl, trivial⟩ rfl ?_
      refine at_nb ?_
      refine at_then ?_
      refine at_region [0, 1, 2] rfl ?_
      iterate 3 refine at_s T rfl ?_
      refine at_end ?_
      refine at_sub [(1, (.int .i64 s)), (2, (.pointer (some ⟨b1, 0, none⟩))), (4, (.pointer (some ⟨b2, 0, none⟩))), (5, (.int .i64 v1.1)), (6, (.int .i64 v1.2)), (7, (.pointer (some ⟨b3, 0, none⟩))), (8, (.int .i64 (w64 (x5 + 1))))] ⟨rfl, rfl, rfl, rfl, rfl, rfl, rfl, trivial⟩ ?_
      refine at_then ?_
      exact at_roundL (k6, (x4 ++ [(rd m.C v7)]), (w64 (x5 + 1)), a8, n8, H8) [0, 0, 0, 0, 0] ⟨Z2, s8⟩ (Nat.lt_succ_self _) ⟨rfl, rfl, rfl, rfl, rfl, rfl, rfl, trivial⟩ rfl
    · replace Z2 := if_f (of_decide_eq_false c3) Z2
      refine at_exit ?_
      refine at_xt ?_
      refine at_xt ?_
      refine at_xb ?_
      refine at_then ?_
      refine at_seq ?_
      refine at_region [0, 1] rfl ?_
      refine at_v rfl (g_loadA T (cs := [(.int .i64 v1.1), (.int .i64 v1.2), (.slice a5 (List.length x4) n5)]) rfl rfl rfl rfl rfl rfl (in_varA (j := 3) rfl rfl)) ?_
      refine at_cons (at_st T 2 [(.int .i64 v1.1), (.int .i64 v1.2), (.slice a5 (List.length x4) n5)] rfl rfl rfl rfl rfl rfl rfl rfl rfl rfl ?_)
      refine at_end ?_
      refine at_to [(4, (.pointer (some ⟨b2, 0, none⟩)))] [0, 1, 2] [F, [(b2, Obj.cells #[(.int .i64 v1.1), (.int .i64 v1.2), (.slice a5 (List.length x4) n5)] 41 (0, 0))], H5] ⟨rfl, trivial⟩ rfl ?_
      refine at_then ?_
      refine at_ret ?_
      obtain rfl := Option.some.inj Z2
      exact at_post (T := T) rfl (.aggv (j := 1) [(.int .i64 v1.1), (.int .i64 v1.2), (.slice a5 (List.length x4) n5)] rfl rfl rfl rfl rfl rfl rfl .nil) (fun w o => ⟨⟨(_, _), ⟨a5, n5, H5, s5, rfl, rfl⟩⟩, rfl, own_to [2, 0] rfl o⟩)

/-! ### herdsman/herdsmanref1.runs: function 50 -/
def ref1_runs.l1 : Nat → (List Int) → Int → Int → Option Int
  | 0, _, _, _ => none
  | k13 + 1, c, x4, x12 => (if (w64 (x4 + x12)) < (List.length c : Int) then (if (0 ≤ (w64 (x4 + x12)) ∧ (w64 (x4 + x12)) < (List.length c : Int)) then (if (0 ≤ x4 ∧ x4 < (List.length c : Int)) then (some ((rd c (w64 (x4 + x12))) == (rd c x4))) else none) else none) else (some false)).bind fun x14 => if x14 = true then (ref1_runs.l1 k13 c x4 (w64 (x12 + 1))) else (some x12)
def ref1_runs.l0 : Nat → (List Int) → List Int → Int → Option (List Int)
  | 0, _, _, _ => none
  | k5 + 1, c, x3, x4 => if x4 < (List.length c : Int) then (((ref1_runs.l1 fuel c x4 1).bind fun x9 => if (0 ≤ x4 ∧ x4 < (List.length c : Int)) then (if (List.length x3 + 2 ≤ 1099511627776) then (some ((x3 ++ [(wu8 (w64 (x9 - 1))), (rd c x4)]), (w64 (x4 + x9)))) else none) else none).bind fun (x6, x7) => ref1_runs.l0 k5 c x6 x7) else (some x3)
def ref1_runs.f (c : (List Int)) : Option (List Int) := ref1_runs.l0 fuel c [2] 0
def ref1_runs.R (r : (List Int)) (u : Value) (G : List Hp) : Prop := ∃ (a0 : Option Addr) (n0 : Nat) (H0 : Hp), SliceO (Fl.int .u8) 5 r a0 n0 H0 ∧ u = (.slice a0 (List.length r) n0) ∧ G = [H0]
set_option maxHeartbeats 4000000 in
theorem ref1_runs.c {a_c : Option Addr} {n_c : Nat} (c : (List Int)) (r : (List Int)) (F : Hp) (H : ref1_runs.f c = some r) (h_c : SliceR (Fl.int .u8) c a_c F) (c_c : List.length c ≤ n_c) :
    CallsL Tryd.prog 50 [(.slice a_c (List.length c) n_c)] [F] (fun qp : { qp : Value × List Hp // ref1_runs.R r qp.1 qp.2 } => qp.1.1) (fun qp => (qp.1.2 ++ []) ++ [F]) := by
  unfold ref1_runs.f at H
  refine calls_atL [(0, (.slice a_c (List.length c) n_c))] Tryd.func50 rfl rfl ⟨rfl, trivial⟩ (fun W => ?_)
  refine at_seq ?_
  refine at_region [0] rfl ?_
  refine at_s T rfl ?_
  refine at_end ?_
  refine at_sub [(0, (.slice a_c (List.length c) n_c))] ⟨rfl, trivial⟩ ?_
  refine at_then ?_
  refine at_seq ?_
  refine at_region [0, 1] rfl ?_
  refine at_cons (at_bs (k := (Fl.int .u8)) T [2] rfl rfl rfl rfl rfl rfl rfl rfl rfl (fun a1 H1 s1 => ?_))
  refine at_s T rfl ?_
  refine at_end ?_
  refine at_sub [(0, (.slice a_c (List.length c) n_c)), (3, (.slice a1 (List.length [2]) (List.length [2])))] ⟨rfl, rfl, trivial⟩ ?_
  refine at_then ?_
  refine at_seq ?_
  refine at_seq ?_
  refine at_region [0] rfl ?_
  refine at_s T rfl ?_
  refine at_end ?_
  refine at_sub [(0, (.slice a_c (List.length c) n_c)), (3, (.slice a1 (List.length [2]) (List.length [2]))), (4, (.int .i64 0))] ⟨rfl, rfl, rfl, trivial⟩ ?_
  refine at_then ?_
  refine at_block ?_
  refine at_loopL (σ := Nat × List Int × Int × Option Addr × Nat × Hp) (fun ⟨k5, x3, x4, a3, n3, H3⟩ => ref1_runs.l0 k5 c x3 x4 = some r ∧ SliceO (Fl.int .u8) 5 x3 a3 n3 H3) (fun ⟨k5, x3, x4, a3, n3, H3⟩ => [(0, (.slice a_c (List.length c) n_c)), (3, (.slice a3 (List.length x3) n3)), (4, (.int .i64 x4))]) (fun ⟨k5, x3, x4, a3, n3, H3⟩ => [F, H3]) (fun s => s.1) (fuel, [2], 0, a1, (List.length [2]), H1) [0, 0] ⟨H, s1⟩ ⟨rfl, rfl, rfl, trivial⟩ rfl ?_
  rintro ⟨k5, x3, x4, a3, n3, H3⟩ ⟨Z1, s3⟩
  replace Z1 : ref1_runs.l0 k5 c x3 x4 = some r := Z1
  rcases k5 with _ | k5
  · rw [ref1_runs.l0] at Z1; cases Z1
  · rw [ref1_runs.l0] at Z1
    refine at_seq ?_
    refine at_seq ?_
    refine at_region [0, 1, 2, 3] rfl ?_
    iterate 4 refine at_s T rfl ?_
    refine at_end ?_
    refine at_sub [(0, (.slice a_c (List.length c) n_c)), (3, (.slice a3 (List.length x3) n3)), (4, (.int .i64 x4)), (10, (.bool (decide (x4 < (List.length c : Int)))))] ⟨rfl, rfl, rfl, rfl, trivial⟩ ?_
    refine at_then ?_
    refine at_cond rfl (fun c2 => ?_) (fun c2 => ?_)
    · replace Z1 := if_t (of_decide_eq_true c2) Z1
      refine at_skip ?_
      refine at_then ?_
      obtain ⟨z8, Z3, Z1⟩ := bind_e Z1
      refine at_any_mid (σ := List Int × Int × Option Addr × Nat × Hp) (fun ⟨x6, x7, a4, n4, H4⟩ => (x6, x7) = z8 ∧ SliceO (Fl.int .u8) 5 x6 a4 n4 H4) (fun ⟨x6, x7, a4, n4, H4⟩ => [(0, (.slice a_c (List.length c) n_c)), (3, (.slice a4 (List.length x6) n4)), (4, (.int .i64 x7))]) (fun ⟨x6, x7, a4, n4, H4⟩ => [F, H4]) ?_ ?_
      · refine at_block ?_
        refine at_seq ?_
        refine at_region [0] rfl ?_
        refine at_s T rfl ?_
        refine at_end ?_
        refine at_sub [(0, (.slice a_c (List.length c) n_c)), (3, (.slice a3 (List.length x3) n3)), (4, (.int .i64 x4)), (5, (.int .i64 1))] ⟨rfl, rfl, rfl, rfl, trivial⟩ ?_
        refine at_then ?_
        obtain ⟨z10, Z4, Z3⟩ := bind_e Z3
        refine at_seq_mid (σ := Int) (fun x9 => x9 = z10) (fun x9 => [(0, (.slice a_c (List.length c) n_c)), (3, (.slice a3 (List.length x3) n3)), (4, (.int .i64 x4)), (5, (.int .i64 x9))]) (fun x9 => [F, H3]) ?_ ?_
        · refine at_block ?_
          refine at_loopL (σ := Nat × Int) (fun ⟨k13, x12⟩ => ref1_runs.l1 k13 c x4 x12 = some z10) (fun ⟨k13, x12⟩ => [(0, (.slice a_c (List.length c) n_c)), (3, (.slice a3 (List.length x3) n3)), (4, (.int .i64 x4)), (5, (.int .i64 x12))]) (fun ⟨k13, x12⟩ => [F, H3]) (fun s => s.1) (fuel, 1) [0, 0] Z4 ⟨rfl, rfl, rfl, rfl, trivial⟩ rfl ?_
          rintro ⟨k13, x12⟩ Z5
          replace Z5 : ref1_runs.l1 k13 c x4 x12 = some z10 := Z5
          rcases k13 with _ | k13
          · rw [ref1_runs.l1] at Z5; cases Z5
          · rw [ref1_runs.l1] at Z5
            refine at_seq ?_
            obtain ⟨z15, Z6, Z5⟩ := bind_e Z5
            refine at_seq_mid (σ := Bool) (fun x14 => x14 = z15) (fun x14 => [(0, (.slice a_c (List.length c) n_c)), (3, (.slice a3 (List.length x3) n3)), (4, (.int .i64 x4)), (5, (.int .i64 x12)), (29, (.bool x14))]) (fun x14 => [F, H3]) ?_ ?_
            · refine at_region_q mix (by kernel_rfl) ?_
              iterate 7 refine atq_s T rfl ?_
              refine atq_case (s := 17) rfl (fun c7 => ?_) (fun c7 => ?_)
              · replace Z6 := if_t (of_decide_eq_true c7) Z6
                iterate 4 refine atq_s T rfl ?_
                obtain ⟨c8, Z6⟩ := chk_e Z6
                obtain ⟨q5, o5, e5⟩ := h_c.addr c8.1 c8.2
                refine atq_v rfl rfl rfl (g_index T rfl rfl rfl rfl rfl e5 c8.1 c8.2) ?_
                refine atq_v rfl rfl rfl (g_load T rfl rfl rfl rfl (in_elem1 (k := (Fl.int .u8)) (ro_of h_c (j := 0) rfl) e5 c8 0 rfl)) ?_
                iterate 2 refine atq_s T rfl ?_
                obtain ⟨c9, Z6⟩ := chk_e Z6
                refine atq_v rfl rfl rfl (g_index T rfl rfl rfl rfl rfl e5 c9.1 c9.2) ?_
                refine atq_v rfl rfl rfl (g_load T rfl rfl rfl rfl (in_elem1 (k := (Fl.int .u8)) (ro_of h_c (j := 0) rfl) e5 c9 0 rfl)) ?_
                iterate 2 refine atq_s T rfl ?_
                refine atq_end ?_
                refine at_sub [(0, (.slice a_c (List.length c) n_c)), (3, (.slice a3 (List.length x3) n3)), (4, (.int .i64 x4)), (5, (.int .i64 x12)), (29, (.bool ((rd c (w64 (x4 + x12))) == (rd c x4))))] ⟨rfl, rfl, rfl, rfl, rfl, trivial⟩ ?_
                refine at_then ?_
                obtain rfl := Option.some.inj Z6
                exact at_mid ((rd c (w64 (x4 + x12))) == (rd c x4)) [0, 0] rfl ⟨rfl, rfl, rfl, rfl, rfl, trivial⟩ rfl
              · replace Z6 := if_f (of_decide_eq_false c7) Z6
                iterate 12 refine atq_s T rfl ?_
                refine atq_end ?_
                refine at_sub [(0, (.slice a_c (List.length c) n_c)), (3, (.slice a3 (List.length x3) n3)), (4, (.int .i64 x4)), (5, (.int .i64 x12)), (29, (.bool false))] ⟨rfl, rfl, rfl, rfl, rfl, trivial⟩ ?_
                refine at_then ?_
                obtain rfl := Option.some.inj Z6
                exact at_mid false [0, 0] rfl ⟨rfl, rfl, rfl, rfl, rfl, trivial⟩ rfl
            · rintro x14 rfl
              refine at_cond rfl (fun c10 => ?_) (fun c10 => ?_)
              · replace Z5 := if_t c10 Z5
                refine at_skip ?_
                refine at_then ?_
                refine at_block ?_
                refine at_region [0, 1, 2] rfl ?_
                iterate 3 refine at_s T rfl ?_
                refine at_end ?_
                refine at_sub [(0, (.slice a_c (List.length c) n_c)), (3, (.slice a3 (List.length x3) n3)), (4, (.int .i64 x4)), (5, (.int .i64 (w64 (x12 + 1))))] ⟨rfl, rfl, rfl, rfl, trivial⟩ ?_
                refine at_nb ?_
                refine at_then ?_
                exact at_roundL (k13, (w64 (x12 + 1))) [0, 0] Z5 (Nat.lt_succ_self _) ⟨rfl, rfl, rfl, rfl, trivial⟩ rfl
              · replace Z5 := if_f (bf c10) Z5
                refine at_exit ?_
                refine at_xt ?_
                refine at_xt ?_
                refine at_xb ?_
                refine at_then ?_
                obtain rfl := Option.some.inj Z5
                exact at_mid x12 [0, 0] rfl ⟨rfl, rfl, rfl, rfl, trivial⟩ rfl
        · rintro x9 rfl
          refine at_seq ?_
          refine at_region [0, 1, 2, 3, 4, 5, 6, 7, 8, 9, 10] rfl ?_
          iterate 6 refine at_s T rfl ?_
          obtain ⟨c11, Z3⟩ := chk_e Z3
          obtain ⟨q6, o6, e6⟩ := h_c.addr c11.1 c11.2
          refine at_v rfl (g_index T rfl rfl rfl rfl rfl e6 c11.1 c11.2) ?_
          refine at_v rfl (g_load T rfl rfl rfl rfl (in_elem1 (k := (Fl.int .u8)) (ro_of h_c (j := 0) rfl) e6 c11 0 rfl)) ?_
          refine at_cons (at_bs (k := (Fl.int .u8)) T [(wu8 (w64 (x9 - 1))), (rd c x4)] rfl rfl rfl rfl rfl rfl rfl rfl rfl (fun a7 H7 s7 => ?_))
          obtain ⟨c12, Z3⟩ := chk_e Z3
          refine at_cons (at_ap (k := (Fl.int .u8)) (xs := x3) T (g := 1) rfl rfl rfl rfl rfl rfl rfl rfl rfl rfl s3 (own_of s7 (j := 2) rfl) c12 rfl (fun a8 n8 H8 s8 => ?_))
          refine at_s T rfl ?_
          refine at_end ?_
          refine at_to [(0, (.slice a_c (List.length c) n_c)), (3, (.slice a8 (List.length (x3 ++ [(wu8 (w64 (x9 - 1))), (rd c x4)])) n8)), (4, (.int .i64 x4)), (5, (.int .i64 x9))] [0, 0] [F, H8] ⟨rfl, rfl, rfl, rfl, trivial⟩ rfl ?_
          refine at_then ?_
          refine at_region [0, 1, 2, 3] rfl ?_
          iterate 4 refine at_s T rfl ?_
          refine at_end ?_
          refine at_sub [(0, (.slice a_c (List.length c) n_c)), (3, (.slice a8 (List.length (x3 ++ [(wu8 (w64 (x9 - 1))), (rd c x4)])) n8)), (4, (.int .i64 (w64 (x4 + x9))))] ⟨rfl, rfl, rfl, trivial⟩ ?_
          refine at_nb ?_
          refine at_then ?_
          obtain rfl := Option.some.inj Z3
          exact at_mid ((x3 ++ [(wu8 (w64 (x9 - 1))), (rd c x4)]), (w64 (x4 + x9)), a8, n8, H8) [0, 0] ⟨rfl, s8⟩ ⟨rfl, rfl, rfl, trivial⟩ rfl
      · rintro ⟨x6, x7, a4, n4, H4⟩ ⟨rfl, s4⟩
        refine at_then ?_
        exact at_roundL (k5, x6, x7, a4, n4, H4) [0, 0] ⟨Z1, s4⟩ (Nat.lt_succ_self _) ⟨rfl, rfl, rfl, trivial⟩ rfl
    · replace Z1 := if_f (of_decide_eq_false c2) Z1
      refine at_exit ?_
      refine at_xt ?_
      refine at_xt ?_
      refine at_xb ?_
      refine at_then ?_
      refine at_seq ?_
      refine at_region [0, 1] rfl ?_
      iterate 2 refine at_s T rfl ?_
      refine at_end ?_
      refine at_sub [(2, (.slice a3 (List.length x3) n3))] ⟨rfl, trivial⟩ ?_
      refine at_then ?_
      refine at_ret ?_
      obtain rfl := Option.some.inj Z1
      exact at_post (T := T) rfl (.tmp rfl .nil) (fun w o => ⟨⟨(_, _), ⟨a3, n3, H3, s3, rfl, rfl⟩⟩, rfl, own_to [1, 0] rfl o⟩)

/-! ### herdsman/herdsmanref1.PutTile: function 30 -/
def ref1_PutTile.f (t : api_Map) : Option (Int × (List Int)) := (ref1_runs.f t.C).bind fun v1 => if ((List.length v1 : Int) == 3) = true then (if (0 ≤ (0 : Int) ∧ (0 : Int) < (List.length t.C : Int)) then (some (0, [0, (rd t.C 0)])) else none) else (if (List.length v1 : Int) < (w64 (1 + (List.length t.C : Int))) then (some (2, v1)) else (if (List.length [1] + List.length t.C ≤ 1099511627776) then (some (1, ([1] ++ t.C))) else none))
def ref1_PutTile.R (r : (Int × (List Int))) (u : Value) (G : List Hp) : Prop := ∃ (a0 : Option Addr) (n0 : Nat) (H0 : Hp), SliceO (Fl.int .u8) 5 r.2 a0 n0 H0 ∧ u = (.tuple #[(.int .i64 r.1), (.slice a0 (List.length r.2) n0)]) ∧ G = [H0]
set_option maxHeartbeats 4000000 in
theorem ref1_PutTile.c {a_t_C : Option Addr} {n_t_C : Nat} (t : api_Map) (r : (Int × (List Int))) (F : Hp) (H : ref1_PutTile.f t = some r) (h_t_C : SliceR (Fl.int .u8) t.C a_t_C F) (c_t_C : List.length t.C ≤ n_t_C) :
    CallsL Tryd.prog 30 [(.agg #[(.int .i64 t.W), (.int .i64 t.H), (.slice a_t_C (List.length t.C) n_t_C)])] [F] (fun qp : { qp : Value × List Hp // ref1_PutTile.R r qp.1 qp.2 } => qp.1.1) (fun qp => (qp.1.2 ++ []) ++ [F]) := by
  unfold ref1_PutTile.f at H
  refine calls_atL [(0, (.agg #[(.int .i64 t.W), (.int .i64 t.H), (.slice a_t_C (List.length t.C) n_t_C)]))] Tryd.func30 rfl rfl ⟨rfl, trivial⟩ (fun W => ?_)
  refine at_seq ?_
  refine at_region [0, 1, 2] rfl ?_
  refine at_cons (at_bx T [(.int .i64 t.W), (.int .i64 t.H), (.slice a_t_C (List.length t.C) n_t_C)] rfl rfl rfl rfl (fun b1 => ?_))
  iterate 2 refine at_s T rfl ?_
  refine at_end ?_
  refine at_sub [(1, (.pointer (some ⟨b1, 0, none⟩)))] ⟨rfl, trivial⟩ ?_
  refine at_then ?_
  refine at_seq ?_
  refine at_region [0, 1, 2, 3] rfl ?_
  refine at_s T rfl ?_
  refine at_v rfl (g_load T rfl rfl rfl rfl (in_var (j := 1) rfl rfl)) ?_
  obtain ⟨v1, V1, H⟩ := bind_e H
  refine at_cons (at_cR (ref1_runs.R v1) [] [] rfl rfl rfl rfl has50 rfl rfl (ref1_runs.c t.C v1 _ V1 (ro_of h_t_C (j := 0) rfl) c_t_C) ?_)
  rintro _ _ ⟨a2, n2, H2, s2, rfl, rfl⟩
  refine at_s T rfl ?_
  refine at_end ?_
  refine at_sub [(1, (.pointer (some ⟨b1, 0, none⟩))), (4, (.slice a2 (List.length v1) n2))] ⟨rfl, rfl, trivial⟩ ?_
  refine at_then ?_
  refine at_seq ?_
  refine at_seq ?_
  refine at_region [0, 1, 2] rfl ?_
  iterate 3 refine at_s T rfl ?_
  refine at_end ?_
  refine at_sub [(1, (.pointer (some ⟨b1, 0, none⟩))), (4, (.slice a2 (List.length v1) n2)), (10, (.bool ((List.length v1 : Int) == 3)))] ⟨rfl, rfl, rfl, trivial⟩ ?_
  refine at_then ?_
  refine at_cond rfl (fun c2 => ?_) (fun c2 => ?_)
  · replace H := if_t c2 H
    refine at_seq ?_
    refine at_region_m [[], [0], [0, 1], [0, 1, 2], [0, 1, 2, 3], [], [0, 1, 2, 3, 4, 5]] [] [F, [(b1, Obj.cells #[(.int .i64 t.W), (.int .i64 t.H), (.slice a_t_C (List.length t.C) n_t_C)] 41 (0, 0))], H2] mix (by kernel_rfl) (by repeat first | exact pf_body | refine pf_then ?_ | refine pf_block ?_) (fun hg pf => ?_)
    refine atm_s T 0 hg pf (by kernel_rfl) (still_o [0, 0, 0] rfl) rfl ?_
    refine atm_v 1 hg pf (by kernel_rfl) (still_o [0, 0, 0] rfl) rfl rfl (g_load T rfl rfl rfl rfl (in_var (j := 1) rfl rfl)) ?_
    obtain ⟨c3, H⟩ := chk_e H
    obtain ⟨q3, o3, e3⟩ := h_t_C.addr c3.1 c3.2
    refine atm_v 2 hg pf (by kernel_rfl) (still_o [0, 0, 0] rfl) rfl rfl (g_index T rfl rfl rfl rfl rfl e3 c3.1 c3.2) ?_
    refine atm_v 3 hg pf (by kernel_rfl) (still_o [0, 0, 0] rfl) rfl rfl (g_load T rfl rfl rfl rfl (in_elem1 (k := (Fl.int .u8)) (ro_of h_t_C (j := 0) rfl) e3 c3 0 rfl)) ?_
    refine atm_s T 5 hg pf (by kernel_rfl) (still_o [0, 0, 0] rfl) rfl ?_
    refine atm_one 4 (by kernel_rfl) ?_
    refine at_bs (k := (Fl.int .u8)) T [0, (rd t.C 0)] rfl rfl rfl rfl rfl rfl rfl rfl rfl (fun a4 H4 s4 => ?_)
    refine atm_next (still_o [0, 0, 0] rfl) ?_
    refine atm_s T 6 hg pf (by kernel_rfl) (still_o [0, 0, 0] rfl) rfl ?_
    refine atm_end (by kernel_rfl) ?_
    refine at_to [(2, (.int .i64 0)), (3, (.slice a4 (List.length [0, (rd t.C 0)]) (List.length [0, (rd t.C 0)])))] [0, 2] [F, H4] ⟨rfl, rfl, trivial⟩ rfl ?_
    refine at_then ?_
    refine at_ret ?_
    refine at_rt ?_
    obtain rfl := Option.some.inj H
    exact at_post (T := T) rfl (.tmp rfl (.tmp rfl .nil)) (fun w o => ⟨⟨(_, _), ⟨a4, (List.length [0, (rd t.C 0)]), H4, s4, rfl, rfl⟩⟩, rfl, own_to [1, 0] rfl o⟩)
  · replace H := if_f (bf c2) H
    refine at_skip ?_
    refine at_then ?_
    refine at_seq ?_
    refine at_seq ?_
    refine at_region [0, 1, 2, 3, 4, 5, 6] rfl ?_
    iterate 3 refine at_s T rfl ?_
    refine at_v rfl (g_load T rfl rfl rfl rfl (in_var (j := 1) rfl rfl)) ?_
    iterate 3 refine at_s T rfl ?_
    refine at_end ?_
    refine at_sub [(1, (.pointer (some ⟨b1, 0, none⟩))), (4, (.slice a2 (List.length v1) n2)), (22, (.bool (decide ((List.length v1 : Int) < (w64 (1 + (List.length t.C : Int)))))))] ⟨rfl, rfl, rfl, trivial⟩ ?_
    refine at_then ?_
    refine at_cond rfl (fun c4 => ?_) (fun c4 => ?_)
    · replace H := if_t (of_decide_eq_true c4) H
      refine at_seq ?_
      refine at_region [0, 1, 2] rfl ?_
      iterate 3 refine at_s T rfl ?_
      refine at_end ?_
      refine at_to [(2, (.int .i64 2)), (3, (.slice a2 (List.length v1) n2))] [0, 1] [F, H2] ⟨rfl, rfl, trivial⟩ rfl ?_
      refine at_then ?_
      refine at_ret ?_
      refine at_rt ?_
      obtain rfl := Option.some.inj H
      exact at_post (T := T) rfl (.tmp rfl (.tmp rfl .nil)) (fun w o => ⟨⟨(_, _), ⟨a2, n2, H2, s2, rfl, rfl⟩⟩, rfl, own_to [1, 0] rfl o⟩)
    · replace H := if_f (of_decide_eq_false c4) H
      refine at_skip ?_
      refine at_then ?_
      refine at_seq ?_
      refine at_region [0, 1, 2, 3, 4, 5] rfl ?_
      refine at_cons (at_bs (k := (Fl.int .u8)) T [1] rfl rfl rfl rfl rfl rfl rfl rfl rfl (fun a5 H5 s5 => ?_))
      refine at_s T rfl ?_
      refine at_v rfl (g_load T rfl rfl rfl rfl (in_var (j := 1) rfl rfl)) ?_
      obtain ⟨c5, H⟩ := chk_e H
      refine at_cons (at_ap (k := (Fl.int .u8)) (xs := [1]) T (g := 3) rfl rfl rfl rfl rfl rfl rfl rfl rfl rfl s5 (ro_of h_t_C (j := 0) rfl) c5 rfl (fun a6 n6 H6 s6 => ?_))
      iterate 2 refine at_s T rfl ?_
      refine at_end ?_
      refine at_to [(2, (.int .i64 1)), (3, (.slice a6 (List.length ([1] ++ t.C)) n6))] [0, 2] [F, H6] ⟨rfl, rfl, trivial⟩ rfl ?_
      refine at_then ?_
      refine at_ret ?_
      obtain rfl := Option.some.inj H
      exact at_post (T := T) rfl (.tmp rfl (.tmp rfl .nil)) (fun w o => ⟨⟨(_, _), ⟨a6, n6, H6, s6, rfl, rfl⟩⟩, rfl, own_to [1, 0] rfl o⟩)

/-! ### herdsman/herdsmanref1.PutMap: function 10 -/
def ref1_PutMap.l0 : Nat → api_Map → List Int → Int → Option (List Int)
  | 0, _, _, _ => none
  | k5 + 1, m, x3, x4 => (ref1_Count.f m.W m.H).bind fun v6 => if x4 < v6 then ((ref1_TileOf.f m x4).bind fun v7 => (ref1_PutTile.f v7).bind fun v8 => if (List.length x3 + List.length v8.2 ≤ 1099511627776) then (ref1_PutMap.l0 k5 m (x3 ++ v8.2) (w64 (x4 + 1))) else none) else (some x3)
def ref1_PutMap.f (m : api_Map) : Option (List Int) := ref1_PutMap.l0 fuel m [(wu8 m.W), (wu8 (Int.fdiv m.W (2 ^ 8))), (wu8 m.H), (wu8 (Int.fdiv m.H (2 ^ 8)))] 0
def ref1_PutMap.R (r : (List Int)) (u : Value) (G : List Hp) : Prop := ∃ (a0 : Option Addr) (n0 : Nat) (H0 : Hp), SliceO (Fl.int .u8) 5 r a0 n0 H0 ∧ u = (.slice a0 (List.length r) n0) ∧ G = [H0]
set_option maxHeartbeats 4000000 in
theorem ref1_PutMap.c {a_m_C : Option Addr} {n_m_C : Nat} (m : api_Map) (r : (List Int)) (F : Hp) (H : ref1_PutMap.f m = some r) (h_m_C : SliceR (Fl.int .u8) m.C a_m_C F) (c_m_C : List.length m.C ≤ n_m_C) :
    CallsL Tryd.prog 10 [(.agg #[(.int .i64 m.W), (.int .i64 m.H), (.slice a_m_C (List.length m.C) n_m_C)])] [F] (fun qp : { qp : Value × List Hp // ref1_PutMap.R r qp.1 qp.2 } => qp.1.1) (fun qp => (qp.1.2 ++ []) ++ [F]) := by
  unfold ref1_PutMap.f at H
  refine calls_atL [(0, (.agg #[(.int .i64 m.W), (.int .i64 m.H), (.slice a_m_C (List.length m.C) n_m_C)]))] Tryd.func10 rfl rfl ⟨rfl, trivial⟩ (fun W => ?_)
  refine at_seq ?_
  refine at_region [0, 1] rfl ?_
  refine at_cons (at_bx T [(.int .i64 m.W), (.int .i64 m.H), (.slice a_m_C (List.length m.C) n_m_C)] rfl rfl rfl rfl (fun b1 => ?_))
  refine at_s T rfl ?_
  refine at_end ?_
  refine at_sub [(1, (.pointer (some ⟨b1, 0, none⟩)))] ⟨rfl, trivial⟩ ?_
  refine at_then ?_
  refine at_seq ?_
  refine at_region [0, 1, 2, 3, 4, 5, 6, 7, 8, 9, 10, 11, 12, 13, 14, 15] rfl ?_
  refine at_s T rfl ?_
  refine at_v rfl (g_load T rfl rfl rfl rfl (in_var (j := 1) rfl rfl)) ?_
  iterate 2 refine at_s T rfl ?_
  refine at_v rfl (g_load T rfl rfl rfl rfl (in_var (j := 1) rfl rfl)) ?_
  iterate 3 refine at_s T rfl ?_
  refine at_v rfl (g_load T rfl rfl rfl rfl (in_var (j := 1) rfl rfl)) ?_
  iterate 2 refine at_s T rfl ?_
  refine at_v rfl (g_load T rfl rfl rfl rfl (in_var (j := 1) rfl rfl)) ?_
  iterate 2 refine at_s T rfl ?_
  refine at_cons (at_bs (k := (Fl.int .u8)) T [(wu8 m.W), (wu8 (Int.fdiv m.W (2 ^ 8))), (wu8 m.H), (wu8 (Int.fdiv m.H (2 ^ 8)))] rfl rfl rfl rfl rfl rfl rfl rfl rfl (fun a2 H2 s2 => ?_))
  refine at_s T rfl ?_
  refine at_end ?_
  refine at_sub [(1, (.pointer (some ⟨b1, 0, none⟩))), (3, (.slice a2 (List.length [(wu8 m.W), (wu8 (Int.fdiv m.W (2 ^ 8))), (wu8 m.H), (wu8 (Int.fdiv m.H (2 ^ 8)))]) (List.length [(wu8 m.W), (wu8 (Int.fdiv m.W (2 ^ 8))), (wu8 m.H), (wu8 (Int.fdiv m.H (2 ^ 8)))])))] ⟨rfl, rfl, trivial⟩ ?_
  refine at_then ?_
  refine at_seq ?_
  refine at_seq ?_
  refine at_region [0] rfl ?_
  refine at_s T rfl ?_
  refine at_end ?_
  refine at_sub [(1, (.pointer (some ⟨b1, 0, none⟩))), (3, (.slice a2 (List.length [(wu8 m.W), (wu8 (Int.fdiv m.W (2 ^ 8))), (wu8 m.H), (wu8 (Int.fdiv m.H (2 ^ 8)))]) (List.length [(wu8 m.W), (wu8 (Int.fdiv m.W (2 ^ 8))), (wu8 m.H), (wu8 (Int.fdiv m.H (2 ^ 8)))]))), (4, (.int .i64 0))] ⟨rfl, rfl, rfl, trivial⟩ ?_
  refine at_then ?_
  refine at_block ?_
  refine at_loopL (σ := Nat × List Int × Int × Option Addr × Nat × Hp) (fun ⟨k5, x3, x4, a4, n4, H4⟩ => ref1_PutMap.l0 k5 m x3 x4 = some r ∧ SliceO (Fl.int .u8) 5 x3 a4 n4 H4) (fun ⟨k5, x3, x4, a4, n4, H4⟩ => [(1, (.pointer (some ⟨b1, 0, none⟩))), (3, (.slice a4 (List.length x3) n4)), (4, (.int .i64 x4))]) (fun ⟨k5, x3, x4, a4, n4, H4⟩ => [F, [(b1, Obj.cells #[(.int .i64 m.W), (.int .i64 m.H), (.slice a_m_C (List.length m.C) n_m_C)] 26 (0, 0))], H4]) (fun s => s.1) (fuel, [(wu8 m.W), (wu8 (Int.fdiv m.W (2 ^ 8))), (wu8 m.H), (wu8 (Int.fdiv m.H (2 ^ 8)))], 0, a2, (List.length [(wu8 m.W), (wu8 (Int.fdiv m.W (2 ^ 8))), (wu8 m.H), (wu8 (Int.fdiv m.H (2 ^ 8)))]), H2) [0, 0, 0] ⟨H, s2⟩ ⟨rfl, rfl, rfl, trivial⟩ rfl ?_
  rintro ⟨k5, x3, x4, a4, n4, H4⟩ ⟨Z1, s4⟩
  replace Z1 : ref1_PutMap.l0 k5 m x3 x4 = some r := Z1
  rcases k5 with _ | k5
  · rw [ref1_PutMap.l0] at Z1; cases Z1
  · rw [ref1_PutMap.l0] at Z1
    refine at_seq ?_
    refine at_seq ?_
    refine at_region [0, 1, 2, 3, 4, 5, 6] rfl ?_
    iterate 2 refine at_s T rfl ?_
    refine at_v rfl (g_load T rfl rfl rfl rfl (in_var (j := 1) rfl rfl)) ?_
    refine at_s T rfl ?_
    refine at_v rfl (g_load T rfl rfl rfl rfl (in_var (j := 1) rfl rfl)) ?_
    obtain ⟨v6, V2, Z1⟩ := bind_e Z1
    refine at_cons (at_c (B := fun _ => []) [] rfl rfl rfl rfl has21 rfl rfl (ref1_Count.c m.W m.H v6 _ V2) (fun _ => ?_))
    refine at_s T rfl ?_
    refine at_end ?_
    refine at_sub [(1, (.pointer (some ⟨b1, 0, none⟩))), (3, (.slice a4 (List.length x3) n4)), (4, (.int .i64 x4)), (28, (.bool (decide (x4 < v6))))] ⟨rfl, rfl, rfl, rfl, trivial⟩ ?_
    refine at_then ?_
    refine at_cond rfl (fun c3 => ?_) (fun c3 => ?_)
    · replace Z1 := if_t (of_decide_eq_true c3) Z1
      refine at_skip ?_
      refine at_then ?_
      refine at_seq ?_
      refine at_block ?_
      refine at_seq ?_
      refine at_region [0, 1, 2, 3, 4, 5, 6, 7, 8] rfl ?_
      refine at_v rfl (g_loadA T (cs := [(.int .i64 m.W), (.int .i64 m.H), (.slice a_m_C (List.length m.C) n_m_C)]) rfl rfl rfl rfl rfl rfl (in_varA (j := 1) rfl rfl)) ?_
      refine at_s T rfl ?_
      obtain ⟨v7, V4, Z1⟩ := bind_e Z1
      refine at_cons (at_cR (ref1_TileOf.R v7) [] [] rfl rfl rfl rfl has26 rfl rfl (ref1_TileOf.c m x4 v7 _ V4 (ro_of h_m_C (j := 0) rfl) c_m_C) ?_)
      rintro _ _ ⟨a5, n5, H5, s5, rfl, rfl⟩
      obtain ⟨v8, V5, Z1⟩ := bind_e Z1
      refine at_cons (at_cR (ref1_PutTile.R v8) [] [] rfl rfl rfl rfl has30 rfl rfl (ref1_PutTile.c v7 v8 _ V5 (own_of s5 (j := 3) rfl) s5.cap_le) ?_)
      rintro _ _ ⟨a6, n6, H6, s6, rfl, rfl⟩
      iterate 5 refine at_s T rfl ?_
      refine at_end ?_
      refine at_to [(1, (.pointer (some ⟨b1, 0, none⟩))), (3, (.slice a4 (List.length x3) n4)), (4, (.int .i64 x4)), (6, (.slice a6 (List.length v8.2) n6))] [0, 0, 0, 1] [F, [(b1, Obj.cells #[(.int .i64 m.W), (.int .i64 m.H), (.slice a_m_C (List.length m.C) n_m_C)] 26 (0, 0))], H4, H6] ⟨rfl, rfl, rfl, rfl, trivial⟩ rfl ?_
      refine at_then ?_
      refine at_region [0, 1, 2, 3] rfl ?_
      iterate 2 refine at_s T rfl ?_
      obtain ⟨c6, Z1⟩ := chk_e Z1
      refine at_cons (at_ap (k := (Fl.int .u8)) (xs := x3) T (g := 2) rfl rfl rfl rfl rfl rfl rfl rfl rfl rfl s4 (own_of s6 (j := 3) rfl) c6 rfl (fun a7 n7 H7 s7 => ?_))
      refine at_s T rfl ?_
      refine at_end ?_
      refine at_to [(1, (.pointer (some ⟨b1, 0, none⟩))), (3, (.slice a7 (List.length (x3 ++ v8.2)) n7)), (4, (.int .i64 x4))] [0, 0, 0] [F, [(b1, Obj.cells #[(.int .i64 m.W), (.int .i64 m.H), (.slice a_m_C (List.length m.C) n_m_C)] 26 (0, 0))], H7] ⟨rfl, rfl, rfl, trivial⟩ rfl ?_
      refine at_nb ?_
      refine at_then ?_
      refine at_region [0, 1, 2] rfl ?_
      iterate 3 refine at_s T rfl ?_
      refine at_end ?_
      refine at_sub [(1, (.pointer (some ⟨b1, 0, none⟩))), (3, (.slice a7 (List.length (x3 ++ v8.2)) n7)), (4, (.int .i64 (w64 (x4 + 1))))] ⟨rfl, rfl, rfl, trivial⟩ ?_
      refine at_then ?_
      exact at_roundL (k5, (x3 ++ v8.2), (w64 (x4 + 1)), a7, n7, H7) [0, 0, 0] ⟨Z1, s7⟩ (Nat.lt_succ_self _) ⟨rfl, rfl, rfl, trivial⟩ rfl
    · replace Z1 := if_f (of_decide_eq_false c3) Z1
      refine at_exit ?_
      refine at_xt ?_
      refine at_xt ?_
      refine at_xb ?_
      refine at_then ?_
      refine at_seq ?_
      refine at_region [0, 1] rfl ?_
      iterate 2 refine at_s T rfl ?_
      refine at_end ?_
      refine at_to [(2, (.slice a4 (List.length x3) n4))] [0, 1] [F, H4] ⟨rfl, trivial⟩ rfl ?_
      refine at_then ?_
      refine at_ret ?_
      obtain rfl := Option.some.inj Z1
      exact at_post (T := T) rfl (.tmp rfl .nil) (fun w o => ⟨⟨(_, _), ⟨a4, n4, H4, s4, rfl, rfl⟩⟩, rfl, own_to [1, 0] rfl o⟩)

/-! ### herdsman/herdsmanref1.full: function 43 -/
def ref1_full.l0 : Nat → (List Int) → Int → Option Bool
  | 0, _, _ => none
  | k3 + 1, c, x2 => if x2 < (List.length c : Int) then (if (0 ≤ x2 ∧ x2 < (List.length c : Int)) then (if ((rd c x2) == 0) = true then (some false) else (ref1_full.l0 k3 c (w64 (x2 + 1)))) else none) else (some true)
def ref1_full.f (c : (List Int)) : Option Bool := ref1_full.l0 fuel c 0
set_option maxHeartbeats 4000000 in
theorem ref1_full.c {a_c : Option Addr} {n_c : Nat} (c : (List Int)) (r : Bool) (F : Hp) (H : ref1_full.f c = some r) (h_c : SliceR (Fl.int .u8) c a_c F) (c_c : List.length c ≤ n_c) :
    CallsL Tryd.prog 43 [(.slice a_c (List.length c) n_c)] [F] (fun _ : Unit => (.bool r)) (fun _ => [F]) := by
  unfold ref1_full.f at H
  refine calls_atL [(0, (.slice a_c (List.length c) n_c))] Tryd.func43 rfl rfl ⟨rfl, trivial⟩ (fun W => ?_)
  refine at_seq ?_
  refine at_region [0] rfl ?_
  refine at_s T rfl ?_
  refine at_end ?_
  refine at_sub [(0, (.slice a_c (List.length c) n_c))] ⟨rfl, trivial⟩ ?_
  refine at_then ?_
  refine at_seq ?_
  refine at_seq ?_
  refine at_region [0] rfl ?_
  refine at_s T rfl ?_
  refine at_end ?_
  refine at_sub [(0, (.slice a_c (List.length c) n_c)), (3, (.int .i64 0))] ⟨rfl, rfl, trivial⟩ ?_
  refine at_then ?_
  refine at_block ?_
  refine at_loopL (σ := Nat × Int) (fun ⟨k3, x2⟩ => ref1_full.l0 k3 c x2 = some r) (fun ⟨k3, x2⟩ => [(0, (.slice a_c (List.length c) n_c)), (3, (.int .i64 x2))]) (fun ⟨k3, x2⟩ => [F]) (fun s => s.1) (fuel, 0) [0] H ⟨rfl, rfl, trivial⟩ rfl ?_
  rintro ⟨k3, x2⟩ Z1
  replace Z1 : ref1_full.l0 k3 c x2 = some r := Z1
  rcases k3 with _ | k3
  · rw [ref1_full.l0] at Z1; cases Z1
  · rw [ref1_full.l0] at Z1
    refine at_seq ?_
    refine at_seq ?_
    refine at_region [0, 1, 2, 3] rfl ?_
    iterate 4 refine at_s T rfl ?_
    refine at_end ?_
    refine at_sub [(0, (.slice a_c (List.length c) n_c)), (3, (.int .i64 x2)), (7, (.bool (decide (x2 < (List.length c : Int)))))] ⟨rfl, rfl, rfl, trivial⟩ ?_
    refine at_then ?_
    refine at_cond rfl (fun c2 => ?_) (fun c2 => ?_)
    · replace Z1 := if_t (of_decide_eq_true c2) Z1
      refine at_skip ?_
      refine at_then ?_
      refine at_seq ?_
      refine at_block ?_
      refine at_seq ?_
      refine at_region [0, 1, 2, 3, 4] rfl ?_
      iterate 2 refine at_s T rfl ?_
      obtain ⟨c3, Z1⟩ := chk_e Z1
      obtain ⟨q1, o1, e1⟩ := h_c.addr c3.1 c3.2
      refine at_v rfl (g_index T rfl rfl rfl rfl rfl e1 c3.1 c3.2) ?_
      refine at_v rfl (g_load T rfl rfl rfl rfl (in_elem1 (k := (Fl.int .u8)) (ro_of h_c (j := 0) rfl) e1 c3 0 rfl)) ?_
      refine at_s T rfl ?_
      refine at_end ?_
      refine at_sub [(0, (.slice a_c (List.length c) n_c)), (3, (.int .i64 x2)), (14, (.bool ((rd c x2) == 0)))] ⟨rfl, rfl, rfl, trivial⟩ ?_
      refine at_then ?_
      refine at_cond rfl (fun c4 => ?_) (fun c4 => ?_)
      · replace Z1 := if_t c4 Z1
        refine at_seq ?_
        refine at_region [0] rfl ?_
        refine at_s T rfl ?_
        refine at_end ?_
        refine at_sub [(2, (.bool false))] ⟨rfl, trivial⟩ ?_
        refine at_then ?_
        refine at_ret ?_
        refine at_rb ?_
        refine at_rt ?_
        refine at_rt ?_
        refine at_rb ?_
        refine at_rt ?_
        obtain rfl := Option.some.inj Z1
        exact at_post (T := T) rfl (.tmp rfl .nil) (fun w o => ⟨(), rfl, own_to [0] rfl o⟩)
      · replace Z1 := if_f (bf c4) Z1
        refine at_skip ?_
        refine at_nb ?_
        refine at_then ?_
        refine at_region [0, 1, 2] rfl ?_
        iterate 3 refine at_s T rfl ?_
        refine at_end ?_
        refine at_sub [(0, (.slice a_c (List.length c) n_c)), (3, (.int .i64 (w64 (x2 + 1))))] ⟨rfl, rfl, trivial⟩ ?_
        refine at_then ?_
        exact at_roundL (k3, (w64 (x2 + 1))) [0] Z1 (Nat.lt_succ_self _) ⟨rfl, rfl, trivial⟩ rfl
    · replace Z1 := if_f (of_decide_eq_false c2) Z1
      refine at_exit ?_
      refine at_xt ?_
      refine at_xt ?_
      refine at_xb ?_
      refine at_then ?_
      refine at_seq ?_
      refine at_region [0] rfl ?_
      refine at_s T rfl ?_
      refine at_end ?_
      refine at_sub [(2, (.bool true))] ⟨rfl, trivial⟩ ?_
      refine at_then ?_
      refine at_ret ?_
      obtain rfl := Option.some.inj Z1
      exact at_post (T := T) rfl (.tmp rfl .nil) (fun w o => ⟨(), rfl, own_to [0] rfl o⟩)

/-! ### herdsman/herdsmanref1.GetTile: function 36 -/
def ref1_GetTile.l2 : Nat → (List Int) → Int → List Int → Int → Option (Sum (api_Map × Int × Int) (List Int))
  | 0, _, _, _, _ => none
  | k26 + 1, b, x16, x24, x25 => if x25 < (w64 ((w64 (rd b x16)) + 1)) then (if (List.length x24 + 1 ≤ 1099511627776) then (ref1_GetTile.l2 k26 b x16 (x24 ++ [(rd b (w64 (x16 + 1)))]) (w64 (x25 + 1))) else none) else (some (Sum.inr x24))
def ref1_GetTile.l1 : Nat → (List Int) → Int → Int → List Int → Int → Option (Sum (api_Map × Int × Int) ((List Int) × Int))
  | 0, _, _, _, _, _ => none
  | k17 + 1, b, w, h, x15, x16 => if (List.length x15 : Int) < (w64 (w * h)) then ((if (w64 ((List.length b : Int) - x16)) < 2 then (some (Sum.inl ((api_Map.mk 0 0 []), 0, 2))) else (if (0 ≤ x16 ∧ x16 < (List.length b : Int)) then (if (0 ≤ (w64 (x16 + 1)) ∧ (w64 (x16 + 1)) < (List.length b : Int)) then ((if ((rd b (w64 (x16 + 1))) == 0) = true then (some true) else (if (w64 ((List.length x15 : Int) + (w64 ((w64 (rd b x16)) + 1)))) > (w64 (w * h)) then (some true) else (if (List.length x15 : Int) > 0 then (if (0 ≤ (w64 ((List.length x15 : Int) - 1)) ∧ (w64 ((List.length x15 : Int) - 1)) < (List.length x15 : Int)) then (some ((rd x15 (w64 ((List.length x15 : Int) - 1))) == (rd b (w64 (x16 + 1))))) else none) else (some false)))).bind fun x20 => if x20 = true then (some (Sum.inl ((api_Map.mk 0 0 []), 0, 3))) else (ref1_GetTile.l2 fuel b x16 x15 0)) else none) else none)).bind fun zz => match zz with | Sum.inl q => some (Sum.inl q) | Sum.inr x18 => ref1_GetTile.l1 k17 b w h x18 (w64 (x16 + 2))) else (some (Sum.inr (x15, x16)))
def ref1_GetTile.l0 : Nat → (List Int) → Int → Int → List Int → Int → Option (Sum (api_Map × Int × Int) ((List Int) × Int))
  | 0, _, _, _, _, _ => none
  | k12 + 1, b, w, h, x10, x11 => if x11 < (w64 (w * h)) then (if (0 ≤ (1 : Int) ∧ (1 : Int) < (List.length b : Int)) then (if (List.length x10 + 1 ≤ 1099511627776) then (ref1_GetTile.l0 k12 b w h (x10 ++ [(rd b 1)]) (w64 (x11 + 1))) else none) else none) else (some (Sum.inr (x10, 2)))
def ref1_GetTile.f (b : (List Int)) (w : Int) (h : Int) : Option (api_Map × Int × Int) := ((ref1_In.f w 1 16).bind fun v3 => if (!v3) = true then (some true) else ((ref1_In.f h 1 16).bind fun v4 => some (!v4))).bind fun x1 => if x1 = true then (some ((api_Map.mk 0 0 []), 0, 1)) else (if ((List.length b : Int) == 0) = true then (some ((api_Map.mk 0 0 []), 0, 2)) else ((if (0 ≤ (0 : Int) ∧ (0 : Int) < (List.length b : Int)) then (if ((rd b 0) == 0) = true then (if (List.length b : Int) < 2 then (some (Sum.inl ((api_Map.mk 0 0 []), 0, 2))) else (ref1_GetTile.l0 fuel b w h [] 0)) else (if ((rd b 0) == 1) = true then (if (w64 ((List.length b : Int) - 1)) < (w64 (w * h)) then (some (Sum.inl ((api_Map.mk 0 0 []), 0, 2))) else (if (0 ≤ (1 : Int) ∧ (1 : Int) ≤ (w64 (1 + (w64 (w * h)))) ∧ (w64 (1 + (w64 (w * h)))) ≤ (List.length b : Int)) then (if (List.length ([] : List Int) + List.length (sub' b 1 (w64 (1 + (w64 (w * h))))) ≤ 1099511627776) then (some (Sum.inr (([] ++ (sub' b 1 (w64 (1 + (w64 (w * h)))))), (w64 (1 + (w64 (w * h))))))) else none) else none)) else (if ((rd b 0) == 2) = true then (ref1_GetTile.l1 fuel b w h [] 1) else (some (Sum.inl ((api_Map.mk 0 0 []), 0, 3)))))) else none).bind fun zz => match zz with | Sum.inl q => some q | Sum.inr (x5, x6) => (ref1_full.f x5).bind fun v27 => if (!v27) = true then (some ((api_Map.mk 0 0 []), 0, 3)) else ((ref1_PutTile.f (api_Map.mk w h x5)).bind fun v28 => if (0 ≤ (0 : Int) ∧ (0 : Int) ≤ x6 ∧ x6 ≤ (List.length b : Int)) then ((ref1_Bytes.f v28.2 (sub' b 0 x6)).bind fun v29 => if (!v29) = true then (some ((api_Map.mk 0 0 []), 0, 3)) else (some ((api_Map.mk w h x5), x6, 0))) else none)))
def ref1_GetTile.R (r : (api_Map × Int × Int)) (u : Value) (G : List Hp) : Prop := ∃ (a0 : Option Addr) (n0 : Nat) (H0 : Hp), SliceO (Fl.int .u8) 5 r.1.C a0 n0 H0 ∧ u = (.tuple #[(.agg #[(.int .i64 r.1.W), (.int .i64 r.1.H), (.slice a0 (List.length r.1.C) n0)]), (.int .i64 r.2.1), (.int .i64 r.2.2)]) ∧ G = [H0]
set_option maxHeartbeats 4000000 in
theorem ref1_GetTile.c {a_b : Option Addr} {n_b : Nat} (b : (List Int)) (w : Int) (h : Int) (r : (api_Map × Int × Int)) (F : Hp) (H : ref1_GetTile.f b w h = some r) (h_b : SliceR (Fl.int .u8) b a_b F) (c_b : List.length b ≤ n_b) :
    CallsL Tryd.prog 36 [(.slice a_b (List.length b) n_b), (.int .i64 w), (.int .i64 h)] [F] (fun qp : { qp : Value × List Hp // ref1_GetTile.R r qp.1 qp.2 } => qp.1.1) (fun qp => (qp.1.2 ++ []) ++ [F]) := by
  unfold ref1_GetTile.f at H
  refine calls_atL [(0, (.slice a_b (List.length b) n_b)), (1, (.int .i64 w)), (2, (.int .i64 h))] Tryd.func36 rfl rfl ⟨rfl, rfl, rfl, trivial⟩ (fun W => ?_)
  refine at_seq ?_
  refine at_region [0, 1, 2] rfl ?_
  refine at_cons (at_al T [(.int .i64 0), (.int .i64 0), (.slice none 0 0)] rfl rfl rfl rfl (fun b1 => ?_))
  iterate 2 refine at_s T rfl ?_
  refine at_end ?_
  refine at_sub [(0, (.slice a_b (List.length b) n_b)), (1, (.int .i64 w)), (2, (.int .i64 h)), (6, (.pointer (some ⟨b1, 0, none⟩)))] ⟨rfl, rfl, rfl, rfl, trivial⟩ ?_
  refine at_then ?_
  refine at_seq ?_
  refine at_region [0, 1, 2] rfl ?_
  refine at_s T rfl ?_
  refine at_cons (at_al T [(.int .i64 0), (.int .i64 0), (.slice none 0 0)] rfl rfl rfl rfl (fun b2 => ?_))
  refine at_cons (at_st T 2 [(.int .i64 0), (.int .i64 0), (.slice none 0 0)] rfl rfl rfl rfl rfl rfl rfl rfl rfl rfl ?_)
  refine at_end ?_
  refine at_sub [(0, (.slice a_b (List.length b) n_b)), (1, (.int .i64 w)), (2, (.int .i64 h)), (6, (.pointer (some ⟨b1, 0, none⟩))), (9, (.pointer (some ⟨b2, 0, none⟩)))] ⟨rfl, rfl, rfl, rfl, rfl, trivial⟩ ?_
  refine at_then ?_
  refine at_seq ?_
  obtain ⟨z2, Z1, H⟩ := bind_e H
  refine at_seq_mid (σ := Bool) (fun x1 => x1 = z2) (fun x1 => [(0, (.slice a_b (List.length b) n_b)), (1, (.int .i64 w)), (2, (.int .i64 h)), (6, (.pointer (some ⟨b1, 0, none⟩))), (9, (.pointer (some ⟨b2, 0, none⟩))), (27, (.bool x1))]) (fun x1 => [F, [(b1, Obj.cells #[(.int .i64 0), (.int .i64 0), (.slice none 0 0)] 41 (0, 0))], [(b2, Obj.cells #[(.int .i64 0), (.int .i64 0), (.slice none 0 0)] 41 (0, 0))]]) ?_ ?_
  · refine at_region [0, 1, 2, 3, 4, 5, 6, 7] rfl ?_
    refine at_s T rfl ?_
    obtain ⟨v3, V2, Z1⟩ := bind_e Z1
    refine at_cons (at_c (B := fun _ => []) [] rfl rfl rfl rfl has25 rfl rfl (ref1_In.c w 1 16 v3 _ V2) (fun _ => ?_))
    iterate 2 refine at_s T rfl ?_
    refine at_case (s := 23) rfl (fun c3 => ?_) (fun c3 => ?_)
    · replace Z1 := if_t c3 Z1
      iterate 4 refine at_s T rfl ?_
      refine at_end ?_
      refine at_sub [(0, (.slice a_b (List.length b) n_b)), (1, (.int .i64 w)), (2, (.int .i64 h)), (6, (.pointer (some ⟨b1, 0, none⟩))), (9, (.pointer (some ⟨b2, 0, none⟩))), (27, (.bool true))] ⟨rfl, rfl, rfl, rfl, rfl, rfl, trivial⟩ ?_
      refine at_then ?_
      obtain rfl := Option.some.inj Z1
      exact at_mid true [0, 0, 0] rfl ⟨rfl, rfl, rfl, rfl, rfl, rfl, trivial⟩ rfl
    · replace Z1 := if_f (bf c3) Z1
      refine at_s T rfl ?_
      obtain ⟨v4, V4, Z1⟩ := bind_e Z1
      refine at_cons (at_c (B := fun _ => []) [] rfl rfl rfl rfl has25 rfl rfl (ref1_In.c h 1 16 v4 _ V4) (fun _ => ?_))
      iterate 2 refine at_s T rfl ?_
      refine at_end ?_
      refine at_sub [(0, (.slice a_b (List.length b) n_b)), (1, (.int .i64 w)), (2, (.int .i64 h)), (6, (.pointer (some ⟨b1, 0, none⟩))), (9, (.pointer (some ⟨b2, 0, none⟩))), (27, (.bool (!v4)))] ⟨rfl, rfl, rfl, rfl, rfl, rfl, trivial⟩ ?_
      refine at_then ?_
      obtain rfl := Option.some.inj Z1
      exact at_mid (!v4) [0, 0, 0] rfl ⟨rfl, rfl, rfl, rfl, rfl, rfl, trivial⟩ rfl
  · rintro x1 rfl
    refine at_cond rfl (fun c5 => ?_) (fun c5 => ?_)
    · replace H := if_t c5 H
      refine at_seq ?_
      refine at_region [0, 1, 2, 3] rfl ?_
      refine at_v rfl (g_loadA T (cs := [(.int .i64 0), (.int .i64 0), (.slice none 0 0)]) rfl rfl rfl rfl rfl rfl (in_varA (j := 2) rfl rfl)) ?_
      refine at_cons (at_st T 1 [(.int .i64 0), (.int .i64 0), (.slice none 0 0)] rfl rfl rfl rfl rfl rfl rfl rfl rfl rfl ?_)
      iterate 2 refine at_s T rfl ?_
      refine at_end ?_
      refine at_to [(6, (.pointer (some ⟨b1, 0, none⟩))), (7, (.int .i64 0)), (8, (.int .i64 1))] [0, 0] [F, [(b1, Obj.cells #[(.int .i64 0), (.int .i64 0), (.slice none 0 0)] 41 (0, 0))]] ⟨rfl, rfl, rfl, trivial⟩ rfl ?_
      refine at_then ?_
      refine at_ret ?_
      refine at_rt ?_
      obtain rfl := Option.some.inj H
      refine at_addnil ?_
      exact at_post (T := T) rfl (.aggv (j := 1) [(.int .i64 0), (.int .i64 0), (.slice none 0 0)] rfl rfl rfl rfl rfl rfl rfl (.tmp rfl (.tmp rfl .nil))) (fun w o => ⟨⟨(_, _), ⟨none, 0, [], SliceO.nil, rfl, rfl⟩⟩, rfl, own_to [2, 0] rfl o⟩)
    · replace H := if_f (bf c5) H
      refine at_skip ?_
      refine at_then ?_
      refine at_seq ?_
      refine at_seq ?_
      refine at_region [0, 1, 2] rfl ?_
      iterate 3 refine at_s T rfl ?_
      refine at_end ?_
      refine at_sub [(0, (.slice a_b (List.length b) n_b)), (1, (.int .i64 w)), (2, (.int .i64 h)), (6, (.pointer (some ⟨b1, 0, none⟩))), (9, (.pointer (some ⟨b2, 0, none⟩))), (31, (.bool ((List.length b : Int) == 0)))] ⟨rfl, rfl, rfl, rfl, rfl, rfl, trivial⟩ ?_
      refine at_then ?_
      refine at_cond rfl (fun c6 => ?_) (fun c6 => ?_)
      · replace H := if_t c6 H
        refine at_seq ?_
        refine at_region [0, 1, 2, 3] rfl ?_
        refine at_v rfl (g_loadA T (cs := [(.int .i64 0), (.int .i64 0), (.slice none 0 0)]) rfl rfl rfl rfl rfl rfl (in_varA (j := 2) rfl rfl)) ?_
        refine at_cons (at_st T 1 [(.int .i64 0), (.int .i64 0), (.slice none 0 0)] rfl rfl rfl rfl rfl rfl rfl rfl rfl rfl ?_)
        iterate 2 refine at_s T rfl ?_
        refine at_end ?_
        refine at_to [(6, (.pointer (some ⟨b1, 0, none⟩))), (7, (.int .i64 0)), (8, (.int .i64 2))] [0, 0] [F, [(b1, Obj.cells #[(.int .i64 0), (.int .i64 0), (.slice none 0 0)] 41 (0, 0))]] ⟨rfl, rfl, rfl, trivial⟩ rfl ?_
        refine at_then ?_
        refine at_ret ?_
        refine at_rt ?_
        obtain rfl := Option.some.inj H
        refine at_addnil ?_
        exact at_post (T := T) rfl (.aggv (j := 1) [(.int .i64 0), (.int .i64 0), (.slice none 0 0)] rfl rfl rfl rfl rfl rfl rfl (.tmp rfl (.tmp rfl .nil))) (fun w o => ⟨⟨(_, _), ⟨none, 0, [], SliceO.nil, rfl, rfl⟩⟩, rfl, own_to [2, 0] rfl o⟩)
      · replace H := if_f (bf c6) H
        refine at_skip ?_
        refine at_then ?_
        refine at_seq ?_
        refine at_region [0, 1, 2, 3] rfl ?_
        iterate 4 refine at_s T rfl ?_
        refine at_end ?_
        refine at_sub [(0, (.slice a_b (List.length b) n_b)), (1, (.int .i64 w)), (2, (.int .i64 h)), (6, (.pointer (some ⟨b1, 0, none⟩))), (9, (.pointer (some ⟨b2, 0, none⟩))), (10, (.int .i64 (w64 (w * h))))] ⟨rfl, rfl, rfl, rfl, rfl, rfl, trivial⟩ ?_
        refine at_then ?_
        refine at_seq ?_
        refine at_region [0, 1, 2, 3, 4] rfl ?_
        iterate 3 refine at_s T rfl ?_
        refine at_cons (at_al T [(.int .i64 0), (.int .i64 0), (.slice none 0 0)] rfl rfl rfl rfl (fun b5 => ?_))
        refine at_cons (at_st T 3 [(.int .i64 w), (.int .i64 h), (.slice none 0 0)] rfl rfl rfl rfl rfl rfl rfl rfl rfl rfl ?_)
        refine at_end ?_
        refine at_sub [(0, (.slice a_b (List.length b) n_b)), (6, (.pointer (some ⟨b1, 0, none⟩))), (9, (.pointer (some ⟨b2, 0, none⟩))), (10, (.int .i64 (w64 (w * h)))), (11, (.pointer (some ⟨b5, 0, none⟩)))] ⟨rfl, rfl, rfl, rfl, rfl, trivial⟩ ?_
        refine at_then ?_
        refine at_seq ?_
        refine at_region [0] rfl ?_
        refine at_s T rfl ?_
        refine at_end ?_
        refine at_sub [(0, (.slice a_b (List.length b) n_b)), (6, (.pointer (some ⟨b1, 0, none⟩))), (9, (.pointer (some ⟨b2, 0, none⟩))), (10, (.int .i64 (w64 (w * h)))), (11, (.pointer (some ⟨b5, 0, none⟩))), (12, (.int .i64 1))] ⟨rfl, rfl, rfl, rfl, rfl, rfl, trivial⟩ ?_
        refine at_then ?_
        obtain ⟨z7, Z7, H⟩ := bind_e H
        refine at_seq_mid (σ := List Int × Int × Option Addr × Nat × Hp) (fun ⟨x5, x6, a6, n6, H6⟩ => (Sum.inr (x5, x6)) = z7 ∧ SliceO (Fl.int .u8) 5 x5 a6 n6 H6) (fun ⟨x5, x6, a6, n6, H6⟩ => [(0, (.slice a_b (List.length b) n_b)), (6, (.pointer (some ⟨b1, 0, none⟩))), (9, (.pointer (some ⟨b2, 0, none⟩))), (11, (.pointer (some ⟨b5, 0, none⟩))), (12, (.int .i64 x6))]) (fun ⟨x5, x6, a6, n6, H6⟩ => [F, [(b1, Obj.cells #[(.int .i64 0), (.int .i64 0), (.slice none 0 0)] 41 (0, 0))], [(b2, Obj.cells #[(.int .i64 0), (.int .i64 0), (.slice none 0 0)] 41 (0, 0))], [(b5, Obj.cells #[(.int .i64 w), (.int .i64 h), (.slice a6 (List.length x5) n6)] 41 (0, 0))], H6]) ?_ ?_
        · refine at_seq ?_
          refine at_region [0, 1, 2] rfl ?_
          refine at_s T rfl ?_
          obtain ⟨c8, Z7⟩ := chk_e Z7
          obtain ⟨q7, o7, e7⟩ := h_b.addr c8.1 c8.2
          refine at_v rfl (g_index T rfl rfl rfl rfl rfl e7 c8.1 c8.2) ?_
          refine at_v rfl (g_load T rfl rfl rfl rfl (in_elem1 (k := (Fl.int .u8)) (ro_of h_b (j := 0) rfl) e7 c8 0 rfl)) ?_
          refine at_end ?_
          refine at_sub [(0, (.slice a_b (List.length b) n_b)), (6, (.pointer (some ⟨b1, 0, none⟩))), (9, (.pointer (some ⟨b2, 0, none⟩))), (10, (.int .i64 (w64 (w * h)))), (11, (.pointer (some ⟨b5, 0, none⟩))), (12, (.int .i64 1)), (41, (.int .u8 (rd b 0)))] ⟨rfl, rfl, rfl, rfl, rfl, rfl, rfl, trivial⟩ ?_
          refine at_then ?_
          refine at_block ?_
          refine at_seq ?_
          refine at_region [0, 1] rfl ?_
          iterate 2 refine at_s T rfl ?_
          refine at_end ?_
          refine at_sub [(0, (.slice a_b (List.length b) n_b)), (6, (.pointer (some ⟨b1, 0, none⟩))), (9, (.pointer (some ⟨b2, 0, none⟩))), (10, (.int .i64 (w64 (w * h)))), (11, (.pointer (some ⟨b5, 0, none⟩))), (12, (.int .i64 1)), (41, (.int .u8 (rd b 0))), (43, (.bool ((rd b 0) == 0)))] ⟨rfl, rfl, rfl, rfl, rfl, rfl, rfl, rfl, trivial⟩ ?_
          refine at_then ?_
          refine at_cond rfl (fun c9 => ?_) (fun c9 => ?_)
          · replace Z7 := if_t c9 Z7
            refine at_seq ?_
            refine at_seq ?_
            refine at_region [0, 1, 2] rfl ?_
            iterate 3 refine at_s T rfl ?_
            refine at_end ?_
            refine at_sub [(0, (.slice a_b (List.length b) n_b)), (6, (.pointer (some ⟨b1, 0, none⟩))), (9, (.pointer (some ⟨b2, 0, none⟩))), (10, (.int .i64 (w64 (w * h)))), (11, (.pointer (some ⟨b5, 0, none⟩))), (47, (.bool (decide ((List.length b : Int) < 2))))] ⟨rfl, rfl, rfl, rfl, rfl, rfl, trivial⟩ ?_
            refine at_then ?_
            refine at_cond rfl (fun c10 => ?_) (fun c10 => ?_)
            · replace Z7 := if_t (of_decide_eq_true c10) Z7
              refine at_seq ?_
              refine at_region [0, 1, 2, 3] rfl ?_
              refine at_v rfl (g_loadA T (cs := [(.int .i64 0), (.int .i64 0), (.slice none 0 0)]) rfl rfl rfl rfl rfl rfl (in_varA (j := 2) rfl rfl)) ?_
              refine at_cons (at_st T 1 [(.int .i64 0), (.int .i64 0), (.slice none 0 0)] rfl rfl rfl rfl rfl rfl rfl rfl rfl rfl ?_)
              iterate 2 refine at_s T rfl ?_
              refine at_end ?_
              refine at_to [(6, (.pointer (some ⟨b1, 0, none⟩))), (7, (.int .i64 0)), (8, (.int .i64 2))] [0, 0] [F, [(b1, Obj.cells #[(.int .i64 0), (.int .i64 0), (.slice none 0 0)] 41 (0, 0))]] ⟨rfl, rfl, rfl, trivial⟩ rfl ?_
              refine at_then ?_
              refine at_ret ?_
              refine at_rt ?_
              refine at_rb ?_
              refine at_rt ?_
              obtain rfl := Option.some.inj Z7
              obtain rfl := Option.some.inj (show some ((api_Map.mk 0 0 []), 0, 2) = some r from H)
              refine at_addnil ?_
              exact at_post (T := T) rfl (.aggv (j := 1) [(.int .i64 0), (.int .i64 0), (.slice none 0 0)] rfl rfl rfl rfl rfl rfl rfl (.tmp rfl (.tmp rfl .nil))) (fun w o => ⟨⟨(_, _), ⟨none, 0, [], SliceO.nil, rfl, rfl⟩⟩, rfl, own_to [2, 0] rfl o⟩)
            · replace Z7 := if_f (of_decide_eq_false c10) Z7
              refine at_skip ?_
              refine at_then ?_
              refine at_seq ?_
              refine at_seq ?_
              refine at_region [0] rfl ?_
              refine at_s T rfl ?_
              refine at_end ?_
              refine at_sub [(0, (.slice a_b (List.length b) n_b)), (6, (.pointer (some ⟨b1, 0, none⟩))), (9, (.pointer (some ⟨b2, 0, none⟩))), (10, (.int .i64 (w64 (w * h)))), (11, (.pointer (some ⟨b5, 0, none⟩))), (13, (.int .i64 0))] ⟨rfl, rfl, rfl, rfl, rfl, rfl, trivial⟩ ?_
              refine at_then ?_
              refine at_block ?_
              refine at_addnil ?_
              refine at_loopL (σ := Nat × List Int × Int × Option Addr × Nat × Hp) (fun ⟨k12, x10, x11, a10, n10, H10⟩ => ref1_GetTile.l0 k12 b w h x10 x11 = some z7 ∧ SliceO (Fl.int .u8) 5 x10 a10 n10 H10) (fun ⟨k12, x10, x11, a10, n10, H10⟩ => [(0, (.slice a_b (List.length b) n_b)), (6, (.pointer (some ⟨b1, 0, none⟩))), (9, (.pointer (some ⟨b2, 0, none⟩))), (10, (.int .i64 (w64 (w * h)))), (11, (.pointer (some ⟨b5, 0, none⟩))), (13, (.int .i64 x11))]) (fun ⟨k12, x10, x11, a10, n10, H10⟩ => [F, [(b1, Obj.cells #[(.int .i64 0), (.int .i64 0), (.slice none 0 0)] 41 (0, 0))], [(b2, Obj.cells #[(.int .i64 0), (.int .i64 0), (.slice none 0 0)] 41 (0, 0))], [(b5, Obj.cells #[(.int .i64 w), (.int .i64 h), (.slice a10 (List.length x10) n10)] 41 (0, 0))], H10]) (fun s => s.1) (fuel, [], 0, none, 0, []) [0, 0, 0, 0, 0] ⟨Z7, SliceO.nil⟩ ⟨rfl, rfl, rfl, rfl, rfl, rfl, trivial⟩ rfl ?_
              rintro ⟨k12, x10, x11, a10, n10, H10⟩ ⟨Z11, s10⟩
              replace Z11 : ref1_GetTile.l0 k12 b w h x10 x11 = some z7 := Z11
              rcases k12 with _ | k12
              · rw [ref1_GetTile.l0] at Z11; cases Z11
              · rw [ref1_GetTile.l0] at Z11
                refine at_seq ?_
                refine at_seq ?_
                refine at_region [0, 1, 2] rfl ?_
                iterate 3 refine at_s T rfl ?_
                refine at_end ?_
                refine at_sub [(0, (.slice a_b (List.length b) n_b)), (6, (.pointer (some ⟨b1, 0, none⟩))), (9, (.pointer (some ⟨b2, 0, none⟩))), (10, (.int .i64 (w64 (w * h)))), (11, (.pointer (some ⟨b5, 0, none⟩))), (13, (.int .i64 x11)), (51, (.bool (decide (x11 < (w64 (w * h))))))] ⟨rfl, rfl, rfl, rfl, rfl, rfl, rfl, trivial⟩ ?_
                refine at_then ?_
                refine at_cond rfl (fun c12 => ?_) (fun c12 => ?_)
                · replace Z11 := if_t (of_decide_eq_true c12) Z11
                  refine at_skip ?_
                  refine at_then ?_
                  refine at_seq ?_
                  refine at_block ?_
                  refine at_region_m [[], [0], [], [2], [2, 3], [2, 3, 4], [0, 1, 2, 3, 4, 5], [0, 1, 2, 3, 4, 5, 6], [0, 1, 2, 3, 4, 5, 6, 7]] [6, 8] [F, [(b1, Obj.cells #[(.int .i64 0), (.int .i64 0), (.slice none 0 0)] 41 (0, 0))], [(b2, Obj.cells #[(.int .i64 0), (.int .i64 0), (.slice none 0 0)] 41 (0, 0))], [(b5, Obj.cells #[(.int .i64 w), (.int .i64 h), (.slice a10 (List.length x10) n10)] 41 (0, 0))], H10] mix (by kernel_rfl) (by repeat first | exact pf_body | refine pf_then ?_ | refine pf_block ?_) (fun hg pf => ?_)
                  refine atm_s T 0 hg pf (by kernel_rfl) (still_o [0, 0, 0, 0, 0] rfl) rfl ?_
                  refine atm_v 1 hg pf (by kernel_rfl) (still_o [0, 0, 0, 0, 0] rfl) rfl rfl (g_load T rfl rfl rfl rfl (in_var (j := 3) rfl rfl)) ?_
                  refine atm_s T 2 hg pf (by kernel_rfl) (still_o [0, 0, 0, 0, 0] rfl) rfl ?_
                  obtain ⟨c13, Z11⟩ := chk_e Z11
                  obtain ⟨q11, o11, e11⟩ := h_b.addr c13.1 c13.2
                  refine atm_v 3 hg pf (by kernel_rfl) (still_o [0, 0, 0, 0, 0] rfl) rfl rfl (g_index T rfl rfl rfl rfl rfl e11 c13.1 c13.2) ?_
                  refine atm_v 4 hg pf (by kernel_rfl) (still_o [0, 0, 0, 0, 0] rfl) rfl rfl (g_load T rfl rfl rfl rfl (in_elem1 (k := (Fl.int .u8)) (ro_of h_b (j := 0) rfl) e11 c13 0 rfl)) ?_
                  refine atm_one 5 (by kernel_rfl) ?_
                  refine at_bs (k := (Fl.int .u8)) T [(rd b 1)] rfl rfl rfl rfl rfl rfl rfl rfl rfl (fun a12 H12 s12 => ?_)
                  refine atm_next (still_o [0, 0, 0, 0, 0] rfl) ?_
                  refine atm_one 6 (by kernel_rfl) ?_
                  obtain ⟨c14, Z11⟩ := chk_e Z11
                  refine at_ap (k := (Fl.int .u8)) (xs := x10) T (g := 4) rfl rfl rfl rfl rfl rfl rfl rfl rfl rfl s10 (own_of s12 (j := 5) rfl) c14 rfl (fun a13 n13 H13 s13 => ?_)
                  refine atm_next (still_l (by kernel_rfl)) ?_
                  refine atm_s T 7 hg pf (by kernel_rfl) (still_l (by kernel_rfl)) rfl ?_
                  refine atm_one 8 (by kernel_rfl) ?_
                  refine at_st T 3 [(.int .i64 w), (.int .i64 h), (.slice a13 (List.length (x10 ++ [(rd b 1)])) n13)] rfl rfl rfl rfl rfl rfl rfl rfl rfl rfl ?_
                  refine atm_next (still_l (by kernel_rfl)) ?_
                  refine atm_end (by kernel_rfl) ?_
                  refine at_to [(0, (.slice a_b (List.length b) n_b)), (6, (.pointer (some ⟨b1, 0, none⟩))), (9, (.pointer (some ⟨b2, 0, none⟩))), (10, (.int .i64 (w64 (w * h)))), (11, (.pointer (some ⟨b5, 0, none⟩))), (13, (.int .i64 x11))] [0, 0, 0, 0, 0] [F, [(b1, Obj.cells #[(.int .i64 0), (.int .i64 0), (.slice none 0 0)] 41 (0, 0))], [(b2, Obj.cells #[(.int .i64 0), (.int .i64 0), (.slice none 0 0)] 41 (0, 0))], [(b5, Obj.cells #[(.int .i64 w), (.int .i64 h), (.slice a13 (List.length (x10 ++ [(rd b 1)])) n13)] 41 (0, 0))], H13] ⟨rfl, rfl, rfl, rfl, rfl, rfl, trivial⟩ rfl ?_
                  refine at_nb ?_
                  refine at_then ?_
                  refine at_region [0, 1, 2] rfl ?_
                  iterate 3 refine at_s T rfl ?_
                  refine at_end ?_
                  refine at_sub [(0, (.slice a_b (List.length b) n_b)), (6, (.pointer (some ⟨b1, 0, none⟩))), (9, (.pointer (some ⟨b2, 0, none⟩))), (10, (.int .i64 (w64 (w * h)))), (11, (.pointer (some ⟨b5, 0, none⟩))), (13, (.int .i64 (w64 (x11 + 1))))] ⟨rfl, rfl, rfl, rfl, rfl, rfl, trivial⟩ ?_
                  refine at_then ?_
                  exact at_roundL (k12, (x10 ++ [(rd b 1)]), (w64 (x11 + 1)), a13, n13, H13) [0, 0, 0, 0, 0] ⟨Z11, s13⟩ (Nat.lt_succ_self _) ⟨rfl, rfl, rfl, rfl, rfl, rfl, trivial⟩ rfl
                · replace Z11 := if_f (of_decide_eq_false c12) Z11
                  refine at_exit ?_
                  refine at_xt ?_
                  refine at_xt ?_
                  refine at_xb ?_
                  refine at_then ?_
                  refine at_region [0] rfl ?_
                  refine at_s T rfl ?_
                  refine at_end ?_
                  refine at_sub [(0, (.slice a_b (List.length b) n_b)), (6, (.pointer (some ⟨b1, 0, none⟩))), (9, (.pointer (some ⟨b2, 0, none⟩))), (11, (.pointer (some ⟨b5, 0, none⟩))), (12, (.int .i64 2))] ⟨rfl, rfl, rfl, rfl, rfl, trivial⟩ ?_
                  refine at_nb ?_
                  refine at_then ?_
                  obtain rfl := Option.some.inj Z11
                  exact at_mid (x10, 2, a10, n10, H10) [0, 0, 0, 0, 0] ⟨rfl, s10⟩ ⟨rfl, rfl, rfl, rfl, rfl, trivial⟩ rfl
          · replace Z7 := if_f (bf c9) Z7
            refine at_seq ?_
            refine at_region [0, 1] rfl ?_
            iterate 2 refine at_s T rfl ?_
            refine at_end ?_
            refine at_sub [(0, (.slice a_b (List.length b) n_b)), (6, (.pointer (some ⟨b1, 0, none⟩))), (9, (.pointer (some ⟨b2, 0, none⟩))), (10, (.int .i64 (w64 (w * h)))), (11, (.pointer (some ⟨b5, 0, none⟩))), (12, (.int .i64 1)), (41, (.int .u8 (rd b 0))), (62, (.bool ((rd b 0) == 1)))] ⟨rfl, rfl, rfl, rfl, rfl, rfl, rfl, rfl, trivial⟩ ?_
            refine at_then ?_
            refine at_cond rfl (fun c15 => ?_) (fun c15 => ?_)
            · replace Z7 := if_t c15 Z7
              refine at_seq ?_
              refine at_seq ?_
              refine at_region [0, 1, 2, 3, 4] rfl ?_
              iterate 5 refine at_s T rfl ?_
              refine at_end ?_
              refine at_sub [(0, (.slice a_b (List.length b) n_b)), (6, (.pointer (some ⟨b1, 0, none⟩))), (9, (.pointer (some ⟨b2, 0, none⟩))), (10, (.int .i64 (w64 (w * h)))), (11, (.pointer (some ⟨b5, 0, none⟩))), (68, (.bool (decide ((w64 ((List.length b : Int) - 1)) < (w64 (w * h))))))] ⟨rfl, rfl, rfl, rfl, rfl, rfl, trivial⟩ ?_
              refine at_then ?_
              refine at_cond rfl (fun c16 => ?_) (fun c16 => ?_)
              · replace Z7 := if_t (of_decide_eq_true c16) Z7
                refine at_seq ?_
                refine at_region [0, 1, 2, 3] rfl ?_
                refine at_v rfl (g_loadA T (cs := [(.int .i64 0), (.int .i64 0), (.slice none 0 0)]) rfl rfl rfl rfl rfl rfl (in_varA (j := 2) rfl rfl)) ?_
                refine at_cons (at_st T 1 [(.int .i64 0), (.int .i64 0), (.slice none 0 0)] rfl rfl rfl rfl rfl rfl rfl rfl rfl rfl ?_)
                iterate 2 refine at_s T rfl ?_
                refine at_end ?_
                refine at_to [(6, (.pointer (some ⟨b1, 0, none⟩))), (7, (.int .i64 0)), (8, (.int .i64 2))] [0, 0] [F, [(b1, Obj.cells #[(.int .i64 0), (.int .i64 0), (.slice none 0 0)] 41 (0, 0))]] ⟨rfl, rfl, rfl, trivial⟩ rfl ?_
                refine at_then ?_
                refine at_ret ?_
                refine at_rt ?_
                refine at_rb ?_
                refine at_rt ?_
                obtain rfl := Option.some.inj Z7
                obtain rfl := Option.some.inj (show some ((api_Map.mk 0 0 []), 0, 2) = some r from H)
                refine at_addnil ?_
                exact at_post (T := T) rfl (.aggv (j := 1) [(.int .i64 0), (.int .i64 0), (.slice none 0 0)] rfl rfl rfl rfl rfl rfl rfl (.tmp rfl (.tmp rfl .nil))) (fun w o => ⟨⟨(_, _), ⟨none, 0, [], SliceO.nil, rfl, rfl⟩⟩, rfl, own_to [2, 0] rfl o⟩)
              · replace Z7 := if_f (of_decide_eq_false c16) Z7
                refine at_skip ?_
                refine at_then ?_
                refine at_seq ?_
                refine at_region_m [[], [0], [], [], [3], [2, 3, 4], [0, 1, 2, 3, 4, 5], [0, 1, 2, 3, 4, 5, 6], [0, 1, 2, 3, 4, 5, 6, 7]] [8] [F, [(b1, Obj.cells #[(.int .i64 0), (.int .i64 0), (.slice none 0 0)] 41 (0, 0))], [(b2, Obj.cells #[(.int .i64 0), (.int .i64 0), (.slice none 0 0)] 41 (0, 0))], [(b5, Obj.cells #[(.int .i64 w), (.int .i64 h), (.slice none 0 0)] 41 (0, 0))]] mix (by kernel_rfl) (by repeat first | exact pf_body | refine pf_then ?_ | refine pf_block ?_) (fun hg pf => ?_)
                refine atm_s T 0 hg pf (by kernel_rfl) (still_o [0, 0, 0, 0] rfl) rfl ?_
                refine atm_v 1 hg pf (by kernel_rfl) (still_o [0, 0, 0, 0] rfl) rfl rfl (g_load T rfl rfl rfl rfl (in_var (j := 3) rfl rfl)) ?_
                refine atm_s T 2 hg pf (by kernel_rfl) (still_o [0, 0, 0, 0] rfl) rfl ?_
                refine atm_s T 3 hg pf (by kernel_rfl) (still_o [0, 0, 0, 0] rfl) rfl ?_
                refine atm_s T 4 hg pf (by kernel_rfl) (still_o [0, 0, 0, 0] rfl) rfl ?_
                obtain ⟨c17, Z7⟩ := chk_e Z7
                refine atm_v 5 hg pf (by kernel_rfl) (still_o [0, 0, 0, 0] rfl) rfl rfl (g_sub T rfl rfl rfl rfl rfl rfl c17 c_b) ?_
                refine atm_one 6 (by kernel_rfl) ?_
                refine at_addnil ?_
                obtain ⟨c18, Z7⟩ := chk_e Z7
                refine at_ap (k := (Fl.int .u8)) (xs := ([] : List Int)) T (g := 4) rfl rfl rfl rfl rfl rfl rfl rfl rfl rfl SliceO.nil (sub_r (ro_of h_b (j := 0) rfl) c17 c_b) c18 rfl (fun a16 n16 H16 s16 => ?_)
                refine atm_next (still_o [0, 0, 0, 0] rfl) ?_
                refine atm_s T 7 hg pf (by kernel_rfl) (still_o [0, 0, 0, 0] rfl) rfl ?_
                refine atm_one 8 (by kernel_rfl) ?_
                refine at_st T 3 [(.int .i64 w), (.int .i64 h), (.slice a16 (List.length ([] ++ (sub' b 1 (w64 (1 + (w64 (w * h))))))) n16)] rfl rfl rfl rfl rfl rfl rfl rfl rfl rfl ?_
                refine atm_next (still_l (by kernel_rfl)) ?_
                refine atm_end (by kernel_rfl) ?_
                refine at_sub [(0, (.slice a_b (List.length b) n_b)), (6, (.pointer (some ⟨b1, 0, none⟩))), (9, (.pointer (some ⟨b2, 0, none⟩))), (10, (.int .i64 (w64 (w * h)))), (11, (.pointer (some ⟨b5, 0, none⟩)))] ⟨rfl, rfl, rfl, rfl, rfl, trivial⟩ ?_
                refine at_then ?_
                refine at_region [0, 1, 2] rfl ?_
                iterate 3 refine at_s T rfl ?_
                refine at_end ?_
                refine at_sub [(0, (.slice a_b (List.length b) n_b)), (6, (.pointer (some ⟨b1, 0, none⟩))), (9, (.pointer (some ⟨b2, 0, none⟩))), (11, (.pointer (some ⟨b5, 0, none⟩))), (12, (.int .i64 (w64 (1 + (w64 (w * h))))))] ⟨rfl, rfl, rfl, rfl, rfl, trivial⟩ ?_
                refine at_nb ?_
                refine at_then ?_
                obtain rfl := Option.some.inj Z7
                exact at_mid (([] ++ (sub' b 1 (w64 (1 + (w64 (w * h)))))), (w64 (1 + (w64 (w * h)))), a16, n16, H16) [0, 0, 0, 0, 0] ⟨rfl, s16⟩ ⟨rfl, rfl, rfl, rfl, rfl, trivial⟩ rfl
            · replace Z7 := if_f (bf c15) Z7
              refine at_seq ?_
              refine at_region [0, 1] rfl ?_
              iterate 2 refine at_s T rfl ?_
              refine at_end ?_
              refine at_sub [(0, (.slice a_b (List.length b) n_b)), (6, (.pointer (some ⟨b1, 0, none⟩))), (9, (.pointer (some ⟨b2, 0, none⟩))), (10, (.int .i64 (w64 (w * h)))), (11, (.pointer (some ⟨b5, 0, none⟩))), (12, (.int .i64 1)), (80, (.bool ((rd b 0) == 2)))] ⟨rfl, rfl, rfl, rfl, rfl, rfl, rfl, trivial⟩ ?_
              refine at_then ?_
              refine at_cond rfl (fun c19 => ?_) (fun c19 => ?_)
              · replace Z7 := if_t c19 Z7
                refine at_block ?_
                refine at_addnil ?_
                refine at_loopL (σ := Nat × List Int × Int × Option Addr × Nat × Hp) (fun ⟨k17, x15, x16, a18, n18, H18⟩ => ref1_GetTile.l1 k17 b w h x15 x16 = some z7 ∧ SliceO (Fl.int .u8) 5 x15 a18 n18 H18) (fun ⟨k17, x15, x16, a18, n18, H18⟩ => [(0, (.slice a_b (List.length b) n_b)), (6, (.pointer (some ⟨b1, 0, none⟩))), (9, (.pointer (some ⟨b2, 0, none⟩))), (10, (.int .i64 (w64 (w * h)))), (11, (.pointer (some ⟨b5, 0, none⟩))), (12, (.int .i64 x16))]) (fun ⟨k17, x15, x16, a18, n18, H18⟩ => [F, [(b1, Obj.cells #[(.int .i64 0), (.int .i64 0), (.slice none 0 0)] 41 (0, 0))], [(b2, Obj.cells #[(.int .i64 0), (.int .i64 0), (.slice none 0 0)] 41 (0, 0))], [(b5, Obj.cells #[(.int .i64 w), (.int .i64 h), (.slice a18 (List.length x15) n18)] 41 (0, 0))], H18]) (fun s => s.1) (fuel, [], 1, none, 0, []) [0, 0, 0, 0, 0] ⟨Z7, SliceO.nil⟩ ⟨rfl, rfl, rfl, rfl, rfl, rfl, trivial⟩ rfl ?_
                rintro ⟨k17, x15, x16, a18, n18, H18⟩ ⟨Z20, s18⟩
                replace Z20 : ref1_GetTile.l1 k17 b w h x15 x16 = some z7 := Z20
                rcases k17 with _ | k17
                · rw [ref1_GetTile.l1] at Z20; cases Z20
                · rw [ref1_GetTile.l1] at Z20
                  refine at_seq ?_
                  refine at_seq ?_
                  refine at_region [0, 1, 2, 3, 4] rfl ?_
                  refine at_s T rfl ?_
                  refine at_v rfl (g_load T rfl rfl rfl rfl (in_var (j := 3) rfl rfl)) ?_
                  iterate 3 refine at_s T rfl ?_
                  refine at_end ?_
                  refine at_sub [(0, (.slice a_b (List.length b) n_b)), (6, (.pointer (some ⟨b1, 0, none⟩))), (9, (.pointer (some ⟨b2, 0, none⟩))), (10, (.int .i64 (w64 (w * h)))), (11, (.pointer (some ⟨b5, 0, none⟩))), (12, (.int .i64 x16)), (86, (.bool (decide ((List.length x15 : Int) < (w64 (w * h))))))] ⟨rfl, rfl, rfl, rfl, rfl, rfl, rfl, trivial⟩ ?_
                  refine at_then ?_
                  refine at_cond rfl (fun c21 => ?_) (fun c21 => ?_)
                  · replace Z20 := if_t (of_decide_eq_true c21) Z20
                    refine at_skip ?_
                    refine at_then ?_
                    obtain ⟨z19, Z22, Z20⟩ := bind_e Z20
                    refine at_any_mid (σ := List Int × Option Addr × Nat × Hp) (fun ⟨x18, a19, n19, H19⟩ => (Sum.inr x18) = z19 ∧ SliceO (Fl.int .u8) 5 x18 a19 n19 H19) (fun ⟨x18, a19, n19, H19⟩ => [(0, (.slice a_b (List.length b) n_b)), (6, (.pointer (some ⟨b1, 0, none⟩))), (9, (.pointer (some ⟨b2, 0, none⟩))), (10, (.int .i64 (w64 (w * h)))), (11, (.pointer (some ⟨b5, 0, none⟩))), (12, (.int .i64 (w64 (x16 + 2))))]) (fun ⟨x18, a19, n19, H19⟩ => [F, [(b1, Obj.cells #[(.int .i64 0), (.int .i64 0), (.slice none 0 0)] 41 (0, 0))], [(b2, Obj.cells #[(.int .i64 0), (.int .i64 0), (.slice none 0 0)] 41 (0, 0))], [(b5, Obj.cells #[(.int .i64 w), (.int .i64 h), (.slice a19 (List.length x18) n19)] 41 (0, 0))], H19]) ?_ ?_
                    · refine at_block ?_
                      refine at_seq ?_
                      refine at_seq ?_
                      refine at_region [0, 1, 2, 3, 4] rfl ?_
                      iterate 5 refine at_s T rfl ?_
                      refine at_end ?_
                      refine at_sub [(0, (.slice a_b (List.length b) n_b)), (6, (.pointer (some ⟨b1, 0, none⟩))), (9, (.pointer (some ⟨b2, 0, none⟩))), (10, (.int .i64 (w64 (w * h)))), (11, (.pointer (some ⟨b5, 0, none⟩))), (12, (.int .i64 x16)), (91, (.bool (decide ((w64 ((List.length b : Int) - x16)) < 2))))] ⟨rfl, rfl, rfl, rfl, rfl, rfl, rfl, trivial⟩ ?_
                      refine at_then ?_
                      refine at_cond rfl (fun c23 => ?_) (fun c23 => ?_)
                      · replace Z22 := if_t (of_decide_eq_true c23) Z22
                        refine at_seq ?_
                        refine at_region [0, 1, 2, 3] rfl ?_
                        refine at_v rfl (g_loadA T (cs := [(.int .i64 0), (.int .i64 0), (.slice none 0 0)]) rfl rfl rfl rfl rfl rfl (in_varA (j := 2) rfl rfl)) ?_
                        refine at_cons (at_st T 1 [(.int .i64 0), (.int .i64 0), (.slice none 0 0)] rfl rfl rfl rfl rfl rfl rfl rfl rfl rfl ?_)
                        iterate 2 refine at_s T rfl ?_
                        refine at_end ?_
                        refine at_to [(6, (.pointer (some ⟨b1, 0, none⟩))), (7, (.int .i64 0)), (8, (.int .i64 2))] [0, 0] [F, [(b1, Obj.cells #[(.int .i64 0), (.int .i64 0), (.slice none 0 0)] 41 (0, 0))]] ⟨rfl, rfl, rfl, trivial⟩ rfl ?_
                        refine at_then ?_
                        refine at_ret ?_
                        refine at_rt ?_
                        refine at_rb ?_
                        refine at_rt ?_
                        refine at_rt ?_
                        refine at_rb ?_
                        refine at_rb ?_
                        refine at_rt ?_
                        obtain rfl := Option.some.inj Z22
                        obtain rfl := Option.some.inj (show some (Sum.inl ((api_Map.mk 0 0 []), 0, 2)) = some z7 from Z20)
                        obtain rfl := Option.some.inj (show some ((api_Map.mk 0 0 []), 0, 2) = some r from H)
                        refine at_addnil ?_
                        exact at_post (T := T) rfl (.aggv (j := 1) [(.int .i64 0), (.int .i64 0), (.slice none 0 0)] rfl rfl rfl rfl rfl rfl rfl (.tmp rfl (.tmp rfl .nil))) (fun w o => ⟨⟨(_, _), ⟨none, 0, [], SliceO.nil, rfl, rfl⟩⟩, rfl, own_to [2, 0] rfl o⟩)
                      · replace Z22 := if_f (of_decide_eq_false c23) Z22
                        refine at_skip ?_
                        refine at_then ?_
                        refine at_seq ?_
                        refine at_region_q mix (by kernel_rfl) ?_
                        iterate 2 refine atq_s T rfl ?_
                        obtain ⟨c24, Z22⟩ := chk_e Z22
                        obtain ⟨q21, o21, e21⟩ := h_b.addr c24.1 c24.2
                        refine atq_v rfl rfl rfl (g_index T rfl rfl rfl rfl rfl e21 c24.1 c24.2) ?_
                        refine atq_v rfl rfl rfl (g_load T rfl rfl rfl rfl (in_elem1 (k := (Fl.int .u8)) (ro_of h_b (j := 0) rfl) e21 c24 0 rfl)) ?_
                        iterate 5 refine atq_s T rfl ?_
                        obtain ⟨c25, Z22⟩ := chk_e Z22
                        refine atq_v rfl rfl rfl (g_index T rfl rfl rfl rfl rfl e21 c25.1 c25.2) ?_
                        refine atq_v rfl rfl rfl (g_load T rfl rfl rfl rfl (in_elem1 (k := (Fl.int .u8)) (ro_of h_b (j := 0) rfl) e21 c25 0 rfl)) ?_
                        iterate 2 refine atq_s T rfl ?_
                        refine atq_end ?_
                        refine at_sub [(0, (.slice a_b (List.length b) n_b)), (6, (.pointer (some ⟨b1, 0, none⟩))), (9, (.pointer (some ⟨b2, 0, none⟩))), (10, (.int .i64 (w64 (w * h)))), (11, (.pointer (some ⟨b5, 0, none⟩))), (12, (.int .i64 x16)), (14, (.int .i64 (w64 ((w64 (rd b x16)) + 1)))), (15, (.int .u8 (rd b (w64 (x16 + 1)))))] ⟨rfl, rfl, rfl, rfl, rfl, rfl, rfl, rfl, trivial⟩ ?_
                        refine at_then ?_
                        refine at_seq ?_
                        obtain ⟨z21, Z26, Z22⟩ := bind_e Z22
                        refine at_seq_mid (σ := Bool) (fun x20 => x20 = z21) (fun x20 => [(0, (.slice a_b (List.length b) n_b)), (6, (.pointer (some ⟨b1, 0, none⟩))), (9, (.pointer (some ⟨b2, 0, none⟩))), (10, (.int .i64 (w64 (w * h)))), (11, (.pointer (some ⟨b5, 0, none⟩))), (12, (.int .i64 x16)), (14, (.int .i64 (w64 ((w64 (rd b x16)) + 1)))), (15, (.int .u8 (rd b (w64 (x16 + 1))))), (132, (.bool x20))]) (fun x20 => [F, [(b1, Obj.cells #[(.int .i64 0), (.int .i64 0), (.slice none 0 0)] 41 (0, 0))], [(b2, Obj.cells #[(.int .i64 0), (.int .i64 0), (.slice none 0 0)] 41 (0, 0))], [(b5, Obj.cells #[(.int .i64 w), (.int .i64 h), (.slice a18 (List.length x15) n18)] 41 (0, 0))], H18]) ?_ ?_
                        · refine at_region [0, 1, 2, 3, 4, 5, 6, 7, 8, 9, 10, 11, 12, 13, 14, 15, 16, 17, 18, 19, 20, 21, 22, 23, 24, 25, 26, 27, 28] rfl ?_
                          iterate 3 refine at_s T rfl ?_
                          refine at_case (s := 106) rfl (fun c27 => ?_) (fun c27 => ?_)
                          · replace Z26 := if_t c27 Z26
                            iterate 26 refine at_s T rfl ?_
                            refine at_end ?_
                            refine at_sub [(0, (.slice a_b (List.length b) n_b)), (6, (.pointer (some ⟨b1, 0, none⟩))), (9, (.pointer (some ⟨b2, 0, none⟩))), (10, (.int .i64 (w64 (w * h)))), (11, (.pointer (some ⟨b5, 0, none⟩))), (12, (.int .i64 x16)), (14, (.int .i64 (w64 ((w64 (rd b x16)) + 1)))), (15, (.int .u8 (rd b (w64 (x16 + 1))))), (132, (.bool true))] ⟨rfl, rfl, rfl, rfl, rfl, rfl, rfl, rfl, rfl, trivial⟩ ?_
                            refine at_then ?_
                            obtain rfl := Option.some.inj Z26
                            exact at_mid true [0, 0, 0, 0, 0] rfl ⟨rfl, rfl, rfl, rfl, rfl, rfl, rfl, rfl, rfl, trivial⟩ rfl
                          · replace Z26 := if_f (bf c27) Z26
                            refine at_s T rfl ?_
                            refine at_v rfl (g_load T rfl rfl rfl rfl (in_var (j := 3) rfl rfl)) ?_
                            iterate 7 refine at_s T rfl ?_
                            refine at_case (s := 115) rfl (fun c28 => ?_) (fun c28 => ?_)
                            · replace Z26 := if_t (of_decide_eq_true c28) Z26
                              iterate 17 refine at_s T rfl ?_
                              refine at_end ?_
                              refine at_sub [(0, (.slice a_b (List.length b) n_b)), (6, (.pointer (some ⟨b1, 0, none⟩))), (9, (.pointer (some ⟨b2, 0, none⟩))), (10, (.int .i64 (w64 (w * h)))), (11, (.pointer (some ⟨b5, 0, none⟩))), (12, (.int .i64 x16)), (14, (.int .i64 (w64 ((w64 (rd b x16)) + 1)))), (15, (.int .u8 (rd b (w64 (x16 + 1))))), (132, (.bool true))] ⟨rfl, rfl, rfl, rfl, rfl, rfl, rfl, rfl, rfl, trivial⟩ ?_
                              refine at_then ?_
                              obtain rfl := Option.some.inj Z26
                              exact at_mid true [0, 0, 0, 0, 0] rfl ⟨rfl, rfl, rfl, rfl, rfl, rfl, rfl, rfl, rfl, trivial⟩ rfl
                            · replace Z26 := if_f (of_decide_eq_false c28) Z26
                              refine at_s T rfl ?_
                              refine at_v rfl (g_load T rfl rfl rfl rfl (in_var (j := 3) rfl rfl)) ?_
                              iterate 3 refine at_s T rfl ?_
                              refine at_case (s := 120) rfl (fun c29 => ?_) (fun c29 => ?_)
                              · replace Z26 := if_t (of_decide_eq_true c29) Z26
                                refine at_s T rfl ?_
                                refine at_v rfl (g_load T rfl rfl rfl rfl (in_var (j := 3) rfl rfl)) ?_
                                refine at_s T rfl ?_
                                refine at_v rfl (g_load T rfl rfl rfl rfl (in_var (j := 3) rfl rfl)) ?_
                                iterate 2 refine at_s T rfl ?_
                                obtain ⟨c30, Z26⟩ := chk_e Z26
                                obtain ⟨q22, o22, e22⟩ := s18.r.addr c30.1 c30.2
                                refine at_v rfl (g_index T rfl rfl rfl rfl rfl e22 c30.1 c30.2) ?_
                                refine at_v rfl (g_load T rfl rfl rfl rfl (in_elem1 (k := (Fl.int .u8)) (own_of s18 (j := 4) rfl) e22 c30 0 rfl)) ?_
                                iterate 4 refine at_s T rfl ?_
                                refine at_end ?_
                                refine at_sub [(0, (.slice a_b (List.length b) n_b)), (6, (.pointer (some ⟨b1, 0, none⟩))), (9, (.pointer (some ⟨b2, 0, none⟩))), (10, (.int .i64 (w64 (w * h)))), (11, (.pointer (some ⟨b5, 0, none⟩))), (12, (.int .i64 x16)), (14, (.int .i64 (w64 ((w64 (rd b x16)) + 1)))), (15, (.int .u8 (rd b (w64 (x16 + 1))))), (132, (.bool ((rd x15 (w64 ((List.length x15 : Int) - 1))) == (rd b (w64 (x16 + 1))))))] ⟨rfl, rfl, rfl, rfl, rfl, rfl, rfl, rfl, rfl, trivial⟩ ?_
                                refine at_then ?_
                                obtain rfl := Option.some.inj Z26
                                exact at_mid ((rd x15 (w64 ((List.length x15 : Int) - 1))) == (rd b (w64 (x16 + 1)))) [0, 0, 0, 0, 0] rfl ⟨rfl, rfl, rfl, rfl, rfl, rfl, rfl, rfl, rfl, trivial⟩ rfl
                              · replace Z26 := if_f (of_decide_eq_false c29) Z26
                                iterate 12 refine at_s T rfl ?_
                                refine at_end ?_
                                refine at_sub [(0, (.slice a_b (List.length b) n_b)), (6, (.pointer (some ⟨b1, 0, none⟩))), (9, (.pointer (some ⟨b2, 0, none⟩))), (10, (.int .i64 (w64 (w * h)))), (11, (.pointer (some ⟨b5, 0, none⟩))), (12, (.int .i64 x16)), (14, (.int .i64 (w64 ((w64 (rd b x16)) + 1)))), (15, (.int .u8 (rd b (w64 (x16 + 1))))), (132, (.bool false))] ⟨rfl, rfl, rfl, rfl, rfl, rfl, rfl, rfl, rfl, trivial⟩ ?_
                                refine at_then ?_
                                obtain rfl := Option.some.inj Z26
                                exact at_mid false [0, 0, 0, 0, 0] rfl ⟨rfl, rfl, rfl, rfl, rfl, rfl, rfl, rfl, rfl, trivial⟩ rfl
                        · rintro x20 rfl
                          refine at_cond rfl (fun c31 => ?_) (fun c31 => ?_)
                          · replace Z22 := if_t c31 Z22
                            refine at_seq ?_
                            refine at_region [0, 1, 2, 3] rfl ?_
                            refine at_v rfl (g_loadA T (cs := [(.int .i64 0), (.int .i64 0), (.slice none 0 0)]) rfl rfl rfl rfl rfl rfl (in_varA (j := 2) rfl rfl)) ?_
                            refine at_cons (at_st T 1 [(.int .i64 0), (.int .i64 0), (.slice none 0 0)] rfl rfl rfl rfl rfl rfl rfl rfl rfl rfl ?_)
                            iterate 2 refine at_s T rfl ?_
                            refine at_end ?_
                            refine at_to [(6, (.pointer (some ⟨b1, 0, none⟩))), (7, (.int .i64 0)), (8, (.int .i64 3))] [0, 0] [F, [(b1, Obj.cells #[(.int .i64 0), (.int .i64 0), (.slice none 0 0)] 41 (0, 0))]] ⟨rfl, rfl, rfl, trivial⟩ rfl ?_
                            refine at_then ?_
                            refine at_ret ?_
                            refine at_rt ?_
                            refine at_rb ?_
                            refine at_rt ?_
                            refine at_rt ?_
                            refine at_rb ?_
                            refine at_rb ?_
                            refine at_rt ?_
                            obtain rfl := Option.some.inj Z22
                            obtain rfl := Option.some.inj (show some (Sum.inl ((api_Map.mk 0 0 []), 0, 3)) = some z7 from Z20)
                            obtain rfl := Option.some.inj (show some ((api_Map.mk 0 0 []), 0, 3) = some r from H)
                            refine at_addnil ?_
                            exact at_post (T := T) rfl (.aggv (j := 1) [(.int .i64 0), (.int .i64 0), (.slice none 0 0)] rfl rfl rfl rfl rfl rfl rfl (.tmp rfl (.tmp rfl .nil))) (fun w o => ⟨⟨(_, _), ⟨none, 0, [], SliceO.nil, rfl, rfl⟩⟩, rfl, own_to [2, 0] rfl o⟩)
                          · replace Z22 := if_f (bf c31) Z22
                            refine at_skip ?_
                            refine at_then ?_
                            refine at_seq ?_
                            refine at_seq ?_
                            refine at_region [0] rfl ?_
                            refine at_s T rfl ?_
                            refine at_end ?_
                            refine at_sub [(0, (.slice a_b (List.length b) n_b)), (6, (.pointer (some ⟨b1, 0, none⟩))), (9, (.pointer (some ⟨b2, 0, none⟩))), (10, (.int .i64 (w64 (w * h)))), (11, (.pointer (some ⟨b5, 0, none⟩))), (12, (.int .i64 x16)), (14, (.int .i64 (w64 ((w64 (rd b x16)) + 1)))), (15, (.int .u8 (rd b (w64 (x16 + 1))))), (16, (.int .i64 0))] ⟨rfl, rfl, rfl, rfl, rfl, rfl, rfl, rfl, rfl, trivial⟩ ?_
                            refine at_then ?_
                            refine at_block ?_
                            refine at_loopL (σ := Nat × List Int × Int × Option Addr × Nat × Hp) (fun ⟨k26, x24, x25, a25, n25, H25⟩ => ref1_GetTile.l2 k26 b x16 x24 x25 = some z19 ∧ SliceO (Fl.int .u8) 5 x24 a25 n25 H25) (fun ⟨k26, x24, x25, a25, n25, H25⟩ => [(0, (.slice a_b (List.length b) n_b)), (6, (.pointer (some ⟨b1, 0, none⟩))), (9, (.pointer (some ⟨b2, 0, none⟩))), (10, (.int .i64 (w64 (w * h)))), (11, (.pointer (some ⟨b5, 0, none⟩))), (12, (.int .i64 x16)), (14, (.int .i64 (w64 ((w64 (rd b x16)) + 1)))), (15, (.int .u8 (rd b (w64 (x16 + 1))))), (16, (.int .i64 x25))]) (fun ⟨k26, x24, x25, a25, n25, H25⟩ => [F, [(b1, Obj.cells #[(.int .i64 0), (.int .i64 0), (.slice none 0 0)] 41 (0, 0))], [(b2, Obj.cells #[(.int .i64 0), (.int .i64 0), (.slice none 0 0)] 41 (0, 0))], [(b5, Obj.cells #[(.int .i64 w), (.int .i64 h), (.slice a25 (List.length x24) n25)] 41 (0, 0))], H25]) (fun s => s.1) (fuel, x15, 0, a18, n18, H18) [0, 0, 0, 0, 0] ⟨Z22, s18⟩ ⟨rfl, rfl, rfl, rfl, rfl, rfl, rfl, rfl, rfl, trivial⟩ rfl ?_
                            rintro ⟨k26, x24, x25, a25, n25, H25⟩ ⟨Z32, s25⟩
                            replace Z32 : ref1_GetTile.l2 k26 b x16 x24 x25 = some z19 := Z32
                            rcases k26 with _ | k26
                            · rw [ref1_GetTile.l2] at Z32; cases Z32
                            · rw [ref1_GetTile.l2] at Z32
                              refine at_seq ?_
                              refine at_seq ?_
                              refine at_region [0, 1, 2] rfl ?_
                              iterate 3 refine at_s T rfl ?_
                              refine at_end ?_
                              refine at_sub [(0, (.slice a_b (List.length b) n_b)), (6, (.pointer (some ⟨b1, 0, none⟩))), (9, (.pointer (some ⟨b2, 0, none⟩))), (10, (.int .i64 (w64 (w * h)))), (11, (.pointer (some ⟨b5, 0, none⟩))), (12, (.int .i64 x16)), (14, (.int .i64 (w64 ((w64 (rd b x16)) + 1)))), (15, (.int .u8 (rd b (w64 (x16 + 1))))), (16, (.int .i64 x25)), (136, (.bool (decide (x25 < (w64 ((w64 (rd b x16)) + 1))))))] ⟨rfl, rfl, rfl, rfl, rfl, rfl, rfl, rfl, rfl, rfl, trivial⟩ ?_
                              refine at_then ?_
                              refine at_cond rfl (fun c33 => ?_) (fun c33 => ?_)
                              · replace Z32 := if_t (of_decide_eq_true c33) Z32
                                refine at_skip ?_
                                refine at_then ?_
                                refine at_seq ?_
                                refine at_block ?_
                                refine at_region [0, 1, 2, 3, 4, 5, 6] rfl ?_
                                refine at_s T rfl ?_
                                refine at_v rfl (g_load T rfl rfl rfl rfl (in_var (j := 3) rfl rfl)) ?_
                                refine at_s T rfl ?_
                                refine at_cons (at_bs (k := (Fl.int .u8)) T [(rd b (w64 (x16 + 1)))] rfl rfl rfl rfl rfl rfl rfl rfl rfl (fun a26 H26 s26 => ?_))
                                obtain ⟨c34, Z32⟩ := chk_e Z32
                                refine at_cons (at_ap (k := (Fl.int .u8)) (xs := x24) T (g := 4) rfl rfl rfl rfl rfl rfl rfl rfl rfl rfl s25 (own_of s26 (j := 5) rfl) c34 rfl (fun a27 n27 H27 s27 => ?_))
                                refine at_s T rfl ?_
                                refine at_cons (at_st T 3 [(.int .i64 w), (.int .i64 h), (.slice a27 (List.length (x24 ++ [(rd b (w64 (x16 + 1)))])) n27)] rfl rfl rfl rfl rfl rfl rfl rfl rfl rfl ?_)
                                refine at_end ?_
                                refine at_to [(0, (.slice a_b (List.length b) n_b)), (6, (.pointer (some ⟨b1, 0, none⟩))), (9, (.pointer (some ⟨b2, 0, none⟩))), (10, (.int .i64 (w64 (w * h)))), (11, (.pointer (some ⟨b5, 0, none⟩))), (12, (.int .i64 x16)), (14, (.int .i64 (w64 ((w64 (rd b x16)) + 1)))), (15, (.int .u8 (rd b (w64 (x16 + 1))))), (16, (.int .i64 x25))] [0, 0, 0, 0, 0] [F, [(b1, Obj.cells #[(.int .i64 0), (.int .i64 0), (.slice none 0 0)] 41 (0, 0))], [(b2, Obj.cells #[(.int .i64 0), (.int .i64 0), (.slice none 0 0)] 41 (0, 0))], [(b5, Obj.cells #[(.int .i64 w), (.int .i64 h), (.slice a27 (List.length (x24 ++ [(rd b (w64 (x16 + 1)))])) n27)] 41 (0, 0))], H27] ⟨rfl, rfl, rfl, rfl, rfl, rfl, rfl, rfl, rfl, trivial⟩ rfl ?_
                                refine at_nb ?_
                                refine at_then ?_
                                refine at_region [0, 1, 2] rfl ?_
                                iterate 3 refine at_s T rfl ?_
                                refine at_end ?_
                                refine at_sub [(0, (.slice a_b (List.length b) n_b)), (6, (.pointer (some ⟨b1, 0, none⟩))), (9, (.pointer (some ⟨b2, 0, none⟩))), (10, (.int .i64 (w64 (w * h)))), (11, (.pointer (some ⟨b5, 0, none⟩))), (12, (.int .i64 x16)), (14, (.int .i64 (w64 ((w64 (rd b x16)) + 1)))), (15, (.int .u8 (rd b (w64 (x16 + 1))))), (16, (.int .i64 (w64 (x25 + 1))))] ⟨rfl, rfl, rfl, rfl, rfl, rfl, rfl, rfl, rfl, trivial⟩ ?_
                                refine at_then ?_
                                exact at_roundL (k26, (x24 ++ [(rd b (w64 (x16 + 1)))]), (w64 (x25 + 1)), a27, n27, H27) [0, 0, 0, 0, 0] ⟨Z32, s27⟩ (Nat.lt_succ_self _) ⟨rfl, rfl, rfl, rfl, rfl, rfl, rfl, rfl, rfl, trivial⟩ rfl
                              · replace Z32 := if_f (of_decide_eq_false c33) Z32
                                refine at_exit ?_
                                refine at_xt ?_
                                refine at_xt ?_
                                refine at_xb ?_
                                refine at_then ?_
                                refine at_region [0, 1, 2] rfl ?_
                                iterate 3 refine at_s T rfl ?_
                                refine at_end ?_
                                refine at_sub [(0, (.slice a_b (List.length b) n_b)), (6, (.pointer (some ⟨b1, 0, none⟩))), (9, (.pointer (some ⟨b2, 0, none⟩))), (10, (.int .i64 (w64 (w * h)))), (11, (.pointer (some ⟨b5, 0, none⟩))), (12, (.int .i64 (w64 (x16 + 2))))] ⟨rfl, rfl, rfl, rfl, rfl, rfl, trivial⟩ ?_
                                refine at_nb ?_
                                refine at_then ?_
                                obtain rfl := Option.some.inj Z32
                                exact at_mid (x24, a25, n25, H25) [0, 0, 0, 0, 0] ⟨rfl, s25⟩ ⟨rfl, rfl, rfl, rfl, rfl, rfl, trivial⟩ rfl
                    · rintro ⟨x18, a19, n19, H19⟩ ⟨rfl, s19⟩
                      refine at_then ?_
                      exact at_roundL (k17, x18, (w64 (x16 + 2)), a19, n19, H19) [0, 0, 0, 0, 0] ⟨Z20, s19⟩ (Nat.lt_succ_self _) ⟨rfl, rfl, rfl, rfl, rfl, rfl, trivial⟩ rfl
                  · replace Z20 := if_f (of_decide_eq_false c21) Z20
                    refine at_exit ?_
                    refine at_xt ?_
                    refine at_xt ?_
                    refine at_xb ?_
                    refine at_nb ?_
                    refine at_then ?_
                    obtain rfl := Option.some.inj Z20
                    exact at_mid (x15, x16, a18, n18, H18) [0, 0, 0, 0, 0] ⟨rfl, s18⟩ ⟨rfl, rfl, rfl, rfl, rfl, trivial⟩ rfl
              · replace Z7 := if_f (bf c19) Z7
                refine at_seq ?_
                refine at_region [0, 1, 2, 3] rfl ?_
                refine at_v rfl (g_loadA T (cs := [(.int .i64 0), (.int .i64 0), (.slice none 0 0)]) rfl rfl rfl rfl rfl rfl (in_varA (j := 2) rfl rfl)) ?_
                refine at_cons (at_st T 1 [(.int .i64 0), (.int .i64 0), (.slice none 0 0)] rfl rfl rfl rfl rfl rfl rfl rfl rfl rfl ?_)
                iterate 2 refine at_s T rfl ?_
                refine at_end ?_
                refine at_to [(6, (.pointer (some ⟨b1, 0, none⟩))), (7, (.int .i64 0)), (8, (.int .i64 3))] [0, 0] [F, [(b1, Obj.cells #[(.int .i64 0), (.int .i64 0), (.slice none 0 0)] 41 (0, 0))]] ⟨rfl, rfl, rfl, trivial⟩ rfl ?_
                refine at_then ?_
                refine at_ret ?_
                refine at_rb ?_
                refine at_rt ?_
                obtain rfl := Option.some.inj Z7
                obtain rfl := Option.some.inj (show some ((api_Map.mk 0 0 []), 0, 3) = some r from H)
                refine at_addnil ?_
                exact at_post (T := T) rfl (.aggv (j := 1) [(.int .i64 0), (.int .i64 0), (.slice none 0 0)] rfl rfl rfl rfl rfl rfl rfl (.tmp rfl (.tmp rfl .nil))) (fun w o => ⟨⟨(_, _), ⟨none, 0, [], SliceO.nil, rfl, rfl⟩⟩, rfl, own_to [2, 0] rfl o⟩)
        · rintro ⟨x5, x6, a6, n6, H6⟩ ⟨rfl, s6⟩
          refine at_seq ?_
          refine at_seq ?_
          refine at_region [0, 1, 2, 3] rfl ?_
          refine at_s T rfl ?_
          refine at_v rfl (g_load T rfl rfl rfl rfl (in_var (j := 3) rfl rfl)) ?_
          obtain ⟨v27, V35, H⟩ := bind_e H
          refine at_cons (at_c (B := fun _ => []) [] rfl rfl rfl rfl has43 rfl rfl (ref1_full.c x5 v27 _ V35 (own_of s6 (j := 4) rfl) s6.cap_le) (fun _ => ?_))
          refine at_s T rfl ?_
          refine at_end ?_
          refine at_sub [(0, (.slice a_b (List.length b) n_b)), (6, (.pointer (some ⟨b1, 0, none⟩))), (9, (.pointer (some ⟨b2, 0, none⟩))), (11, (.pointer (some ⟨b5, 0, none⟩))), (12, (.int .i64 x6)), (150, (.bool (!v27)))] ⟨rfl, rfl, rfl, rfl, rfl, rfl, trivial⟩ ?_
          refine at_then ?_
          refine at_cond rfl (fun c36 => ?_) (fun c36 => ?_)
          · replace H := if_t c36 H
            refine at_seq ?_
            refine at_region [0, 1, 2, 3] rfl ?_
            refine at_v rfl (g_loadA T (cs := [(.int .i64 0), (.int .i64 0), (.slice none 0 0)]) rfl rfl rfl rfl rfl rfl (in_varA (j := 2) rfl rfl)) ?_
            refine at_cons (at_st T 1 [(.int .i64 0), (.int .i64 0), (.slice none 0 0)] rfl rfl rfl rfl rfl rfl rfl rfl rfl rfl ?_)
            iterate 2 refine at_s T rfl ?_
            refine at_end ?_
            refine at_to [(6, (.pointer (some ⟨b1, 0, none⟩))), (7, (.int .i64 0)), (8, (.int .i64 3))] [0, 0] [F, [(b1, Obj.cells #[(.int .i64 0), (.int .i64 0), (.slice none 0 0)] 41 (0, 0))]] ⟨rfl, rfl, rfl, trivial⟩ rfl ?_
            refine at_then ?_
            refine at_ret ?_
            refine at_rt ?_
            obtain rfl := Option.some.inj H
            refine at_addnil ?_
            exact at_post (T := T) rfl (.aggv (j := 1) [(.int .i64 0), (.int .i64 0), (.slice none 0 0)] rfl rfl rfl rfl rfl rfl rfl (.tmp rfl (.tmp rfl .nil))) (fun w o => ⟨⟨(_, _), ⟨none, 0, [], SliceO.nil, rfl, rfl⟩⟩, rfl, own_to [2, 0] rfl o⟩)
          · replace H := if_f (bf c36) H
            refine at_skip ?_
            refine at_then ?_
            refine at_seq ?_
            refine at_seq ?_
            refine at_region [0, 1, 2, 3, 4, 5, 6] rfl ?_
            refine at_v rfl (g_loadA T (cs := [(.int .i64 w), (.int .i64 h), (.slice a6 (List.length x5) n6)]) rfl rfl rfl rfl rfl rfl (in_varA (j := 3) rfl rfl)) ?_
            obtain ⟨v28, V37, H⟩ := bind_e H
            refine at_cons (at_cR (ref1_PutTile.R v28) [] [] rfl rfl rfl rfl has30 rfl rfl (ref1_PutTile.c (api_Map.mk w h x5) v28 _ V37 (own_of s6 (j := 4) rfl) s6.cap_le) ?_)
            rintro _ _ ⟨a30, n30, H30, s30, rfl, rfl⟩
            iterate 5 refine at_s T rfl ?_
            refine at_end ?_
            refine at_sub [(0, (.slice a_b (List.length b) n_b)), (6, (.pointer (some ⟨b1, 0, none⟩))), (9, (.pointer (some ⟨b2, 0, none⟩))), (11, (.pointer (some ⟨b5, 0, none⟩))), (12, (.int .i64 x6)), (18, (.slice a30 (List.length v28.2) n30))] ⟨rfl, rfl, rfl, rfl, rfl, rfl, trivial⟩ ?_
            refine at_then ?_
            refine at_seq ?_
            refine at_region [0, 1, 2, 3, 4, 5] rfl ?_
            iterate 3 refine at_s T rfl ?_
            obtain ⟨c38, H⟩ := chk_e H
            refine at_v rfl (g_sub T rfl rfl rfl rfl rfl rfl c38 c_b) ?_
            obtain ⟨v29, V39, H⟩ := bind_e H
            refine at_cons (at_c (B := fun _ => []) [] rfl rfl rfl rfl has16 rfl rfl (ref1_Bytes.c v28.2 (sub' b 0 x6) v29 _ V39 (own_of s30 (j := 5) rfl) s30.cap_le (sub_r (ro_of h_b (j := 0) rfl) c38 c_b) (sub_cap c38 c_b)) (fun _ => ?_))
            refine at_s T rfl ?_
            refine at_end ?_
            refine at_to [(6, (.pointer (some ⟨b1, 0, none⟩))), (9, (.pointer (some ⟨b2, 0, none⟩))), (11, (.pointer (some ⟨b5, 0, none⟩))), (12, (.int .i64 x6)), (162, (.bool (!v29)))] [0, 0, 0, 0, 0] [F, [(b1, Obj.cells #[(.int .i64 0), (.int .i64 0), (.slice none 0 0)] 41 (0, 0))], [(b2, Obj.cells #[(.int .i64 0), (.int .i64 0), (.slice none 0 0)] 41 (0, 0))], [(b5, Obj.cells #[(.int .i64 w), (.int .i64 h), (.slice a6 (List.length x5) n6)] 41 (0, 0))], H6] ⟨rfl, rfl, rfl, rfl, rfl, trivial⟩ rfl ?_
            refine at_then ?_
            refine at_cond rfl (fun c40 => ?_) (fun c40 => ?_)
            · replace H := if_t c40 H
              refine at_seq ?_
              refine at_region [0, 1, 2, 3] rfl ?_
              refine at_v rfl (g_loadA T (cs := [(.int .i64 0), (.int .i64 0), (.slice none 0 0)]) rfl rfl rfl rfl rfl rfl (in_varA (j := 2) rfl rfl)) ?_
              refine at_cons (at_st T 1 [(.int .i64 0), (.int .i64 0), (.slice none 0 0)] rfl rfl rfl rfl rfl rfl rfl rfl rfl rfl ?_)
              iterate 2 refine at_s T rfl ?_
              refine at_end ?_
              refine at_to [(6, (.pointer (some ⟨b1, 0, none⟩))), (7, (.int .i64 0)), (8, (.int .i64 3))] [0, 0] [F, [(b1, Obj.cells #[(.int .i64 0), (.int .i64 0), (.slice none 0 0)] 41 (0, 0))]] ⟨rfl, rfl, rfl, trivial⟩ rfl ?_
              refine at_then ?_
              refine at_ret ?_
              refine at_rt ?_
              obtain rfl := Option.some.inj H
              refine at_addnil ?_
              exact at_post (T := T) rfl (.aggv (j := 1) [(.int .i64 0), (.int .i64 0), (.slice none 0 0)] rfl rfl rfl rfl rfl rfl rfl (.tmp rfl (.tmp rfl .nil))) (fun w o => ⟨⟨(_, _), ⟨none, 0, [], SliceO.nil, rfl, rfl⟩⟩, rfl, own_to [2, 0] rfl o⟩)
            · replace H := if_f (bf c40) H
              refine at_skip ?_
              refine at_then ?_
              refine at_seq ?_
              refine at_region [0, 1, 2, 3, 4] rfl ?_
              refine at_v rfl (g_loadA T (cs := [(.int .i64 w), (.int .i64 h), (.slice a6 (List.length x5) n6)]) rfl rfl rfl rfl rfl rfl (in_varA (j := 3) rfl rfl)) ?_
              refine at_s T rfl ?_
              refine at_cons (at_st T 1 [(.int .i64 w), (.int .i64 h), (.slice a6 (List.length x5) n6)] rfl rfl rfl rfl rfl rfl rfl rfl rfl rfl ?_)
              iterate 2 refine at_s T rfl ?_
              refine at_end ?_
              refine at_to [(6, (.pointer (some ⟨b1, 0, none⟩))), (7, (.int .i64 x6)), (8, (.int .i64 0))] [0, 0, 2] [F, [(b1, Obj.cells #[(.int .i64 w), (.int .i64 h), (.slice a6 (List.length x5) n6)] 41 (0, 0))], H6] ⟨rfl, rfl, rfl, trivial⟩ rfl ?_
              refine at_then ?_
              refine at_ret ?_
              obtain rfl := Option.some.inj H
              exact at_post (T := T) rfl (.aggv (j := 1) [(.int .i64 w), (.int .i64 h), (.slice a6 (List.length x5) n6)] rfl rfl rfl rfl rfl rfl rfl (.tmp rfl (.tmp rfl .nil))) (fun w o => ⟨⟨(_, _), ⟨a6, n6, H6, s6, rfl, rfl⟩⟩, rfl, own_to [2, 0] rfl o⟩)

/-! ### herdsman/herdsmanref1.Joined: function 37 -/
def ref1_Joined.l1 : Nat → Int → Int → (List api_Map) → Int → List Int → Int → Option (List Int)
  | 0, _, _, _, _, _, _ => none
  | k12 + 1, w, h, l, x4, x10, x11 => if (0 ≤ x4 ∧ x4 < (List.length l : Int)) then (if x11 < (List.length ((rd l x4).C) : Int) then (if (0 ≤ x11 ∧ x11 < (List.length ((rd l x4).C) : Int)) then ((ref1_Global.f w h x4 x11).bind fun v13 => if (0 ≤ v13 ∧ v13 < (List.length x10 : Int)) then (ref1_Joined.l1 k12 w h l x4 (List.set x10 (Int.toNat v13) (rd ((rd l x4).C) x11)) (w64 (x11 + 1))) else none) else none) else (some x10)) else none
def ref1_Joined.l0 : Nat → Int → Int → (List api_Map) → List Int → Int → Option api_Map
  | 0, _, _, _, _, _ => none
  | k5 + 1, w, h, l, x3, x4 => if x4 < (List.length l : Int) then ((ref1_Joined.l1 fuel w h l x4 x3 0).bind fun x6 => ref1_Joined.l0 k5 w h l x6 (w64 (x4 + 1))) else (some (api_Map.mk w h x3))
def ref1_Joined.f (w : Int) (h : Int) (l : (List api_Map)) : Option api_Map := if (0 ≤ (w64 (w * h)) ∧ (w64 (w * h)) ≤ 1099511627776) then (ref1_Joined.l0 fuel w h l (List.replicate (Int.toNat (w64 (w * h))) (0 : Int)) 0) else none
def ref1_Joined.R (r : api_Map) (u : Value) (G : List Hp) : Prop := ∃ (a0 : Option Addr) (n0 : Nat) (H0 : Hp), SliceO (Fl.int .u8) 5 r.C a0 n0 H0 ∧ u = (.agg #[(.int .i64 r.W), (.int .i64 r.H), (.slice a0 (List.length r.C) n0)]) ∧ G = [H0]
set_option maxHeartbeats 4000000 in
theorem ref1_Joined.c {a_l : Option Addr} {n_l : Nat} (w : Int) (h : Int) (l : (List api_Map)) (r : api_Map) (F : Hp) (H : ref1_Joined.f w h l = some r) (h_l : SliceDR q_api_Map l a_l F) (c_l : List.length l ≤ n_l) :
    CallsL Tryd.prog 37 [(.int .i64 w), (.int .i64 h), (.slice a_l (List.length l) n_l)] [F] (fun qp : { qp : Value × List Hp // ref1_Joined.R r qp.1 qp.2 } => qp.1.1) (fun qp => (qp.1.2 ++ []) ++ [F]) := by
  unfold ref1_Joined.f at H
  refine calls_atL [(0, (.int .i64 w)), (1, (.int .i64 h)), (2, (.slice a_l (List.length l) n_l))] Tryd.func37 rfl rfl ⟨rfl, rfl, rfl, trivial⟩ (fun W => ?_)
  refine at_seq ?_
  refine at_region [0] rfl ?_
  refine at_cons (at_al T [(.int .i64 0), (.int .i64 0), (.slice none 0 0)] rfl rfl rfl rfl (fun b1 => ?_))
  refine at_end ?_
  refine at_sub [(0, (.int .i64 w)), (1, (.int .i64 h)), (2, (.slice a_l (List.length l) n_l)), (6, (.pointer (some ⟨b1, 0, none⟩)))] ⟨rfl, rfl, rfl, rfl, trivial⟩ ?_
  refine at_then ?_
  refine at_seq ?_
  refine at_region [0, 1, 2, 3, 4, 5, 6, 7, 8] rfl ?_
  iterate 5 refine at_s T rfl ?_
  obtain ⟨c1, H⟩ := chk_e H
  refine at_cons (at_mk (k := (Fl.int .u8)) T (0 : Int) rfl rfl rfl rfl rfl rfl rfl rfl c1 rfl (fun a2 n2 H2 s2 => ?_))
  refine at_s T rfl ?_
  refine at_cons (at_al T [(.int .i64 0), (.int .i64 0), (.slice none 0 0)] rfl rfl rfl rfl (fun b3 => ?_))
  refine at_cons (at_st T 3 [(.int .i64 w), (.int .i64 h), (.slice a2 (List.length (List.replicate (Int.toNat (w64 (w * h))) (0 : Int))) n2)] rfl rfl rfl rfl rfl rfl rfl rfl rfl rfl ?_)
  refine at_end ?_
  refine at_sub [(0, (.int .i64 w)), (1, (.int .i64 h)), (2, (.slice a_l (List.length l) n_l)), (6, (.pointer (some ⟨b1, 0, none⟩))), (7, (.pointer (some ⟨b3, 0, none⟩)))] ⟨rfl, rfl, rfl, rfl, rfl, trivial⟩ ?_
  refine at_then ?_
  refine at_seq ?_
  refine at_seq ?_
  refine at_region [0] rfl ?_
  refine at_s T rfl ?_
  refine at_end ?_
  refine at_sub [(0, (.int .i64 w)), (1, (.int .i64 h)), (2, (.slice a_l (List.length l) n_l)), (6, (.pointer (some ⟨b1, 0, none⟩))), (7, (.pointer (some ⟨b3, 0, none⟩))), (8, (.int .i64 0))] ⟨rfl, rfl, rfl, rfl, rfl, rfl, trivial⟩ ?_
  refine at_then ?_
  refine at_block ?_
  refine at_loopL (σ := Nat × List Int × Int × Option Addr × Nat × Hp) (fun ⟨k5, x3, x4, a5, n5, H5⟩ => ref1_Joined.l0 k5 w h l x3 x4 = some r ∧ SliceO (Fl.int .u8) 5 x3 a5 n5 H5) (fun ⟨k5, x3, x4, a5, n5, H5⟩ => [(0, (.int .i64 w)), (1, (.int .i64 h)), (2, (.slice a_l (List.length l) n_l)), (6, (.pointer (some ⟨b1, 0, none⟩))), (7, (.pointer (some ⟨b3, 0, none⟩))), (8, (.int .i64 x4))]) (fun ⟨k5, x3, x4, a5, n5, H5⟩ => [F, [(b1, Obj.cells #[(.int .i64 0), (.int .i64 0), (.slice none 0 0)] 26 (0, 0))], [(b3, Obj.cells #[(.int .i64 w), (.int .i64 h), (.slice a5 (List.length x3) n5)] 26 (0, 0))], H5]) (fun s => s.1) (fuel, (List.replicate (Int.toNat (w64 (w * h))) (0 : Int)), 0, a2, n2, H2) [0, 0, 1, 0] ⟨H, s2⟩ ⟨rfl, rfl, rfl, rfl, rfl, rfl, trivial⟩ rfl ?_
  rintro ⟨k5, x3, x4, a5, n5, H5⟩ ⟨Z2, s5⟩
  replace Z2 : ref1_Joined.l0 k5 w h l x3 x4 = some r := Z2
  rcases k5 with _ | k5
  · rw [ref1_Joined.l0] at Z2; cases Z2
  · rw [ref1_Joined.l0] at Z2
    refine at_seq ?_
    refine at_seq ?_
    refine at_region [0, 1, 2, 3] rfl ?_
    iterate 4 refine at_s T rfl ?_
    refine at_end ?_
    refine at_sub [(0, (.int .i64 w)), (1, (.int .i64 h)), (2, (.slice a_l (List.length l) n_l)), (6, (.pointer (some ⟨b1, 0, none⟩))), (7, (.pointer (some ⟨b3, 0, none⟩))), (8, (.int .i64 x4)), (20, (.bool (decide (x4 < (List.length l : Int)))))] ⟨rfl, rfl, rfl, rfl, rfl, rfl, rfl, trivial⟩ ?_
    refine at_then ?_
    refine at_cond rfl (fun c3 => ?_) (fun c3 => ?_)
    · replace Z2 := if_t (of_decide_eq_true c3) Z2
      refine at_skip ?_
      refine at_then ?_
      obtain ⟨z7, Z4, Z2⟩ := bind_e Z2
      refine at_seq_mid (σ := List Int × Option Addr × Nat × Hp) (fun ⟨x6, a6, n6, H6⟩ => x6 = z7 ∧ SliceO (Fl.int .u8) 5 x6 a6 n6 H6) (fun ⟨x6, a6, n6, H6⟩ => [(0, (.int .i64 w)), (1, (.int .i64 h)), (2, (.slice a_l (List.length l) n_l)), (6, (.pointer (some ⟨b1, 0, none⟩))), (7, (.pointer (some ⟨b3, 0, none⟩))), (8, (.int .i64 x4))]) (fun ⟨x6, a6, n6, H6⟩ => [F, [(b1, Obj.cells #[(.int .i64 0), (.int .i64 0), (.slice none 0 0)] 26 (0, 0))], [(b3, Obj.cells #[(.int .i64 w), (.int .i64 h), (.slice a6 (List.length x6) n6)] 26 (0, 0))], H6]) ?_ ?_
      · refine at_block ?_
        refine at_seq ?_
        refine at_region [0] rfl ?_
        refine at_s T rfl ?_
        refine at_end ?_
        refine at_sub [(0, (.int .i64 w)), (1, (.int .i64 h)), (2, (.slice a_l (List.length l) n_l)), (6, (.pointer (some ⟨b1, 0, none⟩))), (7, (.pointer (some ⟨b3, 0, none⟩))), (8, (.int .i64 x4)), (9, (.int .i64 0))] ⟨rfl, rfl, rfl, rfl, rfl, rfl, rfl, trivial⟩ ?_
        refine at_then ?_
        refine at_block ?_
        refine at_loopL (σ := Nat × List Int × Int × Option Addr × Nat × Hp) (fun ⟨k12, x10, x11, a8, n8, H8⟩ => ref1_Joined.l1 k12 w h l x4 x10 x11 = some z7 ∧ SliceO (Fl.int .u8) 5 x10 a8 n8 H8) (fun ⟨k12, x10, x11, a8, n8, H8⟩ => [(0, (.int .i64 w)), (1, (.int .i64 h)), (2, (.slice a_l (List.length l) n_l)), (6, (.pointer (some ⟨b1, 0, none⟩))), (7, (.pointer (some ⟨b3, 0, none⟩))), (8, (.int .i64 x4)), (9, (.int .i64 x11))]) (fun ⟨k12, x10, x11, a8, n8, H8⟩ => [F, [(b1, Obj.cells #[(.int .i64 0), (.int .i64 0), (.slice none 0 0)] 26 (0, 0))], [(b3, Obj.cells #[(.int .i64 w), (.int .i64 h), (.slice a8 (List.length x10) n8)] 26 (0, 0))], H8]) (fun s => s.1) (fuel, x3, 0, a5, n5, H5) [0, 0, 0, 0] ⟨Z4, s5⟩ ⟨rfl, rfl, rfl, rfl, rfl, rfl, rfl, trivial⟩ rfl ?_
        rintro ⟨k12, x10, x11, a8, n8, H8⟩ ⟨Z5, s8⟩
        replace Z5 : ref1_Joined.l1 k12 w h l x4 x10 x11 = some z7 := Z5
        rcases k12 with _ | k12
        · rw [ref1_Joined.l1] at Z5; cases Z5
        · rw [ref1_Joined.l1] at Z5
          refine at_seq ?_
          refine at_seq ?_
          refine at_region [0, 1, 2, 3, 4, 5, 6, 7] rfl ?_
          iterate 3 refine at_s T rfl ?_
          obtain ⟨c6, Z5⟩ := chk_e Z5
          obtain ⟨q9, o9, e9⟩ := h_l.addr c6.1 c6.2
          refine at_v rfl (g_index T rfl rfl rfl rfl rfl e9 c6.1 c6.2) ?_
          refine at_s T rfl ?_
          obtain ⟨_, w11, ⟨a10, n10, ⟨r10, m10⟩, rfl⟩⟩ := SliceDR.view h_l c6
          refine at_v rfl (g_load T rfl rfl rfl rfl (in_view (j := 0) rfl w11 e9 2 rfl)) ?_
          iterate 2 refine at_s T rfl ?_
          refine at_end ?_
          refine at_sub [(0, (.int .i64 w)), (1, (.int .i64 h)), (2, (.slice a_l (List.length l) n_l)), (6, (.pointer (some ⟨b1, 0, none⟩))), (7, (.pointer (some ⟨b3, 0, none⟩))), (8, (.int .i64 x4)), (9, (.int .i64 x11)), (30, (.bool (decide (x11 < (List.length ((rd l x4).C) : Int)))))] ⟨rfl, rfl, rfl, rfl, rfl, rfl, rfl, rfl, trivial⟩ ?_
          refine at_then ?_
          refine at_cond rfl (fun c7 => ?_) (fun c7 => ?_)
          · replace Z5 := if_t (of_decide_eq_true c7) Z5
            refine at_skip ?_
            refine at_then ?_
            refine at_seq ?_
            refine at_block ?_
            refine at_region_m [[], [0], [], [], [], [], [2, 3, 4, 5], [], [], [7, 8], [7, 8, 9], [7, 8, 9, 10], [], [7, 8, 9, 10, 11, 12], [7, 8, 9, 10, 11, 12, 13], [0, 1, 2, 3, 4, 5, 6, 7, 8, 9, 10, 11, 12, 13, 14], [0, 1, 2, 3, 4, 5, 6, 7, 8, 9, 10, 11, 12, 13, 14, 15]] [16] [F, [(b1, Obj.cells #[(.int .i64 0), (.int .i64 0), (.slice none 0 0)] 26 (0, 0))], [(b3, Obj.cells #[(.int .i64 w), (.int .i64 h), (.slice a8 (List.length x10) n8)] 26 (0, 0))], H8] mix (by kernel_rfl) (by repeat first | exact pf_body | refine pf_then ?_ | refine pf_block ?_) (fun hg pf => ?_)
            refine atm_s T 0 hg pf (by kernel_rfl) (still_o [0, 0, 0, 0] rfl) rfl ?_
            refine atm_v 1 hg pf (by kernel_rfl) (still_o [0, 0, 0, 0] rfl) rfl rfl (g_load T rfl rfl rfl rfl (in_var (j := 2) rfl rfl)) ?_
            refine atm_s T 2 hg pf (by kernel_rfl) (still_o [0, 0, 0, 0] rfl) rfl ?_
            refine atm_s T 3 hg pf (by kernel_rfl) (still_o [0, 0, 0, 0] rfl) rfl ?_
            refine atm_s T 4 hg pf (by kernel_rfl) (still_o [0, 0, 0, 0] rfl) rfl ?_
            refine atm_s T 5 hg pf (by kernel_rfl) (still_o [0, 0, 0, 0] rfl) rfl ?_
            refine atm_s T 7 hg pf (by kernel_rfl) (still_o [0, 0, 0, 0] rfl) rfl ?_
            refine atm_s T 8 hg pf (by kernel_rfl) (still_o [0, 0, 0, 0] rfl) rfl ?_
            refine atm_v 9 hg pf (by kernel_rfl) (still_o [0, 0, 0, 0] rfl) rfl rfl (g_index T rfl rfl rfl rfl rfl e9 c6.1 c6.2) ?_
            refine atm_s T 10 hg pf (by kernel_rfl) (still_o [0, 0, 0, 0] rfl) rfl ?_
            refine atm_v 11 hg pf (by kernel_rfl) (still_o [0, 0, 0, 0] rfl) rfl rfl (g_load T rfl rfl rfl rfl (in_view (j := 0) rfl w11 e9 2 rfl)) ?_
            refine atm_s T 12 hg pf (by kernel_rfl) (still_o [0, 0, 0, 0] rfl) rfl ?_
            obtain ⟨c8, Z5⟩ := chk_e Z5
            obtain ⟨q12, o12, e12⟩ := r10.addr c8.1 c8.2
            refine atm_v 13 hg pf (by kernel_rfl) (still_o [0, 0, 0, 0] rfl) rfl rfl (g_index T rfl rfl rfl rfl rfl e12 c8.1 c8.2) ?_
            refine atm_v 14 hg pf (by kernel_rfl) (still_o [0, 0, 0, 0] rfl) rfl rfl (g_load T rfl rfl rfl rfl (in_elem1 (k := (Fl.int .u8)) (ro_of r10 (j := 0) rfl) e12 c8 0 rfl)) ?_
            refine atm_one 6 (by kernel_rfl) ?_
            obtain ⟨v13, V9, Z5⟩ := bind_e Z5
            refine at_c (B := fun _ => []) [] rfl rfl rfl rfl has46 rfl rfl (ref1_Global.c w h x4 x11 v13 _ V9) (fun _ => ?_)
            refine atm_next (still_o [0, 0, 0, 0] rfl) ?_
            obtain ⟨c10, Z5⟩ := chk_e Z5
            obtain ⟨q13, o13, e13⟩ := s8.r.addr c10.1 c10.2
            refine atm_v 15 hg pf (by kernel_rfl) (still_o [0, 0, 0, 0] rfl) rfl rfl (g_index T rfl rfl rfl rfl rfl e13 c10.1 c10.2) ?_
            refine atm_one 16 (by kernel_rfl) ?_
            refine at_se (k := (Fl.int .u8)) T 3 0 (rd ((rd l x4).C) x11) rfl rfl rfl rfl rfl rfl s8 e13 c10 rfl rfl rfl (fun H14 s14 => ?_)
            refine at_to [(0, (.int .i64 w)), (1, (.int .i64 h)), (2, (.slice a_l (List.length l) n_l)), (6, (.pointer (some ⟨b1, 0, none⟩))), (7, (.pointer (some ⟨b3, 0, none⟩))), (8, (.int .i64 x4)), (9, (.int .i64 x11)), (30, (.bool (decide (x11 < (List.length ((rd l x4).C) : Int))))), (33, (.pointer (some ⟨b3, 2, none⟩))), (34, (.slice a8 (List.length (List.set x10 (Int.toNat v13) (rd ((rd l x4).C) x11))) n8)), (35, (.int .i64 w)), (36, (.int .i64 h)), (37, (.int .i64 x4)), (38, (.int .i64 x11)), (39, (.int .i64 v13)), (40, (.slice a_l (List.length l) n_l)), (41, (.int .i64 x4)), (42, (.pointer (some ⟨q9, o9 + Int.toNat x4 * 3, none⟩))), (43, (.pointer (some ⟨q9, o9 + Int.toNat x4 * 3 + 2, none⟩))), (44, (.slice a10 (List.length (rd l x4).C) n10)), (45, (.int .i64 x11)), (46, (.pointer (some ⟨q12, o12 + Int.toNat x11 * 1, none⟩))), (47, (.int .u8 (rd ((rd l x4).C) x11))), (48, (.pointer (some ⟨q13, o13 + Int.toNat v13 * 1, none⟩)))] [0, 0, 0, 0] [F, [(b1, Obj.cells #[(.int .i64 0), (.int .i64 0), (.slice none 0 0)] 26 (0, 0))], [(b3, Obj.cells #[(.int .i64 w), (.int .i64 h), (.slice a8 (List.length (List.set x10 (Int.toNat v13) (rd ((rd l x4).C) x11))) n8)] 26 (0, 0))], H14] ⟨rfl, rfl, rfl, rfl, rfl, rfl, rfl, rfl, rfl, (by first | rfl | (simp only [List.length_set]; rfl)), rfl, rfl, rfl, rfl, rfl, rfl, rfl, rfl, rfl, rfl, rfl, rfl, rfl, rfl, trivial⟩ (by first | rfl | (simp only [List.length_set]; rfl)) ?_
            refine atm_next (still_l (by kernel_rfl)) ?_
            refine atm_end (by kernel_rfl) ?_
            refine at_sub [(0, (.int .i64 w)), (1, (.int .i64 h)), (2, (.slice a_l (List.length l) n_l)), (6, (.pointer (some ⟨b1, 0, none⟩))), (7, (.pointer (some ⟨b3, 0, none⟩))), (8, (.int .i64 x4)), (9, (.int .i64 x11))] ⟨rfl, rfl, rfl, rfl, rfl, rfl, rfl, trivial⟩ ?_
            refine at_nb ?_
            refine at_then ?_
            refine at_region [0, 1, 2] rfl ?_
            iterate 3 refine at_s T rfl ?_
            refine at_end ?_
            refine at_sub [(0, (.int .i64 w)), (1, (.int .i64 h)), (2, (.slice a_l (List.length l) n_l)), (6, (.pointer (some ⟨b1, 0, none⟩))), (7, (.pointer (some ⟨b3, 0, none⟩))), (8, (.int .i64 x4)), (9, (.int .i64 (w64 (x11 + 1))))] ⟨rfl, rfl, rfl, rfl, rfl, rfl, rfl, trivial⟩ ?_
            refine at_then ?_
            exact at_roundL (k12, (List.set x10 (Int.toNat v13) (rd ((rd l x4).C) x11)), (w64 (x11 + 1)), a8, n8, H14) [0, 0, 0, 0] ⟨Z5, s14⟩ (Nat.lt_succ_self _) ⟨rfl, rfl, rfl, rfl, rfl, rfl, rfl, trivial⟩ rfl
          · replace Z5 := if_f (of_decide_eq_false c7) Z5
            refine at_exit ?_
            refine at_xt ?_
            refine at_xt ?_
            refine at_xb ?_
            refine at_nb ?_
            refine at_then ?_
            obtain rfl := Option.some.inj Z5
            exact at_mid (x10, a8, n8, H8) [0, 0, 0, 0] ⟨rfl, s8⟩ ⟨rfl, rfl, rfl, rfl, rfl, rfl, trivial⟩ rfl
      · rintro ⟨x6, a6, n6, H6⟩ ⟨rfl, s6⟩
        refine at_region [0, 1, 2] rfl ?_
        iterate 3 refine at_s T rfl ?_
        refine at_end ?_
        refine at_sub [(0, (.int .i64 w)), (1, (.int .i64 h)), (2, (.slice a_l (List.length l) n_l)), (6, (.pointer (some ⟨b1, 0, none⟩))), (7, (.pointer (some ⟨b3, 0, none⟩))), (8, (.int .i64 (w64 (x4 + 1))))] ⟨rfl, rfl, rfl, rfl, rfl, rfl, trivial⟩ ?_
        refine at_then ?_
        exact at_roundL (k5, x6, (w64 (x4 + 1)), a6, n6, H6) [0, 0, 0, 0] ⟨Z2, s6⟩ (Nat.lt_succ_self _) ⟨rfl, rfl, rfl, rfl, rfl, rfl, trivial⟩ rfl
    · replace Z2 := if_f (of_decide_eq_false c3) Z2
      refine at_exit ?_
      refine at_xt ?_
      refine at_xt ?_
      refine at_xb ?_
      refine at_then ?_
      refine at_seq ?_
      refine at_region [0, 1] rfl ?_
      refine at_v rfl (g_loadA T (cs := [(.int .i64 w), (.int .i64 h), (.slice a5 (List.length x3) n5)]) rfl rfl rfl rfl rfl rfl (in_varA (j := 2) rfl rfl)) ?_
      refine at_cons (at_st T 1 [(.int .i64 w), (.int .i64 h), (.slice a5 (List.length x3) n5)] rfl rfl rfl rfl rfl rfl rfl rfl rfl rfl ?_)
      refine at_end ?_
      refine at_to [(6, (.pointer (some ⟨b1, 0, none⟩)))] [0, 0, 1] [F, [(b1, Obj.cells #[(.int .i64 w), (.int .i64 h), (.slice a5 (List.length x3) n5)] 26 (0, 0))], H5] ⟨rfl, trivial⟩ rfl ?_
      refine at_then ?_
      refine at_ret ?_
      obtain rfl := Option.some.inj Z2
      exact at_post (T := T) rfl (.aggv (j := 1) [(.int .i64 w), (.int .i64 h), (.slice a5 (List.length x3) n5)] rfl rfl rfl rfl rfl rfl rfl .nil) (fun w o => ⟨⟨(_, _), ⟨a5, n5, H5, s5, rfl, rfl⟩⟩, rfl, own_to [2, 0] rfl o⟩)

/-! ### herdsman/herdsmanref1.GetMap: function 14 -/
def ref1_GetMap.l0 : Nat → (List Int) → List api_Map → Int → Int → Option (api_Map × Int)
  | 0, _, _, _, _ => none
  | k8 + 1, b, x5, x6, x7 => (ref1_Count.f (w64 ((w64 (rd b 0)) + (w64 (256 * (w64 (rd b 1)))))) (w64 ((w64 (rd b 2)) + (w64 (256 * (w64 (rd b 3))))))).bind fun v9 => if x7 < v9 then ((ref1_Size.f (w64 ((w64 (rd b 0)) + (w64 (256 * (w64 (rd b 1)))))) (w64 ((w64 (rd b 2)) + (w64 (256 * (w64 (rd b 3)))))) x7).bind fun v10 => if (0 ≤ x6 ∧ x6 ≤ (List.length b : Int) ∧ (List.length b : Int) ≤ (List.length b : Int)) then ((ref1_GetTile.f (sub' b x6 (List.length b : Int)) v10.1 v10.2).bind fun v11 => if (v11.2.2 != 0) = true then (some ((api_Map.mk 0 0 []), v11.2.2)) else (if (List.length x5 + 1 ≤ 1099511627776) then (ref1_GetMap.l0 k8 b (x5 ++ [v11.1]) (w64 (x6 + v11.2.1)) (w64 (x7 + 1))) else none)) else none) else (if (x6 != (List.length b : Int)) = true then (some ((api_Map.mk 0 0 []), 3)) else ((ref1_Joined.f (w64 ((w64 (rd b 0)) + (w64 (256 * (w64 (rd b 1)))))) (w64 ((w64 (rd b 2)) + (w64 (256 * (w64 (rd b 3)))))) x5).bind fun v12 => some (v12, 0)))
def ref1_GetMap.f (b : (List Int)) : Option (api_Map × Int) := if (List.length b : Int) < 4 then (some ((api_Map.mk 0 0 []), 2)) else (if (0 ≤ (0 : Int) ∧ (0 : Int) < (List.length b : Int)) then (if (0 ≤ (1 : Int) ∧ (1 : Int) < (List.length b : Int)) then (if (0 ≤ (2 : Int) ∧ (2 : Int) < (List.length b : Int)) then (if (0 ≤ (3 : Int) ∧ (3 : Int) < (List.length b : Int)) then ((ref1_May.f (w64 ((w64 (rd b 0)) + (w64 (256 * (w64 (rd b 1)))))) (w64 ((w64 (rd b 2)) + (w64 (256 * (w64 (rd b 3))))))).bind fun v1 => if (!v1) = true then (some ((api_Map.mk 0 0 []), 3)) else (ref1_GetMap.l0 fuel b [] 4 0)) else none) else none) else none) else none)
def ref1_GetMap.R (r : (api_Map × Int)) (u : Value) (G : List Hp) : Prop := ∃ (a0 : Option Addr) (n0 : Nat) (H0 : Hp), SliceO (Fl.int .u8) 5 r.1.C a0 n0 H0 ∧ u = (.tuple #[(.agg #[(.int .i64 r.1.W), (.int .i64 r.1.H), (.slice a0 (List.length r.1.C) n0)]), (.int .i64 r.2)]) ∧ G = [H0]
set_option maxHeartbeats 4000000 in
theorem ref1_GetMap.c {a_b : Option Addr} {n_b : Nat} (b : (List Int)) (r : (api_Map × Int)) (F : Hp) (H : ref1_GetMap.f b = some r) (h_b : SliceR (Fl.int .u8) b a_b F) (c_b : List.length b ≤ n_b) :
    CallsL Tryd.prog 14 [(.slice a_b (List.length b) n_b)] [F] (fun qp : { qp : Value × List Hp // ref1_GetMap.R r qp.1 qp.2 } => qp.1.1) (fun qp => (qp.1.2 ++ []) ++ [F]) := by
  unfold ref1_GetMap.f at H
  refine calls_atL [(0, (.slice a_b (List.length b) n_b))] Tryd.func14 rfl rfl ⟨rfl, trivial⟩ (fun W => ?_)
  refine at_seq ?_
  refine at_region [0, 1] rfl ?_
  refine at_cons (at_al T [(.int .i64 0), (.int .i64 0), (.slice none 0 0)] rfl rfl rfl rfl (fun b1 => ?_))
  refine at_s T rfl ?_
  refine at_end ?_
  refine at_sub [(0, (.slice a_b (List.length b) n_b)), (2, (.pointer (some ⟨b1, 0, none⟩)))] ⟨rfl, rfl, trivial⟩ ?_
  refine at_then ?_
  refine at_seq ?_
  refine at_seq ?_
  refine at_region [0, 1, 2] rfl ?_
  iterate 3 refine at_s T rfl ?_
  refine at_end ?_
  refine at_sub [(0, (.slice a_b (List.length b) n_b)), (2, (.pointer (some ⟨b1, 0, none⟩))), (16, (.bool (decide ((List.length b : Int) < 4))))] ⟨rfl, rfl, rfl, trivial⟩ ?_
  refine at_then ?_
  refine at_cond rfl (fun c1 => ?_) (fun c1 => ?_)
  · replace H := if_t (of_decide_eq_true c1) H
    refine at_seq ?_
    refine at_region [0, 1, 2] rfl ?_
    refine at_s T rfl ?_
    refine at_cons (at_st T 1 [(.int .i64 0), (.int .i64 0), (.slice none 0 0)] rfl rfl rfl rfl rfl rfl rfl rfl rfl rfl ?_)
    refine at_s T rfl ?_
    refine at_end ?_
    refine at_sub [(2, (.pointer (some ⟨b1, 0, none⟩))), (3, (.int .i64 2))] ⟨rfl, rfl, trivial⟩ ?_
    refine at_then ?_
    refine at_ret ?_
    refine at_rt ?_
    obtain rfl := Option.some.inj H
    refine at_addnil ?_
    exact at_post (T := T) rfl (.aggv (j := 1) [(.int .i64 0), (.int .i64 0), (.slice none 0 0)] rfl rfl rfl rfl rfl rfl rfl (.tmp rfl .nil)) (fun w o => ⟨⟨(_, _), ⟨none, 0, [], SliceO.nil, rfl, rfl⟩⟩, rfl, own_to [2, 0] rfl o⟩)
  · replace H := if_f (of_decide_eq_false c1) H
    refine at_skip ?_
    refine at_then ?_
    refine at_seq ?_
    refine at_region_q mix (by kernel_rfl) ?_
    refine atq_s T rfl ?_
    obtain ⟨c2, H⟩ := chk_e H
    obtain ⟨q3, o3, e3⟩ := h_b.addr c2.1 c2.2
    refine atq_v rfl rfl rfl (g_index T rfl rfl rfl rfl rfl e3 c2.1 c2.2) ?_
    refine atq_v rfl rfl rfl (g_load T rfl rfl rfl rfl (in_elem1 (k := (Fl.int .u8)) (ro_of h_b (j := 0) rfl) e3 c2 0 rfl)) ?_
    iterate 2 refine atq_s T rfl ?_
    obtain ⟨c3, H⟩ := chk_e H
    refine atq_v rfl rfl rfl (g_index T rfl rfl rfl rfl rfl e3 c3.1 c3.2) ?_
    refine atq_v rfl rfl rfl (g_load T rfl rfl rfl rfl (in_elem1 (k := (Fl.int .u8)) (ro_of h_b (j := 0) rfl) e3 c3 0 rfl)) ?_
    iterate 4 refine atq_s T rfl ?_
    obtain ⟨c4, H⟩ := chk_e H
    refine atq_v rfl rfl rfl (g_index T rfl rfl rfl rfl rfl e3 c4.1 c4.2) ?_
    refine atq_v rfl rfl rfl (g_load T rfl rfl rfl rfl (in_elem1 (k := (Fl.int .u8)) (ro_of h_b (j := 0) rfl) e3 c4 0 rfl)) ?_
    iterate 2 refine atq_s T rfl ?_
    obtain ⟨c5, H⟩ := chk_e H
    refine atq_v rfl rfl rfl (g_index T rfl rfl rfl rfl rfl e3 c5.1 c5.2) ?_
    refine atq_v rfl rfl rfl (g_load T rfl rfl rfl rfl (in_elem1 (k := (Fl.int .u8)) (ro_of h_b (j := 0) rfl) e3 c5 0 rfl)) ?_
    iterate 5 refine atq_s T rfl ?_
    refine atq_end ?_
    refine at_sub [(0, (.slice a_b (List.length b) n_b)), (2, (.pointer (some ⟨b1, 0, none⟩))), (4, (.int .i64 (w64 ((w64 (rd b 0)) + (w64 (256 * (w64 (rd b 1)))))))), (5, (.int .i64 (w64 ((w64 (rd b 2)) + (w64 (256 * (w64 (rd b 3))))))))] ⟨rfl, rfl, rfl, rfl, trivial⟩ ?_
    refine at_then ?_
    refine at_seq ?_
    refine at_seq ?_
    refine at_region [0, 1, 2, 3] rfl ?_
    iterate 2 refine at_s T rfl ?_
    obtain ⟨v1, V6, H⟩ := bind_e H
    refine at_cons (at_c (B := fun _ => []) [] rfl rfl rfl rfl has34 rfl rfl (ref1_May.c (w64 ((w64 (rd b 0)) + (w64 (256 * (w64 (rd b 1)))))) (w64 ((w64 (rd b 2)) + (w64 (256 * (w64 (rd b 3)))))) v1 _ V6) (fun _ => ?_))
    refine at_s T rfl ?_
    refine at_end ?_
    refine at_sub [(0, (.slice a_b (List.length b) n_b)), (2, (.pointer (some ⟨b1, 0, none⟩))), (4, (.int .i64 (w64 ((w64 (rd b 0)) + (w64 (256 * (w64 (rd b 1)))))))), (5, (.int .i64 (w64 ((w64 (rd b 2)) + (w64 (256 * (w64 (rd b 3)))))))), (41, (.bool (!v1)))] ⟨rfl, rfl, rfl, rfl, rfl, trivial⟩ ?_
    refine at_then ?_
    refine at_cond rfl (fun c7 => ?_) (fun c7 => ?_)
    · replace H := if_t c7 H
      refine at_seq ?_
      refine at_region [0, 1, 2] rfl ?_
      refine at_s T rfl ?_
      refine at_cons (at_st T 1 [(.int .i64 0), (.int .i64 0), (.slice none 0 0)] rfl rfl rfl rfl rfl rfl rfl rfl rfl rfl ?_)
      refine at_s T rfl ?_
      refine at_end ?_
      refine at_sub [(2, (.pointer (some ⟨b1, 0, none⟩))), (3, (.int .i64 3))] ⟨rfl, rfl, trivial⟩ ?_
      refine at_then ?_
      refine at_ret ?_
      refine at_rt ?_
      obtain rfl := Option.some.inj H
      refine at_addnil ?_
      exact at_post (T := T) rfl (.aggv (j := 1) [(.int .i64 0), (.int .i64 0), (.slice none 0 0)] rfl rfl rfl rfl rfl rfl rfl (.tmp rfl .nil)) (fun w o => ⟨⟨(_, _), ⟨none, 0, [], SliceO.nil, rfl, rfl⟩⟩, rfl, own_to [2, 0] rfl o⟩)
    · replace H := if_f (bf c7) H
      refine at_skip ?_
      refine at_then ?_
      refine at_seq ?_
      refine at_region [0] rfl ?_
      refine at_s T rfl ?_
      refine at_end ?_
      refine at_sub [(0, (.slice a_b (List.length b) n_b)), (2, (.pointer (some ⟨b1, 0, none⟩))), (4, (.int .i64 (w64 ((w64 (rd b 0)) + (w64 (256 * (w64 (rd b 1)))))))), (5, (.int .i64 (w64 ((w64 (rd b 2)) + (w64 (256 * (w64 (rd b 3)))))))), (6, (.slice none 0 0))] ⟨rfl, rfl, rfl, rfl, rfl, trivial⟩ ?_
      refine at_then ?_
      refine at_seq ?_
      refine at_region [0] rfl ?_
      refine at_s T rfl ?_
      refine at_end ?_
      refine at_sub [(0, (.slice a_b (List.length b) n_b)), (2, (.pointer (some ⟨b1, 0, none⟩))), (4, (.int .i64 (w64 ((w64 (rd b 0)) + (w64 (256 * (w64 (rd b 1)))))))), (5, (.int .i64 (w64 ((w64 (rd b 2)) + (w64 (256 * (w64 (rd b 3)))))))), (6, (.slice none 0 0)), (7, (.int .i64 4))] ⟨rfl, rfl, rfl, rfl, rfl, rfl, trivial⟩ ?_
      refine at_then ?_
      refine at_seq ?_
      refine at_seq ?_
      refine at_region [0] rfl ?_
      refine at_s T rfl ?_
      refine at_end ?_
      refine at_sub [(0, (.slice a_b (List.length b) n_b)), (2, (.pointer (some ⟨b1, 0, none⟩))), (4, (.int .i64 (w64 ((w64 (rd b 0)) + (w64 (256 * (w64 (rd b 1)))))))), (5, (.int .i64 (w64 ((w64 (rd b 2)) + (w64 (256 * (w64 (rd b 3)))))))), (6, (.slice none 0 0)), (7, (.int .i64 4)), (8, (.int .i64 0))] ⟨rfl, rfl, rfl, rfl, rfl, rfl, rfl, trivial⟩ ?_
      refine at_then ?_
      refine at_block ?_
      refine at_addnil ?_
      refine at_loopL (σ := Nat × List api_Map × Int × Int × Option Addr × Nat × Hp) (fun ⟨k8, x5, x6, x7, a6, n6, H6⟩ => ref1_GetMap.l0 k8 b x5 x6 x7 = some r ∧ SliceD q_api_Map 41 x5 a6 n6 H6) (fun ⟨k8, x5, x6, x7, a6, n6, H6⟩ => [(0, (.slice a_b (List.length b) n_b)), (2, (.pointer (some ⟨b1, 0, none⟩))), (4, (.int .i64 (w64 ((w64 (rd b 0)) + (w64 (256 * (w64 (rd b 1)))))))), (5, (.int .i64 (w64 ((w64 (rd b 2)) + (w64 (256 * (w64 (rd b 3)))))))), (6, (.slice a6 (List.length x5) n6)), (7, (.int .i64 x6)), (8, (.int .i64 x7))]) (fun ⟨k8, x5, x6, x7, a6, n6, H6⟩ => [F, [(b1, Obj.cells #[(.int .i64 0), (.int .i64 0), (.slice none 0 0)] 26 (0, 0))], H6]) (fun s => s.1) (fuel, [], 4, 0, none, 0, []) [0, 0, 0] ⟨H, SliceD.nil⟩ ⟨rfl, rfl, rfl, rfl, rfl, rfl, rfl, trivial⟩ rfl ?_
      rintro ⟨k8, x5, x6, x7, a6, n6, H6⟩ ⟨Z8, s6⟩
      replace Z8 : ref1_GetMap.l0 k8 b x5 x6 x7 = some r := Z8
      rcases k8 with _ | k8
      · rw [ref1_GetMap.l0] at Z8; cases Z8
      · rw [ref1_GetMap.l0] at Z8
        refine at_seq ?_
        refine at_seq ?_
        refine at_region [0, 1, 2, 3, 4] rfl ?_
        iterate 3 refine at_s T rfl ?_
        obtain ⟨v9, V9, Z8⟩ := bind_e Z8
        refine at_cons (at_c (B := fun _ => []) [] rfl rfl rfl rfl has21 rfl rfl (ref1_Count.c (w64 ((w64 (rd b 0)) + (w64 (256 * (w64 (rd b 1)))))) (w64 ((w64 (rd b 2)) + (w64 (256 * (w64 (rd b 3)))))) v9 _ V9) (fun _ => ?_))
        refine at_s T rfl ?_
        refine at_end ?_
        refine at_sub [(0, (.slice a_b (List.length b) n_b)), (2, (.pointer (some ⟨b1, 0, none⟩))), (4, (.int .i64 (w64 ((w64 (rd b 0)) + (w64 (256 * (w64 (rd b 1)))))))), (5, (.int .i64 (w64 ((w64 (rd b 2)) + (w64 (256 * (w64 (rd b 3)))))))), (6, (.slice a6 (List.length x5) n6)), (7, (.int .i64 x6)), (8, (.int .i64 x7)), (47, (.bool (decide (x7 < v9))))] ⟨rfl, rfl, rfl, rfl, rfl, rfl, rfl, rfl, trivial⟩ ?_
        refine at_then ?_
        refine at_cond rfl (fun c10 => ?_) (fun c10 => ?_)
        · replace Z8 := if_t (of_decide_eq_true c10) Z8
          refine at_skip ?_
          refine at_then ?_
          refine at_seq ?_
          refine at_block ?_
          refine at_seq ?_
          refine at_region [0, 1, 2, 3, 4, 5, 6, 7, 8] rfl ?_
          iterate 3 refine at_s T rfl ?_
          obtain ⟨v10, V11, Z8⟩ := bind_e Z8
          refine at_cons (at_c (B := fun _ => []) [] rfl rfl rfl rfl has35 rfl rfl (ref1_Size.c (w64 ((w64 (rd b 0)) + (w64 (256 * (w64 (rd b 1)))))) (w64 ((w64 (rd b 2)) + (w64 (256 * (w64 (rd b 3)))))) x7 v10 _ V11) (fun _ => ?_))
          iterate 5 refine at_s T rfl ?_
          refine at_end ?_
          refine at_sub [(0, (.slice a_b (List.length b) n_b)), (2, (.pointer (some ⟨b1, 0, none⟩))), (4, (.int .i64 (w64 ((w64 (rd b 0)) + (w64 (256 * (w64 (rd b 1)))))))), (5, (.int .i64 (w64 ((w64 (rd b 2)) + (w64 (256 * (w64 (rd b 3)))))))), (6, (.slice a6 (List.length x5) n6)), (7, (.int .i64 x6)), (8, (.int .i64 x7)), (9, (.int .i64 v10.1)), (10, (.int .i64 v10.2))] ⟨rfl, rfl, rfl, rfl, rfl, rfl, rfl, rfl, rfl, trivial⟩ ?_
          refine at_then ?_
          refine at_seq ?_
          refine at_region [0, 1, 2, 3, 4, 5, 6, 7, 8, 9, 10, 11, 12, 13] rfl ?_
          iterate 2 refine at_s T rfl ?_
          obtain ⟨c12, Z8⟩ := chk_e Z8
          refine at_v rfl (g_sub T rfl rfl rfl rfl rfl rfl c12 c_b) ?_
          iterate 2 refine at_s T rfl ?_
          obtain ⟨v11, V13, Z8⟩ := bind_e Z8
          refine at_cons (at_cR (ref1_GetTile.R v11) [] [] rfl rfl rfl rfl has36 rfl rfl (ref1_GetTile.c (sub' b x6 (List.length b : Int)) v10.1 v10.2 v11 _ V13 (sub_r (ro_of h_b (j := 0) rfl) c12 c_b) (sub_cap c12 c_b)) ?_)
          rintro _ _ ⟨a7, n7, H7, s7, rfl, rfl⟩
          iterate 4 refine at_s T rfl ?_
          refine at_cons (at_al T [(.int .i64 0), (.int .i64 0), (.slice none 0 0)] rfl rfl rfl rfl (fun b8 => ?_))
          refine at_cons (at_st T 4 [(.int .i64 v11.1.W), (.int .i64 v11.1.H), (.slice a7 (List.length v11.1.C) n7)] rfl rfl rfl rfl rfl rfl rfl rfl rfl rfl ?_)
          iterate 2 refine at_s T rfl ?_
          refine at_end ?_
          refine at_sub [(0, (.slice a_b (List.length b) n_b)), (2, (.pointer (some ⟨b1, 0, none⟩))), (4, (.int .i64 (w64 ((w64 (rd b 0)) + (w64 (256 * (w64 (rd b 1)))))))), (5, (.int .i64 (w64 ((w64 (rd b 2)) + (w64 (256 * (w64 (rd b 3)))))))), (6, (.slice a6 (List.length x5) n6)), (7, (.int .i64 x6)), (8, (.int .i64 x7)), (11, (.pointer (some ⟨b8, 0, none⟩))), (12, (.int .i64 v11.2.1)), (13, (.int .i64 v11.2.2))] ⟨rfl, rfl, rfl, rfl, rfl, rfl, rfl, rfl, rfl, rfl, trivial⟩ ?_
          refine at_then ?_
          refine at_seq ?_
          refine at_seq ?_
          refine at_region [0, 1] rfl ?_
          iterate 2 refine at_s T rfl ?_
          refine at_end ?_
          refine at_sub [(0, (.slice a_b (List.length b) n_b)), (2, (.pointer (some ⟨b1, 0, none⟩))), (4, (.int .i64 (w64 ((w64 (rd b 0)) + (w64 (256 * (w64 (rd b 1)))))))), (5, (.int .i64 (w64 ((w64 (rd b 2)) + (w64 (256 * (w64 (rd b 3)))))))), (6, (.slice a6 (List.length x5) n6)), (7, (.int .i64 x6)), (8, (.int .i64 x7)), (11, (.pointer (some ⟨b8, 0, none⟩))), (12, (.int .i64 v11.2.1)), (13, (.int .i64 v11.2.2)), (68, (.bool (v11.2.2 != 0)))] ⟨rfl, rfl, rfl, rfl, rfl, rfl, rfl, rfl, rfl, rfl, rfl, trivial⟩ ?_
          refine at_then ?_
          refine at_cond rfl (fun c14 => ?_) (fun c14 => ?_)
          · replace Z8 := if_t c14 Z8
            refine at_seq ?_
            refine at_region [0, 1, 2, 3] rfl ?_
            iterate 2 refine at_s T rfl ?_
            refine at_cons (at_st T 1 [(.int .i64 0), (.int .i64 0), (.slice none 0 0)] rfl rfl rfl rfl rfl rfl rfl rfl rfl rfl ?_)
            refine at_s T rfl ?_
            refine at_end ?_
            refine at_to [(2, (.pointer (some ⟨b1, 0, none⟩))), (3, (.int .i64 v11.2.2))] [0, 0] [F, [(b1, Obj.cells #[(.int .i64 0), (.int .i64 0), (.slice none 0 0)] 26 (0, 0))]] ⟨rfl, rfl, trivial⟩ rfl ?_
            refine at_then ?_
            refine at_ret ?_
            refine at_rt ?_
            refine at_rb ?_
            refine at_rt ?_
            refine at_rt ?_
            refine at_rb ?_
            refine at_rt ?_
            obtain rfl := Option.some.inj Z8
            refine at_addnil ?_
            exact at_post (T := T) rfl (.aggv (j := 1) [(.int .i64 0), (.int .i64 0), (.slice none 0 0)] rfl rfl rfl rfl rfl rfl rfl (.tmp rfl .nil)) (fun w o => ⟨⟨(_, _), ⟨none, 0, [], SliceO.nil, rfl, rfl⟩⟩, rfl, own_to [2, 0] rfl o⟩)
          · replace Z8 := if_f (bf c14) Z8
            refine at_skip ?_
            refine at_then ?_
            refine at_seq ?_
            refine at_region [0, 1, 2, 3, 4] rfl ?_
            refine at_s T rfl ?_
            refine at_v rfl (g_loadA T (cs := [(.int .i64 v11.1.W), (.int .i64 v11.1.H), (.slice a7 (List.length v11.1.C) n7)]) rfl rfl rfl rfl rfl rfl (in_varA (j := 4) rfl rfl)) ?_
            refine at_gather [3] rfl ?_
            refine at_cons (at_dbs (kd := q_api_Map) (E := 41) (q := 4) (c := [(.int .i64 v11.1.W), (.int .i64 v11.1.H), (.slice a7 (List.length v11.1.C) n7)]) T v11.1 rfl rfl rfl rfl rfl rfl rfl rfl rfl rfl ⟨a7, n7, H7, s7, rfl, rfl⟩ (fun a11 H11 s11 => ?_))
            obtain ⟨c15, Z8⟩ := chk_e Z8
            refine at_cons (at_dap (kd := q_api_Map) (xs := x5) (ys := [v11.1]) T (g := 2) (q := 5) rfl rfl rfl rfl rfl rfl rfl rfl rfl rfl s6 rfl rfl s11 c15 rfl (fun a12 n12 H12 s12 => ?_))
            refine at_s T rfl ?_
            refine at_end ?_
            refine at_to [(0, (.slice a_b (List.length b) n_b)), (2, (.pointer (some ⟨b1, 0, none⟩))), (4, (.int .i64 (w64 ((w64 (rd b 0)) + (w64 (256 * (w64 (rd b 1)))))))), (5, (.int .i64 (w64 ((w64 (rd b 2)) + (w64 (256 * (w64 (rd b 3)))))))), (6, (.slice a12 (List.length (x5 ++ [v11.1])) n12)), (7, (.int .i64 x6)), (8, (.int .i64 x7)), (12, (.int .i64 v11.2.1))] [0, 0, 0] [F, [(b1, Obj.cells #[(.int .i64 0), (.int .i64 0), (.slice none 0 0)] 26 (0, 0))], H12] ⟨rfl, rfl, rfl, rfl, rfl, rfl, rfl, rfl, trivial⟩ rfl ?_
            refine at_then ?_
            refine at_region [0, 1, 2, 3] rfl ?_
            iterate 4 refine at_s T rfl ?_
            refine at_end ?_
            refine at_sub [(0, (.slice a_b (List.length b) n_b)), (2, (.pointer (some ⟨b1, 0, none⟩))), (4, (.int .i64 (w64 ((w64 (rd b 0)) + (w64 (256 * (w64 (rd b 1)))))))), (5, (.int .i64 (w64 ((w64 (rd b 2)) + (w64 (256 * (w64 (rd b 3)))))))), (6, (.slice a12 (List.length (x5 ++ [v11.1])) n12)), (7, (.int .i64 (w64 (x6 + v11.2.1)))), (8, (.int .i64 x7))] ⟨rfl, rfl, rfl, rfl, rfl, rfl, rfl, trivial⟩ ?_
            refine at_nb ?_
            refine at_then ?_
            refine at_region [0, 1, 2] rfl ?_
            iterate 3 refine at_s T rfl ?_
            refine at_end ?_
            refine at_sub [(0, (.slice a_b (List.length b) n_b)), (2, (.pointer (some ⟨b1, 0, none⟩))), (4, (.int .i64 (w64 ((w64 (rd b 0)) + (w64 (256 * (w64 (rd b 1)))))))), (5, (.int .i64 (w64 ((w64 (rd b 2)) + (w64 (256 * (w64 (rd b 3)))))))), (6, (.slice a12 (List.length (x5 ++ [v11.1])) n12)), (7, (.int .i64 (w64 (x6 + v11.2.1)))), (8, (.int .i64 (w64 (x7 + 1))))] ⟨rfl, rfl, rfl, rfl, rfl, rfl, rfl, trivial⟩ ?_
            refine at_then ?_
            exact at_roundL (k8, (x5 ++ [v11.1]), (w64 (x6 + v11.2.1)), (w64 (x7 + 1)), a12, n12, H12) [0, 0, 0] ⟨Z8, s12⟩ (Nat.lt_succ_self _) ⟨rfl, rfl, rfl, rfl, rfl, rfl, rfl, trivial⟩ rfl
        · replace Z8 := if_f (of_decide_eq_false c10) Z8
          refine at_exit ?_
          refine at_xt ?_
          refine at_xt ?_
          refine at_xb ?_
          refine at_then ?_
          refine at_seq ?_
          refine at_seq ?_
          refine at_region [0, 1, 2, 3] rfl ?_
          iterate 4 refine at_s T rfl ?_
          refine at_end ?_
          refine at_sub [(2, (.pointer (some ⟨b1, 0, none⟩))), (4, (.int .i64 (w64 ((w64 (rd b 0)) + (w64 (256 * (w64 (rd b 1)))))))), (5, (.int .i64 (w64 ((w64 (rd b 2)) + (w64 (256 * (w64 (rd b 3)))))))), (6, (.slice a6 (List.length x5) n6)), (81, (.bool (x6 != (List.length b : Int))))] ⟨rfl, rfl, rfl, rfl, rfl, trivial⟩ ?_
          refine at_then ?_
          refine at_cond rfl (fun c16 => ?_) (fun c16 => ?_)
          · replace Z8 := if_t c16 Z8
            refine at_seq ?_
            refine at_region [0, 1, 2] rfl ?_
            refine at_s T rfl ?_
            refine at_cons (at_st T 1 [(.int .i64 0), (.int .i64 0), (.slice none 0 0)] rfl rfl rfl rfl rfl rfl rfl rfl rfl rfl ?_)
            refine at_s T rfl ?_
            refine at_end ?_
            refine at_to [(2, (.pointer (some ⟨b1, 0, none⟩))), (3, (.int .i64 3))] [0, 0] [F, [(b1, Obj.cells #[(.int .i64 0), (.int .i64 0), (.slice none 0 0)] 26 (0, 0))]] ⟨rfl, rfl, trivial⟩ rfl ?_
            refine at_then ?_
            refine at_ret ?_
            refine at_rt ?_
            obtain rfl := Option.some.inj Z8
            refine at_addnil ?_
            exact at_post (T := T) rfl (.aggv (j := 1) [(.int .i64 0), (.int .i64 0), (.slice none 0 0)] rfl rfl rfl rfl rfl rfl rfl (.tmp rfl .nil)) (fun w o => ⟨⟨(_, _), ⟨none, 0, [], SliceO.nil, rfl, rfl⟩⟩, rfl, own_to [2, 0] rfl o⟩)
          · replace Z8 := if_f (bf c16) Z8
            refine at_skip ?_
            refine at_then ?_
            refine at_seq ?_
            refine at_region [0, 1, 2, 3, 4, 5] rfl ?_
            iterate 3 refine at_s T rfl ?_
            obtain ⟨v12, V17, Z8⟩ := bind_e Z8
            refine at_cons (at_cR (ref1_Joined.R v12) [] [] rfl rfl rfl rfl has37 rfl rfl (ref1_Joined.c (w64 ((w64 (rd b 0)) + (w64 (256 * (w64 (rd b 1)))))) (w64 ((w64 (rd b 2)) + (w64 (256 * (w64 (rd b 3)))))) x5 v12 _ V17 (down_of s6 (j := 2) rfl) s6.cap_le) ?_)
            rintro _ _ ⟨a14, n14, H14, s14, rfl, rfl⟩
            refine at_cons (at_st T 1 [(.int .i64 v12.W), (.int .i64 v12.H), (.slice a14 (List.length v12.C) n14)] rfl rfl rfl rfl rfl rfl rfl rfl rfl rfl ?_)
            refine at_s T rfl ?_
            refine at_end ?_
            refine at_to [(2, (.pointer (some ⟨b1, 0, none⟩))), (3, (.int .i64 0))] [0, 0, 1] [F, [(b1, Obj.cells #[(.int .i64 v12.W), (.int .i64 v12.H), (.slice a14 (List.length v12.C) n14)] 26 (0, 0))], H14] ⟨rfl, rfl, trivial⟩ rfl ?_
            refine at_then ?_
            refine at_ret ?_
            obtain rfl := Option.some.inj Z8
            exact at_post (T := T) rfl (.aggv (j := 1) [(.int .i64 v12.W), (.int .i64 v12.H), (.slice a14 (List.length v12.C) n14)] rfl rfl rfl rfl rfl rfl rfl (.tmp rfl .nil)) (fun w o => ⟨⟨(_, _), ⟨a14, n14, H14, s14, rfl, rfl⟩⟩, rfl, own_to [2, 0] rfl o⟩)

/-! ### herdsman/herdsmanref1.SameMap: function 15 -/
def ref1_SameMap.f (a : api_Map) (b : api_Map) : Option Bool := (if (a.W == b.W) = true then (if (a.H == b.H) = true then ((ref1_Bytes.f a.C b.C).bind fun v3 => some v3) else (some false)) else (some false)).bind fun x1 => some x1
set_option maxHeartbeats 4000000 in
theorem ref1_SameMap.c {a_a_C : Option Addr} {n_a_C : Nat} {a_b_C : Option Addr} {n_b_C : Nat} (a : api_Map) (b : api_Map) (r : Bool) (F : Hp) (H : ref1_SameMap.f a b = some r) (h_a_C : SliceR (Fl.int .u8) a.C a_a_C F) (c_a_C : List.length a.C ≤ n_a_C) (h_b_C : SliceR (Fl.int .u8) b.C a_b_C F) (c_b_C : List.length b.C ≤ n_b_C) :
    CallsL Tryd.prog 15 [(.agg #[(.int .i64 a.W), (.int .i64 a.H), (.slice a_a_C (List.length a.C) n_a_C)]), (.agg #[(.int .i64 b.W), (.int .i64 b.H), (.slice a_b_C (List.length b.C) n_b_C)])] [F] (fun _ : Unit => (.bool r)) (fun _ => [F]) := by
  unfold ref1_SameMap.f at H
  refine calls_atL [(0, (.agg #[(.int .i64 a.W), (.int .i64 a.H), (.slice a_a_C (List.length a.C) n_a_C)])), (1, (.agg #[(.int .i64 b.W), (.int .i64 b.H), (.slice a_b_C (List.length b.C) n_b_C)]))] Tryd.func15 rfl rfl ⟨rfl, rfl, trivial⟩ (fun W => ?_)
  refine at_seq ?_
  refine at_region [0, 1, 2] rfl ?_
  refine at_cons (at_bx T [(.int .i64 a.W), (.int .i64 a.H), (.slice a_a_C (List.length a.C) n_a_C)] rfl rfl rfl rfl (fun b1 => ?_))
  refine at_cons (at_bx T [(.int .i64 b.W), (.int .i64 b.H), (.slice a_b_C (List.length b.C) n_b_C)] rfl rfl rfl rfl (fun b2 => ?_))
  refine at_s T rfl ?_
  refine at_end ?_
  refine at_sub [(2, (.pointer (some ⟨b1, 0, none⟩))), (3, (.pointer (some ⟨b2, 0, none⟩)))] ⟨rfl, rfl, trivial⟩ ?_
  refine at_then ?_
  obtain ⟨z2, Z1, H⟩ := bind_e H
  refine at_seq_mid (σ := Bool) (fun x1 => x1 = z2) (fun x1 => [(4, (.bool x1))]) (fun x1 => [F]) ?_ ?_
  · refine at_region [0, 1, 2, 3, 4, 5, 6, 7, 8, 9, 10, 11, 12, 13, 14, 15, 16, 17, 18, 19] rfl ?_
    refine at_s T rfl ?_
    refine at_v rfl (g_load T rfl rfl rfl rfl (in_var (j := 1) rfl rfl)) ?_
    refine at_s T rfl ?_
    refine at_v rfl (g_load T rfl rfl rfl rfl (in_var (j := 2) rfl rfl)) ?_
    iterate 2 refine at_s T rfl ?_
    refine at_case (s := 10) rfl (fun c2 => ?_) (fun c2 => ?_)
    · replace Z1 := if_t c2 Z1
      refine at_s T rfl ?_
      refine at_v rfl (g_load T rfl rfl rfl rfl (in_var (j := 1) rfl rfl)) ?_
      refine at_s T rfl ?_
      refine at_v rfl (g_load T rfl rfl rfl rfl (in_var (j := 2) rfl rfl)) ?_
      iterate 3 refine at_s T rfl ?_
      refine at_case (s := 17) rfl (fun c3 => ?_) (fun c3 => ?_)
      · replace Z1 := if_t c3 Z1
        refine at_s T rfl ?_
        refine at_v rfl (g_load T rfl rfl rfl rfl (in_var (j := 1) rfl rfl)) ?_
        refine at_s T rfl ?_
        refine at_v rfl (g_load T rfl rfl rfl rfl (in_var (j := 2) rfl rfl)) ?_
        obtain ⟨v3, V4, Z1⟩ := bind_e Z1
        refine at_cons (at_c (B := fun _ => []) [] rfl rfl rfl rfl has16 rfl rfl (ref1_Bytes.c a.C b.C v3 _ V4 (ro_of h_a_C (j := 0) rfl) c_a_C (ro_of h_b_C (j := 0) rfl) c_b_C) (fun _ => ?_))
        iterate 2 refine at_s T rfl ?_
        refine at_end ?_
        refine at_to [(4, (.bool v3))] [0] [F] ⟨rfl, trivial⟩ rfl ?_
        refine at_then ?_
        obtain rfl := Option.some.inj Z1
        exact at_mid v3 [0] rfl ⟨rfl, trivial⟩ rfl
      · replace Z1 := if_f (bf c3) Z1
        iterate 7 refine at_s T rfl ?_
        refine at_end ?_
        refine at_to [(4, (.bool false))] [0] [F] ⟨rfl, trivial⟩ rfl ?_
        refine at_then ?_
        obtain rfl := Option.some.inj Z1
        exact at_mid false [0] rfl ⟨rfl, trivial⟩ rfl
    · replace Z1 := if_f (bf c2) Z1
      iterate 14 refine at_s T rfl ?_
      refine at_end ?_
      refine at_to [(4, (.bool false))] [0] [F] ⟨rfl, trivial⟩ rfl ?_
      refine at_then ?_
      obtain rfl := Option.some.inj Z1
      exact at_mid false [0] rfl ⟨rfl, trivial⟩ rfl
  · rintro x1 rfl
    refine at_ret ?_
    obtain rfl := Option.some.inj H
    exact at_post (T := T) rfl (.tmp rfl .nil) (fun w o => ⟨(), rfl, own_to [0] rfl o⟩)

/-! ### herdsman/herdsmanref1.Own: function 18 -/
def ref1_Own.f (m : api_Map) : Option api_Map := if (List.length ([] : List Int) + List.length m.C ≤ 1099511627776) then (some (api_Map.mk m.W m.H (([] : List Int) ++ m.C))) else none
def ref1_Own.R (r : api_Map) (u : Value) (G : List Hp) : Prop := ∃ (a0 : Option Addr) (n0 : Nat) (H0 : Hp), SliceO (Fl.int .u8) 5 r.C a0 n0 H0 ∧ u = (.agg #[(.int .i64 r.W), (.int .i64 r.H), (.slice a0 (List.length r.C) n0)]) ∧ G = [H0]
set_option maxHeartbeats 4000000 in
theorem ref1_Own.c {a_m_C : Option Addr} {n_m_C : Nat} (m : api_Map) (r : api_Map) (F : Hp) (H : ref1_Own.f m = some r) (h_m_C : SliceR (Fl.int .u8) m.C a_m_C F) (c_m_C : List.length m.C ≤ n_m_C) :
    CallsL Tryd.prog 18 [(.agg #[(.int .i64 m.W), (.int .i64 m.H), (.slice a_m_C (List.length m.C) n_m_C)])] [F] (fun qp : { qp : Value × List Hp // ref1_Own.R r qp.1 qp.2 } => qp.1.1) (fun qp => (qp.1.2 ++ []) ++ [F]) := by
  unfold ref1_Own.f at H
  refine calls_atL [(0, (.agg #[(.int .i64 m.W), (.int .i64 m.H), (.slice a_m_C (List.length m.C) n_m_C)]))] Tryd.func18 rfl rfl ⟨rfl, trivial⟩ (fun W => ?_)
  refine at_seq ?_
  refine at_region [0, 1] rfl ?_
  refine at_cons (at_bx T [(.int .i64 m.W), (.int .i64 m.H), (.slice a_m_C (List.length m.C) n_m_C)] rfl rfl rfl rfl (fun b1 => ?_))
  refine at_cons (at_al T [(.int .i64 0), (.int .i64 0), (.slice none 0 0)] rfl rfl rfl rfl (fun b2 => ?_))
  refine at_end ?_
  refine at_sub [(1, (.pointer (some ⟨b1, 0, none⟩))), (2, (.pointer (some ⟨b2, 0, none⟩)))] ⟨rfl, rfl, trivial⟩ ?_
  refine at_then ?_
  refine at_seq ?_
  refine at_region [0, 1, 2, 3, 4, 5] rfl ?_
  refine at_cons (at_bs (k := (Fl.int .u8)) T ([] : List Int) rfl rfl rfl rfl rfl rfl rfl rfl rfl (fun a3 H3 s3 => ?_))
  refine at_s T rfl ?_
  refine at_v rfl (g_load T rfl rfl rfl rfl (in_var (j := 1) rfl rfl)) ?_
  obtain ⟨c1, H⟩ := chk_e H
  refine at_cons (at_ap (k := (Fl.int .u8)) (xs := ([] : List Int)) T (g := 3) rfl rfl rfl rfl rfl rfl rfl rfl rfl rfl s3 (ro_of h_m_C (j := 0) rfl) c1 rfl (fun a4 n4 H4 s4 => ?_))
  refine at_s T rfl ?_
  refine at_cons (at_st T 1 [(.int .i64 m.W), (.int .i64 m.H), (.slice a4 (List.length (([] : List Int) ++ m.C)) n4)] rfl rfl rfl rfl rfl rfl rfl rfl rfl rfl ?_)
  refine at_end ?_
  refine at_sub [(1, (.pointer (some ⟨b1, 0, none⟩))), (2, (.pointer (some ⟨b2, 0, none⟩)))] ⟨rfl, rfl, trivial⟩ ?_
  refine at_then ?_
  refine at_seq ?_
  refine at_region [0, 1] rfl ?_
  refine at_v rfl (g_loadA T (cs := [(.int .i64 m.W), (.int .i64 m.H), (.slice a4 (List.length (([] : List Int) ++ m.C)) n4)]) rfl rfl rfl rfl rfl rfl (in_varA (j := 1) rfl rfl)) ?_
  refine at_cons (at_st T 2 [(.int .i64 m.W), (.int .i64 m.H), (.slice a4 (List.length (([] : List Int) ++ m.C)) n4)] rfl rfl rfl rfl rfl rfl rfl rfl rfl rfl ?_)
  refine at_end ?_
  refine at_to [(2, (.pointer (some ⟨b2, 0, none⟩)))] [0, 1, 1] [F, [(b2, Obj.cells #[(.int .i64 m.W), (.int .i64 m.H), (.slice a4 (List.length (([] : List Int) ++ m.C)) n4)] 26 (0, 0))], H4] ⟨rfl, trivial⟩ rfl ?_
  refine at_then ?_
  refine at_ret ?_
  obtain rfl := Option.some.inj H
  exact at_post (T := T) rfl (.aggv (j := 1) [(.int .i64 m.W), (.int .i64 m.H), (.slice a4 (List.length (([] : List Int) ++ m.C)) n4)] rfl rfl rfl rfl rfl rfl rfl .nil) (fun w o => ⟨⟨(_, _), ⟨a4, n4, H4, s4, rfl, rfl⟩⟩, rfl, own_to [2, 0] rfl o⟩)

/-! ### herdsman/herdsmanref1.MayMap: function 23 -/
def ref1_MayMap.f (m : api_Map) : Option Bool := ((ref1_May.f m.W m.H).bind fun v3 => if v3 = true then (if ((List.length m.C : Int) == (w64 (m.W * m.H))) = true then ((ref1_full.f m.C).bind fun v4 => some v4) else (some false)) else (some false)).bind fun x1 => some x1
set_option maxHeartbeats 4000000 in
theorem ref1_MayMap.c {a_m_C : Option Addr} {n_m_C : Nat} (m : api_Map) (r : Bool) (F : Hp) (H : ref1_MayMap.f m = some r) (h_m_C : SliceR (Fl.int .u8) m.C a_m_C F) (c_m_C : List.length m.C ≤ n_m_C) :
    CallsL Tryd.prog 23 [(.agg #[(.int .i64 m.W), (.int .i64 m.H), (.slice a_m_C (List.length m.C) n_m_C)])] [F] (fun _ : Unit => (.bool r)) (fun _ => [F]) := by
  unfold ref1_MayMap.f at H
  refine calls_atL [(0, (.agg #[(.int .i64 m.W), (.int .i64 m.H), (.slice a_m_C (List.length m.C) n_m_C)]))] Tryd.func23 rfl rfl ⟨rfl, trivial⟩ (fun W => ?_)
  refine at_seq ?_
  refine at_region [0, 1] rfl ?_
  refine at_cons (at_bx T [(.int .i64 m.W), (.int .i64 m.H), (.slice a_m_C (List.length m.C) n_m_C)] rfl rfl rfl rfl (fun b1 => ?_))
  refine at_s T rfl ?_
  refine at_end ?_
  refine at_sub [(1, (.pointer (some ⟨b1, 0, none⟩)))] ⟨rfl, trivial⟩ ?_
  refine at_then ?_
  obtain ⟨z2, Z1, H⟩ := bind_e H
  refine at_seq_mid (σ := Bool) (fun x1 => x1 = z2) (fun x1 => [(2, (.bool x1))]) (fun x1 => [F]) ?_ ?_
  · refine at_region [0, 1, 2, 3, 4, 5, 6, 7, 8, 9, 10, 11, 12, 13, 14, 15, 16, 17, 18, 19, 20, 21] rfl ?_
    refine at_s T rfl ?_
    refine at_v rfl (g_load T rfl rfl rfl rfl (in_var (j := 1) rfl rfl)) ?_
    refine at_s T rfl ?_
    refine at_v rfl (g_load T rfl rfl rfl rfl (in_var (j := 1) rfl rfl)) ?_
    obtain ⟨v3, V2, Z1⟩ := bind_e Z1
    refine at_cons (at_c (B := fun _ => []) [] rfl rfl rfl rfl has34 rfl rfl (ref1_May.c m.W m.H v3 _ V2) (fun _ => ?_))
    refine at_s T rfl ?_
    refine at_case (s := 8) rfl (fun c3 => ?_) (fun c3 => ?_)
    · replace Z1 := if_t c3 Z1
      refine at_s T rfl ?_
      refine at_v rfl (g_load T rfl rfl rfl rfl (in_var (j := 1) rfl rfl)) ?_
      iterate 2 refine at_s T rfl ?_
      refine at_v rfl (g_load T rfl rfl rfl rfl (in_var (j := 1) rfl rfl)) ?_
      refine at_s T rfl ?_
      refine at_v rfl (g_load T rfl rfl rfl rfl (in_var (j := 1) rfl rfl)) ?_
      iterate 4 refine at_s T rfl ?_
      refine at_case (s := 19) rfl (fun c4 => ?_) (fun c4 => ?_)
      · replace Z1 := if_t c4 Z1
        refine at_s T rfl ?_
        refine at_v rfl (g_load T rfl rfl rfl rfl (in_var (j := 1) rfl rfl)) ?_
        obtain ⟨v4, V5, Z1⟩ := bind_e Z1
        refine at_cons (at_c (B := fun _ => []) [] rfl rfl rfl rfl has43 rfl rfl (ref1_full.c m.C v4 _ V5 (ro_of h_m_C (j := 0) rfl) c_m_C) (fun _ => ?_))
        iterate 2 refine at_s T rfl ?_
        refine at_end ?_
        refine at_to [(2, (.bool v4))] [0] [F] ⟨rfl, trivial⟩ rfl ?_
        refine at_then ?_
        obtain rfl := Option.some.inj Z1
        exact at_mid v4 [0] rfl ⟨rfl, trivial⟩ rfl
      · replace Z1 := if_f (bf c4) Z1
        iterate 5 refine at_s T rfl ?_
        refine at_end ?_
        refine at_to [(2, (.bool false))] [0] [F] ⟨rfl, trivial⟩ rfl ?_
        refine at_then ?_
        obtain rfl := Option.some.inj Z1
        exact at_mid false [0] rfl ⟨rfl, trivial⟩ rfl
    · replace Z1 := if_f (bf c3) Z1
      iterate 16 refine at_s T rfl ?_
      refine at_end ?_
      refine at_to [(2, (.bool false))] [0] [F] ⟨rfl, trivial⟩ rfl ?_
      refine at_then ?_
      obtain rfl := Option.some.inj Z1
      exact at_mid false [0] rfl ⟨rfl, trivial⟩ rfl
  · rintro x1 rfl
    refine at_ret ?_
    obtain rfl := Option.some.inj H
    exact at_post (T := T) rfl (.tmp rfl .nil) (fun w o => ⟨(), rfl, own_to [0] rfl o⟩)

/-! ### herdsman/herdsmanref1.SameTile: function 27 -/
def ref1_SameTile.f (a : api_Map) (b : api_Map) : Option Bool := (if (a.W == b.W) = true then (if (a.H == b.H) = true then ((ref1_Bytes.f a.C b.C).bind fun v3 => some v3) else (some false)) else (some false)).bind fun x1 => some x1
set_option maxHeartbeats 4000000 in
theorem ref1_SameTile.c {a_a_C : Option Addr} {n_a_C : Nat} {a_b_C : Option Addr} {n_b_C : Nat} (a : api_Map) (b : api_Map) (r : Bool) (F : Hp) (H : ref1_SameTile.f a b = some r) (h_a_C : SliceR (Fl.int .u8) a.C a_a_C F) (c_a_C : List.length a.C ≤ n_a_C) (h_b_C : SliceR (Fl.int .u8) b.C a_b_C F) (c_b_C : List.length b.C ≤ n_b_C) :
    CallsL Tryd.prog 27 [(.agg #[(.int .i64 a.W), (.int .i64 a.H), (.slice a_a_C (List.length a.C) n_a_C)]), (.agg #[(.int .i64 b.W), (.int .i64 b.H), (.slice a_b_C (List.length b.C) n_b_C)])] [F] (fun _ : Unit => (.bool r)) (fun _ => [F]) := by
  unfold ref1_SameTile.f at H
  refine calls_atL [(0, (.agg #[(.int .i64 a.W), (.int .i64 a.H), (.slice a_a_C (List.length a.C) n_a_C)])), (1, (.agg #[(.int .i64 b.W), (.int .i64 b.H), (.slice a_b_C (List.length b.C) n_b_C)]))] Tryd.func27 rfl rfl ⟨rfl, rfl, trivial⟩ (fun W => ?_)
  refine at_seq ?_
  refine at_region [0, 1, 2] rfl ?_
  refine at_cons (at_bx T [(.int .i64 a.W), (.int .i64 a.H), (.slice a_a_C (List.length a.C) n_a_C)] rfl rfl rfl rfl (fun b1 => ?_))
  refine at_cons (at_bx T [(.int .i64 b.W), (.int .i64 b.H), (.slice a_b_C (List.length b.C) n_b_C)] rfl rfl rfl rfl (fun b2 => ?_))
  refine at_s T rfl ?_
  refine at_end ?_
  refine at_sub [(2, (.pointer (some ⟨b1, 0, none⟩))), (3, (.pointer (some ⟨b2, 0, none⟩)))] ⟨rfl, rfl, trivial⟩ ?_
  refine at_then ?_
  obtain ⟨z2, Z1, H⟩ := bind_e H
  refine at_seq_mid (σ := Bool) (fun x1 => x1 = z2) (fun x1 => [(4, (.bool x1))]) (fun x1 => [F]) ?_ ?_
  · refine at_region [0, 1, 2, 3, 4, 5, 6, 7, 8, 9, 10, 11, 12, 13, 14, 15, 16, 17, 18, 19] rfl ?_
    refine at_s T rfl ?_
    refine at_v rfl (g_load T rfl rfl rfl rfl (in_var (j := 1) rfl rfl)) ?_
    refine at_s T rfl ?_
    refine at_v rfl (g_load T rfl rfl rfl rfl (in_var (j := 2) rfl rfl)) ?_
    iterate 2 refine at_s T rfl ?_
    refine at_case (s := 10) rfl (fun c2 => ?_) (fun c2 => ?_)
    · replace Z1 := if_t c2 Z1
      refine at_s T rfl ?_
      refine at_v rfl (g_load T rfl rfl rfl rfl (in_var (j := 1) rfl rfl)) ?_
      refine at_s T rfl ?_
      refine at_v rfl (g_load T rfl rfl rfl rfl (in_var (j := 2) rfl rfl)) ?_
      iterate 3 refine at_s T rfl ?_
      refine at_case (s := 17) rfl (fun c3 => ?_) (fun c3 => ?_)
      · replace Z1 := if_t c3 Z1
        refine at_s T rfl ?_
        refine at_v rfl (g_load T rfl rfl rfl rfl (in_var (j := 1) rfl rfl)) ?_
        refine at_s T rfl ?_
        refine at_v rfl (g_load T rfl rfl rfl rfl (in_var (j := 2) rfl rfl)) ?_
        obtain ⟨v3, V4, Z1⟩ := bind_e Z1
        refine at_cons (at_c (B := fun _ => []) [] rfl rfl rfl rfl has16 rfl rfl (ref1_Bytes.c a.C b.C v3 _ V4 (ro_of h_a_C (j := 0) rfl) c_a_C (ro_of h_b_C (j := 0) rfl) c_b_C) (fun _ => ?_))
        iterate 2 refine at_s T rfl ?_
        refine at_end ?_
        refine at_to [(4, (.bool v3))] [0] [F] ⟨rfl, trivial⟩ rfl ?_
        refine at_then ?_
        obtain rfl := Option.some.inj Z1
        exact at_mid v3 [0] rfl ⟨rfl, trivial⟩ rfl
      · replace Z1 := if_f (bf c3) Z1
        iterate 7 refine at_s T rfl ?_
        refine at_end ?_
        refine at_to [(4, (.bool false))] [0] [F] ⟨rfl, trivial⟩ rfl ?_
        refine at_then ?_
        obtain rfl := Option.some.inj Z1
        exact at_mid false [0] rfl ⟨rfl, trivial⟩ rfl
    · replace Z1 := if_f (bf c2) Z1
      iterate 14 refine at_s T rfl ?_
      refine at_end ?_
      refine at_to [(4, (.bool false))] [0] [F] ⟨rfl, trivial⟩ rfl ?_
      refine at_then ?_
      obtain rfl := Option.some.inj Z1
      exact at_mid false [0] rfl ⟨rfl, trivial⟩ rfl
  · rintro x1 rfl
    refine at_ret ?_
    obtain rfl := Option.some.inj H
    exact at_post (T := T) rfl (.tmp rfl .nil) (fun w o => ⟨(), rfl, own_to [0] rfl o⟩)

/-! ### herdsman/herdsmanref1.OwnTile: function 29 -/
def ref1_OwnTile.f (t : api_Map) : Option api_Map := if (List.length ([] : List Int) + List.length t.C ≤ 1099511627776) then (some (api_Map.mk t.W t.H (([] : List Int) ++ t.C))) else none
def ref1_OwnTile.R (r : api_Map) (u : Value) (G : List Hp) : Prop := ∃ (a0 : Option Addr) (n0 : Nat) (H0 : Hp), SliceO (Fl.int .u8) 5 r.C a0 n0 H0 ∧ u = (.agg #[(.int .i64 r.W), (.int .i64 r.H), (.slice a0 (List.length r.C) n0)]) ∧ G = [H0]
set_option maxHeartbeats 4000000 in
theorem ref1_OwnTile.c {a_t_C : Option Addr} {n_t_C : Nat} (t : api_Map) (r : api_Map) (F : Hp) (H : ref1_OwnTile.f t = some r) (h_t_C : SliceR (Fl.int .u8) t.C a_t_C F) (c_t_C : List.length t.C ≤ n_t_C) :
    CallsL Tryd.prog 29 [(.agg #[(.int .i64 t.W), (.int .i64 t.H), (.slice a_t_C (List.length t.C) n_t_C)])] [F] (fun qp : { qp : Value × List Hp // ref1_OwnTile.R r qp.1 qp.2 } => qp.1.1) (fun qp => (qp.1.2 ++ []) ++ [F]) := by
  unfold ref1_OwnTile.f at H
  refine calls_atL [(0, (.agg #[(.int .i64 t.W), (.int .i64 t.H), (.slice a_t_C (List.length t.C) n_t_C)]))] Tryd.func29 rfl rfl ⟨rfl, trivial⟩ (fun W => ?_)
  refine at_seq ?_
  refine at_region [0, 1] rfl ?_
  refine at_cons (at_bx T [(.int .i64 t.W), (.int .i64 t.H), (.slice a_t_C (List.length t.C) n_t_C)] rfl rfl rfl rfl (fun b1 => ?_))
  refine at_cons (at_al T [(.int .i64 0), (.int .i64 0), (.slice none 0 0)] rfl rfl rfl rfl (fun b2 => ?_))
  refine at_end ?_
  refine at_sub [(1, (.pointer (some ⟨b1, 0, none⟩))), (2, (.pointer (some ⟨b2, 0, none⟩)))] ⟨rfl, rfl, trivial⟩ ?_
  refine at_then ?_
  refine at_seq ?_
  refine at_region [0, 1, 2, 3, 4, 5] rfl ?_
  refine at_cons (at_bs (k := (Fl.int .u8)) T ([] : List Int) rfl rfl rfl rfl rfl rfl rfl rfl rfl (fun a3 H3 s3 => ?_))
  refine at_s T rfl ?_
  refine at_v rfl (g_load T rfl rfl rfl rfl (in_var (j := 1) rfl rfl)) ?_
  obtain ⟨c1, H⟩ := chk_e H
  refine at_cons (at_ap (k := (Fl.int .u8)) (xs := ([] : List Int)) T (g := 3) rfl rfl rfl rfl rfl rfl rfl rfl rfl rfl s3 (ro_of h_t_C (j := 0) rfl) c1 rfl (fun a4 n4 H4 s4 => ?_))
  refine at_s T rfl ?_
  refine at_cons (at_st T 1 [(.int .i64 t.W), (.int .i64 t.H), (.slice a4 (List.length (([] : List Int) ++ t.C)) n4)] rfl rfl rfl rfl rfl rfl rfl rfl rfl rfl ?_)
  refine at_end ?_
  refine at_sub [(1, (.pointer (some ⟨b1, 0, none⟩))), (2, (.pointer (some ⟨b2, 0, none⟩)))] ⟨rfl, rfl, trivial⟩ ?_
  refine at_then ?_
  refine at_seq ?_
  refine at_region [0, 1] rfl ?_
  refine at_v rfl (g_loadA T (cs := [(.int .i64 t.W), (.int .i64 t.H), (.slice a4 (List.length (([] : List Int) ++ t.C)) n4)]) rfl rfl rfl rfl rfl rfl (in_varA (j := 1) rfl rfl)) ?_
  refine at_cons (at_st T 2 [(.int .i64 t.W), (.int .i64 t.H), (.slice a4 (List.length (([] : List Int) ++ t.C)) n4)] rfl rfl rfl rfl rfl rfl rfl rfl rfl rfl ?_)
  refine at_end ?_
  refine at_to [(2, (.pointer (some ⟨b2, 0, none⟩)))] [0, 1, 1] [F, [(b2, Obj.cells #[(.int .i64 t.W), (.int .i64 t.H), (.slice a4 (List.length (([] : List Int) ++ t.C)) n4)] 41 (0, 0))], H4] ⟨rfl, trivial⟩ rfl ?_
  refine at_then ?_
  refine at_ret ?_
  obtain rfl := Option.some.inj H
  exact at_post (T := T) rfl (.aggv (j := 1) [(.int .i64 t.W), (.int .i64 t.H), (.slice a4 (List.length (([] : List Int) ++ t.C)) n4)] rfl rfl rfl rfl rfl rfl rfl .nil) (fun w o => ⟨⟨(_, _), ⟨a4, n4, H4, s4, rfl, rfl⟩⟩, rfl, own_to [2, 0] rfl o⟩)
end

end Go.Proofs.YtnkdnecilkafhaaDoor
