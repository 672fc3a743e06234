import Derived.Test.YticdodeoljodiaaT
namespace Go.Proofs.Yticdodeoljodiaa
open Go.Hx
set_option maxRecDepth 100000
set_option linter.unusedVariables false
noncomputable section
/-! ### herdsman/herdsmanref1.Ints: function 20 -/
def ref1_Ints.l0 : Nat → (List Int) → (List Int) → Int → Option Bool
  | 0, _, _, _ => none
  | k3 + 1, a, b, x2 => if x2 < (List.length a : Int) then (if (0 ≤ x2 ∧ x2 < (List.length a : Int)) then (if (0 ≤ x2 ∧ x2 < (List.length b : Int)) then (if ((rd a x2) != (rd b x2)) = true then (some false) else (ref1_Ints.l0 k3 a b (w64 (x2 + 1)))) else none) else none) else (some true)
def ref1_Ints.f (a : (List Int)) (b : (List Int)) : Option Bool := if ((List.length a : Int) != (List.length b : Int)) = true then (some false) else (ref1_Ints.l0 fuel a b 0)
set_option maxHeartbeats 4000000 in
theorem ref1_Ints.c {a_a : Option Addr} {n_a : Nat} {a_b : Option Addr} {n_b : Nat} (a : (List Int)) (b : (List Int)) (r : Bool) (F : Hp) (H : ref1_Ints.f a b = some r) (h_a : SliceR (Fl.int .i64) a a_a F) (c_a : List.length a ≤ n_a) (h_b : SliceR (Fl.int .i64) b a_b F) (c_b : List.length b ≤ n_b) :
    CallsL Try.prog 20 [(.slice a_a (List.length a) n_a), (.slice a_b (List.length b) n_b)] [F] (fun _ : Unit => (.bool r)) (fun _ => [F]) := by
  unfold ref1_Ints.f at H
  refine calls_atL [(0, (.slice a_a (List.length a) n_a)), (1, (.slice a_b (List.length b) n_b))] Try.func20 rfl rfl ⟨rfl, rfl, trivial⟩ (fun W => ?_)
  refine at_seq ?_
  refine at_region [0] rfl ?_
  refine at_s T rfl ?_
  refine at_end ?_
  refine at_sub [(0, (.slice a_a (List.length a) n_a)), (1, (.slice a_b (List.length b) n_b))] ⟨rfl, rfl, trivial⟩ ?_
  refine at_then ?_
  refine at_seq ?_
  refine at_seq ?_
  refine at_region [0, 1, 2, 3, 4] rfl ?_
  iterate 5 refine at_s T rfl ?_
  refine at_end ?_
  refine at_sub [(0, (.slice a_a (List.length a) n_a)), (1, (.slice a_b (List.length b) n_b)), (10, (.bool ((List.length a : Int) != (List.length b : Int))))] ⟨rfl, rfl, rfl, trivial⟩ ?_
  refine at_then ?_
  refine at_cond rfl (fun c1 => ?_) (fun c1 => ?_)
  · replace H := if_t c1 H
    refine at_seq ?_
    refine at_region [0] rfl ?_
    refine at_s T rfl ?_
    refine at_end ?_
    refine at_sub [(4, (.bool false))] ⟨rfl, trivial⟩ ?_
    refine at_then ?_
    refine at_ret ?_
    refine at_rt ?_
    obtain rfl := Option.some.inj H
    exact at_post (T := T) rfl (.tmp rfl .nil) (fun w o => ⟨(), rfl, own_to [0] rfl o⟩)
  · replace H := if_f (bf c1) H
    refine at_skip ?_
    refine at_then ?_
    refine at_seq ?_
    refine at_seq ?_
    refine at_region [0] rfl ?_
    refine at_s T rfl ?_
    refine at_end ?_
    refine at_sub [(0, (.slice a_a (List.length a) n_a)), (1, (.slice a_b (List.length b) n_b)), (5, (.int .i64 0))] ⟨rfl, rfl, rfl, trivial⟩ ?_
    refine at_then ?_
    refine at_block ?_
    refine at_loopL (σ := Nat × Int) (fun ⟨k3, x2⟩ => ref1_Ints.l0 k3 a b x2 = some r) (fun ⟨k3, x2⟩ => [(0, (.slice a_a (List.length a) n_a)), (1, (.slice a_b (List.length b) n_b)), (5, (.int .i64 x2))]) (fun ⟨k3, x2⟩ => [F]) (fun s => s.1) (fuel, 0) [0] H ⟨rfl, rfl, rfl, trivial⟩ rfl ?_
    rintro ⟨k3, x2⟩ Z2
    replace Z2 : ref1_Ints.l0 k3 a b x2 = some r := Z2
    rcases k3 with _ | k3
    · rw [ref1_Ints.l0] at Z2; cases Z2
    · rw [ref1_Ints.l0] at Z2
      refine at_seq ?_
      refine at_seq ?_
      refine at_region [0, 1, 2, 3] rfl ?_
      iterate 4 refine at_s T rfl ?_
      refine at_end ?_
      refine at_sub [(0, (.slice a_a (List.length a) n_a)), (1, (.slice a_b (List.length b) n_b)), (5, (.int .i64 x2)), (14, (.bool (decide (x2 < (List.length a : Int)))))] ⟨rfl, rfl, rfl, rfl, trivial⟩ ?_
      refine at_then ?_
      refine at_cond rfl (fun c3 => ?_) (fun c3 => ?_)
      · replace Z2 := if_t (of_decide_eq_true c3) Z2
        refine at_skip ?_
        refine at_then ?_
        refine at_seq ?_
        refine at_block ?_
        refine at_seq ?_
        refine at_region_q mix (by kernel_rfl) ?_
        iterate 2 refine atq_s T rfl ?_
        obtain ⟨c4, Z2⟩ := chk_e Z2
        obtain ⟨q1, o1, e1⟩ := h_a.addr c4.1 c4.2
        refine atq_v rfl rfl rfl (g_index T rfl rfl rfl rfl rfl e1 c4.1 c4.2) ?_
        refine atq_v rfl rfl rfl (g_load T rfl rfl rfl rfl (in_elem1 (k := (Fl.int .i64)) (ro_of h_a (j := 0) rfl) e1 c4 0 rfl)) ?_
        iterate 2 refine atq_s T rfl ?_
        obtain ⟨c5, Z2⟩ := chk_e Z2
        obtain ⟨q2, o2, e2⟩ := h_b.addr c5.1 c5.2
        refine atq_v rfl rfl rfl (g_index T rfl rfl rfl rfl rfl e2 c5.1 c5.2) ?_
        refine atq_v rfl rfl rfl (g_load T rfl rfl rfl rfl (in_elem1 (k := (Fl.int .i64)) (ro_of h_b (j := 0) rfl) e2 c5 0 rfl)) ?_
        refine atq_s T rfl ?_
        refine atq_end ?_
        refine at_sub [(0, (.slice a_a (List.length a) n_a)), (1, (.slice a_b (List.length b) n_b)), (5, (.int .i64 x2)), (25, (.bool ((rd a x2) != (rd b x2))))] ⟨rfl, rfl, rfl, rfl, trivial⟩ ?_
        refine at_then ?_
        refine at_cond rfl (fun c6 => ?_) (fun c6 => ?_)
        · replace Z2 := if_t c6 Z2
          refine at_seq ?_
          refine at_region [0] rfl ?_
          refine at_s T rfl ?_
          refine at_end ?_
          refine at_sub [(4, (.bool false))] ⟨rfl, trivial⟩ ?_
          refine at_then ?_
          refine at_ret ?_
          refine at_rb ?_
          refine at_rt ?_
          refine at_rt ?_
          refine at_rb ?_
          refine at_rt ?_
          obtain rfl := Option.some.inj Z2
          exact at_post (T := T) rfl (.tmp rfl .nil) (fun w o => ⟨(), rfl, own_to [0] rfl o⟩)
        · replace Z2 := if_f (bf c6) Z2
          refine at_skip ?_
          refine at_nb ?_
          refine at_then ?_
          refine at_region [0, 1, 2] rfl ?_
          iterate 3 refine at_s T rfl ?_
          refine at_end ?_
          refine at_sub [(0, (.slice a_a (List.length a) n_a)), (1, (.slice a_b (List.length b) n_b)), (5, (.int .i64 (w64 (x2 + 1))))] ⟨rfl, rfl, rfl, trivial⟩ ?_
          refine at_then ?_
          exact at_roundL (k3, (w64 (x2 + 1))) [0] Z2 (Nat.lt_succ_self _) ⟨rfl, rfl, rfl, trivial⟩ rfl
      · replace Z2 := if_f (of_decide_eq_false c3) Z2
        refine at_exit ?_
        refine at_xt ?_
        refine at_xt ?_
        refine at_xb ?_
        refine at_then ?_
        refine at_seq ?_
        refine at_region [0] rfl ?_
        refine at_s T rfl ?_
        refine at_end ?_
        refine at_sub [(4, (.bool true))] ⟨rfl, trivial⟩ ?_
        refine at_then ?_
        refine at_ret ?_
        obtain rfl := Option.some.inj Z2
        exact at_post (T := T) rfl (.tmp rfl .nil) (fun w o => ⟨(), rfl, own_to [0] rfl o⟩)

/-! ### herdsman/herdsmanref1.Own: function 35 -/
def ref1_Own.f (m : api_Map) : Option api_Map := if (List.length ([] : List Int) + List.length m.C ≤ 1099511627776) then (some (api_Map.mk m.W m.H (([] : List Int) ++ m.C))) else none
def ref1_Own.R (r : api_Map) (u : Value) (G : List Hp) : Prop := ∃ (a0 : Option Addr) (n0 : Nat) (H0 : Hp), SliceO (Fl.int .u8) 5 r.C a0 n0 H0 ∧ u = (.agg #[(.int .i64 r.W), (.int .i64 r.H), (.slice a0 (List.length r.C) n0)]) ∧ G = [H0]
set_option maxHeartbeats 4000000 in
theorem ref1_Own.c {a_m_C : Option Addr} {n_m_C : Nat} (m : api_Map) (r : api_Map) (F : Hp) (H : ref1_Own.f m = some r) (h_m_C : SliceR (Fl.int .u8) m.C a_m_C F) (c_m_C : List.length m.C ≤ n_m_C) :
    CallsL Try.prog 35 [(.agg #[(.int .i64 m.W), (.int .i64 m.H), (.slice a_m_C (List.length m.C) n_m_C)])] [F] (fun qp : { qp : Value × List Hp // ref1_Own.R r qp.1 qp.2 } => qp.1.1) (fun qp => (qp.1.2 ++ []) ++ [F]) := by
  unfold ref1_Own.f at H
  refine calls_atL [(0, (.agg #[(.int .i64 m.W), (.int .i64 m.H), (.slice a_m_C (List.length m.C) n_m_C)]))] Try.func35 rfl rfl ⟨rfl, trivial⟩ (fun W => ?_)
  refine at_seq ?_
  refine at_region [0, 1] rfl ?_
  refine at_cons (at_bx T [(.int .i64 m.W), (.int .i64 m.H), (.slice a_m_C (List.length m.C) n_m_C)] rfl rfl rfl rfl (fun b1 => ?_))
  refine at_cons (at_al T [(.int .i64 0), (.int .i64 0), (.slice none 0 0)] rfl rfl rfl rfl (fun b2 => ?_))
  refine at_end ?_
  refine at_sub [(1, (.pointer (some ⟨b1, 0, none⟩))), (2, (.pointer (some ⟨b2, 0, none⟩)))] ⟨rfl, rfl, trivial⟩ ?_
  refine at_then ?_
  refine at_seq ?_
  refine at_region [0, 1, 2, 3, 4, 5] rfl ?_
  refine at_cons (at_bs (k := (Fl.int .u8)) T ([] : List Int) rfl rfl rfl rfl rfl rfl rfl rfl rfl (fun a3 H3 s3 => ?_))
  refine at_s T rfl ?_
  refine at_v rfl (g_load T rfl rfl rfl rfl (in_var (j := 1) rfl rfl)) ?_
  obtain ⟨c1, H⟩ := chk_e H
  refine at_cons (at_ap (k := (Fl.int .u8)) (xs := ([] : List Int)) T (g := 3) rfl rfl rfl rfl rfl rfl rfl rfl rfl rfl s3 (ro_of h_m_C (j := 0) rfl) c1 rfl (fun a4 n4 H4 s4 => ?_))
  refine at_s T rfl ?_
  refine at_cons (at_st T 1 [(.int .i64 m.W), (.int .i64 m.H), (.slice a4 (List.length (([] : List Int) ++ m.C)) n4)] rfl rfl rfl rfl rfl rfl rfl rfl rfl rfl ?_)
  refine at_end ?_
  refine at_sub [(1, (.pointer (some ⟨b1, 0, none⟩))), (2, (.pointer (some ⟨b2, 0, none⟩)))] ⟨rfl, rfl, trivial⟩ ?_
  refine at_then ?_
  refine at_seq ?_
  refine at_region [0, 1] rfl ?_
  refine at_v rfl (g_loadA T (cs := [(.int .i64 m.W), (.int .i64 m.H), (.slice a4 (List.length (([] : List Int) ++ m.C)) n4)]) rfl rfl rfl rfl rfl rfl (in_varA (j := 1) rfl rfl)) ?_
  refine at_cons (at_st T 2 [(.int .i64 m.W), (.int .i64 m.H), (.slice a4 (List.length (([] : List Int) ++ m.C)) n4)] rfl rfl rfl rfl rfl rfl rfl rfl rfl rfl ?_)
  refine at_end ?_
  refine at_to [(2, (.pointer (some ⟨b2, 0, none⟩)))] [0, 1, 1] [F, [(b2, Obj.cells #[(.int .i64 m.W), (.int .i64 m.H), (.slice a4 (List.length (([] : List Int) ++ m.C)) n4)] 24 (0, 0))], H4] ⟨rfl, trivial⟩ rfl ?_
  refine at_then ?_
  refine at_ret ?_
  obtain rfl := Option.some.inj H
  exact at_post (T := T) rfl (.aggv (j := 1) [(.int .i64 m.W), (.int .i64 m.H), (.slice a4 (List.length (([] : List Int) ++ m.C)) n4)] rfl rfl rfl rfl rfl rfl rfl .nil) (fun w o => ⟨⟨(_, _), ⟨a4, n4, H4, s4, rfl, rfl⟩⟩, rfl, own_to [2, 0] rfl o⟩)

/-! ### herdsman/herdsmanref1.Within: function 15 -/
def ref1_Within.f (n : Int) (lo : Int) (hi : Int) : Option Int := if (¬ (w64 ((w64 (hi - lo)) + 1)) = 0) then (if (Int.tmod n (w64 ((w64 (hi - lo)) + 1))) < 0 then (some (w64 (lo + (w64 ((w64 ((w64 ((Int.tmod n (w64 ((w64 (hi - lo)) + 1))) + hi)) - lo)) + 1))))) else (some (w64 (lo + (Int.tmod n (w64 ((w64 (hi - lo)) + 1))))))) else none
set_option maxHeartbeats 4000000 in
theorem ref1_Within.c (n : Int) (lo : Int) (hi : Int) (r : Int) (F : Hp) (H : ref1_Within.f n lo hi = some r) :
    CallsL Try.prog 15 [(.int .i64 n), (.int .i64 lo), (.int .i64 hi)] [F] (fun _ : Unit => (.int .i64 r)) (fun _ => [F]) := by
  unfold ref1_Within.f at H
  refine calls_atL [(0, (.int .i64 n)), (1, (.int .i64 lo)), (2, (.int .i64 hi))] Try.func15 rfl rfl ⟨rfl, rfl, rfl, trivial⟩ (fun W => ?_)
  refine at_seq ?_
  refine at_region [0] rfl ?_
  refine at_s T rfl ?_
  refine at_end ?_
  refine at_sub [(0, (.int .i64 n)), (1, (.int .i64 lo)), (2, (.int .i64 hi))] ⟨rfl, rfl, rfl, trivial⟩ ?_
  refine at_then ?_
  refine at_seq ?_
  refine at_region [0, 1, 2, 3, 4, 5, 6] rfl ?_
  iterate 5 refine at_s T rfl ?_
  obtain ⟨c1, H⟩ := chk_e H
  refine at_v rfl (g_rem rfl rfl rfl c1) ?_
  refine at_s T rfl ?_
  refine at_end ?_
  refine at_sub [(0, (.int .i64 (Int.tmod n (w64 ((w64 (hi - lo)) + 1))))), (1, (.int .i64 lo)), (2, (.int .i64 hi))] ⟨rfl, rfl, rfl, trivial⟩ ?_
  refine at_then ?_
  refine at_seq ?_
  refine at_seq ?_
  refine at_region [0, 1] rfl ?_
  iterate 2 refine at_s T rfl ?_
  refine at_end ?_
  refine at_sub [(0, (.int .i64 (Int.tmod n (w64 ((w64 (hi - lo)) + 1))))), (1, (.int .i64 lo)), (2, (.int .i64 hi)), (14, (.bool (decide ((Int.tmod n (w64 ((w64 (hi - lo)) + 1))) < 0))))] ⟨rfl, rfl, rfl, rfl, trivial⟩ ?_
  refine at_then ?_
  refine at_cond rfl (fun c2 => ?_) (fun c2 => ?_)
  · replace H := if_t (of_decide_eq_true c2) H
    refine at_region [0, 1, 2, 3, 4, 5, 6] rfl ?_
    iterate 7 refine at_s T rfl ?_
    refine at_end ?_
    refine at_sub [(0, (.int .i64 (w64 ((w64 ((w64 ((Int.tmod n (w64 ((w64 (hi - lo)) + 1))) + hi)) - lo)) + 1)))), (1, (.int .i64 lo))] ⟨rfl, rfl, trivial⟩ ?_
    refine at_then ?_
    refine at_seq ?_
    refine at_region [0, 1, 2, 3] rfl ?_
    iterate 4 refine at_s T rfl ?_
    refine at_end ?_
    refine at_sub [(6, (.int .i64 (w64 (lo + (w64 ((w64 ((w64 ((Int.tmod n (w64 ((w64 (hi - lo)) + 1))) + hi)) - lo)) + 1))))))] ⟨rfl, trivial⟩ ?_
    refine at_then ?_
    refine at_ret ?_
    obtain rfl := Option.some.inj H
    exact at_post (T := T) rfl (.tmp rfl .nil) (fun w o => ⟨(), rfl, own_to [0] rfl o⟩)
  · replace H := if_f (of_decide_eq_false c2) H
    refine at_skip ?_
    refine at_then ?_
    refine at_seq ?_
    refine at_region [0, 1, 2, 3] rfl ?_
    iterate 4 refine at_s T rfl ?_
    refine at_end ?_
    refine at_sub [(6, (.int .i64 (w64 (lo + (Int.tmod n (w64 ((w64 (hi - lo)) + 1)))))))] ⟨rfl, trivial⟩ ?_
    refine at_then ?_
    refine at_ret ?_
    obtain rfl := Option.some.inj H
    exact at_post (T := T) rfl (.tmp rfl .nil) (fun w o => ⟨(), rfl, own_to [0] rfl o⟩)

/-! ### herdsman/herdsmanref1.Cost: function 48 -/
def ref1_Cost.f (x : Int) : Option Int := if ((Int.tmod x 8) == 7) = true then (some 255) else (if x < 160 then (some (wu8 (1 + (Int.tmod x 4)))) else (some x))
set_option maxHeartbeats 4000000 in
theorem ref1_Cost.c (x : Int) (r : Int) (F : Hp) (H : ref1_Cost.f x = some r) :
    CallsL Try.prog 48 [(.int .u8 x)] [F] (fun _ : Unit => (.int .u8 r)) (fun _ => [F]) := by
  unfold ref1_Cost.f at H
  refine calls_atL [(0, (.int .u8 x))] Try.func48 rfl rfl ⟨rfl, trivial⟩ (fun W => ?_)
  refine at_seq ?_
  refine at_region [0] rfl ?_
  refine at_s T rfl ?_
  refine at_end ?_
  refine at_sub [(0, (.int .u8 x))] ⟨rfl, trivial⟩ ?_
  refine at_then ?_
  refine at_seq ?_
  refine at_seq ?_
  refine at_region [0, 1, 2] rfl ?_
  iterate 3 refine at_s T rfl ?_
  refine at_end ?_
  refine at_sub [(0, (.int .u8 x)), (5, (.bool ((Int.tmod x 8) == 7)))] ⟨rfl, rfl, trivial⟩ ?_
  refine at_then ?_
  refine at_cond rfl (fun c1 => ?_) (fun c1 => ?_)
  · replace H := if_t c1 H
    refine at_seq ?_
    refine at_region [0] rfl ?_
    refine at_s T rfl ?_
    refine at_end ?_
    refine at_sub [(2, (.int .u8 255))] ⟨rfl, trivial⟩ ?_
    refine at_then ?_
    refine at_ret ?_
    refine at_rt ?_
    obtain rfl := Option.some.inj H
    exact at_post (T := T) rfl (.tmp rfl .nil) (fun w o => ⟨(), rfl, own_to [0] rfl o⟩)
  · replace H := if_f (bf c1) H
    refine at_skip ?_
    refine at_then ?_
    refine at_seq ?_
    refine at_seq ?_
    refine at_region [0, 1] rfl ?_
    iterate 2 refine at_s T rfl ?_
    refine at_end ?_
    refine at_sub [(0, (.int .u8 x)), (7, (.bool (decide (x < 160))))] ⟨rfl, rfl, trivial⟩ ?_
    refine at_then ?_
    refine at_cond rfl (fun c2 => ?_) (fun c2 => ?_)
    · replace H := if_t (of_decide_eq_true c2) H
      refine at_seq ?_
      refine at_region [0, 1, 2, 3] rfl ?_
      iterate 4 refine at_s T rfl ?_
      refine at_end ?_
      refine at_sub [(2, (.int .u8 (wu8 (1 + (Int.tmod x 4)))))] ⟨rfl, trivial⟩ ?_
      refine at_then ?_
      refine at_ret ?_
      refine at_rt ?_
      obtain rfl := Option.some.inj H
      exact at_post (T := T) rfl (.tmp rfl .nil) (fun w o => ⟨(), rfl, own_to [0] rfl o⟩)
    · replace H := if_f (of_decide_eq_false c2) H
      refine at_skip ?_
      refine at_then ?_
      refine at_seq ?_
      refine at_region [0, 1] rfl ?_
      iterate 2 refine at_s T rfl ?_
      refine at_end ?_
      refine at_sub [(2, (.int .u8 x))] ⟨rfl, trivial⟩ ?_
      refine at_then ?_
      refine at_ret ?_
      obtain rfl := Option.some.inj H
      exact at_post (T := T) rfl (.tmp rfl .nil) (fun w o => ⟨(), rfl, own_to [0] rfl o⟩)

/-! ### herdsman/herdsmanref1.Made: function 13 -/
def ref1_Made.l0 : Nat → (List Int) → Int → Int → List Int → Int → Option api_Map
  | 0, _, _, _, _, _ => none
  | k7 + 1, c, v1, v2, x5, x6 => if x6 < (w64 (v1 * v2)) then (if (List.length c : Int) > 0 then (if (¬ (List.length c : Int) = 0) then (if (¬ (List.length c : Int) = 0) then (if (0 ≤ (Int.tmod (w64 (x6 + (w64 ((w64 (Int.tdiv x6 (List.length c : Int))) * 5)))) (List.length c : Int)) ∧ (Int.tmod (w64 (x6 + (w64 ((w64 (Int.tdiv x6 (List.length c : Int))) * 5)))) (List.length c : Int)) < (List.length c : Int)) then ((ref1_Cost.f (rd c (Int.tmod (w64 (x6 + (w64 ((w64 (Int.tdiv x6 (List.length c : Int))) * 5)))) (List.length c : Int)))).bind fun v8 => if (List.length x5 + 1 ≤ 1099511627776) then (ref1_Made.l0 k7 c v1 v2 (x5 ++ [v8]) (w64 (x6 + 1))) else none) else none) else none) else none) else ((ref1_Cost.f 1).bind fun v9 => if (List.length x5 + 1 ≤ 1099511627776) then (ref1_Made.l0 k7 c v1 v2 (x5 ++ [v9]) (w64 (x6 + 1))) else none)) else (some (api_Map.mk v1 v2 x5))
def ref1_Made.f (w : Int) (h : Int) (c : (List Int)) : Option api_Map := (ref1_Within.f w 1 40).bind fun v1 => (ref1_Within.f h 1 40).bind fun v2 => ref1_Made.l0 fuel c v1 v2 [] 0
def ref1_Made.R (r : api_Map) (u : Value) (G : List Hp) : Prop := ∃ (a0 : Option Addr) (n0 : Nat) (H0 : Hp), SliceO (Fl.int .u8) 5 r.C a0 n0 H0 ∧ u = (.agg #[(.int .i64 r.W), (.int .i64 r.H), (.slice a0 (List.length r.C) n0)]) ∧ G = [H0]
set_option maxHeartbeats 4000000 in
theorem ref1_Made.c {a_c : Option Addr} {n_c : Nat} (w : Int) (h : Int) (c : (List Int)) (r : api_Map) (F : Hp) (H : ref1_Made.f w h c = some r) (h_c : SliceR (Fl.int .u8) c a_c F) (c_c : List.length c ≤ n_c) :
    CallsL Try.prog 13 [(.int .i64 w), (.int .i64 h), (.slice a_c (List.length c) n_c)] [F] (fun qp : { qp : Value × List Hp // ref1_Made.R r qp.1 qp.2 } => qp.1.1) (fun qp => (qp.1.2 ++ []) ++ [F]) := by
  unfold ref1_Made.f at H
  refine calls_atL [(0, (.int .i64 w)), (1, (.int .i64 h)), (2, (.slice a_c (List.length c) n_c))] Try.func13 rfl rfl ⟨rfl, rfl, rfl, trivial⟩ (fun W => ?_)
  refine at_seq ?_
  refine at_region [0] rfl ?_
  refine at_cons (at_al T [(.int .i64 0), (.int .i64 0), (.slice none 0 0)] rfl rfl rfl rfl (fun b1 => ?_))
  refine at_end ?_
  refine at_sub [(0, (.int .i64 w)), (1, (.int .i64 h)), (2, (.slice a_c (List.length c) n_c)), (6, (.pointer (some ⟨b1, 0, none⟩)))] ⟨rfl, rfl, rfl, rfl, trivial⟩ ?_
  refine at_then ?_
  refine at_seq ?_
  refine at_region [0, 1, 2, 3, 4, 5, 6] rfl ?_
  refine at_s T rfl ?_
  obtain ⟨v1, V1, H⟩ := bind_e H
  refine at_cons (at_c (B := fun _ => []) [] rfl rfl rfl rfl has15 rfl rfl (ref1_Within.c w 1 40 v1 _ V1) (fun _ => ?_))
  refine at_s T rfl ?_
  obtain ⟨v2, V2, H⟩ := bind_e H
  refine at_cons (at_c (B := fun _ => []) [] rfl rfl rfl rfl has15 rfl rfl (ref1_Within.c h 1 40 v2 _ V2) (fun _ => ?_))
  refine at_s T rfl ?_
  refine at_cons (at_al T [(.int .i64 0), (.int .i64 0), (.slice none 0 0)] rfl rfl rfl rfl (fun b2 => ?_))
  refine at_cons (at_st T 2 [(.int .i64 v1), (.int .i64 v2), (.slice none 0 0)] rfl rfl rfl rfl rfl rfl rfl rfl rfl rfl ?_)
  refine at_end ?_
  refine at_sub [(2, (.slice a_c (List.length c) n_c)), (6, (.pointer (some ⟨b1, 0, none⟩))), (7, (.pointer (some ⟨b2, 0, none⟩)))] ⟨rfl, rfl, rfl, trivial⟩ ?_
  refine at_then ?_
  refine at_seq ?_
  refine at_seq ?_
  refine at_region [0] rfl ?_
  refine at_s T rfl ?_
  refine at_end ?_
  refine at_sub [(2, (.slice a_c (List.length c) n_c)), (6, (.pointer (some ⟨b1, 0, none⟩))), (7, (.pointer (some ⟨b2, 0, none⟩))), (8, (.int .i64 0))] ⟨rfl, rfl, rfl, rfl, trivial⟩ ?_
  refine at_then ?_
  refine at_block ?_
  refine at_addnil ?_
  refine at_loopL (σ := Nat × List Int × Int × Option Addr × Nat × Hp) (fun ⟨k7, x5, x6, a4, n4, H4⟩ => ref1_Made.l0 k7 c v1 v2 x5 x6 = some r ∧ SliceO (Fl.int .u8) 5 x5 a4 n4 H4) (fun ⟨k7, x5, x6, a4, n4, H4⟩ => [(2, (.slice a_c (List.length c) n_c)), (6, (.pointer (some ⟨b1, 0, none⟩))), (7, (.pointer (some ⟨b2, 0, none⟩))), (8, (.int .i64 x6))]) (fun ⟨k7, x5, x6, a4, n4, H4⟩ => [F, [(b1, Obj.cells #[(.int .i64 0), (.int .i64 0), (.slice none 0 0)] 24 (0, 0))], [(b2, Obj.cells #[(.int .i64 v1), (.int .i64 v2), (.slice a4 (List.length x5) n4)] 24 (0, 0))], H4]) (fun s => s.1) (fuel, [], 0, none, 0, []) [0, 0, 0, 0] ⟨H, SliceO.nil⟩ ⟨rfl, rfl, rfl, rfl, trivial⟩ rfl ?_
  rintro ⟨k7, x5, x6, a4, n4, H4⟩ ⟨Z3, s4⟩
  replace Z3 : ref1_Made.l0 k7 c v1 v2 x5 x6 = some r := Z3
  rcases k7 with _ | k7
  · rw [ref1_Made.l0] at Z3; cases Z3
  · rw [ref1_Made.l0] at Z3
    refine at_seq ?_
    refine at_seq ?_
    refine at_region [0, 1, 2, 3, 4, 5, 6] rfl ?_
    iterate 2 refine at_s T rfl ?_
    refine at_v rfl (g_load T rfl rfl rfl rfl (in_var (j := 2) rfl rfl)) ?_
    refine at_s T rfl ?_
    refine at_v rfl (g_load T rfl rfl rfl rfl (in_var (j := 2) rfl rfl)) ?_
    iterate 2 refine at_s T rfl ?_
    refine at_end ?_
    refine at_sub [(2, (.slice a_c (List.length c) n_c)), (6, (.pointer (some ⟨b1, 0, none⟩))), (7, (.pointer (some ⟨b2, 0, none⟩))), (8, (.int .i64 x6)), (22, (.bool (decide (x6 < (w64 (v1 * v2))))))] ⟨rfl, rfl, rfl, rfl, rfl, trivial⟩ ?_
    refine at_then ?_
    refine at_cond rfl (fun c4 => ?_) (fun c4 => ?_)
    · replace Z3 := if_t (of_decide_eq_true c4) Z3
      refine at_skip ?_
      refine at_then ?_
      refine at_seq ?_
      refine at_block ?_
      refine at_seq ?_
      refine at_region [0] rfl ?_
      refine at_s T rfl ?_
      refine at_end ?_
      refine at_sub [(2, (.slice a_c (List.length c) n_c)), (6, (.pointer (some ⟨b1, 0, none⟩))), (7, (.pointer (some ⟨b2, 0, none⟩))), (8, (.int .i64 x6)), (9, (.int .u8 1))] ⟨rfl, rfl, rfl, rfl, rfl, trivial⟩ ?_
      refine at_then ?_
      refine at_seq ?_
      refine at_seq ?_
      refine at_region [0, 1, 2] rfl ?_
      iterate 3 refine at_s T rfl ?_
      refine at_end ?_
      refine at_sub [(2, (.slice a_c (List.length c) n_c)), (6, (.pointer (some ⟨b1, 0, none⟩))), (7, (.pointer (some ⟨b2, 0, none⟩))), (8, (.int .i64 x6)), (9, (.int .u8 1)), (10, (.int .i64 (List.length c : Int)))] ⟨rfl, rfl, rfl, rfl, rfl, rfl, trivial⟩ ?_
      refine at_then ?_
      refine at_seq ?_
      refine at_region [0, 1] rfl ?_
      iterate 2 refine at_s T rfl ?_
      refine at_end ?_
      refine at_sub [(2, (.slice a_c (List.length c) n_c)), (6, (.pointer (some ⟨b1, 0, none⟩))), (7, (.pointer (some ⟨b2, 0, none⟩))), (8, (.int .i64 x6)), (9, (.int .u8 1)), (10, (.int .i64 (List.length c : Int))), (28, (.bool (decide ((List.length c : Int) > 0))))] ⟨rfl, rfl, rfl, rfl, rfl, rfl, rfl, trivial⟩ ?_
      refine at_then ?_
      refine at_cond rfl (fun c5 => ?_) (fun c5 => ?_)
      · replace Z3 := if_t (of_decide_eq_true c5) Z3
        refine at_region [0, 1, 2, 3, 4, 5, 6, 7, 8, 9, 10, 11] rfl ?_
        iterate 4 refine at_s T rfl ?_
        obtain ⟨c6, Z3⟩ := chk_e Z3
        refine at_v rfl (g_quo rfl rfl rfl c6) ?_
        iterate 3 refine at_s T rfl ?_
        obtain ⟨c7, Z3⟩ := chk_e Z3
        refine at_v rfl (g_rem rfl rfl rfl c7) ?_
        obtain ⟨c8, Z3⟩ := chk_e Z3
        obtain ⟨q5, o5, e5⟩ := h_c.addr c8.1 c8.2
        refine at_v rfl (g_index T rfl rfl rfl rfl rfl e5 c8.1 c8.2) ?_
        refine at_v rfl (g_load T rfl rfl rfl rfl (in_elem1 (k := (Fl.int .u8)) (ro_of h_c (j := 0) rfl) e5 c8 0 rfl)) ?_
        refine at_s T rfl ?_
        refine at_end ?_
        refine at_sub [(2, (.slice a_c (List.length c) n_c)), (6, (.pointer (some ⟨b1, 0, none⟩))), (7, (.pointer (some ⟨b2, 0, none⟩))), (8, (.int .i64 x6)), (9, (.int .u8 (rd c (Int.tmod (w64 (x6 + (w64 ((w64 (Int.tdiv x6 (List.length c : Int))) * 5)))) (List.length c : Int)))))] ⟨rfl, rfl, rfl, rfl, rfl, trivial⟩ ?_
        refine at_then ?_
        refine at_region_m [[], [0], [], [2], [2, 3], [0, 1, 2, 3, 4], [0, 1, 2, 3, 4, 5], [0, 1, 2, 3, 4, 5, 6]] [5, 7] [F, [(b1, Obj.cells #[(.int .i64 0), (.int .i64 0), (.slice none 0 0)] 24 (0, 0))], [(b2, Obj.cells #[(.int .i64 v1), (.int .i64 v2), (.slice a4 (List.length x5) n4)] 24 (0, 0))], H4] mix (by kernel_rfl) (by repeat first | exact pf_body | refine pf_then ?_ | refine pf_block ?_) (fun hg pf => ?_)
        refine atm_s T 0 hg pf (by kernel_rfl) (still_o [0, 0, 0, 0] rfl) rfl ?_
        refine atm_v 1 hg pf (by kernel_rfl) (still_o [0, 0, 0, 0] rfl) rfl rfl (g_load T rfl rfl rfl rfl (in_var (j := 2) rfl rfl)) ?_
        refine atm_s T 2 hg pf (by kernel_rfl) (still_o [0, 0, 0, 0] rfl) rfl ?_
        refine atm_one 3 (by kernel_rfl) ?_
        obtain ⟨v8, V9, Z3⟩ := bind_e Z3
        refine at_c (B := fun _ => []) [] rfl rfl rfl rfl has48 rfl rfl (ref1_Cost.c (rd c (Int.tmod (w64 (x6 + (w64 ((w64 (Int.tdiv x6 (List.length c : Int))) * 5)))) (List.length c : Int))) v8 _ V9) (fun _ => ?_)
        refine atm_next (still_o [0, 0, 0, 0] rfl) ?_
        refine atm_one 4 (by kernel_rfl) ?_
        refine at_bs (k := (Fl.int .u8)) T [v8] rfl rfl rfl rfl rfl rfl rfl rfl rfl (fun a6 H6 s6 => ?_)
        refine atm_next (still_o [0, 0, 0, 0] rfl) ?_
        refine atm_one 5 (by kernel_rfl) ?_
        obtain ⟨c10, Z3⟩ := chk_e Z3
        refine at_ap (k := (Fl.int .u8)) (xs := x5) T (g := 3) rfl rfl rfl rfl rfl rfl rfl rfl rfl rfl s4 (own_of s6 (j := 4) rfl) c10 rfl (fun a7 n7 H7 s7 => ?_)
        refine atm_next (still_l (by kernel_rfl)) ?_
        refine atm_s T 6 hg pf (by kernel_rfl) (still_l (by kernel_rfl)) rfl ?_
        refine atm_one 7 (by kernel_rfl) ?_
        refine at_st T 2 [(.int .i64 v1), (.int .i64 v2), (.slice a7 (List.length (x5 ++ [v8])) n7)] rfl rfl rfl rfl rfl rfl rfl rfl rfl rfl ?_
        refine atm_next (still_l (by kernel_rfl)) ?_
        refine atm_end (by kernel_rfl) ?_
        refine at_to [(2, (.slice a_c (List.length c) n_c)), (6, (.pointer (some ⟨b1, 0, none⟩))), (7, (.pointer (some ⟨b2, 0, none⟩))), (8, (.int .i64 x6))] [0, 0, 0, 0] [F, [(b1, Obj.cells #[(.int .i64 0), (.int .i64 0), (.slice none 0 0)] 24 (0, 0))], [(b2, Obj.cells #[(.int .i64 v1), (.int .i64 v2), (.slice a7 (List.length (x5 ++ [v8])) n7)] 24 (0, 0))], H7] ⟨rfl, rfl, rfl, rfl, trivial⟩ rfl ?_
        refine at_nb ?_
        refine at_then ?_
        refine at_region [0, 1, 2] rfl ?_
        iterate 3 refine at_s T rfl ?_
        refine at_end ?_
        refine at_sub [(2, (.slice a_c (List.length c) n_c)), (6, (.pointer (some ⟨b1, 0, none⟩))), (7, (.pointer (some ⟨b2, 0, none⟩))), (8, (.int .i64 (w64 (x6 + 1))))] ⟨rfl, rfl, rfl, rfl, trivial⟩ ?_
        refine at_then ?_
        exact at_roundL (k7, (x5 ++ [v8]), (w64 (x6 + 1)), a7, n7, H7) [0, 0, 0, 0] ⟨Z3, s7⟩ (Nat.lt_succ_self _) ⟨rfl, rfl, rfl, rfl, trivial⟩ rfl
      · replace Z3 := if_f (of_decide_eq_false c5) Z3
        refine at_skip ?_
        refine at_then ?_
        refine at_region_m [[], [0], [], [2], [2, 3], [0, 1, 2, 3, 4], [0, 1, 2, 3, 4, 5], [0, 1, 2, 3, 4, 5, 6]] [5, 7] [F, [(b1, Obj.cells #[(.int .i64 0), (.int .i64 0), (.slice none 0 0)] 24 (0, 0))], [(b2, Obj.cells #[(.int .i64 v1), (.int .i64 v2), (.slice a4 (List.length x5) n4)] 24 (0, 0))], H4] mix (by kernel_rfl) (by repeat first | exact pf_body | refine pf_then ?_ | refine pf_block ?_) (fun hg pf => ?_)
        refine atm_s T 0 hg pf (by kernel_rfl) (still_o [0, 0, 0, 0] rfl) rfl ?_
        refine atm_v 1 hg pf (by kernel_rfl) (still_o [0, 0, 0, 0] rfl) rfl rfl (g_load T rfl rfl rfl rfl (in_var (j := 2) rfl rfl)) ?_
        refine atm_s T 2 hg pf (by kernel_rfl) (still_o [0, 0, 0, 0] rfl) rfl ?_
        refine atm_one 3 (by kernel_rfl) ?_
        obtain ⟨v9, V11, Z3⟩ := bind_e Z3
        refine at_c (B := fun _ => []) [] rfl rfl rfl rfl has48 rfl rfl (ref1_Cost.c 1 v9 _ V11) (fun _ => ?_)
        refine atm_next (still_o [0, 0, 0, 0] rfl) ?_
        refine atm_one 4 (by kernel_rfl) ?_
        refine at_bs (k := (Fl.int .u8)) T [v9] rfl rfl rfl rfl rfl rfl rfl rfl rfl (fun a8 H8 s8 => ?_)
        refine atm_next (still_o [0, 0, 0, 0] rfl) ?_
        refine atm_one 5 (by kernel_rfl) ?_
        obtain ⟨c12, Z3⟩ := chk_e Z3
        refine at_ap (k := (Fl.int .u8)) (xs := x5) T (g := 3) rfl rfl rfl rfl rfl rfl rfl rfl rfl rfl s4 (own_of s8 (j := 4) rfl) c12 rfl (fun a9 n9 H9 s9 => ?_)
        refine atm_next (still_l (by kernel_rfl)) ?_
        refine atm_s T 6 hg pf (by kernel_rfl) (still_l (by kernel_rfl)) rfl ?_
        refine atm_one 7 (by kernel_rfl) ?_
        refine at_st T 2 [(.int .i64 v1), (.int .i64 v2), (.slice a9 (List.length (x5 ++ [v9])) n9)] rfl rfl rfl rfl rfl rfl rfl rfl rfl rfl ?_
        refine atm_next (still_l (by kernel_rfl)) ?_
        refine atm_end (by kernel_rfl) ?_
        refine at_to [(2, (.slice a_c (List.length c) n_c)), (6, (.pointer (some ⟨b1, 0, none⟩))), (7, (.pointer (some ⟨b2, 0, none⟩))), (8, (.int .i64 x6))] [0, 0, 0, 0] [F, [(b1, Obj.cells #[(.int .i64 0), (.int .i64 0), (.slice none 0 0)] 24 (0, 0))], [(b2, Obj.cells #[(.int .i64 v1), (.int .i64 v2), (.slice a9 (List.length (x5 ++ [v9])) n9)] 24 (0, 0))], H9] ⟨rfl, rfl, rfl, rfl, trivial⟩ rfl ?_
        refine at_nb ?_
        refine at_then ?_
        refine at_region [0, 1, 2] rfl ?_
        iterate 3 refine at_s T rfl ?_
        refine at_end ?_
        refine at_sub [(2, (.slice a_c (List.length c) n_c)), (6, (.pointer (some ⟨b1, 0, none⟩))), (7, (.pointer (some ⟨b2, 0, none⟩))), (8, (.int .i64 (w64 (x6 + 1))))] ⟨rfl, rfl, rfl, rfl, trivial⟩ ?_
        refine at_then ?_
        exact at_roundL (k7, (x5 ++ [v9]), (w64 (x6 + 1)), a9, n9, H9) [0, 0, 0, 0] ⟨Z3, s9⟩ (Nat.lt_succ_self _) ⟨rfl, rfl, rfl, rfl, trivial⟩ rfl
    · replace Z3 := if_f (of_decide_eq_false c4) Z3
      refine at_exit ?_
      refine at_xt ?_
      refine at_xt ?_
      refine at_xb ?_
      refine at_then ?_
      refine at_seq ?_
      refine at_region [0, 1] rfl ?_
      refine at_v rfl (g_loadA T (cs := [(.int .i64 v1), (.int .i64 v2), (.slice a4 (List.length x5) n4)]) rfl rfl rfl rfl rfl rfl (in_varA (j := 2) rfl rfl)) ?_
      refine at_cons (at_st T 1 [(.int .i64 v1), (.int .i64 v2), (.slice a4 (List.length x5) n4)] rfl rfl rfl rfl rfl rfl rfl rfl rfl rfl ?_)
      refine at_end ?_
      refine at_to [(6, (.pointer (some ⟨b1, 0, none⟩)))] [0, 0, 1] [F, [(b1, Obj.cells #[(.int .i64 v1), (.int .i64 v2), (.slice a4 (List.length x5) n4)] 24 (0, 0))], H4] ⟨rfl, trivial⟩ rfl ?_
      refine at_then ?_
      refine at_ret ?_
      obtain rfl := Option.some.inj Z3
      exact at_post (T := T) rfl (.aggv (j := 1) [(.int .i64 v1), (.int .i64 v2), (.slice a4 (List.length x5) n4)] rfl rfl rfl rfl rfl rfl rfl .nil) (fun w o => ⟨⟨(_, _), ⟨a4, n4, H4, s4, rfl, rfl⟩⟩, rfl, own_to [2, 0] rfl o⟩)

/-! ### herdsman/herdsmanref1.In: function 53 -/
def ref1_In.f (n : Int) (lo : Int) (hi : Int) : Option Bool := some ((decide (n ≥ lo)) && (decide (n ≤ hi)))
set_option maxHeartbeats 4000000 in
theorem ref1_In.c (n : Int) (lo : Int) (hi : Int) (r : Bool) (F : Hp) (H : ref1_In.f n lo hi = some r) :
    CallsL Try.prog 53 [(.int .i64 n), (.int .i64 lo), (.int .i64 hi)] [F] (fun _ : Unit => (.bool r)) (fun _ => [F]) := by
  unfold ref1_In.f at H
  refine calls_atL [(0, (.int .i64 n)), (1, (.int .i64 lo)), (2, (.int .i64 hi))] Try.func53 rfl rfl ⟨rfl, rfl, rfl, trivial⟩ (fun W => ?_)
  refine at_seq ?_
  refine at_region [0] rfl ?_
  refine at_s T rfl ?_
  refine at_end ?_
  refine at_sub [(0, (.int .i64 n)), (1, (.int .i64 lo)), (2, (.int .i64 hi))] ⟨rfl, rfl, rfl, trivial⟩ ?_
  refine at_then ?_
  refine at_seq ?_
  refine at_region [0, 1, 2, 3, 4, 5, 6, 7, 8] rfl ?_
  iterate 4 refine at_s T rfl ?_
  refine at_grp T [4, 5, 6, 7] (s := 10) (c := (decide (n ≥ lo))) [(14, (.bool ((decide (n ≥ lo)) && (decide (n ≤ hi)))))] rfl rfl rfl (fun c1 => ⟨(by rw [c1]; rfl), trivial⟩) (fun c1 => ⟨(by rw [c1]; rfl), trivial⟩) ?_
  refine at_s T rfl ?_
  refine at_end ?_
  refine at_sub [(6, (.bool ((decide (n ≥ lo)) && (decide (n ≤ hi)))))] ⟨rfl, trivial⟩ ?_
  refine at_then ?_
  refine at_ret ?_
  obtain rfl := Option.some.inj H
  exact at_post (T := T) rfl (.tmp rfl .nil) (fun w o => ⟨(), rfl, own_to [0] rfl o⟩)

/-! ### herdsman/herdsmanref1.May: function 30 -/
def ref1_May.f (w : Int) (h : Int) : Option Bool := ((ref1_In.f w 1 1024).bind fun v3 => if v3 = true then ((ref1_In.f h 1 1024).bind fun v4 => some v4) else (some false)).bind fun x1 => some x1
set_option maxHeartbeats 4000000 in
theorem ref1_May.c (w : Int) (h : Int) (r : Bool) (F : Hp) (H : ref1_May.f w h = some r) :
    CallsL Try.prog 30 [(.int .i64 w), (.int .i64 h)] [F] (fun _ : Unit => (.bool r)) (fun _ => [F]) := by
  unfold ref1_May.f at H
  refine calls_atL [(0, (.int .i64 w)), (1, (.int .i64 h))] Try.func30 rfl rfl ⟨rfl, rfl, trivial⟩ (fun W => ?_)
  refine at_seq ?_
  refine at_region [0] rfl ?_
  refine at_s T rfl ?_
  refine at_end ?_
  refine at_sub [(0, (.int .i64 w)), (1, (.int .i64 h))] ⟨rfl, rfl, trivial⟩ ?_
  refine at_then ?_
  obtain ⟨z2, Z1, H⟩ := bind_e H
  refine at_seq_mid (σ := Bool) (fun x1 => x1 = z2) (fun x1 => [(4, (.bool x1))]) (fun x1 => [F]) ?_ ?_
  · refine at_region [0, 1, 2, 3, 4, 5, 6] rfl ?_
    refine at_s T rfl ?_
    obtain ⟨v3, V2, Z1⟩ := bind_e Z1
    refine at_cons (at_c (B := fun _ => []) [] rfl rfl rfl rfl has53 rfl rfl (ref1_In.c w 1 1024 v3 _ V2) (fun _ => ?_))
    refine at_s T rfl ?_
    refine at_case (s := 7) rfl (fun c3 => ?_) (fun c3 => ?_)
    · replace Z1 := if_t c3 Z1
      refine at_s T rfl ?_
      obtain ⟨v4, V4, Z1⟩ := bind_e Z1
      refine at_cons (at_c (B := fun _ => []) [] rfl rfl rfl rfl has53 rfl rfl (ref1_In.c h 1 1024 v4 _ V4) (fun _ => ?_))
      iterate 2 refine at_s T rfl ?_
      refine at_end ?_
      refine at_sub [(4, (.bool v4))] ⟨rfl, trivial⟩ ?_
      refine at_then ?_
      obtain rfl := Option.some.inj Z1
      exact at_mid v4 [0] rfl ⟨rfl, trivial⟩ rfl
    · replace Z1 := if_f (bf c3) Z1
      iterate 4 refine at_s T rfl ?_
      refine at_end ?_
      refine at_sub [(4, (.bool false))] ⟨rfl, trivial⟩ ?_
      refine at_then ?_
      obtain rfl := Option.some.inj Z1
      exact at_mid false [0] rfl ⟨rfl, trivial⟩ rfl
  · rintro x1 rfl
    refine at_ret ?_
    obtain rfl := Option.some.inj H
    exact at_post (T := T) rfl (.tmp rfl .nil) (fun w o => ⟨(), rfl, own_to [0] rfl o⟩)

/-! ### herdsman/herdsmanref1.IsCell: function 17 -/
def ref1_IsCell.f (w : Int) (h : Int) (c : Int) : Option Bool := ((ref1_May.f w h).bind fun v3 => if v3 = true then ((ref1_In.f c 0 (w64 ((w64 (w * h)) - 1))).bind fun v4 => some v4) else (some false)).bind fun x1 => some x1
set_option maxHeartbeats 4000000 in
theorem ref1_IsCell.c (w : Int) (h : Int) (c : Int) (r : Bool) (F : Hp) (H : ref1_IsCell.f w h c = some r) :
    CallsL Try.prog 17 [(.int .i64 w), (.int .i64 h), (.int .i64 c)] [F] (fun _ : Unit => (.bool r)) (fun _ => [F]) := by
  unfold ref1_IsCell.f at H
  refine calls_atL [(0, (.int .i64 w)), (1, (.int .i64 h)), (2, (.int .i64 c))] Try.func17 rfl rfl ⟨rfl, rfl, rfl, trivial⟩ (fun W => ?_)
  refine at_seq ?_
  refine at_region [0] rfl ?_
  refine at_s T rfl ?_
  refine at_end ?_
  refine at_sub [(0, (.int .i64 w)), (1, (.int .i64 h)), (2, (.int .i64 c))] ⟨rfl, rfl, rfl, trivial⟩ ?_
  refine at_then ?_
  obtain ⟨z2, Z1, H⟩ := bind_e H
  refine at_seq_mid (σ := Bool) (fun x1 => x1 = z2) (fun x1 => [(6, (.bool x1))]) (fun x1 => [F]) ?_ ?_
  · refine at_region [0, 1, 2, 3, 4, 5, 6, 7, 8, 9, 10, 11] rfl ?_
    iterate 2 refine at_s T rfl ?_
    obtain ⟨v3, V2, Z1⟩ := bind_e Z1
    refine at_cons (at_c (B := fun _ => []) [] rfl rfl rfl rfl has30 rfl rfl (ref1_May.c w h v3 _ V2) (fun _ => ?_))
    refine at_s T rfl ?_
    refine at_case (s := 10) rfl (fun c3 => ?_) (fun c3 => ?_)
    · replace Z1 := if_t c3 Z1
      iterate 5 refine at_s T rfl ?_
      obtain ⟨v4, V4, Z1⟩ := bind_e Z1
      refine at_cons (at_c (B := fun _ => []) [] rfl rfl rfl rfl has53 rfl rfl (ref1_In.c c 0 (w64 ((w64 (w * h)) - 1)) v4 _ V4) (fun _ => ?_))
      iterate 2 refine at_s T rfl ?_
      refine at_end ?_
      refine at_sub [(6, (.bool v4))] ⟨rfl, trivial⟩ ?_
      refine at_then ?_
      obtain rfl := Option.some.inj Z1
      exact at_mid v4 [0] rfl ⟨rfl, trivial⟩ rfl
    · replace Z1 := if_f (bf c3) Z1
      iterate 8 refine at_s T rfl ?_
      refine at_end ?_
      refine at_sub [(6, (.bool false))] ⟨rfl, trivial⟩ ?_
      refine at_then ?_
      obtain rfl := Option.some.inj Z1
      exact at_mid false [0] rfl ⟨rfl, trivial⟩ rfl
  · rintro x1 rfl
    refine at_ret ?_
    obtain rfl := Option.some.inj H
    exact at_post (T := T) rfl (.tmp rfl .nil) (fun w o => ⟨(), rfl, own_to [0] rfl o⟩)

/-! ### herdsman/herdsmanref1.Step: function 36 -/
def ref1_Step.f (w : Int) (h : Int) (c : Int) (side : Int) : Option Int := ((ref1_IsCell.f w h c).bind fun v3 => if (!v3) = true then (some true) else ((ref1_In.f side 0 4).bind fun v4 => some (!v4))).bind fun x1 => if x1 = true then (some (-1)) else (if (¬ w = 0) then (if (¬ w = 0) then ((if (side == 0) = true then (some (w64 ((w64 (Int.tdiv c w)) - 1))) else (some (w64 (Int.tdiv c w)))).bind fun x5 => (if (side == 1) = true then (some (w64 ((Int.tmod c w) + 1))) else (some (Int.tmod c w))).bind fun x7 => (if (side == 2) = true then (some (w64 (x5 + 1))) else (some x5)).bind fun x9 => (if (side == 3) = true then (some (w64 (x7 - 1))) else (some x7)).bind fun x11 => ((ref1_In.f x11 0 (w64 (w - 1))).bind fun v15 => if (!v15) = true then (some true) else ((ref1_In.f x9 0 (w64 (h - 1))).bind fun v16 => some (!v16))).bind fun x13 => if x13 = true then (some (-1)) else (some (w64 ((w64 (x9 * w)) + x11)))) else none) else none)
set_option maxHeartbeats 4000000 in
theorem ref1_Step.c (w : Int) (h : Int) (c : Int) (side : Int) (r : Int) (F : Hp) (H : ref1_Step.f w h c side = some r) :
    CallsL Try.prog 36 [(.int .i64 w), (.int .i64 h), (.int .i64 c), (.int .i64 side)] [F] (fun _ : Unit => (.int .i64 r)) (fun _ => [F]) := by
  unfold ref1_Step.f at H
  refine calls_atL [(0, (.int .i64 w)), (1, (.int .i64 h)), (2, (.int .i64 c)), (3, (.int .i64 side))] Try.func36 rfl rfl ⟨rfl, rfl, rfl, rfl, trivial⟩ (fun W => ?_)
  refine at_seq ?_
  refine at_region [0] rfl ?_
  refine at_s T rfl ?_
  refine at_end ?_
  refine at_sub [(0, (.int .i64 w)), (1, (.int .i64 h)), (2, (.int .i64 c)), (3, (.int .i64 side))] ⟨rfl, rfl, rfl, rfl, trivial⟩ ?_
  refine at_then ?_
  refine at_seq ?_
  obtain ⟨z2, Z1, H⟩ := bind_e H
  refine at_seq_mid (σ := Bool) (fun x1 => x1 = z2) (fun x1 => [(0, (.int .i64 w)), (1, (.int .i64 h)), (2, (.int .i64 c)), (3, (.int .i64 side)), (20, (.bool x1))]) (fun x1 => [F]) ?_ ?_
  · refine at_region [0, 1, 2, 3, 4, 5, 6, 7, 8, 9] rfl ?_
    iterate 3 refine at_s T rfl ?_
    obtain ⟨v3, V2, Z1⟩ := bind_e Z1
    refine at_cons (at_c (B := fun _ => []) [] rfl rfl rfl rfl has17 rfl rfl (ref1_IsCell.c w h c v3 _ V2) (fun _ => ?_))
    iterate 2 refine at_s T rfl ?_
    refine at_case (s := 16) rfl (fun c3 => ?_) (fun c3 => ?_)
    · replace Z1 := if_t c3 Z1
      iterate 4 refine at_s T rfl ?_
      refine at_end ?_
      refine at_sub [(0, (.int .i64 w)), (1, (.int .i64 h)), (2, (.int .i64 c)), (3, (.int .i64 side)), (20, (.bool true))] ⟨rfl, rfl, rfl, rfl, rfl, trivial⟩ ?_
      refine at_then ?_
      obtain rfl := Option.some.inj Z1
      exact at_mid true [0] rfl ⟨rfl, rfl, rfl, rfl, rfl, trivial⟩ rfl
    · replace Z1 := if_f (bf c3) Z1
      refine at_s T rfl ?_
      obtain ⟨v4, V4, Z1⟩ := bind_e Z1
      refine at_cons (at_c (B := fun _ => []) [] rfl rfl rfl rfl has53 rfl rfl (ref1_In.c side 0 4 v4 _ V4) (fun _ => ?_))
      iterate 2 refine at_s T rfl ?_
      refine at_end ?_
      refine at_sub [(0, (.int .i64 w)), (1, (.int .i64 h)), (2, (.int .i64 c)), (3, (.int .i64 side)), (20, (.bool (!v4)))] ⟨rfl, rfl, rfl, rfl, rfl, trivial⟩ ?_
      refine at_then ?_
      obtain rfl := Option.some.inj Z1
      exact at_mid (!v4) [0] rfl ⟨rfl, rfl, rfl, rfl, rfl, trivial⟩ rfl
  · rintro x1 rfl
    refine at_cond rfl (fun c5 => ?_) (fun c5 => ?_)
    · replace H := if_t c5 H
      refine at_seq ?_
      refine at_region [0] rfl ?_
      refine at_s T rfl ?_
      refine at_end ?_
      refine at_sub [(8, (.int .i64 (-1)))] ⟨rfl, trivial⟩ ?_
      refine at_then ?_
      refine at_ret ?_
      refine at_rt ?_
      obtain rfl := Option.some.inj H
      exact at_post (T := T) rfl (.tmp rfl .nil) (fun w o => ⟨(), rfl, own_to [0] rfl o⟩)
    · replace H := if_f (bf c5) H
      refine at_skip ?_
      refine at_then ?_
      refine at_seq ?_
      refine at_region_q mix (by kernel_rfl) ?_
      iterate 2 refine atq_s T rfl ?_
      obtain ⟨c6, H⟩ := chk_e H
      refine atq_v rfl rfl rfl (g_rem rfl rfl rfl c6) ?_
      iterate 2 refine atq_s T rfl ?_
      obtain ⟨c7, H⟩ := chk_e H
      refine atq_v rfl rfl rfl (g_quo rfl rfl rfl c7) ?_
      iterate 2 refine atq_s T rfl ?_
      refine atq_end ?_
      refine at_sub [(0, (.int .i64 w)), (1, (.int .i64 h)), (3, (.int .i64 side)), (9, (.int .i64 (Int.tmod c w))), (10, (.int .i64 (w64 (Int.tdiv c w))))] ⟨rfl, rfl, rfl, rfl, rfl, trivial⟩ ?_
      refine at_then ?_
      obtain ⟨z6, Z8, H⟩ := bind_e H
      refine at_seq_mid (σ := Int) (fun x5 => x5 = z6) (fun x5 => [(0, (.int .i64 w)), (1, (.int .i64 h)), (3, (.int .i64 side)), (9, (.int .i64 (Int.tmod c w))), (10, (.int .i64 x5))]) (fun x5 => [F]) ?_ ?_
      · refine at_seq ?_
        refine at_region [0, 1] rfl ?_
        iterate 2 refine at_s T rfl ?_
        refine at_end ?_
        refine at_sub [(0, (.int .i64 w)), (1, (.int .i64 h)), (3, (.int .i64 side)), (9, (.int .i64 (Int.tmod c w))), (10, (.int .i64 (w64 (Int.tdiv c w)))), (28, (.bool (side == 0)))] ⟨rfl, rfl, rfl, rfl, rfl, rfl, trivial⟩ ?_
        refine at_then ?_
        refine at_cond rfl (fun c9 => ?_) (fun c9 => ?_)
        · replace Z8 := if_t c9 Z8
          refine at_region [0, 1, 2] rfl ?_
          iterate 3 refine at_s T rfl ?_
          refine at_end ?_
          refine at_sub [(0, (.int .i64 w)), (1, (.int .i64 h)), (3, (.int .i64 side)), (9, (.int .i64 (Int.tmod c w))), (10, (.int .i64 (w64 ((w64 (Int.tdiv c w)) - 1))))] ⟨rfl, rfl, rfl, rfl, rfl, trivial⟩ ?_
          refine at_then ?_
          obtain rfl := Option.some.inj Z8
          exact at_mid (w64 ((w64 (Int.tdiv c w)) - 1)) [0] rfl ⟨rfl, rfl, rfl, rfl, rfl, trivial⟩ rfl
        · replace Z8 := if_f (bf c9) Z8
          refine at_skip ?_
          refine at_then ?_
          obtain rfl := Option.some.inj Z8
          exact at_mid (w64 (Int.tdiv c w)) [0] rfl ⟨rfl, rfl, rfl, rfl, rfl, trivial⟩ rfl
      · rintro x5 rfl
        obtain ⟨z8, Z10, H⟩ := bind_e H
        refine at_seq_mid (σ := Int) (fun x7 => x7 = z8) (fun x7 => [(0, (.int .i64 w)), (1, (.int .i64 h)), (3, (.int .i64 side)), (9, (.int .i64 x7)), (10, (.int .i64 x5))]) (fun x7 => [F]) ?_ ?_
        · refine at_seq ?_
          refine at_region [0, 1] rfl ?_
          iterate 2 refine at_s T rfl ?_
          refine at_end ?_
          refine at_sub [(0, (.int .i64 w)), (1, (.int .i64 h)), (3, (.int .i64 side)), (9, (.int .i64 (Int.tmod c w))), (10, (.int .i64 x5)), (32, (.bool (side == 1)))] ⟨rfl, rfl, rfl, rfl, rfl, rfl, trivial⟩ ?_
          refine at_then ?_
          refine at_cond rfl (fun c11 => ?_) (fun c11 => ?_)
          · replace Z10 := if_t c11 Z10
            refine at_region [0, 1, 2] rfl ?_
            iterate 3 refine at_s T rfl ?_
            refine at_end ?_
            refine at_sub [(0, (.int .i64 w)), (1, (.int .i64 h)), (3, (.int .i64 side)), (9, (.int .i64 (w64 ((Int.tmod c w) + 1)))), (10, (.int .i64 x5))] ⟨rfl, rfl, rfl, rfl, rfl, trivial⟩ ?_
            refine at_then ?_
            obtain rfl := Option.some.inj Z10
            exact at_mid (w64 ((Int.tmod c w) + 1)) [0] rfl ⟨rfl, rfl, rfl, rfl, rfl, trivial⟩ rfl
          · replace Z10 := if_f (bf c11) Z10
            refine at_skip ?_
            refine at_then ?_
            obtain rfl := Option.some.inj Z10
            exact at_mid (Int.tmod c w) [0] rfl ⟨rfl, rfl, rfl, rfl, rfl, trivial⟩ rfl
        · rintro x7 rfl
          obtain ⟨z10, Z12, H⟩ := bind_e H
          refine at_seq_mid (σ := Int) (fun x9 => x9 = z10) (fun x9 => [(0, (.int .i64 w)), (1, (.int .i64 h)), (3, (.int .i64 side)), (9, (.int .i64 x7)), (10, (.int .i64 x9))]) (fun x9 => [F]) ?_ ?_
          · refine at_seq ?_
            refine at_region [0, 1] rfl ?_
            iterate 2 refine at_s T rfl ?_
            refine at_end ?_
            refine at_sub [(0, (.int .i64 w)), (1, (.int .i64 h)), (3, (.int .i64 side)), (9, (.int .i64 x7)), (10, (.int .i64 x5)), (36, (.bool (side == 2)))] ⟨rfl, rfl, rfl, rfl, rfl, rfl, trivial⟩ ?_
            refine at_then ?_
            refine at_cond rfl (fun c13 => ?_) (fun c13 => ?_)
            · replace Z12 := if_t c13 Z12
              refine at_region [0, 1, 2] rfl ?_
              iterate 3 refine at_s T rfl ?_
              refine at_end ?_
              refine at_sub [(0, (.int .i64 w)), (1, (.int .i64 h)), (3, (.int .i64 side)), (9, (.int .i64 x7)), (10, (.int .i64 (w64 (x5 + 1))))] ⟨rfl, rfl, rfl, rfl, rfl, trivial⟩ ?_
              refine at_then ?_
              obtain rfl := Option.some.inj Z12
              exact at_mid (w64 (x5 + 1)) [0] rfl ⟨rfl, rfl, rfl, rfl, rfl, trivial⟩ rfl
            · replace Z12 := if_f (bf c13) Z12
              refine at_skip ?_
              refine at_then ?_
              obtain rfl := Option.some.inj Z12
              exact at_mid x5 [0] rfl ⟨rfl, rfl, rfl, rfl, rfl, trivial⟩ rfl
          · rintro x9 rfl
            obtain ⟨z12, Z14, H⟩ := bind_e H
            refine at_seq_mid (σ := Int) (fun x11 => x11 = z12) (fun x11 => [(0, (.int .i64 w)), (1, (.int .i64 h)), (9, (.int .i64 x11)), (10, (.int .i64 x9))]) (fun x11 => [F]) ?_ ?_
            · refine at_seq ?_
              refine at_region [0, 1] rfl ?_
              iterate 2 refine at_s T rfl ?_
              refine at_end ?_
              refine at_sub [(0, (.int .i64 w)), (1, (.int .i64 h)), (9, (.int .i64 x7)), (10, (.int .i64 x9)), (40, (.bool (side == 3)))] ⟨rfl, rfl, rfl, rfl, rfl, trivial⟩ ?_
              refine at_then ?_
              refine at_cond rfl (fun c15 => ?_) (fun c15 => ?_)
              · replace Z14 := if_t c15 Z14
                refine at_region [0, 1, 2] rfl ?_
                iterate 3 refine at_s T rfl ?_
                refine at_end ?_
                refine at_sub [(0, (.int .i64 w)), (1, (.int .i64 h)), (9, (.int .i64 (w64 (x7 - 1)))), (10, (.int .i64 x9))] ⟨rfl, rfl, rfl, rfl, trivial⟩ ?_
                refine at_then ?_
                obtain rfl := Option.some.inj Z14
                exact at_mid (w64 (x7 - 1)) [0] rfl ⟨rfl, rfl, rfl, rfl, trivial⟩ rfl
              · replace Z14 := if_f (bf c15) Z14
                refine at_skip ?_
                refine at_then ?_
                obtain rfl := Option.some.inj Z14
                exact at_mid x7 [0] rfl ⟨rfl, rfl, rfl, rfl, trivial⟩ rfl
            · rintro x11 rfl
              refine at_seq ?_
              obtain ⟨z14, Z16, H⟩ := bind_e H
              refine at_seq_mid (σ := Bool) (fun x13 => x13 = z14) (fun x13 => [(0, (.int .i64 w)), (9, (.int .i64 x11)), (10, (.int .i64 x9)), (54, (.bool x13))]) (fun x13 => [F]) ?_ ?_
              · refine at_region [0, 1, 2, 3, 4, 5, 6, 7, 8, 9, 10, 11] rfl ?_
                iterate 3 refine at_s T rfl ?_
                obtain ⟨v15, V17, Z16⟩ := bind_e Z16
                refine at_cons (at_c (B := fun _ => []) [] rfl rfl rfl rfl has53 rfl rfl (ref1_In.c x11 0 (w64 (w - 1)) v15 _ V17) (fun _ => ?_))
                iterate 2 refine at_s T rfl ?_
                refine at_case (s := 48) rfl (fun c18 => ?_) (fun c18 => ?_)
                · replace Z16 := if_t c18 Z16
                  iterate 6 refine at_s T rfl ?_
                  refine at_end ?_
                  refine at_sub [(0, (.int .i64 w)), (9, (.int .i64 x11)), (10, (.int .i64 x9)), (54, (.bool true))] ⟨rfl, rfl, rfl, rfl, trivial⟩ ?_
                  refine at_then ?_
                  obtain rfl := Option.some.inj Z16
                  exact at_mid true [0] rfl ⟨rfl, rfl, rfl, rfl, trivial⟩ rfl
                · replace Z16 := if_f (bf c18) Z16
                  iterate 3 refine at_s T rfl ?_
                  obtain ⟨v16, V19, Z16⟩ := bind_e Z16
                  refine at_cons (at_c (B := fun _ => []) [] rfl rfl rfl rfl has53 rfl rfl (ref1_In.c x9 0 (w64 (h - 1)) v16 _ V19) (fun _ => ?_))
                  iterate 2 refine at_s T rfl ?_
                  refine at_end ?_
                  refine at_sub [(0, (.int .i64 w)), (9, (.int .i64 x11)), (10, (.int .i64 x9)), (54, (.bool (!v16)))] ⟨rfl, rfl, rfl, rfl, trivial⟩ ?_
                  refine at_then ?_
                  obtain rfl := Option.some.inj Z16
                  exact at_mid (!v16) [0] rfl ⟨rfl, rfl, rfl, rfl, trivial⟩ rfl
              · rintro x13 rfl
                refine at_cond rfl (fun c20 => ?_) (fun c20 => ?_)
                · replace H := if_t c20 H
                  refine at_seq ?_
                  refine at_region [0] rfl ?_
                  refine at_s T rfl ?_
                  refine at_end ?_
                  refine at_sub [(8, (.int .i64 (-1)))] ⟨rfl, trivial⟩ ?_
                  refine at_then ?_
                  refine at_ret ?_
                  refine at_rt ?_
                  obtain rfl := Option.some.inj H
                  exact at_post (T := T) rfl (.tmp rfl .nil) (fun w o => ⟨(), rfl, own_to [0] rfl o⟩)
                · replace H := if_f (bf c20) H
                  refine at_skip ?_
                  refine at_then ?_
                  refine at_seq ?_
                  refine at_region [0, 1, 2, 3, 4, 5] rfl ?_
                  iterate 6 refine at_s T rfl ?_
                  refine at_end ?_
                  refine at_sub [(8, (.int .i64 (w64 ((w64 (x9 * w)) + x11))))] ⟨rfl, trivial⟩ ?_
                  refine at_then ?_
                  refine at_ret ?_
                  obtain rfl := Option.some.inj H
                  exact at_post (T := T) rfl (.tmp rfl .nil) (fun w o => ⟨(), rfl, own_to [0] rfl o⟩)

/-! ### herdsman/herdsmanref1.full: function 82 -/
def ref1_full.l0 : Nat → (List Int) → Int → Option Bool
  | 0, _, _ => none
  | k3 + 1, c, x2 => if x2 < (List.length c : Int) then (if (0 ≤ x2 ∧ x2 < (List.length c : Int)) then (if ((rd c x2) == 0) = true then (some false) else (ref1_full.l0 k3 c (w64 (x2 + 1)))) else none) else (some true)
def ref1_full.f (c : (List Int)) : Option Bool := ref1_full.l0 fuel c 0
set_option maxHeartbeats 4000000 in
theorem ref1_full.c {a_c : Option Addr} {n_c : Nat} (c : (List Int)) (r : Bool) (F : Hp) (H : ref1_full.f c = some r) (h_c : SliceR (Fl.int .u8) c a_c F) (c_c : List.length c ≤ n_c) :
    CallsL Try.prog 82 [(.slice a_c (List.length c) n_c)] [F] (fun _ : Unit => (.bool r)) (fun _ => [F]) := by
  unfold ref1_full.f at H
  refine calls_atL [(0, (.slice a_c (List.length c) n_c))] Try.func82 rfl rfl ⟨rfl, trivial⟩ (fun W => ?_)
  refine at_seq ?_
  refine at_region [0] rfl ?_
  refine at_s T rfl ?_
  refine at_end ?_
  refine at_sub [(0, (.slice a_c (List.length c) n_c))] ⟨rfl, trivial⟩ ?_
  refine at_then ?_
  refine at_seq ?_
  refine at_seq ?_
  refine at_region [0] rfl ?_
  refine at_s T rfl ?_
  refine at_end ?_
  refine at_sub [(0, (.slice a_c (List.length c) n_c)), (3, (.int .i64 0))] ⟨rfl, rfl, trivial⟩ ?_
  refine at_then ?_
  refine at_block ?_
  refine at_loopL (σ := Nat × Int) (fun ⟨k3, x2⟩ => ref1_full.l0 k3 c x2 = some r) (fun ⟨k3, x2⟩ => [(0, (.slice a_c (List.length c) n_c)), (3, (.int .i64 x2))]) (fun ⟨k3, x2⟩ => [F]) (fun s => s.1) (fuel, 0) [0] H ⟨rfl, rfl, trivial⟩ rfl ?_
  rintro ⟨k3, x2⟩ Z1
  replace Z1 : ref1_full.l0 k3 c x2 = some r := Z1
  rcases k3 with _ | k3
  · rw [ref1_full.l0] at Z1; cases Z1
  · rw [ref1_full.l0] at Z1
    refine at_seq ?_
    refine at_seq ?_
    refine at_region [0, 1, 2, 3] rfl ?_
    iterate 4 refine at_s T rfl ?_
    refine at_end ?_
    refine at_sub [(0, (.slice a_c (List.length c) n_c)), (3, (.int .i64 x2)), (7, (.bool (decide (x2 < (List.length c : Int)))))] ⟨rfl, rfl, rfl, trivial⟩ ?_
    refine at_then ?_
    refine at_cond rfl (fun c2 => ?_) (fun c2 => ?_)
    · replace Z1 := if_t (of_decide_eq_true c2) Z1
      refine at_skip ?_
      refine at_then ?_
      refine at_seq ?_
      refine at_block ?_
      refine at_seq ?_
      refine at_region [0, 1, 2, 3, 4] rfl ?_
      iterate 2 refine at_s T rfl ?_
      obtain ⟨c3, Z1⟩ := chk_e Z1
      obtain ⟨q1, o1, e1⟩ := h_c.addr c3.1 c3.2
      refine at_v rfl (g_index T rfl rfl rfl rfl rfl e1 c3.1 c3.2) ?_
      refine at_v rfl (g_load T rfl rfl rfl rfl (in_elem1 (k := (Fl.int .u8)) (ro_of h_c (j := 0) rfl) e1 c3 0 rfl)) ?_
      refine at_s T rfl ?_
      refine at_end ?_
      refine at_sub [(0, (.slice a_c (List.length c) n_c)), (3, (.int .i64 x2)), (14, (.bool ((rd c x2) == 0)))] ⟨rfl, rfl, rfl, trivial⟩ ?_
      refine at_then ?_
      refine at_cond rfl (fun c4 => ?_) (fun c4 => ?_)
      · replace Z1 := if_t c4 Z1
        refine at_seq ?_
        refine at_region [0] rfl ?_
        refine at_s T rfl ?_
        refine at_end ?_
        refine at_sub [(2, (.bool false))] ⟨rfl, trivial⟩ ?_
        refine at_then ?_
        refine at_ret ?_
        refine at_rb ?_
        refine at_rt ?_
        refine at_rt ?_
        refine at_rb ?_
        refine at_rt ?_
        obtain rfl := Option.some.inj Z1
        exact at_post (T := T) rfl (.tmp rfl .nil) (fun w o => ⟨(), rfl, own_to [0] rfl o⟩)
      · replace Z1 := if_f (bf c4) Z1
        refine at_skip ?_
        refine at_nb ?_
        refine at_then ?_
        refine at_region [0, 1, 2] rfl ?_
        iterate 3 refine at_s T rfl ?_
        refine at_end ?_
        refine at_sub [(0, (.slice a_c (List.length c) n_c)), (3, (.int .i64 (w64 (x2 + 1))))] ⟨rfl, rfl, trivial⟩ ?_
        refine at_then ?_
        exact at_roundL (k3, (w64 (x2 + 1))) [0] Z1 (Nat.lt_succ_self _) ⟨rfl, rfl, trivial⟩ rfl
    · replace Z1 := if_f (of_decide_eq_false c2) Z1
      refine at_exit ?_
      refine at_xt ?_
      refine at_xt ?_
      refine at_xb ?_
      refine at_then ?_
      refine at_seq ?_
      refine at_region [0] rfl ?_
      refine at_s T rfl ?_
      refine at_end ?_
      refine at_sub [(2, (.bool true))] ⟨rfl, trivial⟩ ?_
      refine at_then ?_
      refine at_ret ?_
      obtain rfl := Option.some.inj Z1
      exact at_post (T := T) rfl (.tmp rfl .nil) (fun w o => ⟨(), rfl, own_to [0] rfl o⟩)

/-! ### herdsman/herdsmanref1.MayMap: function 70 -/
def ref1_MayMap.f (m : api_Map) : Option Bool := ((ref1_May.f m.W m.H).bind fun v3 => if v3 = true then (if ((List.length m.C : Int) == (w64 (m.W * m.H))) = true then ((ref1_full.f m.C).bind fun v4 => some v4) else (some false)) else (some false)).bind fun x1 => some x1
set_option maxHeartbeats 4000000 in
theorem ref1_MayMap.c {a_m_C : Option Addr} {n_m_C : Nat} (m : api_Map) (r : Bool) (F : Hp) (H : ref1_MayMap.f m = some r) (h_m_C : SliceR (Fl.int .u8) m.C a_m_C F) (c_m_C : List.length m.C ≤ n_m_C) :
    CallsL Try.prog 70 [(.agg #[(.int .i64 m.W), (.int .i64 m.H), (.slice a_m_C (List.length m.C) n_m_C)])] [F] (fun _ : Unit => (.bool r)) (fun _ => [F]) := by
  unfold ref1_MayMap.f at H
  refine calls_atL [(0, (.agg #[(.int .i64 m.W), (.int .i64 m.H), (.slice a_m_C (List.length m.C) n_m_C)]))] Try.func70 rfl rfl ⟨rfl, trivial⟩ (fun W => ?_)
  refine at_seq ?_
  refine at_region [0, 1] rfl ?_
  refine at_cons (at_bx T [(.int .i64 m.W), (.int .i64 m.H), (.slice a_m_C (List.length m.C) n_m_C)] rfl rfl rfl rfl (fun b1 => ?_))
  refine at_s T rfl ?_
  refine at_end ?_
  refine at_sub [(1, (.pointer (some ⟨b1, 0, none⟩)))] ⟨rfl, trivial⟩ ?_
  refine at_then ?_
  obtain ⟨z2, Z1, H⟩ := bind_e H
  refine at_seq_mid (σ := Bool) (fun x1 => x1 = z2) (fun x1 => [(2, (.bool x1))]) (fun x1 => [F]) ?_ ?_
  · refine at_region [0, 1, 2, 3, 4, 5, 6, 7, 8, 9, 10, 11, 12, 13, 14, 15, 16, 17, 18, 19, 20, 21] rfl ?_
    refine at_s T rfl ?_
    refine at_v rfl (g_load T rfl rfl rfl rfl (in_var (j := 1) rfl rfl)) ?_
    refine at_s T rfl ?_
    refine at_v rfl (g_load T rfl rfl rfl rfl (in_var (j := 1) rfl rfl)) ?_
    obtain ⟨v3, V2, Z1⟩ := bind_e Z1
    refine at_cons (at_c (B := fun _ => []) [] rfl rfl rfl rfl has30 rfl rfl (ref1_May.c m.W m.H v3 _ V2) (fun _ => ?_))
    refine at_s T rfl ?_
    refine at_case (s := 8) rfl (fun c3 => ?_) (fun c3 => ?_)
    · replace Z1 := if_t c3 Z1
      refine at_s T rfl ?_
      refine at_v rfl (g_load T rfl rfl rfl rfl (in_var (j := 1) rfl rfl)) ?_
      iterate 2 refine at_s T rfl ?_
      refine at_v rfl (g_load T rfl rfl rfl rfl (in_var (j := 1) rfl rfl)) ?_
      refine at_s T rfl ?_
      refine at_v rfl (g_load T rfl rfl rfl rfl (in_var (j := 1) rfl rfl)) ?_
      iterate 4 refine at_s T rfl ?_
      refine at_case (s := 19) rfl (fun c4 => ?_) (fun c4 => ?_)
      · replace Z1 := if_t c4 Z1
        refine at_s T rfl ?_
        refine at_v rfl (g_load T rfl rfl rfl rfl (in_var (j := 1) rfl rfl)) ?_
        obtain ⟨v4, V5, Z1⟩ := bind_e Z1
        refine at_cons (at_c (B := fun _ => []) [] rfl rfl rfl rfl has82 rfl rfl (ref1_full.c m.C v4 _ V5 (ro_of h_m_C (j := 0) rfl) c_m_C) (fun _ => ?_))
        iterate 2 refine at_s T rfl ?_
        refine at_end ?_
        refine at_to [(2, (.bool v4))] [0] [F] ⟨rfl, trivial⟩ rfl ?_
        refine at_then ?_
        obtain rfl := Option.some.inj Z1
        exact at_mid v4 [0] rfl ⟨rfl, trivial⟩ rfl
      · replace Z1 := if_f (bf c4) Z1
        iterate 5 refine at_s T rfl ?_
        refine at_end ?_
        refine at_to [(2, (.bool false))] [0] [F] ⟨rfl, trivial⟩ rfl ?_
        refine at_then ?_
        obtain rfl := Option.some.inj Z1
        exact at_mid false [0] rfl ⟨rfl, trivial⟩ rfl
    · replace Z1 := if_f (bf c3) Z1
      iterate 16 refine at_s T rfl ?_
      refine at_end ?_
      refine at_to [(2, (.bool false))] [0] [F] ⟨rfl, trivial⟩ rfl ?_
      refine at_then ?_
      obtain rfl := Option.some.inj Z1
      exact at_mid false [0] rfl ⟨rfl, trivial⟩ rfl
  · rintro x1 rfl
    refine at_ret ?_
    obtain rfl := Option.some.inj H
    exact at_post (T := T) rfl (.tmp rfl .nil) (fun w o => ⟨(), rfl, own_to [0] rfl o⟩)

/-! ### herdsman/herdsmanref1.Side: function 72 -/
def ref1_Side.l0 : Nat → Int → Int → Int → Int → Int → Option Int
  | 0, _, _, _, _, _ => none
  | k7 + 1, w, h, a, b, x6 => if x6 ≤ 4 then ((ref1_Step.f w h a x6).bind fun v8 => if (v8 == b) = true then (some x6) else (ref1_Side.l0 k7 w h a b (w64 (x6 + 1)))) else (some 5)
def ref1_Side.f (w : Int) (h : Int) (a : Int) (b : Int) : Option Int := ((ref1_IsCell.f w h a).bind fun v3 => if (!v3) = true then (some true) else ((ref1_IsCell.f w h b).bind fun v4 => some (!v4))).bind fun x1 => if x1 = true then (some 5) else (ref1_Side.l0 fuel w h a b 0)
set_option maxHeartbeats 4000000 in
theorem ref1_Side.c (w : Int) (h : Int) (a : Int) (b : Int) (r : Int) (F : Hp) (H : ref1_Side.f w h a b = some r) :
    CallsL Try.prog 72 [(.int .i64 w), (.int .i64 h), (.int .i64 a), (.int .i64 b)] [F] (fun _ : Unit => (.int .i64 r)) (fun _ => [F]) := by
  unfold ref1_Side.f at H
  refine calls_atL [(0, (.int .i64 w)), (1, (.int .i64 h)), (2, (.int .i64 a)), (3, (.int .i64 b))] Try.func72 rfl rfl ⟨rfl, rfl, rfl, rfl, trivial⟩ (fun W => ?_)
  refine at_seq ?_
  refine at_region [0] rfl ?_
  refine at_s T rfl ?_
  refine at_end ?_
  refine at_sub [(0, (.int .i64 w)), (1, (.int .i64 h)), (2, (.int .i64 a)), (3, (.int .i64 b))] ⟨rfl, rfl, rfl, rfl, trivial⟩ ?_
  refine at_then ?_
  refine at_seq ?_
  obtain ⟨z2, Z1, H⟩ := bind_e H
  refine at_seq_mid (σ := Bool) (fun x1 => x1 = z2) (fun x1 => [(0, (.int .i64 w)), (1, (.int .i64 h)), (2, (.int .i64 a)), (3, (.int .i64 b)), (21, (.bool x1))]) (fun x1 => [F]) ?_ ?_
  · refine at_region [0, 1, 2, 3, 4, 5, 6, 7, 8, 9, 10, 11] rfl ?_
    iterate 3 refine at_s T rfl ?_
    obtain ⟨v3, V2, Z1⟩ := bind_e Z1
    refine at_cons (at_c (B := fun _ => []) [] rfl rfl rfl rfl has17 rfl rfl (ref1_IsCell.c w h a v3 _ V2) (fun _ => ?_))
    iterate 2 refine at_s T rfl ?_
    refine at_case (s := 15) rfl (fun c3 => ?_) (fun c3 => ?_)
    · replace Z1 := if_t c3 Z1
      iterate 6 refine at_s T rfl ?_
      refine at_end ?_
      refine at_sub [(0, (.int .i64 w)), (1, (.int .i64 h)), (2, (.int .i64 a)), (3, (.int .i64 b)), (21, (.bool true))] ⟨rfl, rfl, rfl, rfl, rfl, trivial⟩ ?_
      refine at_then ?_
      obtain rfl := Option.some.inj Z1
      exact at_mid true [0] rfl ⟨rfl, rfl, rfl, rfl, rfl, trivial⟩ rfl
    · replace Z1 := if_f (bf c3) Z1
      iterate 3 refine at_s T rfl ?_
      obtain ⟨v4, V4, Z1⟩ := bind_e Z1
      refine at_cons (at_c (B := fun _ => []) [] rfl rfl rfl rfl has17 rfl rfl (ref1_IsCell.c w h b v4 _ V4) (fun _ => ?_))
      iterate 2 refine at_s T rfl ?_
      refine at_end ?_
      refine at_sub [(0, (.int .i64 w)), (1, (.int .i64 h)), (2, (.int .i64 a)), (3, (.int .i64 b)), (21, (.bool (!v4)))] ⟨rfl, rfl, rfl, rfl, rfl, trivial⟩ ?_
      refine at_then ?_
      obtain rfl := Option.some.inj Z1
      exact at_mid (!v4) [0] rfl ⟨rfl, rfl, rfl, rfl, rfl, trivial⟩ rfl
  · rintro x1 rfl
    refine at_cond rfl (fun c5 => ?_) (fun c5 => ?_)
    · replace H := if_t c5 H
      refine at_seq ?_
      refine at_region [0] rfl ?_
      refine at_s T rfl ?_
      refine at_end ?_
      refine at_sub [(8, (.int .i64 5))] ⟨rfl, trivial⟩ ?_
      refine at_then ?_
      refine at_ret ?_
      refine at_rt ?_
      obtain rfl := Option.some.inj H
      exact at_post (T := T) rfl (.tmp rfl .nil) (fun w o => ⟨(), rfl, own_to [0] rfl o⟩)
    · replace H := if_f (bf c5) H
      refine at_skip ?_
      refine at_then ?_
      refine at_seq ?_
      refine at_seq ?_
      refine at_region [0] rfl ?_
      refine at_s T rfl ?_
      refine at_end ?_
      refine at_sub [(0, (.int .i64 w)), (1, (.int .i64 h)), (2, (.int .i64 a)), (3, (.int .i64 b)), (9, (.int .i64 0))] ⟨rfl, rfl, rfl, rfl, rfl, trivial⟩ ?_
      refine at_then ?_
      refine at_block ?_
      refine at_loopL (σ := Nat × Int) (fun ⟨k7, x6⟩ => ref1_Side.l0 k7 w h a b x6 = some r) (fun ⟨k7, x6⟩ => [(0, (.int .i64 w)), (1, (.int .i64 h)), (2, (.int .i64 a)), (3, (.int .i64 b)), (9, (.int .i64 x6))]) (fun ⟨k7, x6⟩ => [F]) (fun s => s.1) (fuel, 0) [0] H ⟨rfl, rfl, rfl, rfl, rfl, trivial⟩ rfl ?_
      rintro ⟨k7, x6⟩ Z6
      replace Z6 : ref1_Side.l0 k7 w h a b x6 = some r := Z6
      rcases k7 with _ | k7
      · rw [ref1_Side.l0] at Z6; cases Z6
      · rw [ref1_Side.l0] at Z6
        refine at_seq ?_
        refine at_seq ?_
        refine at_region [0, 1] rfl ?_
        iterate 2 refine at_s T rfl ?_
        refine at_end ?_
        refine at_sub [(0, (.int .i64 w)), (1, (.int .i64 h)), (2, (.int .i64 a)), (3, (.int .i64 b)), (9, (.int .i64 x6)), (23, (.bool (decide (x6 ≤ 4))))] ⟨rfl, rfl, rfl, rfl, rfl, rfl, trivial⟩ ?_
        refine at_then ?_
        refine at_cond rfl (fun c7 => ?_) (fun c7 => ?_)
        · replace Z6 := if_t (of_decide_eq_true c7) Z6
          refine at_skip ?_
          refine at_then ?_
          refine at_seq ?_
          refine at_block ?_
          refine at_seq ?_
          refine at_region [0, 1, 2, 3, 4, 5, 6] rfl ?_
          iterate 4 refine at_s T rfl ?_
          obtain ⟨v8, V8, Z6⟩ := bind_e Z6
          refine at_cons (at_c (B := fun _ => []) [] rfl rfl rfl rfl has36 rfl rfl (ref1_Step.c w h a x6 v8 _ V8) (fun _ => ?_))
          iterate 2 refine at_s T rfl ?_
          refine at_end ?_
          refine at_sub [(0, (.int .i64 w)), (1, (.int .i64 h)), (2, (.int .i64 a)), (3, (.int .i64 b)), (9, (.int .i64 x6)), (32, (.bool (v8 == b)))] ⟨rfl, rfl, rfl, rfl, rfl, rfl, trivial⟩ ?_
          refine at_then ?_
          refine at_cond rfl (fun c9 => ?_) (fun c9 => ?_)
          · replace Z6 := if_t c9 Z6
            refine at_seq ?_
            refine at_region [0, 1] rfl ?_
            iterate 2 refine at_s T rfl ?_
            refine at_end ?_
            refine at_sub [(8, (.int .i64 x6))] ⟨rfl, trivial⟩ ?_
            refine at_then ?_
            refine at_ret ?_
            refine at_rb ?_
            refine at_rt ?_
            refine at_rt ?_
            refine at_rb ?_
            refine at_rt ?_
            obtain rfl := Option.some.inj Z6
            exact at_post (T := T) rfl (.tmp rfl .nil) (fun w o => ⟨(), rfl, own_to [0] rfl o⟩)
          · replace Z6 := if_f (bf c9) Z6
            refine at_skip ?_
            refine at_nb ?_
            refine at_then ?_
            refine at_region [0, 1, 2] rfl ?_
            iterate 3 refine at_s T rfl ?_
            refine at_end ?_
            refine at_sub [(0, (.int .i64 w)), (1, (.int .i64 h)), (2, (.int .i64 a)), (3, (.int .i64 b)), (9, (.int .i64 (w64 (x6 + 1))))] ⟨rfl, rfl, rfl, rfl, rfl, trivial⟩ ?_
            refine at_then ?_
            exact at_roundL (k7, (w64 (x6 + 1))) [0] Z6 (Nat.lt_succ_self _) ⟨rfl, rfl, rfl, rfl, rfl, trivial⟩ rfl
        · replace Z6 := if_f (of_decide_eq_false c7) Z6
          refine at_exit ?_
          refine at_xt ?_
          refine at_xt ?_
          refine at_xb ?_
          refine at_then ?_
          refine at_seq ?_
          refine at_region [0] rfl ?_
          refine at_s T rfl ?_
          refine at_end ?_
          refine at_sub [(8, (.int .i64 5))] ⟨rfl, trivial⟩ ?_
          refine at_then ?_
          refine at_ret ?_
          obtain rfl := Option.some.inj Z6
          exact at_post (T := T) rfl (.tmp rfl .nil) (fun w o => ⟨(), rfl, own_to [0] rfl o⟩)
end

end Go.Proofs.Yticdodeoljodiaa
