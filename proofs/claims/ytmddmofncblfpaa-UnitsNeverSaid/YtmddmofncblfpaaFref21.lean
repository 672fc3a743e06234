import Derived.Test.YtmddmofncblfpaaT
namespace Go.Proofs.Ytmddmofncblfpaa
open Go.Hx
set_option maxRecDepth 100000
set_option linter.unusedVariables false
/-! ### herdsman/herdsmanref21.Same: function 30 -/
def ref21_Same.l0 : Nat → (List api_Unit) → (List api_Unit) → Int → Option Bool
  | 0, _, _, _ => none
  | k3 + 1, a, b, x2 => if x2 < (List.length a : Int) then (if (0 ≤ x2 ∧ x2 < (List.length a : Int)) then (if (0 ≤ x2 ∧ x2 < (List.length b : Int)) then (if (!(((rd a x2).Id == (rd b x2).Id) && (((rd a x2).Cell == (rd b x2).Cell) && (((rd a x2).Goal == (rd b x2).Goal) && true)))) = true then (some false) else (ref21_Same.l0 k3 a b (w64 (x2 + 1)))) else none) else none) else (some true)
def ref21_Same.f (a : (List api_Unit)) (b : (List api_Unit)) : Option Bool := if ((List.length a : Int) != (List.length b : Int)) = true then (some false) else (ref21_Same.l0 fuel a b 0)
set_option maxHeartbeats 4000000 in
theorem ref21_Same.c {a_a : Option Addr} {n_a : Nat} {a_b : Option Addr} {n_b : Nat} (a : (List api_Unit)) (b : (List api_Unit)) (r : Bool) (F : Hp) (H : ref21_Same.f a b = some r) (h_a : SliceR k_api_Unit a a_a F) (c_a : List.length a ≤ n_a) (h_b : SliceR k_api_Unit b a_b F) (c_b : List.length b ≤ n_b) :
    CallsL Try.prog 30 [(.slice a_a (List.length a) n_a), (.slice a_b (List.length b) n_b)] [F] (fun _ : Unit => (.bool r)) (fun _ => [F]) := by
  unfold ref21_Same.f at H
  refine calls_atL [(0, (.slice a_a (List.length a) n_a)), (1, (.slice a_b (List.length b) n_b))] Try.func30 rfl rfl ⟨rfl, rfl, trivial⟩ (fun W => ?_)
  refine at_seq ?_
  refine at_region [0] rfl ?_
  refine at_s T rfl ?_
  refine at_end ?_
  refine at_sub [(0, (.slice a_a (List.length a) n_a)), (1, (.slice a_b (List.length b) n_b))] ⟨rfl, rfl, trivial⟩ ?_
  refine at_then ?_
  refine at_seq ?_
  refine at_seq ?_
  refine at_region [0, 1, 2, 3, 4] rfl ?_
  iterate 5 refine at_s T rfl ?_
  refine at_end ?_
  refine at_sub [(0, (.slice a_a (List.length a) n_a)), (1, (.slice a_b (List.length b) n_b)), (10, (.bool ((List.length a : Int) != (List.length b : Int))))] ⟨rfl, rfl, rfl, trivial⟩ ?_
  refine at_then ?_
  refine at_cond rfl (fun c1 => ?_) (fun c1 => ?_)
  · replace H := if_t c1 H
    refine at_seq ?_
    refine at_region [0] rfl ?_
    refine at_s T rfl ?_
    refine at_end ?_
    refine at_sub [(4, (.bool false))] ⟨rfl, trivial⟩ ?_
    refine at_then ?_
    refine at_ret ?_
    refine at_rt ?_
    obtain rfl := Option.some.inj H
    exact at_post (T := T) rfl (.tmp rfl .nil) (fun w o => ⟨(), rfl, own_to [0] rfl o⟩)
  · replace H := if_f (bf c1) H
    refine at_skip ?_
    refine at_then ?_
    refine at_seq ?_
    refine at_seq ?_
    refine at_region [0] rfl ?_
    refine at_s T rfl ?_
    refine at_end ?_
    refine at_sub [(0, (.slice a_a (List.length a) n_a)), (1, (.slice a_b (List.length b) n_b)), (5, (.int .i64 0))] ⟨rfl, rfl, rfl, trivial⟩ ?_
    refine at_then ?_
    refine at_block ?_
    refine at_loopL (σ := Nat × Int) (fun ⟨k3, x2⟩ => ref21_Same.l0 k3 a b x2 = some r) (fun ⟨k3, x2⟩ => [(0, (.slice a_a (List.length a) n_a)), (1, (.slice a_b (List.length b) n_b)), (5, (.int .i64 x2))]) (fun ⟨k3, x2⟩ => [F]) (fun s => s.1) (fuel, 0) [0] H ⟨rfl, rfl, rfl, trivial⟩ rfl ?_
    rintro ⟨k3, x2⟩ Z2
    replace Z2 : ref21_Same.l0 k3 a b x2 = some r := Z2
    rcases k3 with _ | k3
    · rw [ref21_Same.l0] at Z2; cases Z2
    · rw [ref21_Same.l0] at Z2
      refine at_seq ?_
      refine at_seq ?_
      refine at_region [0, 1, 2, 3] rfl ?_
      iterate 4 refine at_s T rfl ?_
      refine at_end ?_
      refine at_sub [(0, (.slice a_a (List.length a) n_a)), (1, (.slice a_b (List.length b) n_b)), (5, (.int .i64 x2)), (14, (.bool (decide (x2 < (List.length a : Int)))))] ⟨rfl, rfl, rfl, rfl, trivial⟩ ?_
      refine at_then ?_
      refine at_cond rfl (fun c3 => ?_) (fun c3 => ?_)
      · replace Z2 := if_t (of_decide_eq_true c3) Z2
        refine at_skip ?_
        refine at_then ?_
        refine at_seq ?_
        refine at_block ?_
        refine at_seq ?_
        refine at_region_q mix (by kernel_rfl) ?_
        iterate 2 refine atq_s T rfl ?_
        obtain ⟨c4, Z2⟩ := chk_e Z2
        obtain ⟨q1, o1, e1⟩ := h_a.addr c4.1 c4.2
        refine atq_v rfl rfl rfl (g_index T rfl rfl rfl rfl rfl e1 c4.1 c4.2) ?_
        refine atq_v rfl rfl rfl (g_loadA T (cs := [(.int .i64 (rd a x2).Id), (.int .i64 (rd a x2).Cell), (.int .i64 (rd a x2).Goal)]) rfl rfl rfl rfl rfl rfl (in_elemA (k := k_api_Unit) (ro_of h_a (j := 0) rfl) e1 c4 rfl)) ?_
        iterate 2 refine atq_s T rfl ?_
        obtain ⟨c5, Z2⟩ := chk_e Z2
        obtain ⟨q2, o2, e2⟩ := h_b.addr c5.1 c5.2
        refine atq_v rfl rfl rfl (g_index T rfl rfl rfl rfl rfl e2 c5.1 c5.2) ?_
        refine atq_v rfl rfl rfl (g_loadA T (cs := [(.int .i64 (rd b x2).Id), (.int .i64 (rd b x2).Cell), (.int .i64 (rd b x2).Goal)]) rfl rfl rfl rfl rfl rfl (in_elemA (k := k_api_Unit) (ro_of h_b (j := 0) rfl) e2 c5 rfl)) ?_
        refine atq_v rfl rfl rfl (g_aeqn T (((rd a x2).Id == (rd b x2).Id) && (((rd a x2).Cell == (rd b x2).Cell) && (((rd a x2).Goal == (rd b x2).Goal) && true))) rfl rfl rfl rfl sq47 (by kernel_rfl) rfl) ?_
        refine atq_end ?_
        refine at_sub [(0, (.slice a_a (List.length a) n_a)), (1, (.slice a_b (List.length b) n_b)), (5, (.int .i64 x2)), (25, (.bool (!(((rd a x2).Id == (rd b x2).Id) && (((rd a x2).Cell == (rd b x2).Cell) && (((rd a x2).Goal == (rd b x2).Goal) && true))))))] ⟨rfl, rfl, rfl, rfl, trivial⟩ ?_
        refine at_then ?_
        refine at_cond rfl (fun c6 => ?_) (fun c6 => ?_)
        · replace Z2 := if_t c6 Z2
          refine at_seq ?_
          refine at_region [0] rfl ?_
          refine at_s T rfl ?_
          refine at_end ?_
          refine at_sub [(4, (.bool false))] ⟨rfl, trivial⟩ ?_
          refine at_then ?_
          refine at_ret ?_
          refine at_rb ?_
          refine at_rt ?_
          refine at_rt ?_
          refine at_rb ?_
          refine at_rt ?_
          obtain rfl := Option.some.inj Z2
          exact at_post (T := T) rfl (.tmp rfl .nil) (fun w o => ⟨(), rfl, own_to [0] rfl o⟩)
        · replace Z2 := if_f (bf c6) Z2
          refine at_skip ?_
          refine at_nb ?_
          refine at_then ?_
          refine at_region [0, 1, 2] rfl ?_
          iterate 3 refine at_s T rfl ?_
          refine at_end ?_
          refine at_sub [(0, (.slice a_a (List.length a) n_a)), (1, (.slice a_b (List.length b) n_b)), (5, (.int .i64 (w64 (x2 + 1))))] ⟨rfl, rfl, rfl, trivial⟩ ?_
          refine at_then ?_
          exact at_roundL (k3, (w64 (x2 + 1))) [0] Z2 (Nat.lt_succ_self _) ⟨rfl, rfl, rfl, trivial⟩ rfl
      · replace Z2 := if_f (of_decide_eq_false c3) Z2
        refine at_exit ?_
        refine at_xt ?_
        refine at_xt ?_
        refine at_xb ?_
        refine at_then ?_
        refine at_seq ?_
        refine at_region [0] rfl ?_
        refine at_s T rfl ?_
        refine at_end ?_
        refine at_sub [(4, (.bool true))] ⟨rfl, trivial⟩ ?_
        refine at_then ?_
        refine at_ret ?_
        obtain rfl := Option.some.inj Z2
        exact at_post (T := T) rfl (.tmp rfl .nil) (fun w o => ⟨(), rfl, own_to [0] rfl o⟩)

/-! ### (*herdsman/herdsmanref21.Units).at: function 56 -/
def ref21_Units_at.l0 : Nat → herdsmanref21_Units → Int → Int → Option Int
  | 0, _, _, _ => none
  | k3 + 1, u, id, x2 => if x2 < (List.length u.L : Int) then (if (0 ≤ x2 ∧ x2 < (List.length u.L : Int)) then (if ((rd u.L x2).Id == id) = true then (some x2) else (ref21_Units_at.l0 k3 u id (w64 (x2 + 1)))) else none) else (some (-1))
def ref21_Units_at.f (u : herdsmanref21_Units) (id : Int) : Option Int := ref21_Units_at.l0 fuel u id 0
set_option maxHeartbeats 4000000 in
theorem ref21_Units_at.c {b_u : Nat} {a_u_L : Option Addr} {n_u_L : Nat} {H_u_L : Hp} (u : herdsmanref21_Units) (id : Int) (r : Int) (F : Hp) (H : ref21_Units_at.f u id = some r) (s_u_L : SliceO k_api_Unit 47 u.L a_u_L n_u_L H_u_L) :
    CallsL Try.prog 56 [(.pointer (some ⟨b_u, 0, none⟩)), (.int .i64 id)] [[(b_u, Obj.cells #[(.int .i64 u.Most), (.int .i64 u.Next), (.slice a_u_L (List.length u.L) n_u_L)] 53 (0, 0))], H_u_L, F] (fun _ : Unit => (.int .i64 r)) (fun _ => [[(b_u, Obj.cells #[(.int .i64 u.Most), (.int .i64 u.Next), (.slice a_u_L (List.length u.L) n_u_L)] 53 (0, 0))], H_u_L] ++ [F]) := by
  unfold ref21_Units_at.f at H
  refine calls_atL [(0, (.pointer (some ⟨b_u, 0, none⟩))), (1, (.int .i64 id))] Try.func56 rfl rfl ⟨rfl, rfl, trivial⟩ (fun W => ?_)
  refine at_seq ?_
  refine at_region [0] rfl ?_
  refine at_s T rfl ?_
  refine at_end ?_
  refine at_sub [(0, (.pointer (some ⟨b_u, 0, none⟩))), (1, (.int .i64 id))] ⟨rfl, rfl, trivial⟩ ?_
  refine at_then ?_
  refine at_seq ?_
  refine at_seq ?_
  refine at_region [0] rfl ?_
  refine at_s T rfl ?_
  refine at_end ?_
  refine at_sub [(0, (.pointer (some ⟨b_u, 0, none⟩))), (1, (.int .i64 id)), (5, (.int .i64 0))] ⟨rfl, rfl, rfl, trivial⟩ ?_
  refine at_then ?_
  refine at_block ?_
  refine at_loopL (σ := Nat × Int) (fun ⟨k3, x2⟩ => ref21_Units_at.l0 k3 u id x2 = some r) (fun ⟨k3, x2⟩ => [(0, (.pointer (some ⟨b_u, 0, none⟩))), (1, (.int .i64 id)), (5, (.int .i64 x2))]) (fun ⟨k3, x2⟩ => [F, [(b_u, Obj.cells #[(.int .i64 u.Most), (.int .i64 u.Next), (.slice a_u_L (List.length u.L) n_u_L)] 53 (0, 0))], H_u_L]) (fun s => s.1) (fuel, 0) [2, 0, 0] H ⟨rfl, rfl, rfl, trivial⟩ rfl ?_
  rintro ⟨k3, x2⟩ Z1
  replace Z1 : ref21_Units_at.l0 k3 u id x2 = some r := Z1
  rcases k3 with _ | k3
  · rw [ref21_Units_at.l0] at Z1; cases Z1
  · rw [ref21_Units_at.l0] at Z1
    refine at_seq ?_
    refine at_seq ?_
    refine at_region [0, 1, 2, 3, 4, 5, 6] rfl ?_
    iterate 4 refine at_s T rfl ?_
    refine at_v rfl (g_load T rfl rfl rfl rfl (in_var (j := 1) rfl rfl)) ?_
    iterate 2 refine at_s T rfl ?_
    refine at_end ?_
    refine at_sub [(0, (.pointer (some ⟨b_u, 0, none⟩))), (1, (.int .i64 id)), (5, (.int .i64 x2)), (12, (.bool (decide (x2 < (List.length u.L : Int)))))] ⟨rfl, rfl, rfl, rfl, trivial⟩ ?_
    refine at_then ?_
    refine at_cond rfl (fun c2 => ?_) (fun c2 => ?_)
    · replace Z1 := if_t (of_decide_eq_true c2) Z1
      refine at_skip ?_
      refine at_then ?_
      refine at_seq ?_
      refine at_block ?_
      refine at_seq ?_
      refine at_region [0, 1, 2, 3, 4, 5, 6, 7, 8, 9] rfl ?_
      iterate 3 refine at_s T rfl ?_
      refine at_v rfl (g_load T rfl rfl rfl rfl (in_var (j := 1) rfl rfl)) ?_
      refine at_s T rfl ?_
      obtain ⟨c3, Z1⟩ := chk_e Z1
      obtain ⟨q3, o3, e3⟩ := s_u_L.r.addr c3.1 c3.2
      refine at_v rfl (g_index T rfl rfl rfl rfl rfl e3 c3.1 c3.2) ?_
      refine at_s T rfl ?_
      refine at_v rfl (g_load T rfl rfl rfl rfl (in_elem1 (k := k_api_Unit) (own_of s_u_L (j := 2) rfl) e3 c3 0 rfl)) ?_
      iterate 2 refine at_s T rfl ?_
      refine at_end ?_
      refine at_sub [(0, (.pointer (some ⟨b_u, 0, none⟩))), (1, (.int .i64 id)), (5, (.int .i64 x2)), (24, (.bool ((rd u.L x2).Id == id)))] ⟨rfl, rfl, rfl, rfl, trivial⟩ ?_
      refine at_then ?_
      refine at_cond rfl (fun c4 => ?_) (fun c4 => ?_)
      · replace Z1 := if_t c4 Z1
        refine at_seq ?_
        refine at_region [0, 1] rfl ?_
        iterate 2 refine at_s T rfl ?_
        refine at_end ?_
        refine at_sub [(4, (.int .i64 x2))] ⟨rfl, trivial⟩ ?_
        refine at_then ?_
        refine at_ret ?_
        refine at_rb ?_
        refine at_rt ?_
        refine at_rt ?_
        refine at_rb ?_
        refine at_rt ?_
        obtain rfl := Option.some.inj Z1
        exact at_post (T := T) rfl (.tmp rfl .nil) (fun w o => ⟨(), rfl, own_to [1, 1, 0] rfl o⟩)
      · replace Z1 := if_f (bf c4) Z1
        refine at_skip ?_
        refine at_nb ?_
        refine at_then ?_
        refine at_region [0, 1, 2] rfl ?_
        iterate 3 refine at_s T rfl ?_
        refine at_end ?_
        refine at_sub [(0, (.pointer (some ⟨b_u, 0, none⟩))), (1, (.int .i64 id)), (5, (.int .i64 (w64 (x2 + 1))))] ⟨rfl, rfl, rfl, trivial⟩ ?_
        refine at_then ?_
        exact at_roundL (k3, (w64 (x2 + 1))) [0, 0, 0] Z1 (Nat.lt_succ_self _) ⟨rfl, rfl, rfl, trivial⟩ rfl
    · replace Z1 := if_f (of_decide_eq_false c2) Z1
      refine at_exit ?_
      refine at_xt ?_
      refine at_xt ?_
      refine at_xb ?_
      refine at_then ?_
      refine at_seq ?_
      refine at_region [0] rfl ?_
      refine at_s T rfl ?_
      refine at_end ?_
      refine at_sub [(4, (.int .i64 (-1)))] ⟨rfl, trivial⟩ ?_
      refine at_then ?_
      refine at_ret ?_
      obtain rfl := Option.some.inj Z1
      exact at_post (T := T) rfl (.tmp rfl .nil) (fun w o => ⟨(), rfl, own_to [1, 1, 0] rfl o⟩)

/-! ### (*herdsman/herdsmanref21.Units).Get: function 31 -/
def ref21_Units_Get.f (u : herdsmanref21_Units) (id : Int) : Option (api_Unit × Bool) := (ref21_Units_at.f u id).bind fun v1 => if v1 < 0 then (some ((api_Unit.mk 0 0 0), false)) else (if (0 ≤ v1 ∧ v1 < (List.length u.L : Int)) then (some ((rd u.L v1), true)) else none)
set_option maxHeartbeats 4000000 in
theorem ref21_Units_Get.c {b_u : Nat} {a_u_L : Option Addr} {n_u_L : Nat} {H_u_L : Hp} (u : herdsmanref21_Units) (id : Int) (r : (api_Unit × Bool)) (F : Hp) (H : ref21_Units_Get.f u id = some r) (s_u_L : SliceO k_api_Unit 47 u.L a_u_L n_u_L H_u_L) :
    CallsL Try.prog 31 [(.pointer (some ⟨b_u, 0, none⟩)), (.int .i64 id)] [[(b_u, Obj.cells #[(.int .i64 u.Most), (.int .i64 u.Next), (.slice a_u_L (List.length u.L) n_u_L)] 53 (0, 0))], H_u_L, F] (fun _ : Unit => (.tuple #[(.agg #[(.int .i64 r.1.Id), (.int .i64 r.1.Cell), (.int .i64 r.1.Goal)]), (.bool r.2)])) (fun _ => [[(b_u, Obj.cells #[(.int .i64 u.Most), (.int .i64 u.Next), (.slice a_u_L (List.length u.L) n_u_L)] 53 (0, 0))], H_u_L] ++ [F]) := by
  unfold ref21_Units_Get.f at H
  refine calls_atL [(0, (.pointer (some ⟨b_u, 0, none⟩))), (1, (.int .i64 id))] Try.func31 rfl rfl ⟨rfl, rfl, trivial⟩ (fun W => ?_)
  refine at_seq ?_
  refine at_region [0, 1] rfl ?_
  refine at_cons (at_al T [(.int .i64 0), (.int .i64 0), (.int .i64 0)] rfl rfl rfl rfl (fun b3 => ?_))
  refine at_s T rfl ?_
  refine at_end ?_
  refine at_sub [(0, (.pointer (some ⟨b_u, 0, none⟩))), (1, (.int .i64 id)), (4, (.pointer (some ⟨b3, 0, none⟩)))] ⟨rfl, rfl, rfl, trivial⟩ ?_
  refine at_then ?_
  refine at_seq ?_
  refine at_region [0, 1, 2, 3] rfl ?_
  iterate 2 refine at_s T rfl ?_
  obtain ⟨v1, V1, H⟩ := bind_e H
  refine at_cons (at_c (As := [[(b_u, Obj.cells #[(.int .i64 u.Most), (.int .i64 u.Next), (.slice a_u_L (List.length u.L) n_u_L)] 53 (0, 0))], H_u_L]) (R := [F, [(b3, Obj.cells #[(.int .i64 0), (.int .i64 0), (.int .i64 0)] 47 (0, 0))]]) (B := fun _ => [[(b_u, Obj.cells #[(.int .i64 u.Most), (.int .i64 u.Next), (.slice a_u_L (List.length u.L) n_u_L)] 53 (0, 0))], H_u_L]) [0, 0] rfl rfl rfl rfl has56 rfl rfl (ref21_Units_at.c u id v1 _ V1 s_u_L) (fun _ => ?_))
  refine at_s T rfl ?_
  refine at_end ?_
  refine at_sub [(0, (.pointer (some ⟨b_u, 0, none⟩))), (4, (.pointer (some ⟨b3, 0, none⟩))), (6, (.int .i64 v1))] ⟨rfl, rfl, rfl, trivial⟩ ?_
  refine at_then ?_
  refine at_seq ?_
  refine at_seq ?_
  refine at_region [0, 1] rfl ?_
  iterate 2 refine at_s T rfl ?_
  refine at_end ?_
  refine at_sub [(0, (.pointer (some ⟨b_u, 0, none⟩))), (4, (.pointer (some ⟨b3, 0, none⟩))), (6, (.int .i64 v1)), (11, (.bool (decide (v1 < 0))))] ⟨rfl, rfl, rfl, rfl, trivial⟩ ?_
  refine at_then ?_
  refine at_cond rfl (fun c2 => ?_) (fun c2 => ?_)
  · replace H := if_t (of_decide_eq_true c2) H
    refine at_seq ?_
    refine at_region [0, 1, 2] rfl ?_
    refine at_s T rfl ?_
    refine at_cons (at_st T 1 [(.int .i64 0), (.int .i64 0), (.int .i64 0)] rfl rfl rfl rfl rfl rfl rfl rfl rfl rfl ?_)
    refine at_s T rfl ?_
    refine at_end ?_
    refine at_sub [(4, (.pointer (some ⟨b3, 0, none⟩))), (5, (.bool false))] ⟨rfl, rfl, trivial⟩ ?_
    refine at_then ?_
    refine at_ret ?_
    refine at_rt ?_
    obtain rfl := Option.some.inj H
    exact at_post (T := T) rfl (.aggv (j := 1) [(.int .i64 0), (.int .i64 0), (.int .i64 0)] rfl rfl rfl rfl rfl rfl rfl (.tmp rfl .nil)) (fun w o => ⟨(), rfl, own_to [2, 2, 0] rfl o⟩)
  · replace H := if_f (of_decide_eq_false c2) H
    refine at_skip ?_
    refine at_then ?_
    refine at_seq ?_
    refine at_region [0, 1, 2, 3, 4, 5, 6, 7, 8] rfl ?_
    iterate 3 refine at_s T rfl ?_
    refine at_v rfl (g_load T rfl rfl rfl rfl (in_var (j := 2) rfl rfl)) ?_
    refine at_s T rfl ?_
    obtain ⟨c3, H⟩ := chk_e H
    obtain ⟨q4, o4, e4⟩ := s_u_L.r.addr c3.1 c3.2
    refine at_v rfl (g_index T rfl rfl rfl rfl rfl e4 c3.1 c3.2) ?_
    refine at_v rfl (g_loadA T (cs := [(.int .i64 (rd u.L v1).Id), (.int .i64 (rd u.L v1).Cell), (.int .i64 (rd u.L v1).Goal)]) rfl rfl rfl rfl rfl rfl (in_elemA (k := k_api_Unit) (own_of s_u_L (j := 3) rfl) e4 c3 rfl)) ?_
    refine at_cons (at_st T 1 [(.int .i64 (rd u.L v1).Id), (.int .i64 (rd u.L v1).Cell), (.int .i64 (rd u.L v1).Goal)] rfl rfl rfl rfl rfl rfl rfl rfl rfl rfl ?_)
    refine at_s T rfl ?_
    refine at_end ?_
    refine at_sub [(4, (.pointer (some ⟨b3, 0, none⟩))), (5, (.bool true))] ⟨rfl, rfl, trivial⟩ ?_
    refine at_then ?_
    refine at_ret ?_
    obtain rfl := Option.some.inj H
    exact at_post (T := T) rfl (.aggv (j := 1) [(.int .i64 (rd u.L v1).Id), (.int .i64 (rd u.L v1).Cell), (.int .i64 (rd u.L v1).Goal)] rfl rfl rfl rfl rfl rfl rfl (.tmp rfl .nil)) (fun w o => ⟨(), rfl, own_to [2, 2, 0] rfl o⟩)

/-! ### (*herdsman/herdsmanref21.Units).Set: function 32 -/
def ref21_Units_Set.f (u : herdsmanref21_Units) (x : api_Unit) : Option (Bool × herdsmanref21_Units) := (ref21_Units_at.f u x.Id).bind fun v1 => if v1 < 0 then (some (false, u)) else (if (List.length ([] : List api_Unit) + List.length u.L ≤ 1099511627776) then (if (0 ≤ v1 ∧ v1 < (List.length (([] : List api_Unit) ++ u.L) : Int)) then (some (true, (herdsmanref21_Units.mk u.Most u.Next (List.set (([] : List api_Unit) ++ u.L) (Int.toNat v1) x)))) else none) else none)
def ref21_Units_Set.R (b_u : Nat) (r : (Bool × herdsmanref21_Units)) (u : Value) (G : List Hp) : Prop := ∃ (a0 : Option Addr) (n0 : Nat) (H0 : Hp), SliceO k_api_Unit 47 r.2.L a0 n0 H0 ∧ u = (.bool r.1) ∧ G = [[(b_u, Obj.cells #[(.int .i64 r.2.Most), (.int .i64 r.2.Next), (.slice a0 (List.length r.2.L) n0)] 53 (0, 0))], H0]
set_option maxHeartbeats 4000000 in
theorem ref21_Units_Set.c {b_u : Nat} {a_u_L : Option Addr} {n_u_L : Nat} {H_u_L : Hp} (u : herdsmanref21_Units) (x : api_Unit) (r : (Bool × herdsmanref21_Units)) (F : Hp) (H : ref21_Units_Set.f u x = some r) (s_u_L : SliceO k_api_Unit 47 u.L a_u_L n_u_L H_u_L) :
    CallsL Try.prog 32 [(.pointer (some ⟨b_u, 0, none⟩)), (.agg #[(.int .i64 x.Id), (.int .i64 x.Cell), (.int .i64 x.Goal)])] [[(b_u, Obj.cells #[(.int .i64 u.Most), (.int .i64 u.Next), (.slice a_u_L (List.length u.L) n_u_L)] 53 (0, 0))], H_u_L, F] (fun p : { p : Value × List Hp // ref21_Units_Set.R b_u r p.1 p.2 } => p.1.1) (fun p => (p.1.2 ++ []) ++ [F]) := by
  unfold ref21_Units_Set.f at H
  refine calls_atL [(0, (.pointer (some ⟨b_u, 0, none⟩))), (1, (.agg #[(.int .i64 x.Id), (.int .i64 x.Cell), (.int .i64 x.Goal)]))] Try.func32 rfl rfl ⟨rfl, rfl, trivial⟩ (fun W => ?_)
  refine at_seq ?_
  refine at_region [0, 1] rfl ?_
  refine at_cons (at_bx T [(.int .i64 x.Id), (.int .i64 x.Cell), (.int .i64 x.Goal)] rfl rfl rfl rfl (fun b3 => ?_))
  refine at_s T rfl ?_
  refine at_end ?_
  refine at_sub [(0, (.pointer (some ⟨b_u, 0, none⟩))), (3, (.pointer (some ⟨b3, 0, none⟩)))] ⟨rfl, rfl, trivial⟩ ?_
  refine at_then ?_
  refine at_seq ?_
  refine at_region [0, 1, 2, 3, 4] rfl ?_
  iterate 2 refine at_s T rfl ?_
  refine at_v rfl (g_load T rfl rfl rfl rfl (in_var (j := 3) rfl rfl)) ?_
  obtain ⟨v1, V1, H⟩ := bind_e H
  refine at_cons (at_c (As := [[(b_u, Obj.cells #[(.int .i64 u.Most), (.int .i64 u.Next), (.slice a_u_L (List.length u.L) n_u_L)] 53 (0, 0))], H_u_L]) (R := [F, [(b3, Obj.cells #[(.int .i64 x.Id), (.int .i64 x.Cell), (.int .i64 x.Goal)] 47 (0, 0))]]) (B := fun _ => [[(b_u, Obj.cells #[(.int .i64 u.Most), (.int .i64 u.Next), (.slice a_u_L (List.length u.L) n_u_L)] 53 (0, 0))], H_u_L]) [0, 0] rfl rfl rfl rfl has56 rfl rfl (ref21_Units_at.c u x.Id v1 _ V1 s_u_L) (fun _ => ?_))
  refine at_s T rfl ?_
  refine at_end ?_
  refine at_sub [(0, (.pointer (some ⟨b_u, 0, none⟩))), (3, (.pointer (some ⟨b3, 0, none⟩))), (5, (.int .i64 v1))] ⟨rfl, rfl, rfl, trivial⟩ ?_
  refine at_then ?_
  refine at_seq ?_
  refine at_seq ?_
  refine at_region [0, 1] rfl ?_
  iterate 2 refine at_s T rfl ?_
  refine at_end ?_
  refine at_sub [(0, (.pointer (some ⟨b_u, 0, none⟩))), (3, (.pointer (some ⟨b3, 0, none⟩))), (5, (.int .i64 v1)), (11, (.bool (decide (v1 < 0))))] ⟨rfl, rfl, rfl, rfl, trivial⟩ ?_
  refine at_then ?_
  refine at_cond rfl (fun c2 => ?_) (fun c2 => ?_)
  · replace H := if_t (of_decide_eq_true c2) H
    refine at_seq ?_
    refine at_region [0] rfl ?_
    refine at_s T rfl ?_
    refine at_end ?_
    refine at_to [(4, (.bool false))] [0, 1, 1] [F, [(b_u, Obj.cells #[(.int .i64 u.Most), (.int .i64 u.Next), (.slice a_u_L (List.length u.L) n_u_L)] 53 (0, 0))], H_u_L] ⟨rfl, trivial⟩ rfl ?_
    refine at_then ?_
    refine at_ret ?_
    refine at_rt ?_
    obtain rfl := Option.some.inj H
    exact at_post (T := T) rfl (.tmp rfl .nil) (fun w o => ⟨⟨(_, _), ⟨a_u_L, n_u_L, H_u_L, s_u_L, rfl, rfl⟩⟩, rfl, own_to [1, 1, 0] rfl o⟩)
  · replace H := if_f (of_decide_eq_false c2) H
    refine at_skip ?_
    refine at_then ?_
    refine at_seq ?_
    refine at_region [0, 1, 2, 3, 4, 5, 6, 7, 8, 9] rfl ?_
    refine at_s T rfl ?_
    refine at_cons (at_bs (k := k_api_Unit) T ([] : List api_Unit) rfl rfl rfl rfl rfl rfl rfl rfl rfl (fun a4 H4 s4 => ?_))
    iterate 3 refine at_s T rfl ?_
    refine at_v rfl (g_load T rfl rfl rfl rfl (in_var (j := 2) rfl rfl)) ?_
    obtain ⟨c3, H⟩ := chk_e H
    refine at_cons (at_ap (k := k_api_Unit) (xs := ([] : List api_Unit)) T (g := 4) rfl rfl rfl rfl rfl rfl rfl rfl rfl rfl s4 (own_of s_u_L (j := 3) rfl) c3 rfl (fun a5 n5 H5 s5 => ?_))
    iterate 2 refine at_s T rfl ?_
    refine at_cons (at_st T 2 [(.int .i64 u.Most), (.int .i64 u.Next), (.slice a5 (List.length (([] : List api_Unit) ++ u.L)) n5)] rfl rfl rfl rfl rfl rfl rfl rfl rfl rfl ?_)
    refine at_end ?_
    refine at_to [(0, (.pointer (some ⟨b_u, 0, none⟩))), (3, (.pointer (some ⟨b3, 0, none⟩))), (5, (.int .i64 v1))] [0, 0, 0, 1] [F, [(b3, Obj.cells #[(.int .i64 x.Id), (.int .i64 x.Cell), (.int .i64 x.Goal)] 47 (0, 0))], [(b_u, Obj.cells #[(.int .i64 u.Most), (.int .i64 u.Next), (.slice a5 (List.length (([] : List api_Unit) ++ u.L)) n5)] 53 (0, 0))], H5] ⟨rfl, rfl, rfl, trivial⟩ rfl ?_
    refine at_then ?_
    refine at_seq ?_
    refine at_region_m [[], [0], [0, 1], [0, 1, 2], [], [], [0, 1, 2, 3, 4, 5], [0, 1, 2, 3, 4, 5, 6]] [7] [F, [(b3, Obj.cells #[(.int .i64 x.Id), (.int .i64 x.Cell), (.int .i64 x.Goal)] 47 (0, 0))], [(b_u, Obj.cells #[(.int .i64 u.Most), (.int .i64 u.Next), (.slice a5 (List.length (([] : List api_Unit) ++ u.L)) n5)] 53 (0, 0))], H5] mix (by kernel_rfl) (by repeat first | exact pf_body | refine pf_then ?_ | refine pf_block ?_) (fun hg pf => ?_)
    refine atm_s T 0 hg pf (by kernel_rfl) (still_o [0, 0, 0, 0] rfl) rfl ?_
    refine atm_s T 1 hg pf (by kernel_rfl) (still_o [0, 0, 0, 0] rfl) rfl ?_
    refine atm_s T 2 hg pf (by kernel_rfl) (still_o [0, 0, 0, 0] rfl) rfl ?_
    refine atm_v 3 hg pf (by kernel_rfl) (still_o [0, 0, 0, 0] rfl) rfl rfl (g_load T rfl rfl rfl rfl (in_var (j := 2) rfl rfl)) ?_
    refine atm_s T 4 hg pf (by kernel_rfl) (still_o [0, 0, 0, 0] rfl) rfl ?_
    refine atm_v 5 hg pf (by kernel_rfl) (still_o [0, 0, 0, 0] rfl) rfl rfl (g_loadA T (cs := [(.int .i64 x.Id), (.int .i64 x.Cell), (.int .i64 x.Goal)]) rfl rfl rfl rfl rfl rfl (in_varA (j := 1) rfl rfl)) ?_
    obtain ⟨c4, H⟩ := chk_e H
    obtain ⟨q6, o6, e6⟩ := s5.r.addr c4.1 c4.2
    refine atm_v 6 hg pf (by kernel_rfl) (still_o [0, 0, 0, 0] rfl) rfl rfl (g_index T rfl rfl rfl rfl rfl e6 c4.1 c4.2) ?_
    refine atm_one 7 (by kernel_rfl) ?_
    refine at_se (k := k_api_Unit) T 3 0 x rfl rfl rfl rfl rfl rfl s5 e6 c4 rfl rfl rfl (fun H7 s7 => ?_)
    refine at_to [(0, (.pointer (some ⟨b_u, 0, none⟩))), (3, (.pointer (some ⟨b3, 0, none⟩))), (5, (.int .i64 v1)), (21, (.pointer (some ⟨b_u, 0, none⟩))), (22, (.pointer (some ⟨b_u, 0, none⟩))), (23, (.pointer (some ⟨b_u, 2, none⟩))), (24, (.slice a5 (List.length (List.set (([] : List api_Unit) ++ u.L) (Int.toNat v1) x)) n5)), (25, (.int .i64 v1)), (26, (.agg #[(.int .i64 x.Id), (.int .i64 x.Cell), (.int .i64 x.Goal)])), (27, (.pointer (some ⟨q6, o6 + Int.toNat v1 * 3, none⟩)))] [0, 0, 0, 0] [F, [(b3, Obj.cells #[(.int .i64 x.Id), (.int .i64 x.Cell), (.int .i64 x.Goal)] 47 (0, 0))], [(b_u, Obj.cells #[(.int .i64 u.Most), (.int .i64 u.Next), (.slice a5 (List.length (List.set (([] : List api_Unit) ++ u.L) (Int.toNat v1) x)) n5)] 53 (0, 0))], H7] ⟨rfl, rfl, rfl, rfl, rfl, rfl, (by first | rfl | (simp only [List.length_set]; rfl)), rfl, rfl, rfl, trivial⟩ (by first | rfl | (simp only [List.length_set]; rfl)) ?_
    refine atm_next (still_l (by kernel_rfl)) ?_
    refine atm_end (by kernel_rfl) ?_
    refine at_to [] [0, 1, 1] [F, [(b_u, Obj.cells #[(.int .i64 u.Most), (.int .i64 u.Next), (.slice a5 (List.length (List.set (([] : List api_Unit) ++ u.L) (Int.toNat v1) x)) n5)] 53 (0, 0))], H7] trivial rfl ?_
    refine at_then ?_
    refine at_seq ?_
    refine at_region [0] rfl ?_
    refine at_s T rfl ?_
    refine at_end ?_
    refine at_sub [(4, (.bool true))] ⟨rfl, trivial⟩ ?_
    refine at_then ?_
    refine at_ret ?_
    obtain rfl := Option.some.inj H
    exact at_post (T := T) rfl (.tmp rfl .nil) (fun w o => ⟨⟨(_, _), ⟨a5, n5, H7, s7, rfl, rfl⟩⟩, rfl, own_to [1, 1, 0] rfl o⟩)

/-! ### (*herdsman/herdsmanref21.Units).Drop: function 36 -/
def ref21_Units_Drop.f (u : herdsmanref21_Units) (id : Int) : Option (Bool × herdsmanref21_Units) := (ref21_Units_at.f u id).bind fun v1 => if v1 < 0 then (some (false, u)) else (if (0 ≤ (0 : Int) ∧ 0 ≤ v1 ∧ v1 ≤ (List.length u.L : Int)) then (if (0 ≤ (w64 (v1 + 1)) ∧ (w64 (v1 + 1)) ≤ (List.length u.L : Int) ∧ (List.length u.L : Int) ≤ (List.length u.L : Int)) then (if (List.length ([] : List api_Unit) + List.length (sub' u.L 0 v1) ≤ 1099511627776) then (if (List.length (([] : List api_Unit) ++ (sub' u.L 0 v1)) + List.length (sub' u.L (w64 (v1 + 1)) (List.length u.L : Int)) ≤ 1099511627776) then (some (true, (herdsmanref21_Units.mk u.Most u.Next ((([] : List api_Unit) ++ (sub' u.L 0 v1)) ++ (sub' u.L (w64 (v1 + 1)) (List.length u.L : Int)))))) else none) else none) else none) else none)
def ref21_Units_Drop.R (b_u : Nat) (r : (Bool × herdsmanref21_Units)) (u : Value) (G : List Hp) : Prop := ∃ (a0 : Option Addr) (n0 : Nat) (H0 : Hp), SliceO k_api_Unit 47 r.2.L a0 n0 H0 ∧ u = (.bool r.1) ∧ G = [[(b_u, Obj.cells #[(.int .i64 r.2.Most), (.int .i64 r.2.Next), (.slice a0 (List.length r.2.L) n0)] 53 (0, 0))], H0]
set_option maxHeartbeats 4000000 in
theorem ref21_Units_Drop.c {b_u : Nat} {a_u_L : Option Addr} {n_u_L : Nat} {H_u_L : Hp} (u : herdsmanref21_Units) (id : Int) (r : (Bool × herdsmanref21_Units)) (F : Hp) (H : ref21_Units_Drop.f u id = some r) (s_u_L : SliceO k_api_Unit 47 u.L a_u_L n_u_L H_u_L) :
    CallsL Try.prog 36 [(.pointer (some ⟨b_u, 0, none⟩)), (.int .i64 id)] [[(b_u, Obj.cells #[(.int .i64 u.Most), (.int .i64 u.Next), (.slice a_u_L (List.length u.L) n_u_L)] 53 (0, 0))], H_u_L, F] (fun p : { p : Value × List Hp // ref21_Units_Drop.R b_u r p.1 p.2 } => p.1.1) (fun p => (p.1.2 ++ []) ++ [F]) := by
  unfold ref21_Units_Drop.f at H
  refine calls_atL [(0, (.pointer (some ⟨b_u, 0, none⟩))), (1, (.int .i64 id))] Try.func36 rfl rfl ⟨rfl, rfl, trivial⟩ (fun W => ?_)
  refine at_seq ?_
  refine at_region [0] rfl ?_
  refine at_s T rfl ?_
  refine at_end ?_
  refine at_sub [(0, (.pointer (some ⟨b_u, 0, none⟩))), (1, (.int .i64 id))] ⟨rfl, rfl, trivial⟩ ?_
  refine at_then ?_
  refine at_seq ?_
  refine at_region [0, 1, 2, 3] rfl ?_
  iterate 2 refine at_s T rfl ?_
  obtain ⟨v1, V1, H⟩ := bind_e H
  refine at_cons (at_c (As := [[(b_u, Obj.cells #[(.int .i64 u.Most), (.int .i64 u.Next), (.slice a_u_L (List.length u.L) n_u_L)] 53 (0, 0))], H_u_L]) (R := [F]) (B := fun _ => [[(b_u, Obj.cells #[(.int .i64 u.Most), (.int .i64 u.Next), (.slice a_u_L (List.length u.L) n_u_L)] 53 (0, 0))], H_u_L]) [0, 0] rfl rfl rfl rfl has56 rfl rfl (ref21_Units_at.c u id v1 _ V1 s_u_L) (fun _ => ?_))
  refine at_s T rfl ?_
  refine at_end ?_
  refine at_sub [(0, (.pointer (some ⟨b_u, 0, none⟩))), (5, (.int .i64 v1))] ⟨rfl, rfl, trivial⟩ ?_
  refine at_then ?_
  refine at_seq ?_
  refine at_seq ?_
  refine at_region [0, 1] rfl ?_
  iterate 2 refine at_s T rfl ?_
  refine at_end ?_
  refine at_sub [(0, (.pointer (some ⟨b_u, 0, none⟩))), (5, (.int .i64 v1)), (10, (.bool (decide (v1 < 0))))] ⟨rfl, rfl, rfl, trivial⟩ ?_
  refine at_then ?_
  refine at_cond rfl (fun c2 => ?_) (fun c2 => ?_)
  · replace H := if_t (of_decide_eq_true c2) H
    refine at_seq ?_
    refine at_region [0] rfl ?_
    refine at_s T rfl ?_
    refine at_end ?_
    refine at_sub [(4, (.bool false))] ⟨rfl, trivial⟩ ?_
    refine at_then ?_
    refine at_ret ?_
    refine at_rt ?_
    obtain rfl := Option.some.inj H
    exact at_post (T := T) rfl (.tmp rfl .nil) (fun w o => ⟨⟨(_, _), ⟨a_u_L, n_u_L, H_u_L, s_u_L, rfl, rfl⟩⟩, rfl, own_to [1, 1, 0] rfl o⟩)
  · replace H := if_f (of_decide_eq_false c2) H
    refine at_skip ?_
    refine at_then ?_
    refine at_seq ?_
    refine at_region_m [[], [], [], [2], [2, 3], [2, 3, 4], [], [2, 3, 4, 5, 6], [1, 2, 3, 4, 5, 6, 7], [], [9], [9, 10], [9, 10, 11], [], [13], [9, 10, 11, 12, 13, 14], [1, 2, 3, 4, 5, 6, 7, 8, 9, 10, 11, 12, 13, 14, 15], [0, 1, 2, 3, 4, 5, 6, 7, 8, 9, 10, 11, 12, 13, 14, 15, 16], [0, 1, 2, 3, 4, 5, 6, 7, 8, 9, 10, 11, 12, 13, 14, 15, 16, 17], [0, 1, 2, 3, 4, 5, 6, 7, 8, 9, 10, 11, 12, 13, 14, 15, 16, 17, 18]] [19] [F, [(b_u, Obj.cells #[(.int .i64 u.Most), (.int .i64 u.Next), (.slice a_u_L (List.length u.L) n_u_L)] 53 (0, 0))], H_u_L] mix (by kernel_rfl) (by repeat first | exact pf_body | refine pf_then ?_ | refine pf_block ?_) (fun hg pf => ?_)
    refine atm_s T 0 hg pf (by kernel_rfl) (still_o [0, 0, 0] rfl) rfl ?_
    refine atm_s T 2 hg pf (by kernel_rfl) (still_o [0, 0, 0] rfl) rfl ?_
    refine atm_s T 3 hg pf (by kernel_rfl) (still_o [0, 0, 0] rfl) rfl ?_
    refine atm_s T 4 hg pf (by kernel_rfl) (still_o [0, 0, 0] rfl) rfl ?_
    refine atm_v 5 hg pf (by kernel_rfl) (still_o [0, 0, 0] rfl) rfl rfl (g_load T rfl rfl rfl rfl (in_var (j := 1) rfl rfl)) ?_
    refine atm_s T 6 hg pf (by kernel_rfl) (still_o [0, 0, 0] rfl) rfl ?_
    obtain ⟨c3, H⟩ := chk_e H
    refine atm_v 7 hg pf (by kernel_rfl) (still_o [0, 0, 0] rfl) rfl rfl (g_sub T rfl rfl rfl rfl rfl rfl c3 s_u_L.cap_le) ?_
    refine atm_s T 9 hg pf (by kernel_rfl) (still_o [0, 0, 0] rfl) rfl ?_
    refine atm_s T 10 hg pf (by kernel_rfl) (still_o [0, 0, 0] rfl) rfl ?_
    refine atm_s T 11 hg pf (by kernel_rfl) (still_o [0, 0, 0] rfl) rfl ?_
    refine atm_v 12 hg pf (by kernel_rfl) (still_o [0, 0, 0] rfl) rfl rfl (g_load T rfl rfl rfl rfl (in_var (j := 1) rfl rfl)) ?_
    refine atm_s T 13 hg pf (by kernel_rfl) (still_o [0, 0, 0] rfl) rfl ?_
    refine atm_s T 14 hg pf (by kernel_rfl) (still_o [0, 0, 0] rfl) rfl ?_
    obtain ⟨c4, H⟩ := chk_e H
    refine atm_v 15 hg pf (by kernel_rfl) (still_o [0, 0, 0] rfl) rfl rfl (g_sub T rfl rfl rfl rfl rfl rfl c4 s_u_L.cap_le) ?_
    refine atm_one 1 (by kernel_rfl) ?_
    refine at_bs (k := k_api_Unit) T ([] : List api_Unit) rfl rfl rfl rfl rfl rfl rfl rfl rfl (fun a3 H3 s3 => ?_)
    refine atm_next (still_o [0, 0, 0] rfl) ?_
    refine atm_one 8 (by kernel_rfl) ?_
    obtain ⟨c5, H⟩ := chk_e H
    refine at_ap (k := k_api_Unit) (xs := ([] : List api_Unit)) T (g := 3) rfl rfl rfl rfl rfl rfl rfl rfl rfl rfl s3 (sub_r (own_of s_u_L (j := 2) rfl) c3 s_u_L.cap_le) c5 rfl (fun a4 n4 H4 s4 => ?_)
    refine atm_next (still_o [0, 0, 0] rfl) ?_
    refine atm_one 16 (by kernel_rfl) ?_
    obtain ⟨c6, H⟩ := chk_e H
    refine at_ap (k := k_api_Unit) (xs := (([] : List api_Unit) ++ (sub' u.L 0 v1))) T (g := 3) rfl rfl rfl rfl rfl rfl rfl rfl rfl rfl s4 (sub_r (own_of s_u_L (j := 2) rfl) c4 s_u_L.cap_le) c6 rfl (fun a5 n5 H5 s5 => ?_)
    refine atm_next (still_o [0, 0, 0] rfl) ?_
    refine atm_s T 17 hg pf (by kernel_rfl) (still_o [0, 0, 0] rfl) rfl ?_
    refine atm_s T 18 hg pf (by kernel_rfl) (still_o [0, 0, 0] rfl) rfl ?_
    refine atm_one 19 (by kernel_rfl) ?_
    refine at_st T 1 [(.int .i64 u.Most), (.int .i64 u.Next), (.slice a5 (List.length ((([] : List api_Unit) ++ (sub' u.L 0 v1)) ++ (sub' u.L (w64 (v1 + 1)) (List.length u.L : Int)))) n5)] rfl rfl rfl rfl rfl rfl rfl rfl rfl rfl ?_
    refine atm_next (still_l (by kernel_rfl)) ?_
    refine atm_end (by kernel_rfl) ?_
    refine at_to [] [0, 0, 1] [F, [(b_u, Obj.cells #[(.int .i64 u.Most), (.int .i64 u.Next), (.slice a5 (List.length ((([] : List api_Unit) ++ (sub' u.L 0 v1)) ++ (sub' u.L (w64 (v1 + 1)) (List.length u.L : Int)))) n5)] 53 (0, 0))], H5] trivial rfl ?_
    refine at_then ?_
    refine at_seq ?_
    refine at_region [0] rfl ?_
    refine at_s T rfl ?_
    refine at_end ?_
    refine at_sub [(4, (.bool true))] ⟨rfl, trivial⟩ ?_
    refine at_then ?_
    refine at_ret ?_
    obtain rfl := Option.some.inj H
    exact at_post (T := T) rfl (.tmp rfl .nil) (fun w o => ⟨⟨(_, _), ⟨a5, n5, H5, s5, rfl, rfl⟩⟩, rfl, own_to [1, 1, 0] rfl o⟩)

/-! ### (*herdsman/herdsmanref21.Units).Add: function 38 -/
def ref21_Units_Add.f (u : herdsmanref21_Units) (cell : Int) (goal : Int) : Option (Int × Bool × herdsmanref21_Units) := if (List.length u.L : Int) ≥ u.Most then (some (0, false, u)) else ((if (List.length ([] : List api_Unit) + List.length u.L ≤ 1099511627776) then (if (List.length (([] : List api_Unit) ++ u.L) + 1 ≤ 1099511627776) then (some ((([] : List api_Unit) ++ u.L) ++ [(api_Unit.mk u.Next cell goal)])) else none) else none).bind fun x1 => some ((w64 ((w64 (u.Next + 1)) - 1)), true, (herdsmanref21_Units.mk u.Most (w64 (u.Next + 1)) x1)))
def ref21_Units_Add.R (b_u : Nat) (r : (Int × Bool × herdsmanref21_Units)) (u : Value) (G : List Hp) : Prop := ∃ (a0 : Option Addr) (n0 : Nat) (H0 : Hp), SliceO k_api_Unit 47 r.2.2.L a0 n0 H0 ∧ u = (.tuple #[(.int .i64 r.1), (.bool r.2.1)]) ∧ G = [[(b_u, Obj.cells #[(.int .i64 r.2.2.Most), (.int .i64 r.2.2.Next), (.slice a0 (List.length r.2.2.L) n0)] 53 (0, 0))], H0]
set_option maxHeartbeats 4000000 in
theorem ref21_Units_Add.c {b_u : Nat} {a_u_L : Option Addr} {n_u_L : Nat} {H_u_L : Hp} (u : herdsmanref21_Units) (cell : Int) (goal : Int) (r : (Int × Bool × herdsmanref21_Units)) (F : Hp) (H : ref21_Units_Add.f u cell goal = some r) (s_u_L : SliceO k_api_Unit 47 u.L a_u_L n_u_L H_u_L) :
    CallsL Try.prog 38 [(.pointer (some ⟨b_u, 0, none⟩)), (.int .i64 cell), (.int .i64 goal)] [[(b_u, Obj.cells #[(.int .i64 u.Most), (.int .i64 u.Next), (.slice a_u_L (List.length u.L) n_u_L)] 53 (0, 0))], H_u_L, F] (fun p : { p : Value × List Hp // ref21_Units_Add.R b_u r p.1 p.2 } => p.1.1) (fun p => (p.1.2 ++ []) ++ [F]) := by
  unfold ref21_Units_Add.f at H
  refine calls_atL [(0, (.pointer (some ⟨b_u, 0, none⟩))), (1, (.int .i64 cell)), (2, (.int .i64 goal))] Try.func38 rfl rfl ⟨rfl, rfl, rfl, trivial⟩ (fun W => ?_)
  refine at_seq ?_
  refine at_region [0, 1] rfl ?_
  iterate 2 refine at_s T rfl ?_
  refine at_end ?_
  refine at_sub [(0, (.pointer (some ⟨b_u, 0, none⟩))), (1, (.int .i64 cell)), (2, (.int .i64 goal))] ⟨rfl, rfl, rfl, trivial⟩ ?_
  refine at_then ?_
  refine at_seq ?_
  refine at_seq ?_
  refine at_region_q mix (by kernel_rfl) ?_
  iterate 3 refine atq_s T rfl ?_
  refine atq_v rfl rfl rfl (g_load T rfl rfl rfl rfl (in_var (j := 0) rfl rfl)) ?_
  iterate 4 refine atq_s T rfl ?_
  refine atq_v rfl rfl rfl (g_load T rfl rfl rfl rfl (in_var (j := 0) rfl rfl)) ?_
  refine atq_s T rfl ?_
  refine atq_end ?_
  refine at_sub [(0, (.pointer (some ⟨b_u, 0, none⟩))), (1, (.int .i64 cell)), (2, (.int .i64 goal)), (17, (.bool (decide ((List.length u.L : Int) ≥ u.Most))))] ⟨rfl, rfl, rfl, rfl, trivial⟩ ?_
  refine at_then ?_
  refine at_cond rfl (fun c1 => ?_) (fun c1 => ?_)
  · replace H := if_t (of_decide_eq_true c1) H
    refine at_seq ?_
    refine at_region [0, 1] rfl ?_
    iterate 2 refine at_s T rfl ?_
    refine at_end ?_
    refine at_sub [(6, (.int .i64 0)), (7, (.bool false))] ⟨rfl, rfl, trivial⟩ ?_
    refine at_then ?_
    refine at_ret ?_
    refine at_rt ?_
    obtain rfl := Option.some.inj H
    exact at_post (T := T) rfl (.tmp rfl (.tmp rfl .nil)) (fun w o => ⟨⟨(_, _), ⟨a_u_L, n_u_L, H_u_L, s_u_L, rfl, rfl⟩⟩, rfl, own_to [0, 0, 0] rfl o⟩)
  · replace H := if_f (of_decide_eq_false c1) H
    refine at_skip ?_
    refine at_then ?_
    obtain ⟨z2, Z2, H⟩ := bind_e H
    refine at_seq_mid (σ := List api_Unit × Option Addr × Nat × Hp) (fun ⟨x1, a3, n3, H3⟩ => x1 = z2 ∧ SliceO k_api_Unit 47 x1 a3 n3 H3) (fun ⟨x1, a3, n3, H3⟩ => [(0, (.pointer (some ⟨b_u, 0, none⟩)))]) (fun ⟨x1, a3, n3, H3⟩ => [F, [(b_u, Obj.cells #[(.int .i64 u.Most), (.int .i64 u.Next), (.slice a3 (List.length x1) n3)] 53 (0, 0))], H3]) ?_ ?_
    · refine at_region_m [[], [], [], [2], [2, 3], [2, 3, 4], [1, 2, 3, 4, 5], [], [7], [7, 8], [7, 8, 9], [], [], [7, 8, 9, 10, 11, 12], [7, 8, 9, 10, 11, 12, 13], [1, 2, 3, 4, 5, 6, 7, 8, 9, 10, 11, 12, 13, 14], [0, 1, 2, 3, 4, 5, 6, 7, 8, 9, 10, 11, 12, 13, 14, 15], [0, 1, 2, 3, 4, 5, 6, 7, 8, 9, 10, 11, 12, 13, 14, 15, 16], [0, 1, 2, 3, 4, 5, 6, 7, 8, 9, 10, 11, 12, 13, 14, 15, 16, 17]] [18] [[(b_u, Obj.cells #[(.int .i64 u.Most), (.int .i64 u.Next), (.slice a_u_L (List.length u.L) n_u_L)] 53 (0, 0))], H_u_L, F] mix (by kernel_rfl) (by repeat first | exact pf_body | refine pf_then ?_ | refine pf_block ?_) (fun hg pf => ?_)
      refine atm_s T 0 hg pf (by kernel_rfl) (still_o [0, 0, 0] rfl) rfl ?_
      refine atm_s T 2 hg pf (by kernel_rfl) (still_o [0, 0, 0] rfl) rfl ?_
      refine atm_s T 3 hg pf (by kernel_rfl) (still_o [0, 0, 0] rfl) rfl ?_
      refine atm_s T 4 hg pf (by kernel_rfl) (still_o [0, 0, 0] rfl) rfl ?_
      refine atm_v 5 hg pf (by kernel_rfl) (still_o [0, 0, 0] rfl) rfl rfl (g_load T rfl rfl rfl rfl (in_var (j := 0) rfl rfl)) ?_
      refine atm_s T 7 hg pf (by kernel_rfl) (still_o [0, 0, 0] rfl) rfl ?_
      refine atm_s T 8 hg pf (by kernel_rfl) (still_o [0, 0, 0] rfl) rfl ?_
      refine atm_s T 9 hg pf (by kernel_rfl) (still_o [0, 0, 0] rfl) rfl ?_
      refine atm_v 10 hg pf (by kernel_rfl) (still_o [0, 0, 0] rfl) rfl rfl (g_load T rfl rfl rfl rfl (in_var (j := 0) rfl rfl)) ?_
      refine atm_s T 11 hg pf (by kernel_rfl) (still_o [0, 0, 0] rfl) rfl ?_
      refine atm_s T 12 hg pf (by kernel_rfl) (still_o [0, 0, 0] rfl) rfl ?_
      refine atm_s T 13 hg pf (by kernel_rfl) (still_o [0, 0, 0] rfl) rfl ?_
      refine atm_two 1 14 (by kernel_rfl) ?_ ?_
      · refine at_bs (k := k_api_Unit) T ([] : List api_Unit) rfl rfl rfl rfl rfl rfl rfl rfl rfl (fun a4 H4 s4 => ?_)
        refine atm_next (still_o [0, 0, 0] rfl) ?_
        refine atm_two 6 14 (by kernel_rfl) ?_ ?_
        · obtain ⟨c3, Z2⟩ := chk_e Z2
          refine at_ap (k := k_api_Unit) (xs := ([] : List api_Unit)) T (g := 3) rfl rfl rfl rfl rfl rfl rfl rfl rfl rfl s4 (own_of s_u_L (j := 1) rfl) c3 rfl (fun a5 n5 H5 s5 => ?_)
          refine atm_next (still_o [0, 0, 0] rfl) ?_
          refine atm_one 14 (by kernel_rfl) ?_
          refine at_bs (k := k_api_Unit) T [(api_Unit.mk u.Next cell goal)] rfl rfl rfl rfl rfl rfl rfl rfl rfl (fun a6 H6 s6 => ?_)
          refine atm_next (still_o [0, 0, 0] rfl) ?_
          refine atm_one 15 (by kernel_rfl) ?_
          obtain ⟨c4, Z2⟩ := chk_e Z2
          refine at_ap (k := k_api_Unit) (xs := (([] : List api_Unit) ++ u.L)) T (g := 3) rfl rfl rfl rfl rfl rfl rfl rfl rfl rfl s5 (own_of s6 (j := 4) rfl) c4 rfl (fun a7 n7 H7 s7 => ?_)
          refine atm_next (still_o [0, 0, 0] rfl) ?_
          refine atm_s T 16 hg pf (by kernel_rfl) (still_o [0, 0, 0] rfl) rfl ?_
          refine atm_s T 17 hg pf (by kernel_rfl) (still_o [0, 0, 0] rfl) rfl ?_
          refine atm_one 18 (by kernel_rfl) ?_
          refine at_st T 0 [(.int .i64 u.Most), (.int .i64 u.Next), (.slice a7 (List.length ((([] : List api_Unit) ++ u.L) ++ [(api_Unit.mk u.Next cell goal)])) n7)] rfl rfl rfl rfl rfl rfl rfl rfl rfl rfl ?_
          refine atm_next (still_l (by kernel_rfl)) ?_
          refine atm_end (by kernel_rfl) ?_
          refine at_to [(0, (.pointer (some ⟨b_u, 0, none⟩)))] [0, 1, 1] [[(b_u, Obj.cells #[(.int .i64 u.Most), (.int .i64 u.Next), (.slice a7 (List.length ((([] : List api_Unit) ++ u.L) ++ [(api_Unit.mk u.Next cell goal)])) n7)] 53 (0, 0))], F, H7] ⟨rfl, trivial⟩ rfl ?_
          refine at_then ?_
          obtain rfl := Option.some.inj Z2
          exact at_mid (((([] : List api_Unit) ++ u.L) ++ [(api_Unit.mk u.Next cell goal)]), a7, n7, H7) [1, 0, 0] ⟨rfl, s7⟩ ⟨rfl, trivial⟩ rfl
        · refine at_bs (k := k_api_Unit) T [(api_Unit.mk u.Next cell goal)] rfl rfl rfl rfl rfl rfl rfl rfl rfl (fun a8 H8 s8 => ?_)
          refine atm_next (still_o [0, 0, 0] rfl) ?_
          refine atm_one 6 (by kernel_rfl) ?_
          obtain ⟨c5, Z2⟩ := chk_e Z2
          refine at_ap (k := k_api_Unit) (xs := ([] : List api_Unit)) T (g := 3) rfl rfl rfl rfl rfl rfl rfl rfl rfl rfl s4 (own_of s_u_L (j := 1) rfl) c5 rfl (fun a9 n9 H9 s9 => ?_)
          refine atm_next (still_o [0, 0, 0] rfl) ?_
          refine atm_one 15 (by kernel_rfl) ?_
          obtain ⟨c6, Z2⟩ := chk_e Z2
          refine at_ap (k := k_api_Unit) (xs := (([] : List api_Unit) ++ u.L)) T (g := 3) rfl rfl rfl rfl rfl rfl rfl rfl rfl rfl s9 (own_of s8 (j := 4) rfl) c6 rfl (fun a10 n10 H10 s10 => ?_)
          refine atm_next (still_o [0, 0, 0] rfl) ?_
          refine atm_s T 16 hg pf (by kernel_rfl) (still_o [0, 0, 0] rfl) rfl ?_
          refine atm_s T 17 hg pf (by kernel_rfl) (still_o [0, 0, 0] rfl) rfl ?_
          refine atm_one 18 (by kernel_rfl) ?_
          refine at_st T 0 [(.int .i64 u.Most), (.int .i64 u.Next), (.slice a10 (List.length ((([] : List api_Unit) ++ u.L) ++ [(api_Unit.mk u.Next cell goal)])) n10)] rfl rfl rfl rfl rfl rfl rfl rfl rfl rfl ?_
          refine atm_next (still_l (by kernel_rfl)) ?_
          refine atm_end (by kernel_rfl) ?_
          refine at_to [(0, (.pointer (some ⟨b_u, 0, none⟩)))] [0, 1, 1] [[(b_u, Obj.cells #[(.int .i64 u.Most), (.int .i64 u.Next), (.slice a10 (List.length ((([] : List api_Unit) ++ u.L) ++ [(api_Unit.mk u.Next cell goal)])) n10)] 53 (0, 0))], F, H10] ⟨rfl, trivial⟩ rfl ?_
          refine at_then ?_
          obtain rfl := Option.some.inj Z2
          exact at_mid (((([] : List api_Unit) ++ u.L) ++ [(api_Unit.mk u.Next cell goal)]), a10, n10, H10) [1, 0, 0] ⟨rfl, s10⟩ ⟨rfl, trivial⟩ rfl
      · refine at_bs (k := k_api_Unit) T [(api_Unit.mk u.Next cell goal)] rfl rfl rfl rfl rfl rfl rfl rfl rfl (fun a11 H11 s11 => ?_)
        refine atm_next (still_o [0, 0, 0] rfl) ?_
        refine atm_one 1 (by kernel_rfl) ?_
        refine at_bs (k := k_api_Unit) T ([] : List api_Unit) rfl rfl rfl rfl rfl rfl rfl rfl rfl (fun a12 H12 s12 => ?_)
        refine atm_next (still_o [0, 0, 0] rfl) ?_
        refine atm_one 6 (by kernel_rfl) ?_
        obtain ⟨c7, Z2⟩ := chk_e Z2
        refine at_ap (k := k_api_Unit) (xs := ([] : List api_Unit)) T (g := 4) rfl rfl rfl rfl rfl rfl rfl rfl rfl rfl s12 (own_of s_u_L (j := 1) rfl) c7 rfl (fun a13 n13 H13 s13 => ?_)
        refine atm_next (still_o [0, 0, 0] rfl) ?_
        refine atm_one 15 (by kernel_rfl) ?_
        obtain ⟨c8, Z2⟩ := chk_e Z2
        refine at_ap (k := k_api_Unit) (xs := (([] : List api_Unit) ++ u.L)) T (g := 4) rfl rfl rfl rfl rfl rfl rfl rfl rfl rfl s13 (own_of s11 (j := 3) rfl) c8 rfl (fun a14 n14 H14 s14 => ?_)
        refine atm_next (still_o [0, 0, 0] rfl) ?_
        refine atm_s T 16 hg pf (by kernel_rfl) (still_o [0, 0, 0] rfl) rfl ?_
        refine atm_s T 17 hg pf (by kernel_rfl) (still_o [0, 0, 0] rfl) rfl ?_
        refine atm_one 18 (by kernel_rfl) ?_
        refine at_st T 0 [(.int .i64 u.Most), (.int .i64 u.Next), (.slice a14 (List.length ((([] : List api_Unit) ++ u.L) ++ [(api_Unit.mk u.Next cell goal)])) n14)] rfl rfl rfl rfl rfl rfl rfl rfl rfl rfl ?_
        refine atm_next (still_l (by kernel_rfl)) ?_
        refine atm_end (by kernel_rfl) ?_
        refine at_to [(0, (.pointer (some ⟨b_u, 0, none⟩)))] [0, 1, 2] [[(b_u, Obj.cells #[(.int .i64 u.Most), (.int .i64 u.Next), (.slice a14 (List.length ((([] : List api_Unit) ++ u.L) ++ [(api_Unit.mk u.Next cell goal)])) n14)] 53 (0, 0))], F, H14] ⟨rfl, trivial⟩ rfl ?_
        refine at_then ?_
        obtain rfl := Option.some.inj Z2
        exact at_mid (((([] : List api_Unit) ++ u.L) ++ [(api_Unit.mk u.Next cell goal)]), a14, n14, H14) [1, 0, 0] ⟨rfl, s14⟩ ⟨rfl, trivial⟩ rfl
    · rintro ⟨x1, a3, n3, H3⟩ ⟨rfl, s3⟩
      refine at_seq ?_
      refine at_region [0, 1, 2, 3, 4, 5, 6, 7] rfl ?_
      iterate 3 refine at_s T rfl ?_
      refine at_v rfl (g_load T rfl rfl rfl rfl (in_var (j := 1) rfl rfl)) ?_
      iterate 3 refine at_s T rfl ?_
      refine at_cons (at_st T 1 [(.int .i64 u.Most), (.int .i64 (w64 (u.Next + 1))), (.slice a3 (List.length x1) n3)] rfl rfl rfl rfl rfl rfl rfl rfl rfl rfl ?_)
      refine at_end ?_
      refine at_sub [(0, (.pointer (some ⟨b_u, 0, none⟩)))] ⟨rfl, trivial⟩ ?_
      refine at_then ?_
      refine at_seq ?_
      refine at_region [0, 1, 2, 3, 4, 5, 6] rfl ?_
      iterate 3 refine at_s T rfl ?_
      refine at_v rfl (g_load T rfl rfl rfl rfl (in_var (j := 1) rfl rfl)) ?_
      iterate 3 refine at_s T rfl ?_
      refine at_end ?_
      refine at_sub [(6, (.int .i64 (w64 ((w64 (u.Next + 1)) - 1)))), (7, (.bool true))] ⟨rfl, rfl, trivial⟩ ?_
      refine at_then ?_
      refine at_ret ?_
      obtain rfl := Option.some.inj H
      exact at_post (T := T) rfl (.tmp rfl (.tmp rfl .nil)) (fun w o => ⟨⟨(_, _), ⟨a3, n3, H3, s3, rfl, rfl⟩⟩, rfl, own_to [1, 1, 0] rfl o⟩)
end Go.Proofs.Ytmddmofncblfpaa
