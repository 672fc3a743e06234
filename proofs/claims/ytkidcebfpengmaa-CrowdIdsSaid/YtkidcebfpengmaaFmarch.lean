import Derived.Test.YtkidcebfpengmaaT
import Derived.Test.YtkidcebfpengmaaFplan
import Derived.Test.YtkidcebfpengmaaFwhere
namespace Go.Proofs.Ytkidcebfpengmaa
open Go.Hx
set_option maxRecDepth 100000
set_option linter.unusedVariables false
/-! ### herdsman/march.Go$1: function 43 -/
def march_Go_1.f (dir : Int) : Option Bool := some ((decide (dir < 0)) || (decide (dir > 5)))
set_option maxHeartbeats 4000000 in
theorem march_Go_1.c (dir : Int) (r : Bool) (F : Hp) (H : march_Go_1.f dir = some r) :
    CallsL Try.prog 43 [(.int .i64 dir)] [F] (fun _ : Unit => (.bool r)) (fun _ => [F]) := by
  unfold march_Go_1.f at H
  refine calls_atL [(0, (.int .i64 dir))] Try.func43 rfl rfl ⟨rfl, trivial⟩ (fun W => ?_)
  refine at_seq ?_
  refine at_region [0] rfl ?_
  refine at_s T rfl ?_
  refine at_end ?_
  refine at_sub [(0, (.int .i64 dir))] ⟨rfl, trivial⟩ ?_
  refine at_then ?_
  refine at_seq ?_
  refine at_region [0, 1, 2, 3, 4, 5, 6] rfl ?_
  iterate 3 refine at_s T rfl ?_
  refine at_grp T [3, 4, 5] (s := 5) (c := (decide (dir < 0))) [(8, (.bool ((decide (dir < 0)) || (decide (dir > 5)))))] rfl rfl rfl (fun c1 => ⟨(by rw [c1]; rfl), trivial⟩) (fun c1 => ⟨(by rw [c1]; rfl), trivial⟩) ?_
  refine at_s T rfl ?_
  refine at_end ?_
  refine at_sub [(2, (.bool ((decide (dir < 0)) || (decide (dir > 5)))))] ⟨rfl, trivial⟩ ?_
  refine at_then ?_
  refine at_ret ?_
  obtain rfl := Option.some.inj H
  exact at_post (T := T) rfl (.tmp rfl .nil) (fun w o => ⟨(), rfl, own_to [0] rfl o⟩)

/-! ### slices.IndexFunc[[]int,int]: function 72 -/
def slices_IndexFunc_int_int.l0 : Nat → (List Int) → Int → Option Int
  | 0, _, _ => none
  | k3 + 1, s, x2 => if x2 < (List.length s : Int) then (if (0 ≤ x2 ∧ x2 < (List.length s : Int)) then ((march_Go_1.f (rd s x2)).bind fun v4 => if v4 = true then (some x2) else (slices_IndexFunc_int_int.l0 k3 s (w64 (x2 + 1)))) else none) else (some (-1))
def slices_IndexFunc_int_int.f (s : (List Int)) : Option Int := slices_IndexFunc_int_int.l0 fuel s 0
set_option maxHeartbeats 4000000 in
theorem slices_IndexFunc_int_int.c {a_s : Option Addr} {n_s : Nat} (s : (List Int)) (r : Int) (F : Hp) (H : slices_IndexFunc_int_int.f s = some r) (h_s : SliceR (Fl.int .i64) s a_s F) (c_s : List.length s ≤ n_s) :
    CallsL Try.prog 72 [(.slice a_s (List.length s) n_s), (.func (.func 43) #[] #[])] [F] (fun _ : Unit => (.int .i64 r)) (fun _ => [F]) := by
  unfold slices_IndexFunc_int_int.f at H
  refine calls_atL [(0, (.slice a_s (List.length s) n_s)), (1, (.func (.func 43) #[] #[]))] Try.func72 rfl rfl ⟨rfl, rfl, trivial⟩ (fun W => ?_)
  refine at_seq ?_
  refine at_region [0] rfl ?_
  refine at_s T rfl ?_
  refine at_end ?_
  refine at_sub [(0, (.slice a_s (List.length s) n_s)), (1, (.func (.func 43) #[] #[]))] ⟨rfl, rfl, trivial⟩ ?_
  refine at_then ?_
  refine at_seq ?_
  refine at_seq ?_
  refine at_region [0, 1, 2] rfl ?_
  iterate 3 refine at_s T rfl ?_
  refine at_end ?_
  refine at_sub [(0, (.slice a_s (List.length s) n_s)), (1, (.func (.func 43) #[] #[])), (7, (.int .i64 (List.length s : Int))), (8, (.int .i64 0))] ⟨rfl, rfl, rfl, rfl, trivial⟩ ?_
  refine at_then ?_
  refine at_block ?_
  refine at_loopL (σ := Nat × Int) (fun ⟨k3, x2⟩ => slices_IndexFunc_int_int.l0 k3 s x2 = some r) (fun ⟨k3, x2⟩ => [(0, (.slice a_s (List.length s) n_s)), (1, (.func (.func 43) #[] #[])), (7, (.int .i64 (List.length s : Int))), (8, (.int .i64 x2))]) (fun ⟨k3, x2⟩ => [F]) (fun s => s.1) (fuel, 0) [0] H ⟨rfl, rfl, rfl, rfl, trivial⟩ rfl ?_
  rintro ⟨k3, x2⟩ Z1
  replace Z1 : slices_IndexFunc_int_int.l0 k3 s x2 = some r := Z1
  rcases k3 with _ | k3
  · rw [slices_IndexFunc_int_int.l0] at Z1; cases Z1
  · rw [slices_IndexFunc_int_int.l0] at Z1
    refine at_seq ?_
    refine at_region [0] rfl ?_
    refine at_s T rfl ?_
    refine at_end ?_
    refine at_sub [(0, (.slice a_s (List.length s) n_s)), (1, (.func (.func 43) #[] #[])), (7, (.int .i64 (List.length s : Int))), (8, (.int .i64 x2)), (9, (.bool (decide (x2 < (List.length s : Int)))))] ⟨rfl, rfl, rfl, rfl, rfl, trivial⟩ ?_
    refine at_then ?_
    refine at_seq ?_
    refine at_cond rfl (fun c2 => ?_) (fun c2 => ?_)
    · replace Z1 := if_t (of_decide_eq_true c2) Z1
      refine at_skip ?_
      refine at_then ?_
      refine at_seq ?_
      refine at_block ?_
      refine at_seq ?_
      refine at_region [0, 1] rfl ?_
      iterate 2 refine at_s T rfl ?_
      refine at_end ?_
      refine at_sub [(0, (.slice a_s (List.length s) n_s)), (1, (.func (.func 43) #[] #[])), (5, (.int .i64 x2)), (7, (.int .i64 (List.length s : Int))), (8, (.int .i64 x2))] ⟨rfl, rfl, rfl, rfl, rfl, trivial⟩ ?_
      refine at_then ?_
      refine at_seq ?_
      refine at_region [0, 1, 2, 3, 4, 5] rfl ?_
      iterate 3 refine at_s T rfl ?_
      obtain ⟨c3, Z1⟩ := chk_e Z1
      obtain ⟨q1, o1, e1⟩ := h_s.addr c3.1 c3.2
      refine at_v rfl (g_index T rfl rfl rfl rfl rfl e1 c3.1 c3.2) ?_
      refine at_v rfl (g_load T rfl rfl rfl rfl (in_elem1 (k := (Fl.int .i64)) (ro_of h_s (j := 0) rfl) e1 c3 0 rfl)) ?_
      obtain ⟨v4, V4, Z1⟩ := bind_e Z1
      refine at_cons (at_c (B := fun _ => []) [] rfl rfl rfl rfl has43 rfl rfl (march_Go_1.c (rd s x2) v4 _ V4) (fun _ => ?_))
      refine at_end ?_
      refine at_sub [(0, (.slice a_s (List.length s) n_s)), (1, (.func (.func 43) #[] #[])), (5, (.int .i64 x2)), (7, (.int .i64 (List.length s : Int))), (8, (.int .i64 x2)), (16, (.bool v4))] ⟨rfl, rfl, rfl, rfl, rfl, rfl, trivial⟩ ?_
      refine at_then ?_
      refine at_cond rfl (fun c5 => ?_) (fun c5 => ?_)
      · replace Z1 := if_t c5 Z1
        refine at_seq ?_
        refine at_region [0, 1] rfl ?_
        iterate 2 refine at_s T rfl ?_
        refine at_end ?_
        refine at_sub [(4, (.int .i64 x2))] ⟨rfl, trivial⟩ ?_
        refine at_then ?_
        refine at_ret ?_
        refine at_rb ?_
        refine at_rt ?_
        refine at_rt ?_
        refine at_rb ?_
        refine at_rt ?_
        obtain rfl := Option.some.inj Z1
        exact at_post (T := T) rfl (.tmp rfl .nil) (fun w o => ⟨(), rfl, own_to [0] rfl o⟩)
      · replace Z1 := if_f (bf c5) Z1
        refine at_skip ?_
        refine at_nb ?_
        refine at_then ?_
        refine at_region [0, 1] rfl ?_
        iterate 2 refine at_s T rfl ?_
        refine at_end ?_
        refine at_sub [(0, (.slice a_s (List.length s) n_s)), (1, (.func (.func 43) #[] #[])), (7, (.int .i64 (List.length s : Int))), (8, (.int .i64 (w64 (x2 + 1))))] ⟨rfl, rfl, rfl, rfl, trivial⟩ ?_
        refine at_then ?_
        exact at_roundL (k3, (w64 (x2 + 1))) [0] Z1 (Nat.lt_succ_self _) ⟨rfl, rfl, rfl, rfl, trivial⟩ rfl
    · replace Z1 := if_f (of_decide_eq_false c2) Z1
      refine at_exit ?_
      refine at_xt ?_
      refine at_xt ?_
      refine at_xb ?_
      refine at_then ?_
      refine at_seq ?_
      refine at_region [0] rfl ?_
      refine at_s T rfl ?_
      refine at_end ?_
      refine at_sub [(4, (.int .i64 (-1)))] ⟨rfl, trivial⟩ ?_
      refine at_then ?_
      refine at_ret ?_
      obtain rfl := Option.some.inj Z1
      exact at_post (T := T) rfl (.tmp rfl .nil) (fun w o => ⟨(), rfl, own_to [0] rfl o⟩)

/-! ### slices.ContainsFunc[[]int,int]: function 45 -/
def slices_ContainsFunc_int_int.f (s : (List Int)) : Option Bool := (slices_IndexFunc_int_int.f s).bind fun v1 => some (decide (v1 ≥ 0))
set_option maxHeartbeats 4000000 in
theorem slices_ContainsFunc_int_int.c {a_s : Option Addr} {n_s : Nat} (s : (List Int)) (r : Bool) (F : Hp) (H : slices_ContainsFunc_int_int.f s = some r) (h_s : SliceR (Fl.int .i64) s a_s F) (c_s : List.length s ≤ n_s) :
    CallsL Try.prog 45 [(.slice a_s (List.length s) n_s), (.func (.func 43) #[] #[])] [F] (fun _ : Unit => (.bool r)) (fun _ => [F]) := by
  unfold slices_ContainsFunc_int_int.f at H
  refine calls_atL [(0, (.slice a_s (List.length s) n_s)), (1, (.func (.func 43) #[] #[]))] Try.func45 rfl rfl ⟨rfl, rfl, trivial⟩ (fun W => ?_)
  refine at_seq ?_
  refine at_region [0] rfl ?_
  refine at_s T rfl ?_
  refine at_end ?_
  refine at_sub [(0, (.slice a_s (List.length s) n_s)), (1, (.func (.func 43) #[] #[]))] ⟨rfl, rfl, trivial⟩ ?_
  refine at_then ?_
  refine at_seq ?_
  refine at_region [0, 1, 2, 3, 4] rfl ?_
  iterate 2 refine at_s T rfl ?_
  obtain ⟨v1, V1, H⟩ := bind_e H
  refine at_cons (at_c (B := fun _ => []) [] rfl rfl rfl rfl has72 rfl rfl (slices_IndexFunc_int_int.c s v1 _ V1 (ro_of h_s (j := 0) rfl) c_s) (fun _ => ?_))
  iterate 2 refine at_s T rfl ?_
  refine at_end ?_
  refine at_sub [(4, (.bool (decide (v1 ≥ 0))))] ⟨rfl, trivial⟩ ?_
  refine at_then ?_
  refine at_ret ?_
  obtain rfl := Option.some.inj H
  exact at_post (T := T) rfl (.tmp rfl .nil) (fun w o => ⟨(), rfl, own_to [0] rfl o⟩)

/-! ### (*herdsman/march.field).step: function 46 -/
def march_field_step.f (f : march_field) (u : api_Unit) (dir : Int) : Option (Bool × march_field × api_Unit) := if (dir == 0) = true then ((where_Step.f f.w f.h u.Cell dir).bind fun v1 => (if v1 < 0 then (some true) else (some (mval f.stand v1))).bind fun x2 => if x2 = true then (some (true, f, u)) else (if (List.length f.moves + 1 ≤ 1099511627776) then (if (v1 == u.Goal) = true then (if (List.length f.gone + 1 ≤ 1099511627776) then (some (false, (march_field.mk f.w f.h (mdel f.stand u.Cell) (f.moves ++ [(api_Move.mk u.Id v1)]) (f.gone ++ [u.Id])), (api_Unit.mk u.Id v1 u.Goal))) else none) else (some (true, (march_field.mk f.w f.h (mset (mdel f.stand u.Cell) v1 true) (f.moves ++ [(api_Move.mk u.Id v1)]) f.gone), (api_Unit.mk u.Id v1 u.Goal)))) else none)) else (if (dir == 1) = true then ((where_Step.f f.w f.h u.Cell dir).bind fun v4 => (if v4 < 0 then (some true) else (some (mval f.stand v4))).bind fun x5 => if x5 = true then (some (true, f, u)) else (if (List.length f.moves + 1 ≤ 1099511627776) then (if (v4 == u.Goal) = true then (if (List.length f.gone + 1 ≤ 1099511627776) then (some (false, (march_field.mk f.w f.h (mdel f.stand u.Cell) (f.moves ++ [(api_Move.mk u.Id v4)]) (f.gone ++ [u.Id])), (api_Unit.mk u.Id v4 u.Goal))) else none) else (some (true, (march_field.mk f.w f.h (mset (mdel f.stand u.Cell) v4 true) (f.moves ++ [(api_Move.mk u.Id v4)]) f.gone), (api_Unit.mk u.Id v4 u.Goal)))) else none)) else (if (dir == 2) = true then ((where_Step.f f.w f.h u.Cell dir).bind fun v7 => (if v7 < 0 then (some true) else (some (mval f.stand v7))).bind fun x8 => if x8 = true then (some (true, f, u)) else (if (List.length f.moves + 1 ≤ 1099511627776) then (if (v7 == u.Goal) = true then (if (List.length f.gone + 1 ≤ 1099511627776) then (some (false, (march_field.mk f.w f.h (mdel f.stand u.Cell) (f.moves ++ [(api_Move.mk u.Id v7)]) (f.gone ++ [u.Id])), (api_Unit.mk u.Id v7 u.Goal))) else none) else (some (true, (march_field.mk f.w f.h (mset (mdel f.stand u.Cell) v7 true) (f.moves ++ [(api_Move.mk u.Id v7)]) f.gone), (api_Unit.mk u.Id v7 u.Goal)))) else none)) else (if (dir == 3) = true then ((where_Step.f f.w f.h u.Cell dir).bind fun v10 => (if v10 < 0 then (some true) else (some (mval f.stand v10))).bind fun x11 => if x11 = true then (some (true, f, u)) else (if (List.length f.moves + 1 ≤ 1099511627776) then (if (v10 == u.Goal) = true then (if (List.length f.gone + 1 ≤ 1099511627776) then (some (false, (march_field.mk f.w f.h (mdel f.stand u.Cell) (f.moves ++ [(api_Move.mk u.Id v10)]) (f.gone ++ [u.Id])), (api_Unit.mk u.Id v10 u.Goal))) else none) else (some (true, (march_field.mk f.w f.h (mset (mdel f.stand u.Cell) v10 true) (f.moves ++ [(api_Move.mk u.Id v10)]) f.gone), (api_Unit.mk u.Id v10 u.Goal)))) else none)) else (some (true, f, u)))))
def march_field_step.R (b_f : Nat) (b_u : Nat) (r : (Bool × march_field × api_Unit)) (u : Value) (G : List Hp) : Prop := ∃ (a0 : Nat) (H0 : Hp) (a1 : Option Addr) (n1 : Nat) (H1 : Hp) (a2 : Option Addr) (n2 : Nat) (H2 : Hp), MapO (Ky.int .i64 u3) (fun x : Bool => Value.bool x) r.2.1.stand a0 H0 ∧ SliceO k_api_Move 42 r.2.1.moves a1 n1 H1 ∧ SliceO (Fl.int .i64) 3 r.2.1.gone a2 n2 H2 ∧ u = (.bool r.1) ∧ G = [[(b_f, Obj.cells #[(.int .i64 r.2.1.w), (.int .i64 r.2.1.h), (.map (some a0)), (.slice a1 (List.length r.2.1.moves) n1), (.slice a2 (List.length r.2.1.gone) n2)] 82 (0, 0))], H0, H1, H2, [(b_u, Obj.cells #[(.int .i64 r.2.2.Id), (.int .i64 r.2.2.Cell), (.int .i64 r.2.2.Goal)] 40 (0, 0))]]
set_option maxHeartbeats 4000000 in
theorem march_field_step.c {b_f : Nat} {a_f_stand : Nat} {H_f_stand : Hp} {a_f_moves : Option Addr} {n_f_moves : Nat} {H_f_moves : Hp} {a_f_gone : Option Addr} {n_f_gone : Nat} {H_f_gone : Hp} {b_u : Nat} (f : march_field) (u : api_Unit) (dir : Int) (r : (Bool × march_field × api_Unit)) (F : Hp) (H : march_field_step.f f u dir = some r) (s_f_stand : MapO (Ky.int .i64 u3) (fun x : Bool => Value.bool x) f.stand a_f_stand H_f_stand) (s_f_moves : SliceO k_api_Move 42 f.moves a_f_moves n_f_moves H_f_moves) (s_f_gone : SliceO (Fl.int .i64) 3 f.gone a_f_gone n_f_gone H_f_gone) :
    CallsL Try.prog 46 [(.pointer (some ⟨b_f, 0, none⟩)), (.pointer (some ⟨b_u, 0, none⟩)), (.int .i64 dir)] [[(b_f, Obj.cells #[(.int .i64 f.w), (.int .i64 f.h), (.map (some a_f_stand)), (.slice a_f_moves (List.length f.moves) n_f_moves), (.slice a_f_gone (List.length f.gone) n_f_gone)] 82 (0, 0))], H_f_stand, H_f_moves, H_f_gone, [(b_u, Obj.cells #[(.int .i64 u.Id), (.int .i64 u.Cell), (.int .i64 u.Goal)] 40 (0, 0))], F] (fun p : { p : Value × List Hp // march_field_step.R b_f b_u r p.1 p.2 } => p.1.1) (fun p => (p.1.2 ++ []) ++ [F]) := by
  unfold march_field_step.f at H
  refine calls_atL [(0, (.pointer (some ⟨b_f, 0, none⟩))), (1, (.pointer (some ⟨b_u, 0, none⟩))), (2, (.int .i64 dir))] Try.func46 rfl rfl ⟨rfl, rfl, rfl, trivial⟩ (fun W => ?_)
  refine at_seq ?_
  refine at_region [0] rfl ?_
  refine at_s T rfl ?_
  refine at_end ?_
  refine at_sub [(0, (.pointer (some ⟨b_f, 0, none⟩))), (1, (.pointer (some ⟨b_u, 0, none⟩))), (2, (.int .i64 dir))] ⟨rfl, rfl, rfl, trivial⟩ ?_
  refine at_then ?_
  refine at_seq ?_
  refine at_seq ?_
  refine at_region [0] rfl ?_
  refine at_s T rfl ?_
  refine at_end ?_
  refine at_sub [(0, (.pointer (some ⟨b_f, 0, none⟩))), (1, (.pointer (some ⟨b_u, 0, none⟩))), (2, (.int .i64 dir)), (8, (.int .i64 dir))] ⟨rfl, rfl, rfl, rfl, trivial⟩ ?_
  refine at_then ?_
  refine at_block ?_
  refine at_seq ?_
  refine at_block ?_
  refine at_block ?_
  refine at_block ?_
  refine at_block ?_
  refine at_seq ?_
  refine at_seq ?_
  refine at_seq ?_
  refine at_region [0, 1] rfl ?_
  iterate 2 refine at_s T rfl ?_
  refine at_end ?_
  refine at_sub [(0, (.pointer (some ⟨b_f, 0, none⟩))), (1, (.pointer (some ⟨b_u, 0, none⟩))), (2, (.int .i64 dir)), (8, (.int .i64 dir)), (9, (.bool (dir == 0)))] ⟨rfl, rfl, rfl, rfl, rfl, trivial⟩ ?_
  refine at_then ?_
  refine at_cond rfl (fun c1 => ?_) (fun c1 => ?_)
  · replace H := if_t c1 H
    refine at_exit ?_
    refine at_xt ?_
    refine at_xt ?_
    refine at_xb ?_
    refine at_nb ?_
    refine at_nb ?_
    refine at_nb ?_
    refine at_then ?_
    refine at_seq ?_
    refine at_seq ?_
    refine at_region_q mix (by kernel_rfl) ?_
    iterate 3 refine atq_s T rfl ?_
    refine atq_v rfl rfl rfl (g_load T rfl rfl rfl rfl (in_var (j := 0) rfl rfl)) ?_
    iterate 3 refine atq_s T rfl ?_
    refine atq_v rfl rfl rfl (g_load T rfl rfl rfl rfl (in_var (j := 0) rfl rfl)) ?_
    iterate 3 refine atq_s T rfl ?_
    refine atq_v rfl rfl rfl (g_load T rfl rfl rfl rfl (in_var (j := 4) rfl rfl)) ?_
    refine atq_s T rfl ?_
    obtain ⟨v1, V2, H⟩ := bind_e H
    refine atq_c rfl rfl rfl rfl rfl rfl has23 rfl (where_Step.c f.w f.h u.Cell dir v1 _ V2) ?_
    refine atq_s T rfl ?_
    refine atq_end ?_
    refine at_sub [(0, (.pointer (some ⟨b_f, 0, none⟩))), (1, (.pointer (some ⟨b_u, 0, none⟩))), (7, (.int .i64 v1))] ⟨rfl, rfl, rfl, trivial⟩ ?_
    refine at_then ?_
    refine at_seq ?_
    obtain ⟨z3, Z3, H⟩ := bind_e H
    refine at_seq_mid (σ := Bool) (fun x2 => x2 = z3) (fun x2 => [(0, (.pointer (some ⟨b_f, 0, none⟩))), (1, (.pointer (some ⟨b_u, 0, none⟩))), (7, (.int .i64 v1)), (40, (.bool x2))]) (fun x2 => [F, [(b_f, Obj.cells #[(.int .i64 f.w), (.int .i64 f.h), (.map (some a_f_stand)), (.slice a_f_moves (List.length f.moves) n_f_moves), (.slice a_f_gone (List.length f.gone) n_f_gone)] 82 (0, 0))], H_f_stand, H_f_moves, H_f_gone, [(b_u, Obj.cells #[(.int .i64 u.Id), (.int .i64 u.Cell), (.int .i64 u.Goal)] 40 (0, 0))]]) ?_ ?_
    · refine at_region [0, 1, 2, 3, 4, 5, 6, 7, 8, 9] rfl ?_
      iterate 3 refine at_s T rfl ?_
      refine at_case (s := 33) rfl (fun c4 => ?_) (fun c4 => ?_)
      · replace Z3 := if_t (of_decide_eq_true c4) Z3
        iterate 7 refine at_s T rfl ?_
        refine at_end ?_
        refine at_sub [(0, (.pointer (some ⟨b_f, 0, none⟩))), (1, (.pointer (some ⟨b_u, 0, none⟩))), (7, (.int .i64 v1)), (40, (.bool true))] ⟨rfl, rfl, rfl, rfl, trivial⟩ ?_
        refine at_then ?_
        obtain rfl := Option.some.inj Z3
        exact at_mid true [5, 0, 0, 0, 0, 0] rfl ⟨rfl, rfl, rfl, rfl, trivial⟩ rfl
      · replace Z3 := if_f (of_decide_eq_false c4) Z3
        iterate 3 refine at_s T rfl ?_
        refine at_v rfl (g_load T rfl rfl rfl rfl (in_var (j := 0) rfl rfl)) ?_
        refine at_s T rfl ?_
        refine at_v rfl (g_look T (Ky.int .i64 u3) (fun x : Bool => Value.bool x) rfl rfl rfl rfl rfl (mown_of s_f_stand (j := 1) rfl)) ?_
        refine at_s T rfl ?_
        refine at_end ?_
        refine at_sub [(0, (.pointer (some ⟨b_f, 0, none⟩))), (1, (.pointer (some ⟨b_u, 0, none⟩))), (7, (.int .i64 v1)), (40, (.bool (mval f.stand v1)))] ⟨rfl, rfl, rfl, rfl, trivial⟩ ?_
        refine at_then ?_
        obtain rfl := Option.some.inj Z3
        exact at_mid (mval f.stand v1) [5, 0, 0, 0, 0, 0] rfl ⟨rfl, rfl, rfl, rfl, trivial⟩ rfl
    · rintro x2 rfl
      refine at_cond rfl (fun c5 => ?_) (fun c5 => ?_)
      · replace H := if_t c5 H
        refine at_seq ?_
        refine at_region [0] rfl ?_
        refine at_s T rfl ?_
        refine at_end ?_
        refine at_sub [(6, (.bool true))] ⟨rfl, trivial⟩ ?_
        refine at_then ?_
        refine at_ret ?_
        refine at_rt ?_
        refine at_rt ?_
        refine at_rb ?_
        refine at_rt ?_
        obtain rfl := Option.some.inj H
        exact at_post (T := T) rfl (.tmp rfl .nil) (fun w o => ⟨⟨(_, _), ⟨a_f_stand, H_f_stand, a_f_moves, n_f_moves, H_f_moves, a_f_gone, n_f_gone, H_f_gone, s_f_stand, s_f_moves, s_f_gone, rfl, rfl⟩⟩, rfl, own_to [1, 1, 1, 1, 1, 0] rfl o⟩)
      · replace H := if_f (bf c5) H
        refine at_skip ?_
        refine at_then ?_
        refine at_seq ?_
        refine at_region_m [[], [0], [0, 1], [0, 1, 2], [], [4], [4, 5], [4, 5, 6], [0, 1, 2, 3, 4, 5, 6, 7]] [8] [F, [(b_f, Obj.cells #[(.int .i64 f.w), (.int .i64 f.h), (.map (some a_f_stand)), (.slice a_f_moves (List.length f.moves) n_f_moves), (.slice a_f_gone (List.length f.gone) n_f_gone)] 82 (0, 0))], H_f_stand, H_f_moves, H_f_gone, [(b_u, Obj.cells #[(.int .i64 u.Id), (.int .i64 u.Cell), (.int .i64 u.Goal)] 40 (0, 0))]] mix (by kernel_rfl) (by repeat first | exact pf_body | refine pf_then ?_ | refine pf_block ?_) (fun hg pf => ?_)
        refine atm_s T 0 hg pf (by kernel_rfl) (still_o [0, 0, 0, 0, 0, 0] rfl) rfl ?_
        refine atm_s T 1 hg pf (by kernel_rfl) (still_o [0, 0, 0, 0, 0, 0] rfl) rfl ?_
        refine atm_s T 2 hg pf (by kernel_rfl) (still_o [0, 0, 0, 0, 0, 0] rfl) rfl ?_
        refine atm_v 3 hg pf (by kernel_rfl) (still_o [0, 0, 0, 0, 0, 0] rfl) rfl rfl (g_load T rfl rfl rfl rfl (in_var (j := 1) rfl rfl)) ?_
        refine atm_s T 4 hg pf (by kernel_rfl) (still_o [0, 0, 0, 0, 0, 0] rfl) rfl ?_
        refine atm_s T 5 hg pf (by kernel_rfl) (still_o [0, 0, 0, 0, 0, 0] rfl) rfl ?_
        refine atm_s T 6 hg pf (by kernel_rfl) (still_o [0, 0, 0, 0, 0, 0] rfl) rfl ?_
        refine atm_v 7 hg pf (by kernel_rfl) (still_o [0, 0, 0, 0, 0, 0] rfl) rfl rfl (g_load T rfl rfl rfl rfl (in_var (j := 5) rfl rfl)) ?_
        refine atm_one 8 (by kernel_rfl) ?_
        refine at_md (g := 2) (m := f.stand) (k := u.Cell) T (Ky.int .i64 u3) (fun x : Bool => Value.bool x) rfl rfl rfl rfl rfl rfl rfl rfl s_f_stand (fun H6 s6 => ?_)
        refine atm_next (still_l (by kernel_rfl)) ?_
        refine atm_end (by kernel_rfl) ?_
        refine at_sub [(0, (.pointer (some ⟨b_f, 0, none⟩))), (1, (.pointer (some ⟨b_u, 0, none⟩))), (7, (.int .i64 v1))] ⟨rfl, rfl, rfl, trivial⟩ ?_
        refine at_then ?_
        refine at_seq ?_
        refine at_region [0, 1, 2, 3, 4] rfl ?_
        iterate 4 refine at_s T rfl ?_
        refine at_cons (at_st T 5 [(.int .i64 u.Id), (.int .i64 v1), (.int .i64 u.Goal)] rfl rfl rfl rfl rfl rfl rfl rfl rfl rfl ?_)
        refine at_end ?_
        refine at_sub [(0, (.pointer (some ⟨b_f, 0, none⟩))), (1, (.pointer (some ⟨b_u, 0, none⟩))), (7, (.int .i64 v1))] ⟨rfl, rfl, rfl, trivial⟩ ?_
        refine at_then ?_
        refine at_seq ?_
        refine at_region_m [[], [], [1], [1, 2], [1, 2, 3], [], [5], [5, 6], [5, 6, 7], [], [5, 6, 7, 8, 9], [5, 6, 7, 8, 9, 10], [1, 2, 3, 4, 5, 6, 7, 8, 9, 10, 11], [0, 1, 2, 3, 4, 5, 6, 7, 8, 9, 10, 11, 12], [0, 1, 2, 3, 4, 5, 6, 7, 8, 9, 10, 11, 12, 13], [0, 1, 2, 3, 4, 5, 6, 7, 8, 9, 10, 11, 12, 13, 14]] [12, 15] [F, [(b_f, Obj.cells #[(.int .i64 f.w), (.int .i64 f.h), (.map (some a_f_stand)), (.slice a_f_moves (List.length f.moves) n_f_moves), (.slice a_f_gone (List.length f.gone) n_f_gone)] 82 (0, 0))], H6, H_f_moves, H_f_gone, [(b_u, Obj.cells #[(.int .i64 u.Id), (.int .i64 v1), (.int .i64 u.Goal)] 40 (0, 0))]] mix (by kernel_rfl) (by repeat first | exact pf_body | refine pf_then ?_ | refine pf_block ?_) (fun hg pf => ?_)
        refine atm_s T 0 hg pf (by kernel_rfl) (still_o [0, 0, 0, 0, 0, 0] rfl) rfl ?_
        refine atm_s T 1 hg pf (by kernel_rfl) (still_o [0, 0, 0, 0, 0, 0] rfl) rfl ?_
        refine atm_s T 2 hg pf (by kernel_rfl) (still_o [0, 0, 0, 0, 0, 0] rfl) rfl ?_
        refine atm_s T 3 hg pf (by kernel_rfl) (still_o [0, 0, 0, 0, 0, 0] rfl) rfl ?_
        refine atm_v 4 hg pf (by kernel_rfl) (still_o [0, 0, 0, 0, 0, 0] rfl) rfl rfl (g_load T rfl rfl rfl rfl (in_var (j := 1) rfl rfl)) ?_
        refine atm_s T 5 hg pf (by kernel_rfl) (still_o [0, 0, 0, 0, 0, 0] rfl) rfl ?_
        refine atm_s T 6 hg pf (by kernel_rfl) (still_o [0, 0, 0, 0, 0, 0] rfl) rfl ?_
        refine atm_s T 7 hg pf (by kernel_rfl) (still_o [0, 0, 0, 0, 0, 0] rfl) rfl ?_
        refine atm_v 8 hg pf (by kernel_rfl) (still_o [0, 0, 0, 0, 0, 0] rfl) rfl rfl (g_load T rfl rfl rfl rfl (in_var (j := 5) rfl rfl)) ?_
        refine atm_s T 9 hg pf (by kernel_rfl) (still_o [0, 0, 0, 0, 0, 0] rfl) rfl ?_
        refine atm_s T 10 hg pf (by kernel_rfl) (still_o [0, 0, 0, 0, 0, 0] rfl) rfl ?_
        refine atm_one 11 (by kernel_rfl) ?_
        refine at_bs (k := k_api_Move) T [(api_Move.mk u.Id v1)] rfl rfl rfl rfl rfl rfl rfl rfl rfl (fun a7 H7 s7 => ?_)
        refine atm_next (still_o [0, 0, 0, 0, 0, 0] rfl) ?_
        refine atm_one 12 (by kernel_rfl) ?_
        obtain ⟨c6, H⟩ := chk_e H
        refine at_ap (k := k_api_Move) (xs := f.moves) T (g := 3) rfl rfl rfl rfl rfl rfl rfl rfl rfl rfl s_f_moves (own_of s7 (j := 6) rfl) c6 rfl (fun a8 n8 H8 s8 => ?_)
        refine atm_next (still_l (by kernel_rfl)) ?_
        refine atm_s T 13 hg pf (by kernel_rfl) (still_l (by kernel_rfl)) rfl ?_
        refine atm_s T 14 hg pf (by kernel_rfl) (still_l (by kernel_rfl)) rfl ?_
        refine atm_one 15 (by kernel_rfl) ?_
        refine at_st T 1 [(.int .i64 f.w), (.int .i64 f.h), (.map (some a_f_stand)), (.slice a8 (List.length (f.moves ++ [(api_Move.mk u.Id v1)])) n8), (.slice a_f_gone (List.length f.gone) n_f_gone)] rfl rfl rfl rfl rfl rfl rfl rfl rfl rfl ?_
        refine atm_next (still_l (by kernel_rfl)) ?_
        refine atm_end (by kernel_rfl) ?_
        refine at_to [(0, (.pointer (some ⟨b_f, 0, none⟩))), (1, (.pointer (some ⟨b_u, 0, none⟩))), (7, (.int .i64 v1))] [0, 0, 0, 0, 0, 0] [F, [(b_f, Obj.cells #[(.int .i64 f.w), (.int .i64 f.h), (.map (some a_f_stand)), (.slice a8 (List.length (f.moves ++ [(api_Move.mk u.Id v1)])) n8), (.slice a_f_gone (List.length f.gone) n_f_gone)] 82 (0, 0))], H6, H8, H_f_gone, [(b_u, Obj.cells #[(.int .i64 u.Id), (.int .i64 v1), (.int .i64 u.Goal)] 40 (0, 0))]] ⟨rfl, rfl, rfl, trivial⟩ rfl ?_
        refine at_then ?_
        refine at_seq ?_
        refine at_seq ?_
        refine at_region [0, 1, 2, 3, 4, 5] rfl ?_
        iterate 4 refine at_s T rfl ?_
        refine at_v rfl (g_load T rfl rfl rfl rfl (in_var (j := 5) rfl rfl)) ?_
        refine at_s T rfl ?_
        refine at_end ?_
        refine at_sub [(0, (.pointer (some ⟨b_f, 0, none⟩))), (1, (.pointer (some ⟨b_u, 0, none⟩))), (7, (.int .i64 v1)), (73, (.bool (v1 == u.Goal)))] ⟨rfl, rfl, rfl, rfl, trivial⟩ ?_
        refine at_then ?_
        refine at_cond rfl (fun c7 => ?_) (fun c7 => ?_)
        · replace H := if_t c7 H
          refine at_seq ?_
          refine at_region_m [[], [], [1], [1, 2], [1, 2, 3], [], [5], [5, 6], [5, 6, 7], [5, 6, 7, 8], [1, 2, 3, 4, 5, 6, 7, 8, 9], [0, 1, 2, 3, 4, 5, 6, 7, 8, 9, 10], [0, 1, 2, 3, 4, 5, 6, 7, 8, 9, 10, 11], [0, 1, 2, 3, 4, 5, 6, 7, 8, 9, 10, 11, 12]] [10, 13] [F, [(b_f, Obj.cells #[(.int .i64 f.w), (.int .i64 f.h), (.map (some a_f_stand)), (.slice a8 (List.length (f.moves ++ [(api_Move.mk u.Id v1)])) n8), (.slice a_f_gone (List.length f.gone) n_f_gone)] 82 (0, 0))], H6, H8, H_f_gone, [(b_u, Obj.cells #[(.int .i64 u.Id), (.int .i64 v1), (.int .i64 u.Goal)] 40 (0, 0))]] mix (by kernel_rfl) (by repeat first | exact pf_body | refine pf_then ?_ | refine pf_block ?_) (fun hg pf => ?_)
          refine atm_s T 0 hg pf (by kernel_rfl) (still_o [0, 0, 0, 0, 0, 0] rfl) rfl ?_
          refine atm_s T 1 hg pf (by kernel_rfl) (still_o [0, 0, 0, 0, 0, 0] rfl) rfl ?_
          refine atm_s T 2 hg pf (by kernel_rfl) (still_o [0, 0, 0, 0, 0, 0] rfl) rfl ?_
          refine atm_s T 3 hg pf (by kernel_rfl) (still_o [0, 0, 0, 0, 0, 0] rfl) rfl ?_
          refine atm_v 4 hg pf (by kernel_rfl) (still_o [0, 0, 0, 0, 0, 0] rfl) rfl rfl (g_load T rfl rfl rfl rfl (in_var (j := 1) rfl rfl)) ?_
          refine atm_s T 5 hg pf (by kernel_rfl) (still_o [0, 0, 0, 0, 0, 0] rfl) rfl ?_
          refine atm_s T 6 hg pf (by kernel_rfl) (still_o [0, 0, 0, 0, 0, 0] rfl) rfl ?_
          refine atm_s T 7 hg pf (by kernel_rfl) (still_o [0, 0, 0, 0, 0, 0] rfl) rfl ?_
          refine atm_v 8 hg pf (by kernel_rfl) (still_o [0, 0, 0, 0, 0, 0] rfl) rfl rfl (g_load T rfl rfl rfl rfl (in_var (j := 5) rfl rfl)) ?_
          refine atm_one 9 (by kernel_rfl) ?_
          refine at_bs (k := (Fl.int .i64)) T [u.Id] rfl rfl rfl rfl rfl rfl rfl rfl rfl (fun a9 H9 s9 => ?_)
          refine atm_next (still_o [0, 0, 0, 0, 0, 0] rfl) ?_
          refine atm_one 10 (by kernel_rfl) ?_
          obtain ⟨c8, H⟩ := chk_e H
          refine at_ap (k := (Fl.int .i64)) (xs := f.gone) T (g := 4) rfl rfl rfl rfl rfl rfl rfl rfl rfl rfl s_f_gone (own_of s9 (j := 6) rfl) c8 rfl (fun a10 n10 H10 s10 => ?_)
          refine atm_next (still_l (by kernel_rfl)) ?_
          refine atm_s T 11 hg pf (by kernel_rfl) (still_l (by kernel_rfl)) rfl ?_
          refine atm_s T 12 hg pf (by kernel_rfl) (still_l (by kernel_rfl)) rfl ?_
          refine atm_one 13 (by kernel_rfl) ?_
          refine at_st T 1 [(.int .i64 f.w), (.int .i64 f.h), (.map (some a_f_stand)), (.slice a8 (List.length (f.moves ++ [(api_Move.mk u.Id v1)])) n8), (.slice a10 (List.length (f.gone ++ [u.Id])) n10)] rfl rfl rfl rfl rfl rfl rfl rfl rfl rfl ?_
          refine atm_next (still_l (by kernel_rfl)) ?_
          refine atm_end (by kernel_rfl) ?_
          refine at_to [] [0, 0, 0, 0, 0, 0] [F, [(b_f, Obj.cells #[(.int .i64 f.w), (.int .i64 f.h), (.map (some a_f_stand)), (.slice a8 (List.length (f.moves ++ [(api_Move.mk u.Id v1)])) n8), (.slice a10 (List.length (f.gone ++ [u.Id])) n10)] 82 (0, 0))], H6, H8, H10, [(b_u, Obj.cells #[(.int .i64 u.Id), (.int .i64 v1), (.int .i64 u.Goal)] 40 (0, 0))]] trivial rfl ?_
          refine at_then ?_
          refine at_seq ?_
          refine at_region [0] rfl ?_
          refine at_s T rfl ?_
          refine at_end ?_
          refine at_sub [(6, (.bool false))] ⟨rfl, trivial⟩ ?_
          refine at_then ?_
          refine at_ret ?_
          refine at_rt ?_
          refine at_rt ?_
          refine at_rb ?_
          refine at_rt ?_
          obtain rfl := Option.some.inj H
          exact at_post (T := T) rfl (.tmp rfl .nil) (fun w o => ⟨⟨(_, _), ⟨a_f_stand, H6, a8, n8, H8, a10, n10, H10, s6, s8, s10, rfl, rfl⟩⟩, rfl, own_to [1, 1, 1, 1, 1, 0] rfl o⟩)
        · replace H := if_f (bf c7) H
          refine at_skip ?_
          refine at_then ?_
          refine at_region [0, 1, 2, 3, 4, 5] rfl ?_
          iterate 3 refine at_s T rfl ?_
          refine at_v rfl (g_load T rfl rfl rfl rfl (in_var (j := 1) rfl rfl)) ?_
          refine at_s T rfl ?_
          refine at_cons (at_mu (g := 2) (m := (mdel f.stand u.Cell)) (k := v1) (v := true) T (Ky.int .i64 u3) (fun x : Bool => Value.bool x) rfl rfl rfl rfl rfl rfl rfl s6 (fun H11 s11 => ?_))
          refine at_end ?_
          refine at_sub [] trivial ?_
          refine at_then ?_
          refine at_exit ?_
          refine at_xb ?_
          refine at_then ?_
          refine at_seq ?_
          refine at_region [0] rfl ?_
          refine at_s T rfl ?_
          refine at_end ?_
          refine at_sub [(6, (.bool true))] ⟨rfl, trivial⟩ ?_
          refine at_then ?_
          refine at_ret ?_
          obtain rfl := Option.some.inj H
          exact at_post (T := T) rfl (.tmp rfl .nil) (fun w o => ⟨⟨(_, _), ⟨a_f_stand, H11, a8, n8, H8, a_f_gone, n_f_gone, H_f_gone, s11, s8, s_f_gone, rfl, rfl⟩⟩, rfl, own_to [1, 1, 1, 1, 1, 0] rfl o⟩)
  · replace H := if_f (bf c1) H
    refine at_skip ?_
    refine at_then ?_
    refine at_seq ?_
    refine at_seq ?_
    refine at_region [0, 1] rfl ?_
    iterate 2 refine at_s T rfl ?_
    refine at_end ?_
    refine at_sub [(0, (.pointer (some ⟨b_f, 0, none⟩))), (1, (.pointer (some ⟨b_u, 0, none⟩))), (2, (.int .i64 dir)), (8, (.int .i64 dir)), (11, (.bool (dir == 1)))] ⟨rfl, rfl, rfl, rfl, rfl, trivial⟩ ?_
    refine at_then ?_
    refine at_cond rfl (fun c9 => ?_) (fun c9 => ?_)
    · replace H := if_t c9 H
      refine at_exit ?_
      refine at_xt ?_
      refine at_xt ?_
      refine at_xn rfl ?_
      refine at_xb ?_
      refine at_nb ?_
      refine at_nb ?_
      refine at_then ?_
      refine at_seq ?_
      refine at_seq ?_
      refine at_region_q mix (by kernel_rfl) ?_
      iterate 3 refine atq_s T rfl ?_
      refine atq_v rfl rfl rfl (g_load T rfl rfl rfl rfl (in_var (j := 0) rfl rfl)) ?_
      iterate 3 refine atq_s T rfl ?_
      refine atq_v rfl rfl rfl (g_load T rfl rfl rfl rfl (in_var (j := 0) rfl rfl)) ?_
      iterate 3 refine atq_s T rfl ?_
      refine atq_v rfl rfl rfl (g_load T rfl rfl rfl rfl (in_var (j := 4) rfl rfl)) ?_
      refine atq_s T rfl ?_
      obtain ⟨v4, V10, H⟩ := bind_e H
      refine atq_c rfl rfl rfl rfl rfl rfl has23 rfl (where_Step.c f.w f.h u.Cell dir v4 _ V10) ?_
      refine atq_s T rfl ?_
      refine atq_end ?_
      refine at_sub [(0, (.pointer (some ⟨b_f, 0, none⟩))), (1, (.pointer (some ⟨b_u, 0, none⟩))), (7, (.int .i64 v4))] ⟨rfl, rfl, rfl, trivial⟩ ?_
      refine at_then ?_
      refine at_seq ?_
      obtain ⟨z6, Z11, H⟩ := bind_e H
      refine at_seq_mid (σ := Bool) (fun x5 => x5 = z6) (fun x5 => [(0, (.pointer (some ⟨b_f, 0, none⟩))), (1, (.pointer (some ⟨b_u, 0, none⟩))), (7, (.int .i64 v4)), (40, (.bool x5))]) (fun x5 => [F, [(b_f, Obj.cells #[(.int .i64 f.w), (.int .i64 f.h), (.map (some a_f_stand)), (.slice a_f_moves (List.length f.moves) n_f_moves), (.slice a_f_gone (List.length f.gone) n_f_gone)] 82 (0, 0))], H_f_stand, H_f_moves, H_f_gone, [(b_u, Obj.cells #[(.int .i64 u.Id), (.int .i64 u.Cell), (.int .i64 u.Goal)] 40 (0, 0))]]) ?_ ?_
      · refine at_region [0, 1, 2, 3, 4, 5, 6, 7, 8, 9] rfl ?_
        iterate 3 refine at_s T rfl ?_
        refine at_case (s := 33) rfl (fun c12 => ?_) (fun c12 => ?_)
        · replace Z11 := if_t (of_decide_eq_true c12) Z11
          iterate 7 refine at_s T rfl ?_
          refine at_end ?_
          refine at_sub [(0, (.pointer (some ⟨b_f, 0, none⟩))), (1, (.pointer (some ⟨b_u, 0, none⟩))), (7, (.int .i64 v4)), (40, (.bool true))] ⟨rfl, rfl, rfl, rfl, trivial⟩ ?_
          refine at_then ?_
          obtain rfl := Option.some.inj Z11
          exact at_mid true [5, 0, 0, 0, 0, 0] rfl ⟨rfl, rfl, rfl, rfl, trivial⟩ rfl
        · replace Z11 := if_f (of_decide_eq_false c12) Z11
          iterate 3 refine at_s T rfl ?_
          refine at_v rfl (g_load T rfl rfl rfl rfl (in_var (j := 0) rfl rfl)) ?_
          refine at_s T rfl ?_
          refine at_v rfl (g_look T (Ky.int .i64 u3) (fun x : Bool => Value.bool x) rfl rfl rfl rfl rfl (mown_of s_f_stand (j := 1) rfl)) ?_
          refine at_s T rfl ?_
          refine at_end ?_
          refine at_sub [(0, (.pointer (some ⟨b_f, 0, none⟩))), (1, (.pointer (some ⟨b_u, 0, none⟩))), (7, (.int .i64 v4)), (40, (.bool (mval f.stand v4)))] ⟨rfl, rfl, rfl, rfl, trivial⟩ ?_
          refine at_then ?_
          obtain rfl := Option.some.inj Z11
          exact at_mid (mval f.stand v4) [5, 0, 0, 0, 0, 0] rfl ⟨rfl, rfl, rfl, rfl, trivial⟩ rfl
      · rintro x5 rfl
        refine at_cond rfl (fun c13 => ?_) (fun c13 => ?_)
        · replace H := if_t c13 H
          refine at_seq ?_
          refine at_region [0] rfl ?_
          refine at_s T rfl ?_
          refine at_end ?_
          refine at_sub [(6, (.bool true))] ⟨rfl, trivial⟩ ?_
          refine at_then ?_
          refine at_ret ?_
          refine at_rt ?_
          refine at_rt ?_
          refine at_rb ?_
          refine at_rt ?_
          obtain rfl := Option.some.inj H
          exact at_post (T := T) rfl (.tmp rfl .nil) (fun w o => ⟨⟨(_, _), ⟨a_f_stand, H_f_stand, a_f_moves, n_f_moves, H_f_moves, a_f_gone, n_f_gone, H_f_gone, s_f_stand, s_f_moves, s_f_gone, rfl, rfl⟩⟩, rfl, own_to [1, 1, 1, 1, 1, 0] rfl o⟩)
        · replace H := if_f (bf c13) H
          refine at_skip ?_
          refine at_then ?_
          refine at_seq ?_
          refine at_region_m [[], [0], [0, 1], [0, 1, 2], [], [4], [4, 5], [4, 5, 6], [0, 1, 2, 3, 4, 5, 6, 7]] [8] [F, [(b_f, Obj.cells #[(.int .i64 f.w), (.int .i64 f.h), (.map (some a_f_stand)), (.slice a_f_moves (List.length f.moves) n_f_moves), (.slice a_f_gone (List.length f.gone) n_f_gone)] 82 (0, 0))], H_f_stand, H_f_moves, H_f_gone, [(b_u, Obj.cells #[(.int .i64 u.Id), (.int .i64 u.Cell), (.int .i64 u.Goal)] 40 (0, 0))]] mix (by kernel_rfl) (by repeat first | exact pf_body | refine pf_then ?_ | refine pf_block ?_) (fun hg pf => ?_)
          refine atm_s T 0 hg pf (by kernel_rfl) (still_o [0, 0, 0, 0, 0, 0] rfl) rfl ?_
          refine atm_s T 1 hg pf (by kernel_rfl) (still_o [0, 0, 0, 0, 0, 0] rfl) rfl ?_
          refine atm_s T 2 hg pf (by kernel_rfl) (still_o [0, 0, 0, 0, 0, 0] rfl) rfl ?_
          refine atm_v 3 hg pf (by kernel_rfl) (still_o [0, 0, 0, 0, 0, 0] rfl) rfl rfl (g_load T rfl rfl rfl rfl (in_var (j := 1) rfl rfl)) ?_
          refine atm_s T 4 hg pf (by kernel_rfl) (still_o [0, 0, 0, 0, 0, 0] rfl) rfl ?_
          refine atm_s T 5 hg pf (by kernel_rfl) (still_o [0, 0, 0, 0, 0, 0] rfl) rfl ?_
          refine atm_s T 6 hg pf (by kernel_rfl) (still_o [0, 0, 0, 0, 0, 0] rfl) rfl ?_
          refine atm_v 7 hg pf (by kernel_rfl) (still_o [0, 0, 0, 0, 0, 0] rfl) rfl rfl (g_load T rfl rfl rfl rfl (in_var (j := 5) rfl rfl)) ?_
          refine atm_one 8 (by kernel_rfl) ?_
          refine at_md (g := 2) (m := f.stand) (k := u.Cell) T (Ky.int .i64 u3) (fun x : Bool => Value.bool x) rfl rfl rfl rfl rfl rfl rfl rfl s_f_stand (fun H12 s12 => ?_)
          refine atm_next (still_l (by kernel_rfl)) ?_
          refine atm_end (by kernel_rfl) ?_
          refine at_sub [(0, (.pointer (some ⟨b_f, 0, none⟩))), (1, (.pointer (some ⟨b_u, 0, none⟩))), (7, (.int .i64 v4))] ⟨rfl, rfl, rfl, trivial⟩ ?_
          refine at_then ?_
          refine at_seq ?_
          refine at_region [0, 1, 2, 3, 4] rfl ?_
          iterate 4 refine at_s T rfl ?_
          refine at_cons (at_st T 5 [(.int .i64 u.Id), (.int .i64 v4), (.int .i64 u.Goal)] rfl rfl rfl rfl rfl rfl rfl rfl rfl rfl ?_)
          refine at_end ?_
          refine at_sub [(0, (.pointer (some ⟨b_f, 0, none⟩))), (1, (.pointer (some ⟨b_u, 0, none⟩))), (7, (.int .i64 v4))] ⟨rfl, rfl, rfl, trivial⟩ ?_
          refine at_then ?_
          refine at_seq ?_
          refine at_region_m [[], [], [1], [1, 2], [1, 2, 3], [], [5], [5, 6], [5, 6, 7], [], [5, 6, 7, 8, 9], [5, 6, 7, 8, 9, 10], [1, 2, 3, 4, 5, 6, 7, 8, 9, 10, 11], [0, 1, 2, 3, 4, 5, 6, 7, 8, 9, 10, 11, 12], [0, 1, 2, 3, 4, 5, 6, 7, 8, 9, 10, 11, 12, 13], [0, 1, 2, 3, 4, 5, 6, 7, 8, 9, 10, 11, 12, 13, 14]] [12, 15] [F, [(b_f, Obj.cells #[(.int .i64 f.w), (.int .i64 f.h), (.map (some a_f_stand)), (.slice a_f_moves (List.length f.moves) n_f_moves), (.slice a_f_gone (List.length f.gone) n_f_gone)] 82 (0, 0))], H12, H_f_moves, H_f_gone, [(b_u, Obj.cells #[(.int .i64 u.Id), (.int .i64 v4), (.int .i64 u.Goal)] 40 (0, 0))]] mix (by kernel_rfl) (by repeat first | exact pf_body | refine pf_then ?_ | refine pf_block ?_) (fun hg pf => ?_)
          refine atm_s T 0 hg pf (by kernel_rfl) (still_o [0, 0, 0, 0, 0, 0] rfl) rfl ?_
          refine atm_s T 1 hg pf (by kernel_rfl) (still_o [0, 0, 0, 0, 0, 0] rfl) rfl ?_
          refine atm_s T 2 hg pf (by kernel_rfl) (still_o [0, 0, 0, 0, 0, 0] rfl) rfl ?_
          refine atm_s T 3 hg pf (by kernel_rfl) (still_o [0, 0, 0, 0, 0, 0] rfl) rfl ?_
          refine atm_v 4 hg pf (by kernel_rfl) (still_o [0, 0, 0, 0, 0, 0] rfl) rfl rfl (g_load T rfl rfl rfl rfl (in_var (j := 1) rfl rfl)) ?_
          refine atm_s T 5 hg pf (by kernel_rfl) (still_o [0, 0, 0, 0, 0, 0] rfl) rfl ?_
          refine atm_s T 6 hg pf (by kernel_rfl) (still_o [0, 0, 0, 0, 0, 0] rfl) rfl ?_
          refine atm_s T 7 hg pf (by kernel_rfl) (still_o [0, 0, 0, 0, 0, 0] rfl) rfl ?_
          refine atm_v 8 hg pf (by kernel_rfl) (still_o [0, 0, 0, 0, 0, 0] rfl) rfl rfl (g_load T rfl rfl rfl rfl (in_var (j := 5) rfl rfl)) ?_
          refine atm_s T 9 hg pf (by kernel_rfl) (still_o [0, 0, 0, 0, 0, 0] rfl) rfl ?_
          refine atm_s T 10 hg pf (by kernel_rfl) (still_o [0, 0, 0, 0, 0, 0] rfl) rfl ?_
          refine atm_one 11 (by kernel_rfl) ?_
          refine at_bs (k := k_api_Move) T [(api_Move.mk u.Id v4)] rfl rfl rfl rfl rfl rfl rfl rfl rfl (fun a13 H13 s13 => ?_)
          refine atm_next (still_o [0, 0, 0, 0, 0, 0] rfl) ?_
          refine atm_one 12 (by kernel_rfl) ?_
          obtain ⟨c14, H⟩ := chk_e H
          refine at_ap (k := k_api_Move) (xs := f.moves) T (g := 3) rfl rfl rfl rfl rfl rfl rfl rfl rfl rfl s_f_moves (own_of s13 (j := 6) rfl) c14 rfl (fun a14 n14 H14 s14 => ?_)
          refine atm_next (still_l (by kernel_rfl)) ?_
          refine atm_s T 13 hg pf (by kernel_rfl) (still_l (by kernel_rfl)) rfl ?_
          refine atm_s T 14 hg pf (by kernel_rfl) (still_l (by kernel_rfl)) rfl ?_
          refine atm_one 15 (by kernel_rfl) ?_
          refine at_st T 1 [(.int .i64 f.w), (.int .i64 f.h), (.map (some a_f_stand)), (.slice a14 (List.length (f.moves ++ [(api_Move.mk u.Id v4)])) n14), (.slice a_f_gone (List.length f.gone) n_f_gone)] rfl rfl rfl rfl rfl rfl rfl rfl rfl rfl ?_
          refine atm_next (still_l (by kernel_rfl)) ?_
          refine atm_end (by kernel_rfl) ?_
          refine at_to [(0, (.pointer (some ⟨b_f, 0, none⟩))), (1, (.pointer (some ⟨b_u, 0, none⟩))), (7, (.int .i64 v4))] [0, 0, 0, 0, 0, 0] [F, [(b_f, Obj.cells #[(.int .i64 f.w), (.int .i64 f.h), (.map (some a_f_stand)), (.slice a14 (List.length (f.moves ++ [(api_Move.mk u.Id v4)])) n14), (.slice a_f_gone (List.length f.gone) n_f_gone)] 82 (0, 0))], H12, H14, H_f_gone, [(b_u, Obj.cells #[(.int .i64 u.Id), (.int .i64 v4), (.int .i64 u.Goal)] 40 (0, 0))]] ⟨rfl, rfl, rfl, trivial⟩ rfl ?_
          refine at_then ?_
          refine at_seq ?_
          refine at_seq ?_
          refine at_region [0, 1, 2, 3, 4, 5] rfl ?_
          iterate 4 refine at_s T rfl ?_
          refine at_v rfl (g_load T rfl rfl rfl rfl (in_var (j := 5) rfl rfl)) ?_
          refine at_s T rfl ?_
          refine at_end ?_
          refine at_sub [(0, (.pointer (some ⟨b_f, 0, none⟩))), (1, (.pointer (some ⟨b_u, 0, none⟩))), (7, (.int .i64 v4)), (73, (.bool (v4 == u.Goal)))] ⟨rfl, rfl, rfl, rfl, trivial⟩ ?_
          refine at_then ?_
          refine at_cond rfl (fun c15 => ?_) (fun c15 => ?_)
          · replace H := if_t c15 H
            refine at_seq ?_
            refine at_region_m [[], [], [1], [1, 2], [1, 2, 3], [], [5], [5, 6], [5, 6, 7], [5, 6, 7, 8], [1, 2, 3, 4, 5, 6, 7, 8, 9], [0, 1, 2, 3, 4, 5, 6, 7, 8, 9, 10], [0, 1, 2, 3, 4, 5, 6, 7, 8, 9, 10, 11], [0, 1, 2, 3, 4, 5, 6, 7, 8, 9, 10, 11, 12]] [10, 13] [F, [(b_f, Obj.cells #[(.int .i64 f.w), (.int .i64 f.h), (.map (some a_f_stand)), (.slice a14 (List.length (f.moves ++ [(api_Move.mk u.Id v4)])) n14), (.slice a_f_gone (List.length f.gone) n_f_gone)] 82 (0, 0))], H12, H14, H_f_gone, [(b_u, Obj.cells #[(.int .i64 u.Id), (.int .i64 v4), (.int .i64 u.Goal)] 40 (0, 0))]] mix (by kernel_rfl) (by repeat first | exact pf_body | refine pf_then ?_ | refine pf_block ?_) (fun hg pf => ?_)
            refine atm_s T 0 hg pf (by kernel_rfl) (still_o [0, 0, 0, 0, 0, 0] rfl) rfl ?_
            refine atm_s T 1 hg pf (by kernel_rfl) (still_o [0, 0, 0, 0, 0, 0] rfl) rfl ?_
            refine atm_s T 2 hg pf (by kernel_rfl) (still_o [0, 0, 0, 0, 0, 0] rfl) rfl ?_
            refine atm_s T 3 hg pf (by kernel_rfl) (still_o [0, 0, 0, 0, 0, 0] rfl) rfl ?_
            refine atm_v 4 hg pf (by kernel_rfl) (still_o [0, 0, 0, 0, 0, 0] rfl) rfl rfl (g_load T rfl rfl rfl rfl (in_var (j := 1) rfl rfl)) ?_
            refine atm_s T 5 hg pf (by kernel_rfl) (still_o [0, 0, 0, 0, 0, 0] rfl) rfl ?_
            refine atm_s T 6 hg pf (by kernel_rfl) (still_o [0, 0, 0, 0, 0, 0] rfl) rfl ?_
            refine atm_s T 7 hg pf (by kernel_rfl) (still_o [0, 0, 0, 0, 0, 0] rfl) rfl ?_
            refine atm_v 8 hg pf (by kernel_rfl) (still_o [0, 0, 0, 0, 0, 0] rfl) rfl rfl (g_load T rfl rfl rfl rfl (in_var (j := 5) rfl rfl)) ?_
            refine atm_one 9 (by kernel_rfl) ?_
            refine at_bs (k := (Fl.int .i64)) T [u.Id] rfl rfl rfl rfl rfl rfl rfl rfl rfl (fun a15 H15 s15 => ?_)
            refine atm_next (still_o [0, 0, 0, 0, 0, 0] rfl) ?_
            refine atm_one 10 (by kernel_rfl) ?_
            obtain ⟨c16, H⟩ := chk_e H
            refine at_ap (k := (Fl.int .i64)) (xs := f.gone) T (g := 4) rfl rfl rfl rfl rfl rfl rfl rfl rfl rfl s_f_gone (own_of s15 (j := 6) rfl) c16 rfl (fun a16 n16 H16 s16 => ?_)
            refine atm_next (still_l (by kernel_rfl)) ?_
            refine atm_s T 11 hg pf (by kernel_rfl) (still_l (by kernel_rfl)) rfl ?_
            refine atm_s T 12 hg pf (by kernel_rfl) (still_l (by kernel_rfl)) rfl ?_
            refine atm_one 13 (by kernel_rfl) ?_
            refine at_st T 1 [(.int .i64 f.w), (.int .i64 f.h), (.map (some a_f_stand)), (.slice a14 (List.length (f.moves ++ [(api_Move.mk u.Id v4)])) n14), (.slice a16 (List.length (f.gone ++ [u.Id])) n16)] rfl rfl rfl rfl rfl rfl rfl rfl rfl rfl ?_
            refine atm_next (still_l (by kernel_rfl)) ?_
            refine atm_end (by kernel_rfl) ?_
            refine at_to [] [0, 0, 0, 0, 0, 0] [F, [(b_f, Obj.cells #[(.int .i64 f.w), (.int .i64 f.h), (.map (some a_f_stand)), (.slice a14 (List.length (f.moves ++ [(api_Move.mk u.Id v4)])) n14), (.slice a16 (List.length (f.gone ++ [u.Id])) n16)] 82 (0, 0))], H12, H14, H16, [(b_u, Obj.cells #[(.int .i64 u.Id), (.int .i64 v4), (.int .i64 u.Goal)] 40 (0, 0))]] trivial rfl ?_
            refine at_then ?_
            refine at_seq ?_
            refine at_region [0] rfl ?_
            refine at_s T rfl ?_
            refine at_end ?_
            refine at_sub [(6, (.bool false))] ⟨rfl, trivial⟩ ?_
            refine at_then ?_
            refine at_ret ?_
            refine at_rt ?_
            refine at_rt ?_
            refine at_rb ?_
            refine at_rt ?_
            obtain rfl := Option.some.inj H
            exact at_post (T := T) rfl (.tmp rfl .nil) (fun w o => ⟨⟨(_, _), ⟨a_f_stand, H12, a14, n14, H14, a16, n16, H16, s12, s14, s16, rfl, rfl⟩⟩, rfl, own_to [1, 1, 1, 1, 1, 0] rfl o⟩)
          · replace H := if_f (bf c15) H
            refine at_skip ?_
            refine at_then ?_
            refine at_region [0, 1, 2, 3, 4, 5] rfl ?_
            iterate 3 refine at_s T rfl ?_
            refine at_v rfl (g_load T rfl rfl rfl rfl (in_var (j := 1) rfl rfl)) ?_
            refine at_s T rfl ?_
            refine at_cons (at_mu (g := 2) (m := (mdel f.stand u.Cell)) (k := v4) (v := true) T (Ky.int .i64 u3) (fun x : Bool => Value.bool x) rfl rfl rfl rfl rfl rfl rfl s12 (fun H17 s17 => ?_))
            refine at_end ?_
            refine at_sub [] trivial ?_
            refine at_then ?_
            refine at_exit ?_
            refine at_xb ?_
            refine at_then ?_
            refine at_seq ?_
            refine at_region [0] rfl ?_
            refine at_s T rfl ?_
            refine at_end ?_
            refine at_sub [(6, (.bool true))] ⟨rfl, trivial⟩ ?_
            refine at_then ?_
            refine at_ret ?_
            obtain rfl := Option.some.inj H
            exact at_post (T := T) rfl (.tmp rfl .nil) (fun w o => ⟨⟨(_, _), ⟨a_f_stand, H17, a14, n14, H14, a_f_gone, n_f_gone, H_f_gone, s17, s14, s_f_gone, rfl, rfl⟩⟩, rfl, own_to [1, 1, 1, 1, 1, 0] rfl o⟩)
    · replace H := if_f (bf c9) H
      refine at_skip ?_
      refine at_then ?_
      refine at_seq ?_
      refine at_seq ?_
      refine at_region [0, 1] rfl ?_
      iterate 2 refine at_s T rfl ?_
      refine at_end ?_
      refine at_sub [(0, (.pointer (some ⟨b_f, 0, none⟩))), (1, (.pointer (some ⟨b_u, 0, none⟩))), (2, (.int .i64 dir)), (8, (.int .i64 dir)), (13, (.bool (dir == 2)))] ⟨rfl, rfl, rfl, rfl, rfl, trivial⟩ ?_
      refine at_then ?_
      refine at_cond rfl (fun c17 => ?_) (fun c17 => ?_)
      · replace H := if_t c17 H
        refine at_exit ?_
        refine at_xt ?_
        refine at_xt ?_
        refine at_xn rfl ?_
        refine at_xn rfl ?_
        refine at_xb ?_
        refine at_nb ?_
        refine at_then ?_
        refine at_seq ?_
        refine at_seq ?_
        refine at_region_q mix (by kernel_rfl) ?_
        iterate 3 refine atq_s T rfl ?_
        refine atq_v rfl rfl rfl (g_load T rfl rfl rfl rfl (in_var (j := 0) rfl rfl)) ?_
        iterate 3 refine atq_s T rfl ?_
        refine atq_v rfl rfl rfl (g_load T rfl rfl rfl rfl (in_var (j := 0) rfl rfl)) ?_
        iterate 3 refine atq_s T rfl ?_
        refine atq_v rfl rfl rfl (g_load T rfl rfl rfl rfl (in_var (j := 4) rfl rfl)) ?_
        refine atq_s T rfl ?_
        obtain ⟨v7, V18, H⟩ := bind_e H
        refine atq_c rfl rfl rfl rfl rfl rfl has23 rfl (where_Step.c f.w f.h u.Cell dir v7 _ V18) ?_
        refine atq_s T rfl ?_
        refine atq_end ?_
        refine at_sub [(0, (.pointer (some ⟨b_f, 0, none⟩))), (1, (.pointer (some ⟨b_u, 0, none⟩))), (7, (.int .i64 v7))] ⟨rfl, rfl, rfl, trivial⟩ ?_
        refine at_then ?_
        refine at_seq ?_
        obtain ⟨z9, Z19, H⟩ := bind_e H
        refine at_seq_mid (σ := Bool) (fun x8 => x8 = z9) (fun x8 => [(0, (.pointer (some ⟨b_f, 0, none⟩))), (1, (.pointer (some ⟨b_u, 0, none⟩))), (7, (.int .i64 v7)), (40, (.bool x8))]) (fun x8 => [F, [(b_f, Obj.cells #[(.int .i64 f.w), (.int .i64 f.h), (.map (some a_f_stand)), (.slice a_f_moves (List.length f.moves) n_f_moves), (.slice a_f_gone (List.length f.gone) n_f_gone)] 82 (0, 0))], H_f_stand, H_f_moves, H_f_gone, [(b_u, Obj.cells #[(.int .i64 u.Id), (.int .i64 u.Cell), (.int .i64 u.Goal)] 40 (0, 0))]]) ?_ ?_
        · refine at_region [0, 1, 2, 3, 4, 5, 6, 7, 8, 9] rfl ?_
          iterate 3 refine at_s T rfl ?_
          refine at_case (s := 33) rfl (fun c20 => ?_) (fun c20 => ?_)
          · replace Z19 := if_t (of_decide_eq_true c20) Z19
            iterate 7 refine at_s T rfl ?_
            refine at_end ?_
            refine at_sub [(0, (.pointer (some ⟨b_f, 0, none⟩))), (1, (.pointer (some ⟨b_u, 0, none⟩))), (7, (.int .i64 v7)), (40, (.bool true))] ⟨rfl, rfl, rfl, rfl, trivial⟩ ?_
            refine at_then ?_
            obtain rfl := Option.some.inj Z19
            exact at_mid true [5, 0, 0, 0, 0, 0] rfl ⟨rfl, rfl, rfl, rfl, trivial⟩ rfl
          · replace Z19 := if_f (of_decide_eq_false c20) Z19
            iterate 3 refine at_s T rfl ?_
            refine at_v rfl (g_load T rfl rfl rfl rfl (in_var (j := 0) rfl rfl)) ?_
            refine at_s T rfl ?_
            refine at_v rfl (g_look T (Ky.int .i64 u3) (fun x : Bool => Value.bool x) rfl rfl rfl rfl rfl (mown_of s_f_stand (j := 1) rfl)) ?_
            refine at_s T rfl ?_
            refine at_end ?_
            refine at_sub [(0, (.pointer (some ⟨b_f, 0, none⟩))), (1, (.pointer (some ⟨b_u, 0, none⟩))), (7, (.int .i64 v7)), (40, (.bool (mval f.stand v7)))] ⟨rfl, rfl, rfl, rfl, trivial⟩ ?_
            refine at_then ?_
            obtain rfl := Option.some.inj Z19
            exact at_mid (mval f.stand v7) [5, 0, 0, 0, 0, 0] rfl ⟨rfl, rfl, rfl, rfl, trivial⟩ rfl
        · rintro x8 rfl
          refine at_cond rfl (fun c21 => ?_) (fun c21 => ?_)
          · replace H := if_t c21 H
            refine at_seq ?_
            refine at_region [0] rfl ?_
            refine at_s T rfl ?_
            refine at_end ?_
            refine at_sub [(6, (.bool true))] ⟨rfl, trivial⟩ ?_
            refine at_then ?_
            refine at_ret ?_
            refine at_rt ?_
            refine at_rt ?_
            refine at_rb ?_
            refine at_rt ?_
            obtain rfl := Option.some.inj H
            exact at_post (T := T) rfl (.tmp rfl .nil) (fun w o => ⟨⟨(_, _), ⟨a_f_stand, H_f_stand, a_f_moves, n_f_moves, H_f_moves, a_f_gone, n_f_gone, H_f_gone, s_f_stand, s_f_moves, s_f_gone, rfl, rfl⟩⟩, rfl, own_to [1, 1, 1, 1, 1, 0] rfl o⟩)
          · replace H := if_f (bf c21) H
            refine at_skip ?_
            refine at_then ?_
            refine at_seq ?_
            refine at_region_m [[], [0], [0, 1], [0, 1, 2], [], [4], [4, 5], [4, 5, 6], [0, 1, 2, 3, 4, 5, 6, 7]] [8] [F, [(b_f, Obj.cells #[(.int .i64 f.w), (.int .i64 f.h), (.map (some a_f_stand)), (.slice a_f_moves (List.length f.moves) n_f_moves), (.slice a_f_gone (List.length f.gone) n_f_gone)] 82 (0, 0))], H_f_stand, H_f_moves, H_f_gone, [(b_u, Obj.cells #[(.int .i64 u.Id), (.int .i64 u.Cell), (.int .i64 u.Goal)] 40 (0, 0))]] mix (by kernel_rfl) (by repeat first | exact pf_body | refine pf_then ?_ | refine pf_block ?_) (fun hg pf => ?_)
            refine atm_s T 0 hg pf (by kernel_rfl) (still_o [0, 0, 0, 0, 0, 0] rfl) rfl ?_
            refine atm_s T 1 hg pf (by kernel_rfl) (still_o [0, 0, 0, 0, 0, 0] rfl) rfl ?_
            refine atm_s T 2 hg pf (by kernel_rfl) (still_o [0, 0, 0, 0, 0, 0] rfl) rfl ?_
            refine atm_v 3 hg pf (by kernel_rfl) (still_o [0, 0, 0, 0, 0, 0] rfl) rfl rfl (g_load T rfl rfl rfl rfl (in_var (j := 1) rfl rfl)) ?_
            refine atm_s T 4 hg pf (by kernel_rfl) (still_o [0, 0, 0, 0, 0, 0] rfl) rfl ?_
            refine atm_s T 5 hg pf (by kernel_rfl) (still_o [0, 0, 0, 0, 0, 0] rfl) rfl ?_
            refine atm_s T 6 hg pf (by kernel_rfl) (still_o [0, 0, 0, 0, 0, 0] rfl) rfl ?_
            refine atm_v 7 hg pf (by kernel_rfl) (still_o [0, 0, 0, 0, 0, 0] rfl) rfl rfl (g_load T rfl rfl rfl rfl (in_var (j := 5) rfl rfl)) ?_
            refine atm_one 8 (by kernel_rfl) ?_
            refine at_md (g := 2) (m := f.stand) (k := u.Cell) T (Ky.int .i64 u3) (fun x : Bool => Value.bool x) rfl rfl rfl rfl rfl rfl rfl rfl s_f_stand (fun H18 s18 => ?_)
            refine atm_next (still_l (by kernel_rfl)) ?_
            refine atm_end (by kernel_rfl) ?_
            refine at_sub [(0, (.pointer (some ⟨b_f, 0, none⟩))), (1, (.pointer (some ⟨b_u, 0, none⟩))), (7, (.int .i64 v7))] ⟨rfl, rfl, rfl, trivial⟩ ?_
            refine at_then ?_
            refine at_seq ?_
            refine at_region [0, 1, 2, 3, 4] rfl ?_
            iterate 4 refine at_s T rfl ?_
            refine at_cons (at_st T 5 [(.int .i64 u.Id), (.int .i64 v7), (.int .i64 u.Goal)] rfl rfl rfl rfl rfl rfl rfl rfl rfl rfl ?_)
            refine at_end ?_
            refine at_sub [(0, (.pointer (some ⟨b_f, 0, none⟩))), (1, (.pointer (some ⟨b_u, 0, none⟩))), (7, (.int .i64 v7))] ⟨rfl, rfl, rfl, trivial⟩ ?_
            refine at_then ?_
            refine at_seq ?_
            refine at_region_m [[], [], [1], [1, 2], [1, 2, 3], [], [5], [5, 6], [5, 6, 7], [], [5, 6, 7, 8, 9], [5, 6, 7, 8, 9, 10], [1, 2, 3, 4, 5, 6, 7, 8, 9, 10, 11], [0, 1, 2, 3, 4, 5, 6, 7, 8, 9, 10, 11, 12], [0, 1, 2, 3, 4, 5, 6, 7, 8, 9, 10, 11, 12, 13], [0, 1, 2, 3, 4, 5, 6, 7, 8, 9, 10, 11, 12, 13, 14]] [12, 15] [F, [(b_f, Obj.cells #[(.int .i64 f.w), (.int .i64 f.h), (.map (some a_f_stand)), (.slice a_f_moves (List.length f.moves) n_f_moves), (.slice a_f_gone (List.length f.gone) n_f_gone)] 82 (0, 0))], H18, H_f_moves, H_f_gone, [(b_u, Obj.cells #[(.int .i64 u.Id), (.int .i64 v7), (.int .i64 u.Goal)] 40 (0, 0))]] mix (by kernel_rfl) (by repeat first | exact pf_body | refine pf_then ?_ | refine pf_block ?_) (fun hg pf => ?_)
            refine atm_s T 0 hg pf (by kernel_rfl) (still_o [0, 0, 0, 0, 0, 0] rfl) rfl ?_
            refine atm_s T 1 hg pf (by kernel_rfl) (still_o [0, 0, 0, 0, 0, 0] rfl) rfl ?_
            refine atm_s T 2 hg pf (by kernel_rfl) (still_o [0, 0, 0, 0, 0, 0] rfl) rfl ?_
            refine atm_s T 3 hg pf (by kernel_rfl) (still_o [0, 0, 0, 0, 0, 0] rfl) rfl ?_
            refine atm_v 4 hg pf (by kernel_rfl) (still_o [0, 0, 0, 0, 0, 0] rfl) rfl rfl (g_load T rfl rfl rfl rfl (in_var (j := 1) rfl rfl)) ?_
            refine atm_s T 5 hg pf (by kernel_rfl) (still_o [0, 0, 0, 0, 0, 0] rfl) rfl ?_
            refine atm_s T 6 hg pf (by kernel_rfl) (still_o [0, 0, 0, 0, 0, 0] rfl) rfl ?_
            refine atm_s T 7 hg pf (by kernel_rfl) (still_o [0, 0, 0, 0, 0, 0] rfl) rfl ?_
            refine atm_v 8 hg pf (by kernel_rfl) (still_o [0, 0, 0, 0, 0, 0] rfl) rfl rfl (g_load T rfl rfl rfl rfl (in_var (j := 5) rfl rfl)) ?_
            refine atm_s T 9 hg pf (by kernel_rfl) (still_o [0, 0, 0, 0, 0, 0] rfl) rfl ?_
            refine atm_s T 10 hg pf (by kernel_rfl) (still_o [0, 0, 0, 0, 0, 0] rfl) rfl ?_
            refine atm_one 11 (by kernel_rfl) ?_
            refine at_bs (k := k_api_Move) T [(api_Move.mk u.Id v7)] rfl rfl rfl rfl rfl rfl rfl rfl rfl (fun a19 H19 s19 => ?_)
            refine atm_next (still_o [0, 0, 0, 0, 0, 0] rfl) ?_
            refine atm_one 12 (by kernel_rfl) ?_
            obtain ⟨c22, H⟩ := chk_e H
            refine at_ap (k := k_api_Move) (xs := f.moves) T (g := 3) rfl rfl rfl rfl rfl rfl rfl rfl rfl rfl s_f_moves (own_of s19 (j := 6) rfl) c22 rfl (fun a20 n20 H20 s20 => ?_)
            refine atm_next (still_l (by kernel_rfl)) ?_
            refine atm_s T 13 hg pf (by kernel_rfl) (still_l (by kernel_rfl)) rfl ?_
            refine atm_s T 14 hg pf (by kernel_rfl) (still_l (by kernel_rfl)) rfl ?_
            refine atm_one 15 (by kernel_rfl) ?_
            refine at_st T 1 [(.int .i64 f.w), (.int .i64 f.h), (.map (some a_f_stand)), (.slice a20 (List.length (f.moves ++ [(api_Move.mk u.Id v7)])) n20), (.slice a_f_gone (List.length f.gone) n_f_gone)] rfl rfl rfl rfl rfl rfl rfl rfl rfl rfl ?_
            refine atm_next (still_l (by kernel_rfl)) ?_
            refine atm_end (by kernel_rfl) ?_
            refine at_to [(0, (.pointer (some ⟨b_f, 0, none⟩))), (1, (.pointer (some ⟨b_u, 0, none⟩))), (7, (.int .i64 v7))] [0, 0, 0, 0, 0, 0] [F, [(b_f, Obj.cells #[(.int .i64 f.w), (.int .i64 f.h), (.map (some a_f_stand)), (.slice a20 (List.length (f.moves ++ [(api_Move.mk u.Id v7)])) n20), (.slice a_f_gone (List.length f.gone) n_f_gone)] 82 (0, 0))], H18, H20, H_f_gone, [(b_u, Obj.cells #[(.int .i64 u.Id), (.int .i64 v7), (.int .i64 u.Goal)] 40 (0, 0))]] ⟨rfl, rfl, rfl, trivial⟩ rfl ?_
            refine at_then ?_
            refine at_seq ?_
            refine at_seq ?_
            refine at_region [0, 1, 2, 3, 4, 5] rfl ?_
            iterate 4 refine at_s T rfl ?_
            refine at_v rfl (g_load T rfl rfl rfl rfl (in_var (j := 5) rfl rfl)) ?_
            refine at_s T rfl ?_
            refine at_end ?_
            refine at_sub [(0, (.pointer (some ⟨b_f, 0, none⟩))), (1, (.pointer (some ⟨b_u, 0, none⟩))), (7, (.int .i64 v7)), (73, (.bool (v7 == u.Goal)))] ⟨rfl, rfl, rfl, rfl, trivial⟩ ?_
            refine at_then ?_
            refine at_cond rfl (fun c23 => ?_) (fun c23 => ?_)
            · replace H := if_t c23 H
              refine at_seq ?_
              refine at_region_m [[], [], [1], [1, 2], [1, 2, 3], [], [5], [5, 6], [5, 6, 7], [5, 6, 7, 8], [1, 2, 3, 4, 5, 6, 7, 8, 9], [0, 1, 2, 3, 4, 5, 6, 7, 8, 9, 10], [0, 1, 2, 3, 4, 5, 6, 7, 8, 9, 10, 11], [0, 1, 2, 3, 4, 5, 6, 7, 8, 9, 10, 11, 12]] [10, 13] [F, [(b_f, Obj.cells #[(.int .i64 f.w), (.int .i64 f.h), (.map (some a_f_stand)), (.slice a20 (List.length (f.moves ++ [(api_Move.mk u.Id v7)])) n20), (.slice a_f_gone (List.length f.gone) n_f_gone)] 82 (0, 0))], H18, H20, H_f_gone, [(b_u, Obj.cells #[(.int .i64 u.Id), (.int .i64 v7), (.int .i64 u.Goal)] 40 (0, 0))]] mix (by kernel_rfl) (by repeat first | exact pf_body | refine pf_then ?_ | refine pf_block ?_) (fun hg pf => ?_)
              refine atm_s T 0 hg pf (by kernel_rfl) (still_o [0, 0, 0, 0, 0, 0] rfl) rfl ?_
              refine atm_s T 1 hg pf (by kernel_rfl) (still_o [0, 0, 0, 0, 0, 0] rfl) rfl ?_
              refine atm_s T 2 hg pf (by kernel_rfl) (still_o [0, 0, 0, 0, 0, 0] rfl) rfl ?_
              refine atm_s T 3 hg pf (by kernel_rfl) (still_o [0, 0, 0, 0, 0, 0] rfl) rfl ?_
              refine atm_v 4 hg pf (by kernel_rfl) (still_o [0, 0, 0, 0, 0, 0] rfl) rfl rfl (g_load T rfl rfl rfl rfl (in_var (j := 1) rfl rfl)) ?_
              refine atm_s T 5 hg pf (by kernel_rfl) (still_o [0, 0, 0, 0, 0, 0] rfl) rfl ?_
              refine atm_s T 6 hg pf (by kernel_rfl) (still_o [0, 0, 0, 0, 0, 0] rfl) rfl ?_
              refine atm_s T 7 hg pf (by kernel_rfl) (still_o [0, 0, 0, 0, 0, 0] rfl) rfl ?_
              refine atm_v 8 hg pf (by kernel_rfl) (still_o [0, 0, 0, 0, 0, 0] rfl) rfl rfl (g_load T rfl rfl rfl rfl (in_var (j := 5) rfl rfl)) ?_
              refine atm_one 9 (by kernel_rfl) ?_
              refine at_bs (k := (Fl.int .i64)) T [u.Id] rfl rfl rfl rfl rfl rfl rfl rfl rfl (fun a21 H21 s21 => ?_)
              refine atm_next (still_o [0, 0, 0, 0, 0, 0] rfl) ?_
              refine atm_one 10 (by kernel_rfl) ?_
              obtain ⟨c24, H⟩ := chk_e H
              refine at_ap (k := (Fl.int .i64)) (xs := f.gone) T (g := 4) rfl rfl rfl rfl rfl rfl rfl rfl rfl rfl s_f_gone (own_of s21 (j := 6) rfl) c24 rfl (fun a22 n22 H22 s22 => ?_)
              refine atm_next (still_l (by kernel_rfl)) ?_
              refine atm_s T 11 hg pf (by kernel_rfl) (still_l (by kernel_rfl)) rfl ?_
              refine atm_s T 12 hg pf (by kernel_rfl) (still_l (by kernel_rfl)) rfl ?_
              refine atm_one 13 (by kernel_rfl) ?_
              refine at_st T 1 [(.int .i64 f.w), (.int .i64 f.h), (.map (some a_f_stand)), (.slice a20 (List.length (f.moves ++ [(api_Move.mk u.Id v7)])) n20), (.slice a22 (List.length (f.gone ++ [u.Id])) n22)] rfl rfl rfl rfl rfl rfl rfl rfl rfl rfl ?_
              refine atm_next (still_l (by kernel_rfl)) ?_
              refine atm_end (by kernel_rfl) ?_
              refine at_to [] [0, 0, 0, 0, 0, 0] [F, [(b_f, Obj.cells #[(.int .i64 f.w), (.int .i64 f.h), (.map (some a_f_stand)), (.slice a20 (List.length (f.moves ++ [(api_Move.mk u.Id v7)])) n20), (.slice a22 (List.length (f.gone ++ [u.Id])) n22)] 82 (0, 0))], H18, H20, H22, [(b_u, Obj.cells #[(.int .i64 u.Id), (.int .i64 v7), (.int .i64 u.Goal)] 40 (0, 0))]] trivial rfl ?_
              refine at_then ?_
              refine at_seq ?_
              refine at_region [0] rfl ?_
              refine at_s T rfl ?_
              refine at_end ?_
              refine at_sub [(6, (.bool false))] ⟨rfl, trivial⟩ ?_
              refine at_then ?_
              refine at_ret ?_
              refine at_rt ?_
              refine at_rt ?_
              refine at_rb ?_
              refine at_rt ?_
              obtain rfl := Option.some.inj H
              exact at_post (T := T) rfl (.tmp rfl .nil) (fun w o => ⟨⟨(_, _), ⟨a_f_stand, H18, a20, n20, H20, a22, n22, H22, s18, s20, s22, rfl, rfl⟩⟩, rfl, own_to [1, 1, 1, 1, 1, 0] rfl o⟩)
            · replace H := if_f (bf c23) H
              refine at_skip ?_
              refine at_then ?_
              refine at_region [0, 1, 2, 3, 4, 5] rfl ?_
              iterate 3 refine at_s T rfl ?_
              refine at_v rfl (g_load T rfl rfl rfl rfl (in_var (j := 1) rfl rfl)) ?_
              refine at_s T rfl ?_
              refine at_cons (at_mu (g := 2) (m := (mdel f.stand u.Cell)) (k := v7) (v := true) T (Ky.int .i64 u3) (fun x : Bool => Value.bool x) rfl rfl rfl rfl rfl rfl rfl s18 (fun H23 s23 => ?_))
              refine at_end ?_
              refine at_sub [] trivial ?_
              refine at_then ?_
              refine at_exit ?_
              refine at_xb ?_
              refine at_then ?_
              refine at_seq ?_
              refine at_region [0] rfl ?_
              refine at_s T rfl ?_
              refine at_end ?_
              refine at_sub [(6, (.bool true))] ⟨rfl, trivial⟩ ?_
              refine at_then ?_
              refine at_ret ?_
              obtain rfl := Option.some.inj H
              exact at_post (T := T) rfl (.tmp rfl .nil) (fun w o => ⟨⟨(_, _), ⟨a_f_stand, H23, a20, n20, H20, a_f_gone, n_f_gone, H_f_gone, s23, s20, s_f_gone, rfl, rfl⟩⟩, rfl, own_to [1, 1, 1, 1, 1, 0] rfl o⟩)
      · replace H := if_f (bf c17) H
        refine at_skip ?_
        refine at_then ?_
        refine at_seq ?_
        refine at_region [0, 1] rfl ?_
        iterate 2 refine at_s T rfl ?_
        refine at_end ?_
        refine at_sub [(0, (.pointer (some ⟨b_f, 0, none⟩))), (1, (.pointer (some ⟨b_u, 0, none⟩))), (2, (.int .i64 dir)), (15, (.bool (dir == 3)))] ⟨rfl, rfl, rfl, rfl, trivial⟩ ?_
        refine at_then ?_
        refine at_cond rfl (fun c25 => ?_) (fun c25 => ?_)
        · replace H := if_t c25 H
          refine at_exit ?_
          refine at_xt ?_
          refine at_xn rfl ?_
          refine at_xn rfl ?_
          refine at_xn rfl ?_
          refine at_xb ?_
          refine at_then ?_
          refine at_seq ?_
          refine at_seq ?_
          refine at_region_q mix (by kernel_rfl) ?_
          iterate 3 refine atq_s T rfl ?_
          refine atq_v rfl rfl rfl (g_load T rfl rfl rfl rfl (in_var (j := 0) rfl rfl)) ?_
          iterate 3 refine atq_s T rfl ?_
          refine atq_v rfl rfl rfl (g_load T rfl rfl rfl rfl (in_var (j := 0) rfl rfl)) ?_
          iterate 3 refine atq_s T rfl ?_
          refine atq_v rfl rfl rfl (g_load T rfl rfl rfl rfl (in_var (j := 4) rfl rfl)) ?_
          refine atq_s T rfl ?_
          obtain ⟨v10, V26, H⟩ := bind_e H
          refine atq_c rfl rfl rfl rfl rfl rfl has23 rfl (where_Step.c f.w f.h u.Cell dir v10 _ V26) ?_
          refine atq_s T rfl ?_
          refine atq_end ?_
          refine at_sub [(0, (.pointer (some ⟨b_f, 0, none⟩))), (1, (.pointer (some ⟨b_u, 0, none⟩))), (7, (.int .i64 v10))] ⟨rfl, rfl, rfl, trivial⟩ ?_
          refine at_then ?_
          refine at_seq ?_
          obtain ⟨z12, Z27, H⟩ := bind_e H
          refine at_seq_mid (σ := Bool) (fun x11 => x11 = z12) (fun x11 => [(0, (.pointer (some ⟨b_f, 0, none⟩))), (1, (.pointer (some ⟨b_u, 0, none⟩))), (7, (.int .i64 v10)), (40, (.bool x11))]) (fun x11 => [F, [(b_f, Obj.cells #[(.int .i64 f.w), (.int .i64 f.h), (.map (some a_f_stand)), (.slice a_f_moves (List.length f.moves) n_f_moves), (.slice a_f_gone (List.length f.gone) n_f_gone)] 82 (0, 0))], H_f_stand, H_f_moves, H_f_gone, [(b_u, Obj.cells #[(.int .i64 u.Id), (.int .i64 u.Cell), (.int .i64 u.Goal)] 40 (0, 0))]]) ?_ ?_
          · refine at_region [0, 1, 2, 3, 4, 5, 6, 7, 8, 9] rfl ?_
            iterate 3 refine at_s T rfl ?_
            refine at_case (s := 33) rfl (fun c28 => ?_) (fun c28 => ?_)
            · replace Z27 := if_t (of_decide_eq_true c28) Z27
              iterate 7 refine at_s T rfl ?_
              refine at_end ?_
              refine at_sub [(0, (.pointer (some ⟨b_f, 0, none⟩))), (1, (.pointer (some ⟨b_u, 0, none⟩))), (7, (.int .i64 v10)), (40, (.bool true))] ⟨rfl, rfl, rfl, rfl, trivial⟩ ?_
              refine at_then ?_
              obtain rfl := Option.some.inj Z27
              exact at_mid true [5, 0, 0, 0, 0, 0] rfl ⟨rfl, rfl, rfl, rfl, trivial⟩ rfl
            · replace Z27 := if_f (of_decide_eq_false c28) Z27
              iterate 3 refine at_s T rfl ?_
              refine at_v rfl (g_load T rfl rfl rfl rfl (in_var (j := 0) rfl rfl)) ?_
              refine at_s T rfl ?_
              refine at_v rfl (g_look T (Ky.int .i64 u3) (fun x : Bool => Value.bool x) rfl rfl rfl rfl rfl (mown_of s_f_stand (j := 1) rfl)) ?_
              refine at_s T rfl ?_
              refine at_end ?_
              refine at_sub [(0, (.pointer (some ⟨b_f, 0, none⟩))), (1, (.pointer (some ⟨b_u, 0, none⟩))), (7, (.int .i64 v10)), (40, (.bool (mval f.stand v10)))] ⟨rfl, rfl, rfl, rfl, trivial⟩ ?_
              refine at_then ?_
              obtain rfl := Option.some.inj Z27
              exact at_mid (mval f.stand v10) [5, 0, 0, 0, 0, 0] rfl ⟨rfl, rfl, rfl, rfl, trivial⟩ rfl
          · rintro x11 rfl
            refine at_cond rfl (fun c29 => ?_) (fun c29 => ?_)
            · replace H := if_t c29 H
              refine at_seq ?_
              refine at_region [0] rfl ?_
              refine at_s T rfl ?_
              refine at_end ?_
              refine at_sub [(6, (.bool true))] ⟨rfl, trivial⟩ ?_
              refine at_then ?_
              refine at_ret ?_
              refine at_rt ?_
              refine at_rt ?_
              refine at_rb ?_
              refine at_rt ?_
              obtain rfl := Option.some.inj H
              exact at_post (T := T) rfl (.tmp rfl .nil) (fun w o => ⟨⟨(_, _), ⟨a_f_stand, H_f_stand, a_f_moves, n_f_moves, H_f_moves, a_f_gone, n_f_gone, H_f_gone, s_f_stand, s_f_moves, s_f_gone, rfl, rfl⟩⟩, rfl, own_to [1, 1, 1, 1, 1, 0] rfl o⟩)
            · replace H := if_f (bf c29) H
              refine at_skip ?_
              refine at_then ?_
              refine at_seq ?_
              refine at_region_m [[], [0], [0, 1], [0, 1, 2], [], [4], [4, 5], [4, 5, 6], [0, 1, 2, 3, 4, 5, 6, 7]] [8] [F, [(b_f, Obj.cells #[(.int .i64 f.w), (.int .i64 f.h), (.map (some a_f_stand)), (.slice a_f_moves (List.length f.moves) n_f_moves), (.slice a_f_gone (List.length f.gone) n_f_gone)] 82 (0, 0))], H_f_stand, H_f_moves, H_f_gone, [(b_u, Obj.cells #[(.int .i64 u.Id), (.int .i64 u.Cell), (.int .i64 u.Goal)] 40 (0, 0))]] mix (by kernel_rfl) (by repeat first | exact pf_body | refine pf_then ?_ | refine pf_block ?_) (fun hg pf => ?_)
              refine atm_s T 0 hg pf (by kernel_rfl) (still_o [0, 0, 0, 0, 0, 0] rfl) rfl ?_
              refine atm_s T 1 hg pf (by kernel_rfl) (still_o [0, 0, 0, 0, 0, 0] rfl) rfl ?_
              refine atm_s T 2 hg pf (by kernel_rfl) (still_o [0, 0, 0, 0, 0, 0] rfl) rfl ?_
              refine atm_v 3 hg pf (by kernel_rfl) (still_o [0, 0, 0, 0, 0, 0] rfl) rfl rfl (g_load T rfl rfl rfl rfl (in_var (j := 1) rfl rfl)) ?_
              refine atm_s T 4 hg pf (by kernel_rfl) (still_o [0, 0, 0, 0, 0, 0] rfl) rfl ?_
              refine atm_s T 5 hg pf (by kernel_rfl) (still_o [0, 0, 0, 0, 0, 0] rfl) rfl ?_
              refine atm_s T 6 hg pf (by kernel_rfl) (still_o [0, 0, 0, 0, 0, 0] rfl) rfl ?_
              refine atm_v 7 hg pf (by kernel_rfl) (still_o [0, 0, 0, 0, 0, 0] rfl) rfl rfl (g_load T rfl rfl rfl rfl (in_var (j := 5) rfl rfl)) ?_
              refine atm_one 8 (by kernel_rfl) ?_
              refine at_md (g := 2) (m := f.stand) (k := u.Cell) T (Ky.int .i64 u3) (fun x : Bool => Value.bool x) rfl rfl rfl rfl rfl rfl rfl rfl s_f_stand (fun H24 s24 => ?_)
              refine atm_next (still_l (by kernel_rfl)) ?_
              refine atm_end (by kernel_rfl) ?_
              refine at_sub [(0, (.pointer (some ⟨b_f, 0, none⟩))), (1, (.pointer (some ⟨b_u, 0, none⟩))), (7, (.int .i64 v10))] ⟨rfl, rfl, rfl, trivial⟩ ?_
              refine at_then ?_
              refine at_seq ?_
              refine at_region [0, 1, 2, 3, 4] rfl ?_
              iterate 4 refine at_s T rfl ?_
              refine at_cons (at_st T 5 [(.int .i64 u.Id), (.int .i64 v10), (.int .i64 u.Goal)] rfl rfl rfl rfl rfl rfl rfl rfl rfl rfl ?_)
              refine at_end ?_
              refine at_sub [(0, (.pointer (some ⟨b_f, 0, none⟩))), (1, (.pointer (some ⟨b_u, 0, none⟩))), (7, (.int .i64 v10))] ⟨rfl, rfl, rfl, trivial⟩ ?_
              refine at_then ?_
              refine at_seq ?_
              refine at_region_m [[], [], [1], [1, 2], [1, 2, 3], [], [5], [5, 6], [5, 6, 7], [], [5, 6, 7, 8, 9], [5, 6, 7, 8, 9, 10], [1, 2, 3, 4, 5, 6, 7, 8, 9, 10, 11], [0, 1, 2, 3, 4, 5, 6, 7, 8, 9, 10, 11, 12], [0, 1, 2, 3, 4, 5, 6, 7, 8, 9, 10, 11, 12, 13], [0, 1, 2, 3, 4, 5, 6, 7, 8, 9, 10, 11, 12, 13, 14]] [12, 15] [F, [(b_f, Obj.cells #[(.int .i64 f.w), (.int .i64 f.h), (.map (some a_f_stand)), (.slice a_f_moves (List.length f.moves) n_f_moves), (.slice a_f_gone (List.length f.gone) n_f_gone)] 82 (0, 0))], H24, H_f_moves, H_f_gone, [(b_u, Obj.cells #[(.int .i64 u.Id), (.int .i64 v10), (.int .i64 u.Goal)] 40 (0, 0))]] mix (by kernel_rfl) (by repeat first | exact pf_body | refine pf_then ?_ | refine pf_block ?_) (fun hg pf => ?_)
              refine atm_s T 0 hg pf (by kernel_rfl) (still_o [0, 0, 0, 0, 0, 0] rfl) rfl ?_
              refine atm_s T 1 hg pf (by kernel_rfl) (still_o [0, 0, 0, 0, 0, 0] rfl) rfl ?_
              refine atm_s T 2 hg pf (by kernel_rfl) (still_o [0, 0, 0, 0, 0, 0] rfl) rfl ?_
              refine atm_s T 3 hg pf (by kernel_rfl) (still_o [0, 0, 0, 0, 0, 0] rfl) rfl ?_
              refine atm_v 4 hg pf (by kernel_rfl) (still_o [0, 0, 0, 0, 0, 0] rfl) rfl rfl (g_load T rfl rfl rfl rfl (in_var (j := 1) rfl rfl)) ?_
              refine atm_s T 5 hg pf (by kernel_rfl) (still_o [0, 0, 0, 0, 0, 0] rfl) rfl ?_
              refine atm_s T 6 hg pf (by kernel_rfl) (still_o [0, 0, 0, 0, 0, 0] rfl) rfl ?_
              refine atm_s T 7 hg pf (by kernel_rfl) (still_o [0, 0, 0, 0, 0, 0] rfl) rfl ?_
              refine atm_v 8 hg pf (by kernel_rfl) (still_o [0, 0, 0, 0, 0, 0] rfl) rfl rfl (g_load T rfl rfl rfl rfl (in_var (j := 5) rfl rfl)) ?_
              refine atm_s T 9 hg pf (by kernel_rfl) (still_o [0, 0, 0, 0, 0, 0] rfl) rfl ?_
              refine atm_s T 10 hg pf (by kernel_rfl) (still_o [0, 0, 0, 0, 0, 0] rfl) rfl ?_
              refine atm_one 11 (by kernel_rfl) ?_
              refine at_bs (k := k_api_Move) T [(api_Move.mk u.Id v10)] rfl rfl rfl rfl rfl rfl rfl rfl rfl (fun a25 H25 s25 => ?_)
              refine atm_next (still_o [0, 0, 0, 0, 0, 0] rfl) ?_
              refine atm_one 12 (by kernel_rfl) ?_
              obtain ⟨c30, H⟩ := chk_e H
              refine at_ap (k := k_api_Move) (xs := f.moves) T (g := 3) rfl rfl rfl rfl rfl rfl rfl rfl rfl rfl s_f_moves (own_of s25 (j := 6) rfl) c30 rfl (fun a26 n26 H26 s26 => ?_)
              refine atm_next (still_l (by kernel_rfl)) ?_
              refine atm_s T 13 hg pf (by kernel_rfl) (still_l (by kernel_rfl)) rfl ?_
              refine atm_s T 14 hg pf (by kernel_rfl) (still_l (by kernel_rfl)) rfl ?_
              refine atm_one 15 (by kernel_rfl) ?_
              refine at_st T 1 [(.int .i64 f.w), (.int .i64 f.h), (.map (some a_f_stand)), (.slice a26 (List.length (f.moves ++ [(api_Move.mk u.Id v10)])) n26), (.slice a_f_gone (List.length f.gone) n_f_gone)] rfl rfl rfl rfl rfl rfl rfl rfl rfl rfl ?_
              refine atm_next (still_l (by kernel_rfl)) ?_
              refine atm_end (by kernel_rfl) ?_
              refine at_to [(0, (.pointer (some ⟨b_f, 0, none⟩))), (1, (.pointer (some ⟨b_u, 0, none⟩))), (7, (.int .i64 v10))] [0, 0, 0, 0, 0, 0] [F, [(b_f, Obj.cells #[(.int .i64 f.w), (.int .i64 f.h), (.map (some a_f_stand)), (.slice a26 (List.length (f.moves ++ [(api_Move.mk u.Id v10)])) n26), (.slice a_f_gone (List.length f.gone) n_f_gone)] 82 (0, 0))], H24, H26, H_f_gone, [(b_u, Obj.cells #[(.int .i64 u.Id), (.int .i64 v10), (.int .i64 u.Goal)] 40 (0, 0))]] ⟨rfl, rfl, rfl, trivial⟩ rfl ?_
              refine at_then ?_
              refine at_seq ?_
              refine at_seq ?_
              refine at_region [0, 1, 2, 3, 4, 5] rfl ?_
              iterate 4 refine at_s T rfl ?_
              refine at_v rfl (g_load T rfl rfl rfl rfl (in_var (j := 5) rfl rfl)) ?_
              refine at_s T rfl ?_
              refine at_end ?_
              refine at_sub [(0, (.pointer (some ⟨b_f, 0, none⟩))), (1, (.pointer (some ⟨b_u, 0, none⟩))), (7, (.int .i64 v10)), (73, (.bool (v10 == u.Goal)))] ⟨rfl, rfl, rfl, rfl, trivial⟩ ?_
              refine at_then ?_
              refine at_cond rfl (fun c31 => ?_) (fun c31 => ?_)
              · replace H := if_t c31 H
                refine at_seq ?_
                refine at_region_m [[], [], [1], [1, 2], [1, 2, 3], [], [5], [5, 6], [5, 6, 7], [5, 6, 7, 8], [1, 2, 3, 4, 5, 6, 7, 8, 9], [0, 1, 2, 3, 4, 5, 6, 7, 8, 9, 10], [0, 1, 2, 3, 4, 5, 6, 7, 8, 9, 10, 11], [0, 1, 2, 3, 4, 5, 6, 7, 8, 9, 10, 11, 12]] [10, 13] [F, [(b_f, Obj.cells #[(.int .i64 f.w), (.int .i64 f.h), (.map (some a_f_stand)), (.slice a26 (List.length (f.moves ++ [(api_Move.mk u.Id v10)])) n26), (.slice a_f_gone (List.length f.gone) n_f_gone)] 82 (0, 0))], H24, H26, H_f_gone, [(b_u, Obj.cells #[(.int .i64 u.Id), (.int .i64 v10), (.int .i64 u.Goal)] 40 (0, 0))]] mix (by kernel_rfl) (by repeat first | exact pf_body | refine pf_then ?_ | refine pf_block ?_) (fun hg pf => ?_)
                refine atm_s T 0 hg pf (by kernel_rfl) (still_o [0, 0, 0, 0, 0, 0] rfl) rfl ?_
                refine atm_s T 1 hg pf (by kernel_rfl) (still_o [0, 0, 0, 0, 0, 0] rfl) rfl ?_
                refine atm_s T 2 hg pf (by kernel_rfl) (still_o [0, 0, 0, 0, 0, 0] rfl) rfl ?_
                refine atm_s T 3 hg pf (by kernel_rfl) (still_o [0, 0, 0, 0, 0, 0] rfl) rfl ?_
                refine atm_v 4 hg pf (by kernel_rfl) (still_o [0, 0, 0, 0, 0, 0] rfl) rfl rfl (g_load T rfl rfl rfl rfl (in_var (j := 1) rfl rfl)) ?_
                refine atm_s T 5 hg pf (by kernel_rfl) (still_o [0, 0, 0, 0, 0, 0] rfl) rfl ?_
                refine atm_s T 6 hg pf (by kernel_rfl) (still_o [0, 0, 0, 0, 0, 0] rfl) rfl ?_
                refine atm_s T 7 hg pf (by kernel_rfl) (still_o [0, 0, 0, 0, 0, 0] rfl) rfl ?_
                refine atm_v 8 hg pf (by kernel_rfl) (still_o [0, 0, 0, 0, 0, 0] rfl) rfl rfl (g_load T rfl rfl rfl rfl (in_var (j := 5) rfl rfl)) ?_
                refine atm_one 9 (by kernel_rfl) ?_
                refine at_bs (k := (Fl.int .i64)) T [u.Id] rfl rfl rfl rfl rfl rfl rfl rfl rfl (fun a27 H27 s27 => ?_)
                refine atm_next (still_o [0, 0, 0, 0, 0, 0] rfl) ?_
                refine atm_one 10 (by kernel_rfl) ?_
                obtain ⟨c32, H⟩ := chk_e H
                refine at_ap (k := (Fl.int .i64)) (xs := f.gone) T (g := 4) rfl rfl rfl rfl rfl rfl rfl rfl rfl rfl s_f_gone (own_of s27 (j := 6) rfl) c32 rfl (fun a28 n28 H28 s28 => ?_)
                refine atm_next (still_l (by kernel_rfl)) ?_
                refine atm_s T 11 hg pf (by kernel_rfl) (still_l (by kernel_rfl)) rfl ?_
                refine atm_s T 12 hg pf (by kernel_rfl) (still_l (by kernel_rfl)) rfl ?_
                refine atm_one 13 (by kernel_rfl) ?_
                refine at_st T 1 [(.int .i64 f.w), (.int .i64 f.h), (.map (some a_f_stand)), (.slice a26 (List.length (f.moves ++ [(api_Move.mk u.Id v10)])) n26), (.slice a28 (List.length (f.gone ++ [u.Id])) n28)] rfl rfl rfl rfl rfl rfl rfl rfl rfl rfl ?_
                refine atm_next (still_l (by kernel_rfl)) ?_
                refine atm_end (by kernel_rfl) ?_
                refine at_to [] [0, 0, 0, 0, 0, 0] [F, [(b_f, Obj.cells #[(.int .i64 f.w), (.int .i64 f.h), (.map (some a_f_stand)), (.slice a26 (List.length (f.moves ++ [(api_Move.mk u.Id v10)])) n26), (.slice a28 (List.length (f.gone ++ [u.Id])) n28)] 82 (0, 0))], H24, H26, H28, [(b_u, Obj.cells #[(.int .i64 u.Id), (.int .i64 v10), (.int .i64 u.Goal)] 40 (0, 0))]] trivial rfl ?_
                refine at_then ?_
                refine at_seq ?_
                refine at_region [0] rfl ?_
                refine at_s T rfl ?_
                refine at_end ?_
                refine at_sub [(6, (.bool false))] ⟨rfl, trivial⟩ ?_
                refine at_then ?_
                refine at_ret ?_
                refine at_rt ?_
                refine at_rt ?_
                refine at_rb ?_
                refine at_rt ?_
                obtain rfl := Option.some.inj H
                exact at_post (T := T) rfl (.tmp rfl .nil) (fun w o => ⟨⟨(_, _), ⟨a_f_stand, H24, a26, n26, H26, a28, n28, H28, s24, s26, s28, rfl, rfl⟩⟩, rfl, own_to [1, 1, 1, 1, 1, 0] rfl o⟩)
              · replace H := if_f (bf c31) H
                refine at_skip ?_
                refine at_then ?_
                refine at_region [0, 1, 2, 3, 4, 5] rfl ?_
                iterate 3 refine at_s T rfl ?_
                refine at_v rfl (g_load T rfl rfl rfl rfl (in_var (j := 1) rfl rfl)) ?_
                refine at_s T rfl ?_
                refine at_cons (at_mu (g := 2) (m := (mdel f.stand u.Cell)) (k := v10) (v := true) T (Ky.int .i64 u3) (fun x : Bool => Value.bool x) rfl rfl rfl rfl rfl rfl rfl s24 (fun H29 s29 => ?_))
                refine at_end ?_
                refine at_sub [] trivial ?_
                refine at_then ?_
                refine at_exit ?_
                refine at_xb ?_
                refine at_then ?_
                refine at_seq ?_
                refine at_region [0] rfl ?_
                refine at_s T rfl ?_
                refine at_end ?_
                refine at_sub [(6, (.bool true))] ⟨rfl, trivial⟩ ?_
                refine at_then ?_
                refine at_ret ?_
                obtain rfl := Option.some.inj H
                exact at_post (T := T) rfl (.tmp rfl .nil) (fun w o => ⟨⟨(_, _), ⟨a_f_stand, H29, a26, n26, H26, a_f_gone, n_f_gone, H_f_gone, s29, s26, s_f_gone, rfl, rfl⟩⟩, rfl, own_to [1, 1, 1, 1, 1, 0] rfl o⟩)
        · replace H := if_f (bf c25) H
          refine at_skip ?_
          refine at_then ?_
          refine at_exit ?_
          refine at_xn rfl ?_
          refine at_xn rfl ?_
          refine at_xn rfl ?_
          refine at_xn rfl ?_
          refine at_xt ?_
          refine at_xb ?_
          refine at_then ?_
          refine at_seq ?_
          refine at_region [0] rfl ?_
          refine at_s T rfl ?_
          refine at_end ?_
          refine at_sub [(6, (.bool true))] ⟨rfl, trivial⟩ ?_
          refine at_then ?_
          refine at_ret ?_
          obtain rfl := Option.some.inj H
          exact at_post (T := T) rfl (.tmp rfl .nil) (fun w o => ⟨⟨(_, _), ⟨a_f_stand, H_f_stand, a_f_moves, n_f_moves, H_f_moves, a_f_gone, n_f_gone, H_f_gone, s_f_stand, s_f_moves, s_f_gone, rfl, rfl⟩⟩, rfl, own_to [0, 0, 0, 0, 0, 0] rfl o⟩)

/-! ### herdsman/march.Go: function 15 -/
def march_Go.l1 : Nat → Int → Int → (List api_Unit) → (List Int) → List api_Unit → Int → Int → (List (Int × Bool)) → List api_Move → List Int → Int → Option ((List api_Unit) × (List api_Move) × (List Int) × Int)
  | 0, _, _, _, _, _, _, _, _, _, _, _ => none
  | k24 + 1, w, h, l, dirs, x17, x18, x19, x20, x21, x22, x23 => if x23 < (List.length l : Int) then (if (0 ≤ x23 ∧ x23 < (List.length l : Int)) then (if (0 ≤ x23 ∧ x23 < (List.length dirs : Int)) then ((march_field_step.f (march_field.mk x18 x19 x20 x21 x22) (rd l x23) (rd dirs x23)).bind fun v25 => if v25.1 = true then (if (List.length x17 + 1 ≤ 1099511627776) then (march_Go.l1 k24 w h l dirs (x17 ++ [v25.2.2]) v25.2.1.w v25.2.1.h v25.2.1.stand v25.2.1.moves v25.2.1.gone (w64 (x23 + 1))) else none) else (march_Go.l1 k24 w h l dirs x17 v25.2.1.w v25.2.1.h v25.2.1.stand v25.2.1.moves v25.2.1.gone (w64 (x23 + 1)))) else none) else none) else (some (x17, x21, x22, 0))
def march_Go.l0 : Nat → Int → Int → (List api_Unit) → (List Int) → (List (Int × Bool)) → Int → Option ((List api_Unit) × (List api_Move) × (List Int) × Int)
  | 0, _, _, _, _, _, _ => none
  | k9 + 1, w, h, l, dirs, x7, x8 => if x8 < (List.length l : Int) then (if (0 ≤ x8 ∧ x8 < (List.length l : Int)) then (march_Go.l0 k9 w h l dirs (mset x7 ((rd l x8).Cell) true) (w64 (x8 + 1))) else none) else (march_Go.l1 fuel w h l dirs [] w h x7 [] [] 0)
def march_Go.f (w : Int) (h : Int) (l : (List api_Unit)) (dirs : (List Int)) : Option ((List api_Unit) × (List api_Move) × (List Int) × Int) := ((plan_May.f w h l).bind fun v3 => if ((!v3) || ((List.length dirs : Int) != (List.length l : Int))) = true then (some true) else ((slices_ContainsFunc_int_int.f dirs).bind fun v4 => some v4)).bind fun x1 => if x1 = true then (some ([], [], [], 1)) else (march_Go.l0 fuel w h l dirs ([] : (List (Int × Bool))) 0)
def march_Go.R (r : ((List api_Unit) × (List api_Move) × (List Int) × Int)) (u : Value) (G : List Hp) : Prop := ∃ (a0 : Option Addr) (n0 : Nat) (H0 : Hp) (a1 : Option Addr) (n1 : Nat) (H1 : Hp) (a2 : Option Addr) (n2 : Nat) (H2 : Hp), SliceO k_api_Unit 40 r.1 a0 n0 H0 ∧ SliceO k_api_Move 42 r.2.1 a1 n1 H1 ∧ SliceO (Fl.int .i64) 3 r.2.2.1 a2 n2 H2 ∧ u = (.tuple #[(.slice a0 (List.length r.1) n0), (.slice a1 (List.length r.2.1) n1), (.slice a2 (List.length r.2.2.1) n2), (.int .i64 r.2.2.2)]) ∧ G = [H0, H1, H2]
set_option maxHeartbeats 4000000 in
theorem march_Go.c {a_l : Option Addr} {n_l : Nat} {a_dirs : Option Addr} {n_dirs : Nat} (w : Int) (h : Int) (l : (List api_Unit)) (dirs : (List Int)) (r : ((List api_Unit) × (List api_Move) × (List Int) × Int)) (F : Hp) (H : march_Go.f w h l dirs = some r) (h_l : SliceR k_api_Unit l a_l F) (c_l : List.length l ≤ n_l) (h_dirs : SliceR (Fl.int .i64) dirs a_dirs F) (c_dirs : List.length dirs ≤ n_dirs) :
    CallsL Try.prog 15 [(.int .i64 w), (.int .i64 h), (.slice a_l (List.length l) n_l), (.slice a_dirs (List.length dirs) n_dirs)] [F] (fun p : { p : Value × List Hp // march_Go.R r p.1 p.2 } => p.1.1) (fun p => (p.1.2 ++ []) ++ [F]) := by
  unfold march_Go.f at H
  refine calls_atL [(0, (.int .i64 w)), (1, (.int .i64 h)), (2, (.slice a_l (List.length l) n_l)), (3, (.slice a_dirs (List.length dirs) n_dirs))] Try.func15 rfl rfl ⟨rfl, rfl, rfl, rfl, trivial⟩ (fun W => ?_)
  refine at_seq ?_
  refine at_region [0, 1, 2, 3] rfl ?_
  iterate 4 refine at_s T rfl ?_
  refine at_end ?_
  refine at_sub [(0, (.int .i64 w)), (1, (.int .i64 h)), (2, (.slice a_l (List.length l) n_l)), (3, (.slice a_dirs (List.length dirs) n_dirs)), (8, (.slice none 0 0))] ⟨rfl, rfl, rfl, rfl, rfl, trivial⟩ ?_
  refine at_then ?_
  refine at_seq ?_
  refine at_region [0] rfl ?_
  refine at_s T rfl ?_
  refine at_end ?_
  refine at_sub [(0, (.int .i64 w)), (1, (.int .i64 h)), (2, (.slice a_l (List.length l) n_l)), (3, (.slice a_dirs (List.length dirs) n_dirs)), (8, (.slice none 0 0)), (12, (.func (.func 43) #[] #[]))] ⟨rfl, rfl, rfl, rfl, rfl, rfl, trivial⟩ ?_
  refine at_then ?_
  refine at_seq ?_
  obtain ⟨z2, Z1, H⟩ := bind_e H
  refine at_seq_mid (σ := Bool) (fun x1 => x1 = z2) (fun x1 => [(0, (.int .i64 w)), (1, (.int .i64 h)), (2, (.slice a_l (List.length l) n_l)), (3, (.slice a_dirs (List.length dirs) n_dirs)), (8, (.slice none 0 0)), (34, (.bool x1))]) (fun x1 => [F]) ?_ ?_
  · refine at_region [0, 1, 2, 3, 4, 5, 6, 7, 8, 9, 10, 11, 12, 13, 14, 15, 16] rfl ?_
    iterate 3 refine at_s T rfl ?_
    obtain ⟨v3, V2, Z1⟩ := bind_e Z1
    refine at_cons (at_c (B := fun _ => []) [] rfl rfl rfl rfl has44 rfl rfl (plan_May.c w h l v3 _ V2 (ro_of h_l (j := 0) rfl) c_l) (fun _ => ?_))
    iterate 2 refine at_s T rfl ?_
    refine at_grp T [6, 7, 8, 9, 10, 11] (s := 23) (c := (!v3)) [(0, (.int .i64 w)), (1, (.int .i64 h)), (2, (.slice a_l (List.length l) n_l)), (3, (.slice a_dirs (List.length dirs) n_dirs)), (8, (.slice none 0 0)), (12, (.func (.func 43) #[] #[])), (29, (.bool ((!v3) || ((List.length dirs : Int) != (List.length l : Int)))))] rfl rfl rfl (fun c3 => ⟨rfl, rfl, rfl, rfl, rfl, rfl, (by rw [c3]; rfl), trivial⟩) (fun c3 => ⟨rfl, rfl, rfl, rfl, rfl, rfl, (by rw [c3]; rfl), trivial⟩) ?_
    refine at_s T rfl ?_
    refine at_case (s := 30) rfl (fun c4 => ?_) (fun c4 => ?_)
    · replace Z1 := if_t c4 Z1
      iterate 4 refine at_s T rfl ?_
      refine at_end ?_
      refine at_sub [(0, (.int .i64 w)), (1, (.int .i64 h)), (2, (.slice a_l (List.length l) n_l)), (3, (.slice a_dirs (List.length dirs) n_dirs)), (8, (.slice none 0 0)), (34, (.bool true))] ⟨rfl, rfl, rfl, rfl, rfl, rfl, trivial⟩ ?_
      refine at_then ?_
      obtain rfl := Option.some.inj Z1
      exact at_mid true [0] rfl ⟨rfl, rfl, rfl, rfl, rfl, rfl, trivial⟩ rfl
    · replace Z1 := if_f (bf c4) Z1
      iterate 2 refine at_s T rfl ?_
      obtain ⟨v4, V5, Z1⟩ := bind_e Z1
      refine at_cons (at_c (B := fun _ => []) [] rfl rfl rfl rfl has45 rfl rfl (slices_ContainsFunc_int_int.c dirs v4 _ V5 (ro_of h_dirs (j := 0) rfl) c_dirs) (fun _ => ?_))
      refine at_s T rfl ?_
      refine at_end ?_
      refine at_sub [(0, (.int .i64 w)), (1, (.int .i64 h)), (2, (.slice a_l (List.length l) n_l)), (3, (.slice a_dirs (List.length dirs) n_dirs)), (8, (.slice none 0 0)), (34, (.bool v4))] ⟨rfl, rfl, rfl, rfl, rfl, rfl, trivial⟩ ?_
      refine at_then ?_
      obtain rfl := Option.some.inj Z1
      exact at_mid v4 [0] rfl ⟨rfl, rfl, rfl, rfl, rfl, rfl, trivial⟩ rfl
  · rintro x1 rfl
    refine at_cond rfl (fun c6 => ?_) (fun c6 => ?_)
    · replace H := if_t c6 H
      refine at_seq ?_
      refine at_region [0, 1, 2, 3] rfl ?_
      iterate 4 refine at_s T rfl ?_
      refine at_end ?_
      refine at_sub [(8, (.slice none 0 0)), (9, (.slice none 0 0)), (10, (.slice none 0 0)), (11, (.int .i64 1))] ⟨rfl, rfl, rfl, rfl, trivial⟩ ?_
      refine at_then ?_
      refine at_ret ?_
      refine at_rt ?_
      obtain rfl := Option.some.inj H
      refine at_addnil ?_
      refine at_addnil ?_
      refine at_addnil ?_
      exact at_post (T := T) rfl (.tmp rfl (.tmp rfl (.tmp rfl (.tmp rfl .nil)))) (fun w o => ⟨⟨(_, _), ⟨none, 0, [], none, 0, [], none, 0, [], SliceO.nil, SliceO.nil, SliceO.nil, rfl, rfl⟩⟩, rfl, own_to [1, 1, 1, 0] rfl o⟩)
    · replace H := if_f (bf c6) H
      refine at_skip ?_
      refine at_then ?_
      refine at_seq ?_
      refine at_region [0, 1, 2, 3, 4, 5, 6, 7] rfl ?_
      iterate 4 refine at_s T rfl ?_
      refine at_cons (at_mm T (Ky.int .i64 u3) (fun x : Bool => Value.bool x) rfl rfl rfl ⟨_, _, rfl⟩ (fun a4 H4 s4 => ?_))
      refine at_s T rfl ?_
      refine at_cons (at_bx T [(.int .i64 w), (.int .i64 h), (.map (some a4)), (.slice none 0 0), (.slice none 0 0)] rfl rfl rfl rfl (fun b5 => ?_))
      refine at_s T rfl ?_
      refine at_end ?_
      refine at_sub [(2, (.slice a_l (List.length l) n_l)), (3, (.slice a_dirs (List.length dirs) n_dirs)), (8, (.slice none 0 0)), (13, (.pointer (some ⟨b5, 0, none⟩)))] ⟨rfl, rfl, rfl, rfl, trivial⟩ ?_
      refine at_then ?_
      refine at_seq ?_
      refine at_seq ?_
      refine at_region [0, 1, 2] rfl ?_
      iterate 3 refine at_s T rfl ?_
      refine at_end ?_
      refine at_sub [(2, (.slice a_l (List.length l) n_l)), (3, (.slice a_dirs (List.length dirs) n_dirs)), (8, (.slice none 0 0)), (13, (.pointer (some ⟨b5, 0, none⟩))), (42, (.slice a_l (List.length l) n_l)), (43, (.int .i64 (List.length l : Int))), (44, (.int .i64 0))] ⟨rfl, rfl, rfl, rfl, rfl, rfl, rfl, trivial⟩ ?_
      refine at_then ?_
      refine at_block ?_
      refine at_loopL (σ := Nat × (List (Int × Bool)) × Int × Nat × Hp) (fun ⟨k9, x7, x8, a7, H7⟩ => march_Go.l0 k9 w h l dirs x7 x8 = some r ∧ MapO (Ky.int .i64 u3) (fun x : Bool => Value.bool x) x7 a7 H7) (fun ⟨k9, x7, x8, a7, H7⟩ => [(2, (.slice a_l (List.length l) n_l)), (3, (.slice a_dirs (List.length dirs) n_dirs)), (8, (.slice none 0 0)), (13, (.pointer (some ⟨b5, 0, none⟩))), (42, (.slice a_l (List.length l) n_l)), (43, (.int .i64 (List.length l : Int))), (44, (.int .i64 x8))]) (fun ⟨k9, x7, x8, a7, H7⟩ => [F, [(b5, Obj.cells #[(.int .i64 w), (.int .i64 h), (.map (some a7)), (.slice none 0 0), (.slice none 0 0)] 82 (0, 0))], H7]) (fun s => s.1) (fuel, ([] : (List (Int × Bool))), 0, a4, H4) [0, 1, 0] ⟨H, s4⟩ ⟨rfl, rfl, rfl, rfl, rfl, rfl, rfl, trivial⟩ rfl ?_
      rintro ⟨k9, x7, x8, a7, H7⟩ ⟨Z7, s7⟩
      replace Z7 : march_Go.l0 k9 w h l dirs x7 x8 = some r := Z7
      rcases k9 with _ | k9
      · rw [march_Go.l0] at Z7; cases Z7
      · rw [march_Go.l0] at Z7
        refine at_seq ?_
        refine at_region [0] rfl ?_
        refine at_s T rfl ?_
        refine at_end ?_
        refine at_sub [(2, (.slice a_l (List.length l) n_l)), (3, (.slice a_dirs (List.length dirs) n_dirs)), (8, (.slice none 0 0)), (13, (.pointer (some ⟨b5, 0, none⟩))), (42, (.slice a_l (List.length l) n_l)), (43, (.int .i64 (List.length l : Int))), (44, (.int .i64 x8)), (45, (.bool (decide (x8 < (List.length l : Int)))))] ⟨rfl, rfl, rfl, rfl, rfl, rfl, rfl, rfl, trivial⟩ ?_
        refine at_then ?_
        refine at_seq ?_
        refine at_cond rfl (fun c8 => ?_) (fun c8 => ?_)
        · replace Z7 := if_t (of_decide_eq_true c8) Z7
          refine at_skip ?_
          refine at_then ?_
          refine at_seq ?_
          refine at_block ?_
          refine at_seq ?_
          refine at_region [0, 1, 2, 3] rfl ?_
          obtain ⟨c9, Z7⟩ := chk_e Z7
          obtain ⟨q8, o8, e8⟩ := h_l.addr c9.1 c9.2
          refine at_v rfl (g_index T rfl rfl rfl rfl rfl e8 c9.1 c9.2) ?_
          refine at_v rfl (g_loadA T (cs := [(.int .i64 (rd l x8).Id), (.int .i64 (rd l x8).Cell), (.int .i64 (rd l x8).Goal)]) rfl rfl rfl rfl rfl rfl (in_elemA (k := k_api_Unit) (ro_of h_l (j := 0) rfl) e8 c9 rfl)) ?_
          refine at_cons (at_al T [(.int .i64 0), (.int .i64 0), (.int .i64 0)] rfl rfl rfl rfl (fun b9 => ?_))
          refine at_cons (at_st T 3 [(.int .i64 (rd l x8).Id), (.int .i64 (rd l x8).Cell), (.int .i64 (rd l x8).Goal)] rfl rfl rfl rfl rfl rfl rfl rfl rfl rfl ?_)
          refine at_end ?_
          refine at_sub [(2, (.slice a_l (List.length l) n_l)), (3, (.slice a_dirs (List.length dirs) n_dirs)), (8, (.slice none 0 0)), (13, (.pointer (some ⟨b5, 0, none⟩))), (15, (.pointer (some ⟨b9, 0, none⟩))), (42, (.slice a_l (List.length l) n_l)), (43, (.int .i64 (List.length l : Int))), (44, (.int .i64 x8))] ⟨rfl, rfl, rfl, rfl, rfl, rfl, rfl, rfl, trivial⟩ ?_
          refine at_then ?_
          refine at_region_m [[], [0], [0, 1], [0, 1, 2], [], [4], [0, 1, 2, 3, 4, 5]] [6] [F, [(b5, Obj.cells #[(.int .i64 w), (.int .i64 h), (.map (some a7)), (.slice none 0 0), (.slice none 0 0)] 82 (0, 0))], H7, [(b9, Obj.cells #[(.int .i64 (rd l x8).Id), (.int .i64 (rd l x8).Cell), (.int .i64 (rd l x8).Goal)] 40 (0, 0))]] mix (by kernel_rfl) (by repeat first | exact pf_body | refine pf_then ?_ | refine pf_block ?_) (fun hg pf => ?_)
          refine atm_s T 0 hg pf (by kernel_rfl) (still_o [0, 0, 0, 0] rfl) rfl ?_
          refine atm_s T 1 hg pf (by kernel_rfl) (still_o [0, 0, 0, 0] rfl) rfl ?_
          refine atm_s T 2 hg pf (by kernel_rfl) (still_o [0, 0, 0, 0] rfl) rfl ?_
          refine atm_v 3 hg pf (by kernel_rfl) (still_o [0, 0, 0, 0] rfl) rfl rfl (g_load T rfl rfl rfl rfl (in_var (j := 1) rfl rfl)) ?_
          refine atm_s T 4 hg pf (by kernel_rfl) (still_o [0, 0, 0, 0] rfl) rfl ?_
          refine atm_v 5 hg pf (by kernel_rfl) (still_o [0, 0, 0, 0] rfl) rfl rfl (g_load T rfl rfl rfl rfl (in_var (j := 3) rfl rfl)) ?_
          refine atm_one 6 (by kernel_rfl) ?_
          refine at_mu (g := 2) (m := x7) (k := (rd l x8).Cell) (v := true) T (Ky.int .i64 u3) (fun x : Bool => Value.bool x) rfl rfl rfl rfl rfl rfl rfl s7 (fun H10 s10 => ?_)
          refine atm_next (still_l (by kernel_rfl)) ?_
          refine atm_end (by kernel_rfl) ?_
          refine at_to [(2, (.slice a_l (List.length l) n_l)), (3, (.slice a_dirs (List.length dirs) n_dirs)), (8, (.slice none 0 0)), (13, (.pointer (some ⟨b5, 0, none⟩))), (42, (.slice a_l (List.length l) n_l)), (43, (.int .i64 (List.length l : Int))), (44, (.int .i64 x8))] [0, 0, 0] [F, [(b5, Obj.cells #[(.int .i64 w), (.int .i64 h), (.map (some a7)), (.slice none 0 0), (.slice none 0 0)] 82 (0, 0))], H10] ⟨rfl, rfl, rfl, rfl, rfl, rfl, rfl, trivial⟩ rfl ?_
          refine at_nb ?_
          refine at_then ?_
          refine at_region [0, 1] rfl ?_
          iterate 2 refine at_s T rfl ?_
          refine at_end ?_
          refine at_sub [(2, (.slice a_l (List.length l) n_l)), (3, (.slice a_dirs (List.length dirs) n_dirs)), (8, (.slice none 0 0)), (13, (.pointer (some ⟨b5, 0, none⟩))), (42, (.slice a_l (List.length l) n_l)), (43, (.int .i64 (List.length l : Int))), (44, (.int .i64 (w64 (x8 + 1))))] ⟨rfl, rfl, rfl, rfl, rfl, rfl, rfl, trivial⟩ ?_
          refine at_then ?_
          exact at_roundL (k9, (mset x7 ((rd l x8).Cell) true), (w64 (x8 + 1)), a7, H10) [0, 0, 0] ⟨Z7, s10⟩ (Nat.lt_succ_self _) ⟨rfl, rfl, rfl, rfl, rfl, rfl, rfl, trivial⟩ rfl
        · replace Z7 := if_f (of_decide_eq_false c8) Z7
          refine at_exit ?_
          refine at_xt ?_
          refine at_xt ?_
          refine at_xb ?_
          refine at_then ?_
          refine at_seq ?_
          refine at_seq ?_
          refine at_region [0, 1, 2] rfl ?_
          iterate 3 refine at_s T rfl ?_
          refine at_end ?_
          refine at_sub [(3, (.slice a_dirs (List.length dirs) n_dirs)), (8, (.slice none 0 0)), (13, (.pointer (some ⟨b5, 0, none⟩))), (55, (.slice a_l (List.length l) n_l)), (56, (.int .i64 (List.length l : Int))), (57, (.int .i64 0))] ⟨rfl, rfl, rfl, rfl, rfl, rfl, trivial⟩ ?_
          refine at_then ?_
          refine at_block ?_
          refine at_addnil ?_
          refine at_addnil ?_
          refine at_addnil ?_
          refine at_loopL (σ := Nat × List api_Unit × Int × Int × (List (Int × Bool)) × List api_Move × List Int × Int × Option Addr × Nat × Hp × Nat × Hp × Option Addr × Nat × Hp × Option Addr × Nat × Hp) (fun ⟨k24, x17, x18, x19, x20, x21, x22, x23, a15, n15, H15, a16, H16, a17, n17, H17, a18, n18, H18⟩ => march_Go.l1 k24 w h l dirs x17 x18 x19 x20 x21 x22 x23 = some r ∧ SliceO k_api_Unit 40 x17 a15 n15 H15 ∧ MapO (Ky.int .i64 u3) (fun x : Bool => Value.bool x) x20 a16 H16 ∧ SliceO k_api_Move 42 x21 a17 n17 H17 ∧ SliceO (Fl.int .i64) 3 x22 a18 n18 H18) (fun ⟨k24, x17, x18, x19, x20, x21, x22, x23, a15, n15, H15, a16, H16, a17, n17, H17, a18, n18, H18⟩ => [(3, (.slice a_dirs (List.length dirs) n_dirs)), (8, (.slice a15 (List.length x17) n15)), (13, (.pointer (some ⟨b5, 0, none⟩))), (55, (.slice a_l (List.length l) n_l)), (56, (.int .i64 (List.length l : Int))), (57, (.int .i64 x23))]) (fun ⟨k24, x17, x18, x19, x20, x21, x22, x23, a15, n15, H15, a16, H16, a17, n17, H17, a18, n18, H18⟩ => [F, H15, [(b5, Obj.cells #[(.int .i64 x18), (.int .i64 x19), (.map (some a16)), (.slice a17 (List.length x21) n17), (.slice a18 (List.length x22) n18)] 82 (0, 0))], H16, H17, H18]) (fun s => s.1) (fuel, [], w, h, x7, [], [], 0, none, 0, [], a7, H7, none, 0, [], none, 0, []) [0, 2, 0, 0, 0, 0] ⟨Z7, SliceO.nil, s7, SliceO.nil, SliceO.nil⟩ ⟨rfl, rfl, rfl, rfl, rfl, rfl, trivial⟩ rfl ?_
          rintro ⟨k24, x17, x18, x19, x20, x21, x22, x23, a15, n15, H15, a16, H16, a17, n17, H17, a18, n18, H18⟩ ⟨Z10, s15, s16, s17, s18⟩
          replace Z10 : march_Go.l1 k24 w h l dirs x17 x18 x19 x20 x21 x22 x23 = some r := Z10
          rcases k24 with _ | k24
          · rw [march_Go.l1] at Z10; cases Z10
          · rw [march_Go.l1] at Z10
            refine at_seq ?_
            refine at_region [0] rfl ?_
            refine at_s T rfl ?_
            refine at_end ?_
            refine at_sub [(3, (.slice a_dirs (List.length dirs) n_dirs)), (8, (.slice a15 (List.length x17) n15)), (13, (.pointer (some ⟨b5, 0, none⟩))), (55, (.slice a_l (List.length l) n_l)), (56, (.int .i64 (List.length l : Int))), (57, (.int .i64 x23)), (58, (.bool (decide (x23 < (List.length l : Int)))))] ⟨rfl, rfl, rfl, rfl, rfl, rfl, rfl, trivial⟩ ?_
            refine at_then ?_
            refine at_seq ?_
            refine at_cond rfl (fun c11 => ?_) (fun c11 => ?_)
            · replace Z10 := if_t (of_decide_eq_true c11) Z10
              refine at_skip ?_
              refine at_then ?_
              refine at_seq ?_
              refine at_block ?_
              refine at_seq ?_
              refine at_region [0, 1, 2, 3, 4, 5] rfl ?_
              refine at_s T rfl ?_
              obtain ⟨c12, Z10⟩ := chk_e Z10
              obtain ⟨q19, o19, e19⟩ := h_l.addr c12.1 c12.2
              refine at_v rfl (g_index T rfl rfl rfl rfl rfl e19 c12.1 c12.2) ?_
              refine at_v rfl (g_loadA T (cs := [(.int .i64 (rd l x23).Id), (.int .i64 (rd l x23).Cell), (.int .i64 (rd l x23).Goal)]) rfl rfl rfl rfl rfl rfl (in_elemA (k := k_api_Unit) (ro_of h_l (j := 0) rfl) e19 c12 rfl)) ?_
              refine at_cons (at_al T [(.int .i64 0), (.int .i64 0), (.int .i64 0)] rfl rfl rfl rfl (fun b20 => ?_))
              refine at_s T rfl ?_
              refine at_cons (at_st T 6 [(.int .i64 (rd l x23).Id), (.int .i64 (rd l x23).Cell), (.int .i64 (rd l x23).Goal)] rfl rfl rfl rfl rfl rfl rfl rfl rfl rfl ?_)
              refine at_end ?_
              refine at_sub [(3, (.slice a_dirs (List.length dirs) n_dirs)), (8, (.slice a15 (List.length x17) n15)), (13, (.pointer (some ⟨b5, 0, none⟩))), (16, (.int .i64 x23)), (17, (.pointer (some ⟨b20, 0, none⟩))), (55, (.slice a_l (List.length l) n_l)), (56, (.int .i64 (List.length l : Int))), (57, (.int .i64 x23))] ⟨rfl, rfl, rfl, rfl, rfl, rfl, rfl, rfl, trivial⟩ ?_
              refine at_then ?_
              refine at_seq ?_
              refine at_region [0, 1, 2, 3, 4, 5] rfl ?_
              iterate 3 refine at_s T rfl ?_
              obtain ⟨c13, Z10⟩ := chk_e Z10
              obtain ⟨q21, o21, e21⟩ := h_dirs.addr c13.1 c13.2
              refine at_v rfl (g_index T rfl rfl rfl rfl rfl e21 c13.1 c13.2) ?_
              refine at_v rfl (g_load T rfl rfl rfl rfl (in_elem1 (k := (Fl.int .i64)) (ro_of h_dirs (j := 0) rfl) e21 c13 0 rfl)) ?_
              obtain ⟨v25, V14, Z10⟩ := bind_e Z10
              refine at_cons (at_cR (As := [[(b5, Obj.cells #[(.int .i64 x18), (.int .i64 x19), (.map (some a16)), (.slice a17 (List.length x21) n17), (.slice a18 (List.length x22) n18)] 82 (0, 0))], H16, H17, H18, [(b20, Obj.cells #[(.int .i64 (rd l x23).Id), (.int .i64 (rd l x23).Cell), (.int .i64 (rd l x23).Goal)] 40 (0, 0))]]) (R := [F, H15]) (march_field_step.R b5 b20 v25) [] [2, 2, 2, 2, 2] rfl rfl rfl rfl has46 rfl rfl (march_field_step.c (march_field.mk x18 x19 x20 x21 x22) (rd l x23) (rd dirs x23) v25 _ V14 s16 s17 s18) ?_)
              rintro _ _ ⟨a22, H22, a23, n23, H23, a24, n24, H24, s22, s23, s24, rfl, rfl⟩
              refine at_end ?_
              refine at_sub [(3, (.slice a_dirs (List.length dirs) n_dirs)), (8, (.slice a15 (List.length x17) n15)), (13, (.pointer (some ⟨b5, 0, none⟩))), (17, (.pointer (some ⟨b20, 0, none⟩))), (55, (.slice a_l (List.length l) n_l)), (56, (.int .i64 (List.length l : Int))), (57, (.int .i64 x23)), (67, (.bool v25.1))] ⟨rfl, rfl, rfl, rfl, rfl, rfl, rfl, rfl, trivial⟩ ?_
              refine at_then ?_
              refine at_cond rfl (fun c15 => ?_) (fun c15 => ?_)
              · replace Z10 := if_t c15 Z10
                refine at_region [0, 1, 2, 3, 4] rfl ?_
                refine at_s T rfl ?_
                refine at_v rfl (g_loadA T (cs := [(.int .i64 v25.2.2.Id), (.int .i64 v25.2.2.Cell), (.int .i64 v25.2.2.Goal)]) rfl rfl rfl rfl rfl rfl (in_varA (j := 6) rfl rfl)) ?_
                refine at_cons (at_bs (k := k_api_Unit) T [v25.2.2] rfl rfl rfl rfl rfl rfl rfl rfl rfl (fun a25 H25 s25 => ?_))
                obtain ⟨c16, Z10⟩ := chk_e Z10
                refine at_cons (at_ap (k := k_api_Unit) (xs := x17) T (g := 1) rfl rfl rfl rfl rfl rfl rfl rfl rfl rfl s15 (own_of s25 (j := 7) rfl) c16 rfl (fun a26 n26 H26 s26 => ?_))
                refine at_s T rfl ?_
                refine at_end ?_
                refine at_to [(3, (.slice a_dirs (List.length dirs) n_dirs)), (8, (.slice a26 (List.length (x17 ++ [v25.2.2])) n26)), (13, (.pointer (some ⟨b5, 0, none⟩))), (55, (.slice a_l (List.length l) n_l)), (56, (.int .i64 (List.length l : Int))), (57, (.int .i64 x23))] [0, 0, 0, 0, 0, 0] [F, H26, [(b5, Obj.cells #[(.int .i64 v25.2.1.w), (.int .i64 v25.2.1.h), (.map (some a22)), (.slice a23 (List.length v25.2.1.moves) n23), (.slice a24 (List.length v25.2.1.gone) n24)] 82 (0, 0))], H22, H23, H24] ⟨rfl, rfl, rfl, rfl, rfl, rfl, trivial⟩ rfl ?_
                refine at_nb ?_
                refine at_then ?_
                refine at_region [0, 1] rfl ?_
                iterate 2 refine at_s T rfl ?_
                refine at_end ?_
                refine at_sub [(3, (.slice a_dirs (List.length dirs) n_dirs)), (8, (.slice a26 (List.length (x17 ++ [v25.2.2])) n26)), (13, (.pointer (some ⟨b5, 0, none⟩))), (55, (.slice a_l (List.length l) n_l)), (56, (.int .i64 (List.length l : Int))), (57, (.int .i64 (w64 (x23 + 1))))] ⟨rfl, rfl, rfl, rfl, rfl, rfl, trivial⟩ ?_
                refine at_then ?_
                exact at_roundL (k24, (x17 ++ [v25.2.2]), v25.2.1.w, v25.2.1.h, v25.2.1.stand, v25.2.1.moves, v25.2.1.gone, (w64 (x23 + 1)), a26, n26, H26, a22, H22, a23, n23, H23, a24, n24, H24) [0, 0, 0, 0, 0, 0] ⟨Z10, s26, s22, s23, s24⟩ (Nat.lt_succ_self _) ⟨rfl, rfl, rfl, rfl, rfl, rfl, trivial⟩ rfl
              · replace Z10 := if_f (bf c15) Z10
                refine at_skip ?_
                refine at_nb ?_
                refine at_then ?_
                refine at_region [0, 1] rfl ?_
                iterate 2 refine at_s T rfl ?_
                refine at_end ?_
                refine at_to [(3, (.slice a_dirs (List.length dirs) n_dirs)), (8, (.slice a15 (List.length x17) n15)), (13, (.pointer (some ⟨b5, 0, none⟩))), (55, (.slice a_l (List.length l) n_l)), (56, (.int .i64 (List.length l : Int))), (57, (.int .i64 (w64 (x23 + 1))))] [0, 0, 0, 0, 0, 0] [F, H15, [(b5, Obj.cells #[(.int .i64 v25.2.1.w), (.int .i64 v25.2.1.h), (.map (some a22)), (.slice a23 (List.length v25.2.1.moves) n23), (.slice a24 (List.length v25.2.1.gone) n24)] 82 (0, 0))], H22, H23, H24] ⟨rfl, rfl, rfl, rfl, rfl, rfl, trivial⟩ rfl ?_
                refine at_then ?_
                exact at_roundL (k24, x17, v25.2.1.w, v25.2.1.h, v25.2.1.stand, v25.2.1.moves, v25.2.1.gone, (w64 (x23 + 1)), a15, n15, H15, a22, H22, a23, n23, H23, a24, n24, H24) [0, 0, 0, 0, 0, 0] ⟨Z10, s15, s22, s23, s24⟩ (Nat.lt_succ_self _) ⟨rfl, rfl, rfl, rfl, rfl, rfl, trivial⟩ rfl
            · replace Z10 := if_f (of_decide_eq_false c11) Z10
              refine at_exit ?_
              refine at_xt ?_
              refine at_xt ?_
              refine at_xb ?_
              refine at_then ?_
              refine at_seq ?_
              refine at_region_q mix (by kernel_rfl) ?_
              iterate 4 refine atq_s T rfl ?_
              refine atq_v rfl rfl rfl (g_load T rfl rfl rfl rfl (in_var (j := 2) rfl rfl)) ?_
              iterate 3 refine atq_s T rfl ?_
              refine atq_v rfl rfl rfl (g_load T rfl rfl rfl rfl (in_var (j := 2) rfl rfl)) ?_
              iterate 4 refine atq_s T rfl ?_
              refine atq_end ?_
              refine at_to [(8, (.slice a15 (List.length x17) n15)), (9, (.slice a17 (List.length x21) n17)), (10, (.slice a18 (List.length x22) n18)), (11, (.int .i64 0))] [0, 0, 2, 2] [F, H15, H17, H18] ⟨rfl, rfl, rfl, rfl, trivial⟩ rfl ?_
              refine at_then ?_
              refine at_ret ?_
              obtain rfl := Option.some.inj Z10
              exact at_post (T := T) rfl (.tmp rfl (.tmp rfl (.tmp rfl (.tmp rfl .nil)))) (fun w o => ⟨⟨(_, _), ⟨a15, n15, H15, a17, n17, H17, a18, n18, H18, s15, s17, s18, rfl, rfl⟩⟩, rfl, own_to [1, 1, 1, 0] rfl o⟩)
end Go.Proofs.Ytkidcebfpengmaa
