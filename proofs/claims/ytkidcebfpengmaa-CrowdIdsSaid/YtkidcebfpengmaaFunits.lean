import Derived.Test.YtkidcebfpengmaaT
namespace Go.Proofs.Ytkidcebfpengmaa
open Go.Hx
set_option maxRecDepth 100000
set_option linter.unusedVariables false
/-! ### herdsman/units.New: function 53 -/
def units_New.f (most : Int) : Option (Option units_Units) := if ((decide (most < 1)) || (decide (most > 65536))) = true then (some none) else (some (some (units_Units.mk most 0 ([] : (List (Int × api_Unit))) [])))
def units_New.R (r : (Option units_Units)) (u : Value) (G : List Hp) : Prop := ∃ (u0 : Value) (G0 : List Hp), O_units_Units r u0 G0 ∧ u = u0 ∧ G = G0
set_option maxHeartbeats 4000000 in
theorem units_New.c (most : Int) (r : (Option units_Units)) (F : Hp) (H : units_New.f most = some r) :
    CallsL Try.prog 53 [(.int .i64 most)] [F] (fun p : { p : Value × List Hp // units_New.R r p.1 p.2 } => p.1.1) (fun p => (p.1.2 ++ []) ++ [F]) := by
  unfold units_New.f at H
  refine calls_atL [(0, (.int .i64 most))] Try.func53 rfl rfl ⟨rfl, trivial⟩ (fun W => ?_)
  refine at_seq ?_
  refine at_region [0] rfl ?_
  refine at_s T rfl ?_
  refine at_end ?_
  refine at_sub [(0, (.int .i64 most))] ⟨rfl, trivial⟩ ?_
  refine at_then ?_
  refine at_seq ?_
  refine at_seq ?_
  refine at_region [0, 1, 2, 3, 4, 5] rfl ?_
  iterate 3 refine at_s T rfl ?_
  refine at_grp T [3, 4, 5] (s := 5) (c := (decide (most < 1))) [(0, (.int .i64 most)), (8, (.bool ((decide (most < 1)) || (decide (most > 65536)))))] rfl rfl rfl (fun c1 => ⟨rfl, (by rw [c1]; rfl), trivial⟩) (fun c1 => ⟨rfl, (by rw [c1]; rfl), trivial⟩) ?_
  refine at_end ?_
  refine at_sub [(0, (.int .i64 most)), (8, (.bool ((decide (most < 1)) || (decide (most > 65536)))))] ⟨rfl, rfl, trivial⟩ ?_
  refine at_then ?_
  refine at_cond rfl (fun c2 => ?_) (fun c2 => ?_)
  · replace H := if_t c2 H
    refine at_seq ?_
    refine at_region [0] rfl ?_
    refine at_s T rfl ?_
    refine at_end ?_
    refine at_sub [(2, (.pointer none))] ⟨rfl, trivial⟩ ?_
    refine at_then ?_
    refine at_ret ?_
    refine at_rt ?_
    obtain rfl := Option.some.inj H
    exact at_post (T := T) rfl (.tmp rfl .nil) (fun w o => ⟨⟨(_, _), ⟨_, _, ⟨rfl, rfl⟩, rfl, rfl⟩⟩, rfl, own_to [0] rfl o⟩)
  · replace H := if_f (bf c2) H
    refine at_skip ?_
    refine at_then ?_
    refine at_seq ?_
    refine at_region [0, 1, 2, 3, 4] rfl ?_
    refine at_s T rfl ?_
    refine at_cons (at_mm T (Ky.int .i64 u3) (fun x : api_Unit => Value.agg #[.int .i64 x.Id, .int .i64 x.Cell, .int .i64 x.Goal]) rfl rfl rfl trivial (fun a1 H1 s1 => ?_))
    refine at_s T rfl ?_
    refine at_cons (at_bx T [(.int .i64 most), (.int .i64 0), (.map (some a1)), (.slice none 0 0)] rfl rfl rfl rfl (fun b2 => ?_))
    refine at_s T rfl ?_
    refine at_end ?_
    refine at_sub [(2, (.pointer (some ⟨b2, 0, none⟩)))] ⟨rfl, trivial⟩ ?_
    refine at_then ?_
    refine at_ret ?_
    obtain rfl := Option.some.inj H
    refine at_addnil ?_
    exact at_post (T := T) rfl (.tmp rfl .nil) (fun w o => ⟨⟨(_, _), ⟨_, _, ⟨b2, a1, H1, none, 0, [], s1, SliceO.nil, rfl, rfl⟩, rfl, rfl⟩⟩, rfl, own_to [2, 1, 1, 0] rfl o⟩)

/-! ### (*herdsman/units.Units).Len: function 74 -/
def units_Units_Len.f (u : units_Units) : Option Int := some (List.length u.live : Int)
set_option maxHeartbeats 4000000 in
theorem units_Units_Len.c {b_u : Nat} {a_u_live : Nat} {H_u_live : Hp} {a_u_order : Option Addr} {n_u_order : Nat} {H_u_order : Hp} (u : units_Units) (r : Int) (F : Hp) (H : units_Units_Len.f u = some r) (s_u_live : MapO (Ky.int .i64 u3) (fun x : api_Unit => Value.agg #[.int .i64 x.Id, .int .i64 x.Cell, .int .i64 x.Goal]) u.live a_u_live H_u_live) (s_u_order : SliceO (Fl.int .i64) 3 u.order a_u_order n_u_order H_u_order) :
    CallsL Try.prog 74 [(.pointer (some ⟨b_u, 0, none⟩))] [[(b_u, Obj.cells #[(.int .i64 u.most), (.int .i64 u.next), (.map (some a_u_live)), (.slice a_u_order (List.length u.order) n_u_order)] 102 (0, 0))], H_u_live, H_u_order, F] (fun _ : Unit => (.int .i64 r)) (fun _ => [[(b_u, Obj.cells #[(.int .i64 u.most), (.int .i64 u.next), (.map (some a_u_live)), (.slice a_u_order (List.length u.order) n_u_order)] 102 (0, 0))], H_u_live, H_u_order] ++ [F]) := by
  unfold units_Units_Len.f at H
  refine calls_atL [(0, (.pointer (some ⟨b_u, 0, none⟩)))] Try.func74 rfl rfl ⟨rfl, trivial⟩ (fun W => ?_)
  refine at_seq ?_
  refine at_region [0] rfl ?_
  refine at_s T rfl ?_
  refine at_end ?_
  refine at_sub [(0, (.pointer (some ⟨b_u, 0, none⟩)))] ⟨rfl, trivial⟩ ?_
  refine at_then ?_
  refine at_seq ?_
  refine at_seq ?_
  refine at_region [0, 1] rfl ?_
  iterate 2 refine at_s T rfl ?_
  refine at_end ?_
  refine at_sub [(0, (.pointer (some ⟨b_u, 0, none⟩))), (4, (.bool false))] ⟨rfl, rfl, trivial⟩ ?_
  refine at_then ?_
  refine at_cond_f rfl ?_
  refine at_skip ?_
  refine at_then ?_
  refine at_seq ?_
  refine at_region [0, 1, 2, 3, 4, 5] rfl ?_
  iterate 3 refine at_s T rfl ?_
  refine at_v rfl (g_load T rfl rfl rfl rfl (in_var (j := 0) rfl rfl)) ?_
  refine at_v rfl (g_mlen T (Ky.int .i64 u3) (fun x : api_Unit => Value.agg #[.int .i64 x.Id, .int .i64 x.Cell, .int .i64 x.Goal]) rfl rfl rfl (mown_of s_u_live (j := 1) rfl)) ?_
  refine at_s T rfl ?_
  refine at_end ?_
  refine at_sub [(2, (.int .i64 (List.length u.live : Int)))] ⟨rfl, trivial⟩ ?_
  refine at_then ?_
  refine at_ret ?_
  obtain rfl := Option.some.inj H
  exact at_post (T := T) rfl (.tmp rfl .nil) (fun w o => ⟨(), rfl, own_to [0, 0, 0, 0] rfl o⟩)

/-! ### (*herdsman/units.Units).Add: function 56 -/
def units_Units_Add.f (u : units_Units) (cell : Int) (goal : Int) : Option (Int × Bool × units_Units) := if (List.length u.live : Int) ≥ u.most then (some (0, false, u)) else (if (List.length u.order + 1 ≤ 1099511627776) then (some (u.next, true, (units_Units.mk u.most (w64 (u.next + 1)) (mset u.live u.next (api_Unit.mk u.next cell goal)) (u.order ++ [u.next])))) else none)
def units_Units_Add.R (b_u : Nat) (r : (Int × Bool × units_Units)) (u : Value) (G : List Hp) : Prop := ∃ (a0 : Nat) (H0 : Hp) (a1 : Option Addr) (n1 : Nat) (H1 : Hp), MapO (Ky.int .i64 u3) (fun x : api_Unit => Value.agg #[.int .i64 x.Id, .int .i64 x.Cell, .int .i64 x.Goal]) r.2.2.live a0 H0 ∧ SliceO (Fl.int .i64) 3 r.2.2.order a1 n1 H1 ∧ u = (.tuple #[(.int .i64 r.1), (.bool r.2.1)]) ∧ G = [[(b_u, Obj.cells #[(.int .i64 r.2.2.most), (.int .i64 r.2.2.next), (.map (some a0)), (.slice a1 (List.length r.2.2.order) n1)] 102 (0, 0))], H0, H1]
set_option maxHeartbeats 4000000 in
theorem units_Units_Add.c {b_u : Nat} {a_u_live : Nat} {H_u_live : Hp} {a_u_order : Option Addr} {n_u_order : Nat} {H_u_order : Hp} (u : units_Units) (cell : Int) (goal : Int) (r : (Int × Bool × units_Units)) (F : Hp) (H : units_Units_Add.f u cell goal = some r) (s_u_live : MapO (Ky.int .i64 u3) (fun x : api_Unit => Value.agg #[.int .i64 x.Id, .int .i64 x.Cell, .int .i64 x.Goal]) u.live a_u_live H_u_live) (s_u_order : SliceO (Fl.int .i64) 3 u.order a_u_order n_u_order H_u_order) :
    CallsL Try.prog 56 [(.pointer (some ⟨b_u, 0, none⟩)), (.int .i64 cell), (.int .i64 goal)] [[(b_u, Obj.cells #[(.int .i64 u.most), (.int .i64 u.next), (.map (some a_u_live)), (.slice a_u_order (List.length u.order) n_u_order)] 102 (0, 0))], H_u_live, H_u_order, F] (fun p : { p : Value × List Hp // units_Units_Add.R b_u r p.1 p.2 } => p.1.1) (fun p => (p.1.2 ++ []) ++ [F]) := by
  unfold units_Units_Add.f at H
  refine calls_atL [(0, (.pointer (some ⟨b_u, 0, none⟩))), (1, (.int .i64 cell)), (2, (.int .i64 goal))] Try.func56 rfl rfl ⟨rfl, rfl, rfl, trivial⟩ (fun W => ?_)
  refine at_seq ?_
  refine at_region [0, 1] rfl ?_
  iterate 2 refine at_s T rfl ?_
  refine at_end ?_
  refine at_sub [(0, (.pointer (some ⟨b_u, 0, none⟩))), (1, (.int .i64 cell)), (2, (.int .i64 goal))] ⟨rfl, rfl, rfl, trivial⟩ ?_
  refine at_then ?_
  refine at_seq ?_
  refine at_seq ?_
  refine at_region_q mix (by kernel_rfl) ?_
  iterate 6 refine atq_s T rfl ?_
  refine atq_v rfl rfl rfl (g_load T rfl rfl rfl rfl (in_var (j := 0) rfl rfl)) ?_
  refine atq_v rfl rfl rfl (g_mlen T (Ky.int .i64 u3) (fun x : api_Unit => Value.agg #[.int .i64 x.Id, .int .i64 x.Cell, .int .i64 x.Goal]) rfl rfl rfl (mown_of s_u_live (j := 1) rfl)) ?_
  iterate 3 refine atq_s T rfl ?_
  refine atq_v rfl rfl rfl (g_load T rfl rfl rfl rfl (in_var (j := 0) rfl rfl)) ?_
  iterate 2 refine atq_s T rfl ?_
  refine atq_end ?_
  refine at_sub [(0, (.pointer (some ⟨b_u, 0, none⟩))), (1, (.int .i64 cell)), (2, (.int .i64 goal)), (22, (.bool (decide ((List.length u.live : Int) ≥ u.most))))] ⟨rfl, rfl, rfl, rfl, trivial⟩ ?_
  refine at_then ?_
  refine at_cond rfl (fun c1 => ?_) (fun c1 => ?_)
  · replace H := if_t (of_decide_eq_true c1) H
    refine at_seq ?_
    refine at_region [0, 1] rfl ?_
    iterate 2 refine at_s T rfl ?_
    refine at_end ?_
    refine at_sub [(6, (.int .i64 0)), (7, (.bool false))] ⟨rfl, rfl, trivial⟩ ?_
    refine at_then ?_
    refine at_ret ?_
    refine at_rt ?_
    obtain rfl := Option.some.inj H
    exact at_post (T := T) rfl (.tmp rfl (.tmp rfl .nil)) (fun w o => ⟨⟨(_, _), ⟨a_u_live, H_u_live, a_u_order, n_u_order, H_u_order, s_u_live, s_u_order, rfl, rfl⟩⟩, rfl, own_to [0, 0, 0, 0] rfl o⟩)
  · replace H := if_f (of_decide_eq_false c1) H
    refine at_skip ?_
    refine at_then ?_
    refine at_seq ?_
    refine at_region [0, 1, 2, 3, 4] rfl ?_
    iterate 3 refine at_s T rfl ?_
    refine at_v rfl (g_load T rfl rfl rfl rfl (in_var (j := 0) rfl rfl)) ?_
    refine at_s T rfl ?_
    refine at_end ?_
    refine at_sub [(0, (.pointer (some ⟨b_u, 0, none⟩))), (1, (.int .i64 cell)), (2, (.int .i64 goal)), (8, (.int .i64 u.next))] ⟨rfl, rfl, rfl, rfl, trivial⟩ ?_
    refine at_then ?_
    refine at_seq ?_
    refine at_region [0, 1, 2, 3, 4, 5, 6, 7] rfl ?_
    iterate 3 refine at_s T rfl ?_
    refine at_v rfl (g_load T rfl rfl rfl rfl (in_var (j := 0) rfl rfl)) ?_
    iterate 3 refine at_s T rfl ?_
    refine at_cons (at_st T 0 [(.int .i64 u.most), (.int .i64 (w64 (u.next + 1))), (.map (some a_u_live)), (.slice a_u_order (List.length u.order) n_u_order)] rfl rfl rfl rfl rfl rfl rfl rfl rfl rfl ?_)
    refine at_end ?_
    refine at_sub [(0, (.pointer (some ⟨b_u, 0, none⟩))), (1, (.int .i64 cell)), (2, (.int .i64 goal)), (8, (.int .i64 u.next))] ⟨rfl, rfl, rfl, rfl, trivial⟩ ?_
    refine at_then ?_
    refine at_seq ?_
    refine at_region [0, 1, 2, 3, 4, 5, 6, 7, 8, 9] rfl ?_
    iterate 3 refine at_s T rfl ?_
    refine at_v rfl (g_load T rfl rfl rfl rfl (in_var (j := 0) rfl rfl)) ?_
    iterate 5 refine at_s T rfl ?_
    refine at_cons (at_mu (g := 1) (m := u.live) (k := u.next) (v := (api_Unit.mk u.next cell goal)) T (Ky.int .i64 u3) (fun x : api_Unit => Value.agg #[.int .i64 x.Id, .int .i64 x.Cell, .int .i64 x.Goal]) rfl rfl rfl rfl rfl rfl rfl s_u_live (fun H4 s4 => ?_))
    refine at_end ?_
    refine at_sub [(0, (.pointer (some ⟨b_u, 0, none⟩))), (8, (.int .i64 u.next))] ⟨rfl, rfl, trivial⟩ ?_
    refine at_then ?_
    refine at_seq ?_
    refine at_region [0, 1, 2, 3, 4, 5, 6, 7, 8, 9, 10] rfl ?_
    iterate 4 refine at_s T rfl ?_
    refine at_v rfl (g_load T rfl rfl rfl rfl (in_var (j := 0) rfl rfl)) ?_
    refine at_s T rfl ?_
    refine at_cons (at_bs (k := (Fl.int .i64)) T [u.next] rfl rfl rfl rfl rfl rfl rfl rfl rfl (fun a5 H5 s5 => ?_))
    obtain ⟨c2, H⟩ := chk_e H
    refine at_cons (at_ap (k := (Fl.int .i64)) (xs := u.order) T (g := 2) rfl rfl rfl rfl rfl rfl rfl rfl rfl rfl s_u_order (own_of s5 (j := 4) rfl) c2 rfl (fun a6 n6 H6 s6 => ?_))
    iterate 2 refine at_s T rfl ?_
    refine at_cons (at_st T 0 [(.int .i64 u.most), (.int .i64 (w64 (u.next + 1))), (.map (some a_u_live)), (.slice a6 (List.length (u.order ++ [u.next])) n6)] rfl rfl rfl rfl rfl rfl rfl rfl rfl rfl ?_)
    refine at_end ?_
    refine at_to [(8, (.int .i64 u.next))] [0, 0, 0, 0] [[(b_u, Obj.cells #[(.int .i64 u.most), (.int .i64 (w64 (u.next + 1))), (.map (some a_u_live)), (.slice a6 (List.length (u.order ++ [u.next])) n6)] 102 (0, 0))], H4, H6, F] ⟨rfl, trivial⟩ rfl ?_
    refine at_then ?_
    refine at_seq ?_
    refine at_region [0, 1, 2] rfl ?_
    iterate 3 refine at_s T rfl ?_
    refine at_end ?_
    refine at_sub [(6, (.int .i64 u.next)), (7, (.bool true))] ⟨rfl, rfl, trivial⟩ ?_
    refine at_then ?_
    refine at_ret ?_
    obtain rfl := Option.some.inj H
    exact at_post (T := T) rfl (.tmp rfl (.tmp rfl .nil)) (fun w o => ⟨⟨(_, _), ⟨a_u_live, H4, a6, n6, H6, s4, s6, rfl, rfl⟩⟩, rfl, own_to [0, 0, 0, 0] rfl o⟩)

/-! ### (*herdsman/units.Units).alive: function 77 -/
def units_Units_alive.l0 : Nat → units_Units → List Int → Int → Option (List Int)
  | 0, _, _, _ => none
  | k5 + 1, u, x3, x4 => if x4 < (List.length u.order : Int) then (if (0 ≤ x4 ∧ x4 < (List.length u.order : Int)) then (if (mhas u.live (rd u.order x4)) = true then (if (List.length x3 + 1 ≤ 1099511627776) then (units_Units_alive.l0 k5 u (x3 ++ [(rd u.order x4)]) (w64 (x4 + 1))) else none) else (units_Units_alive.l0 k5 u x3 (w64 (x4 + 1)))) else none) else (some x3)
def units_Units_alive.f (u : units_Units) : Option (List Int) := units_Units_alive.l0 fuel u [] 0
def units_Units_alive.R (r : (List Int)) (u : Value) (G : List Hp) : Prop := ∃ (a0 : Option Addr) (n0 : Nat) (H0 : Hp), SliceO (Fl.int .i64) 3 r a0 n0 H0 ∧ u = (.slice a0 (List.length r) n0) ∧ G = [H0]
set_option maxHeartbeats 4000000 in
theorem units_Units_alive.c {b_u : Nat} {a_u_live : Nat} {H_u_live : Hp} {a_u_order : Option Addr} {n_u_order : Nat} {H_u_order : Hp} (u : units_Units) (r : (List Int)) (F : Hp) (H : units_Units_alive.f u = some r) (s_u_live : MapO (Ky.int .i64 u3) (fun x : api_Unit => Value.agg #[.int .i64 x.Id, .int .i64 x.Cell, .int .i64 x.Goal]) u.live a_u_live H_u_live) (s_u_order : SliceO (Fl.int .i64) 3 u.order a_u_order n_u_order H_u_order) :
    CallsL Try.prog 77 [(.pointer (some ⟨b_u, 0, none⟩))] [[(b_u, Obj.cells #[(.int .i64 u.most), (.int .i64 u.next), (.map (some a_u_live)), (.slice a_u_order (List.length u.order) n_u_order)] 102 (0, 0))], H_u_live, H_u_order, F] (fun p : { p : Value × List Hp // units_Units_alive.R r p.1 p.2 } => p.1.1) (fun p => (p.1.2 ++ [[(b_u, Obj.cells #[(.int .i64 u.most), (.int .i64 u.next), (.map (some a_u_live)), (.slice a_u_order (List.length u.order) n_u_order)] 102 (0, 0))], H_u_live, H_u_order]) ++ [F]) := by
  unfold units_Units_alive.f at H
  refine calls_atL [(0, (.pointer (some ⟨b_u, 0, none⟩)))] Try.func77 rfl rfl ⟨rfl, trivial⟩ (fun W => ?_)
  refine at_seq ?_
  refine at_region [0] rfl ?_
  refine at_s T rfl ?_
  refine at_end ?_
  refine at_sub [(0, (.pointer (some ⟨b_u, 0, none⟩)))] ⟨rfl, trivial⟩ ?_
  refine at_then ?_
  refine at_seq ?_
  refine at_region [0] rfl ?_
  refine at_s T rfl ?_
  refine at_end ?_
  refine at_sub [(0, (.pointer (some ⟨b_u, 0, none⟩))), (3, (.slice none 0 0))] ⟨rfl, rfl, trivial⟩ ?_
  refine at_then ?_
  refine at_seq ?_
  refine at_seq ?_
  refine at_region [0, 1, 2, 3, 4, 5] rfl ?_
  iterate 3 refine at_s T rfl ?_
  refine at_v rfl (g_load T rfl rfl rfl rfl (in_var (j := 0) rfl rfl)) ?_
  iterate 2 refine at_s T rfl ?_
  refine at_end ?_
  refine at_sub [(0, (.pointer (some ⟨b_u, 0, none⟩))), (3, (.slice none 0 0)), (11, (.slice a_u_order (List.length u.order) n_u_order)), (12, (.int .i64 (List.length u.order : Int))), (13, (.int .i64 0))] ⟨rfl, rfl, rfl, rfl, rfl, trivial⟩ ?_
  refine at_then ?_
  refine at_block ?_
  refine at_addnil ?_
  refine at_loopL (σ := Nat × List Int × Int × Option Addr × Nat × Hp) (fun ⟨k5, x3, x4, a5, n5, H5⟩ => units_Units_alive.l0 k5 u x3 x4 = some r ∧ SliceO (Fl.int .i64) 3 x3 a5 n5 H5) (fun ⟨k5, x3, x4, a5, n5, H5⟩ => [(0, (.pointer (some ⟨b_u, 0, none⟩))), (3, (.slice a5 (List.length x3) n5)), (11, (.slice a_u_order (List.length u.order) n_u_order)), (12, (.int .i64 (List.length u.order : Int))), (13, (.int .i64 x4))]) (fun ⟨k5, x3, x4, a5, n5, H5⟩ => [F, [(b_u, Obj.cells #[(.int .i64 u.most), (.int .i64 u.next), (.map (some a_u_live)), (.slice a_u_order (List.length u.order) n_u_order)] 102 (0, 0))], H_u_live, H_u_order, H5]) (fun s => s.1) (fuel, [], 0, none, 0, []) [3, 0, 0, 0, 0] ⟨H, SliceO.nil⟩ ⟨rfl, rfl, rfl, rfl, rfl, trivial⟩ rfl ?_
  rintro ⟨k5, x3, x4, a5, n5, H5⟩ ⟨Z1, s5⟩
  replace Z1 : units_Units_alive.l0 k5 u x3 x4 = some r := Z1
  rcases k5 with _ | k5
  · rw [units_Units_alive.l0] at Z1; cases Z1
  · rw [units_Units_alive.l0] at Z1
    refine at_seq ?_
    refine at_region [0] rfl ?_
    refine at_s T rfl ?_
    refine at_end ?_
    refine at_sub [(0, (.pointer (some ⟨b_u, 0, none⟩))), (3, (.slice a5 (List.length x3) n5)), (11, (.slice a_u_order (List.length u.order) n_u_order)), (12, (.int .i64 (List.length u.order : Int))), (13, (.int .i64 x4)), (14, (.bool (decide (x4 < (List.length u.order : Int)))))] ⟨rfl, rfl, rfl, rfl, rfl, rfl, trivial⟩ ?_
    refine at_then ?_
    refine at_seq ?_
    refine at_cond rfl (fun c2 => ?_) (fun c2 => ?_)
    · replace Z1 := if_t (of_decide_eq_true c2) Z1
      refine at_skip ?_
      refine at_then ?_
      refine at_seq ?_
      refine at_block ?_
      refine at_seq ?_
      refine at_region [0, 1, 2] rfl ?_
      obtain ⟨c3, Z1⟩ := chk_e Z1
      obtain ⟨q6, o6, e6⟩ := s_u_order.r.addr c3.1 c3.2
      refine at_v rfl (g_index T rfl rfl rfl rfl rfl e6 c3.1 c3.2) ?_
      refine at_v rfl (g_load T rfl rfl rfl rfl (in_elem1 (k := (Fl.int .i64)) (own_of s_u_order (j := 3) rfl) e6 c3 0 rfl)) ?_
      refine at_s T rfl ?_
      refine at_end ?_
      refine at_sub [(0, (.pointer (some ⟨b_u, 0, none⟩))), (3, (.slice a5 (List.length x3) n5)), (5, (.int .i64 (rd u.order x4))), (11, (.slice a_u_order (List.length u.order) n_u_order)), (12, (.int .i64 (List.length u.order : Int))), (13, (.int .i64 x4))] ⟨rfl, rfl, rfl, rfl, rfl, rfl, trivial⟩ ?_
      refine at_then ?_
      refine at_seq ?_
      refine at_region [0, 1, 2, 3, 4, 5, 6, 7, 8, 9, 10, 11] rfl ?_
      iterate 3 refine at_s T rfl ?_
      refine at_v rfl (g_load T rfl rfl rfl rfl (in_var (j := 1) rfl rfl)) ?_
      refine at_s T rfl ?_
      refine at_v rfl (g_look T (Ky.int .i64 u3) (fun x : api_Unit => Value.agg #[.int .i64 x.Id, .int .i64 x.Cell, .int .i64 x.Goal]) rfl rfl rfl rfl rfl (mown_of s_u_live (j := 2) rfl)) ?_
      iterate 3 refine at_s T rfl ?_
      refine at_cons (at_al T [(.int .i64 0), (.int .i64 0), (.int .i64 0)] rfl rfl rfl rfl (fun b7 => ?_))
      refine at_cons (at_st T 5 [(.int .i64 (mval u.live (rd u.order x4)).Id), (.int .i64 (mval u.live (rd u.order x4)).Cell), (.int .i64 (mval u.live (rd u.order x4)).Goal)] rfl rfl rfl rfl rfl rfl rfl rfl rfl rfl ?_)
      refine at_s T rfl ?_
      refine at_end ?_
      refine at_to [(0, (.pointer (some ⟨b_u, 0, none⟩))), (3, (.slice a5 (List.length x3) n5)), (5, (.int .i64 (rd u.order x4))), (7, (.bool (mhas u.live (rd u.order x4)))), (11, (.slice a_u_order (List.length u.order) n_u_order)), (12, (.int .i64 (List.length u.order : Int))), (13, (.int .i64 x4))] [0, 0, 0, 0, 0] [F, [(b_u, Obj.cells #[(.int .i64 u.most), (.int .i64 u.next), (.map (some a_u_live)), (.slice a_u_order (List.length u.order) n_u_order)] 102 (0, 0))], H_u_live, H_u_order, H5] ⟨rfl, rfl, rfl, rfl, rfl, rfl, rfl, trivial⟩ rfl ?_
      refine at_then ?_
      refine at_seq ?_
      refine at_region [0] rfl ?_
      refine at_s T rfl ?_
      refine at_end ?_
      refine at_sub [(0, (.pointer (some ⟨b_u, 0, none⟩))), (3, (.slice a5 (List.length x3) n5)), (5, (.int .i64 (rd u.order x4))), (11, (.slice a_u_order (List.length u.order) n_u_order)), (12, (.int .i64 (List.length u.order : Int))), (13, (.int .i64 x4)), (26, (.bool (mhas u.live (rd u.order x4))))] ⟨rfl, rfl, rfl, rfl, rfl, rfl, rfl, trivial⟩ ?_
      refine at_then ?_
      refine at_cond rfl (fun c4 => ?_) (fun c4 => ?_)
      · replace Z1 := if_t c4 Z1
        refine at_region [0, 1, 2, 3, 4] rfl ?_
        iterate 2 refine at_s T rfl ?_
        refine at_cons (at_bs (k := (Fl.int .i64)) T [(rd u.order x4)] rfl rfl rfl rfl rfl rfl rfl rfl rfl (fun a8 H8 s8 => ?_))
        obtain ⟨c5, Z1⟩ := chk_e Z1
        refine at_cons (at_ap (k := (Fl.int .i64)) (xs := x3) T (g := 4) rfl rfl rfl rfl rfl rfl rfl rfl rfl rfl s5 (own_of s8 (j := 5) rfl) c5 rfl (fun a9 n9 H9 s9 => ?_))
        refine at_s T rfl ?_
        refine at_end ?_
        refine at_to [(0, (.pointer (some ⟨b_u, 0, none⟩))), (3, (.slice a9 (List.length (x3 ++ [(rd u.order x4)])) n9)), (11, (.slice a_u_order (List.length u.order) n_u_order)), (12, (.int .i64 (List.length u.order : Int))), (13, (.int .i64 x4))] [0, 0, 0, 0, 0] [F, [(b_u, Obj.cells #[(.int .i64 u.most), (.int .i64 u.next), (.map (some a_u_live)), (.slice a_u_order (List.length u.order) n_u_order)] 102 (0, 0))], H_u_live, H_u_order, H9] ⟨rfl, rfl, rfl, rfl, rfl, trivial⟩ rfl ?_
        refine at_nb ?_
        refine at_then ?_
        refine at_region [0, 1] rfl ?_
        iterate 2 refine at_s T rfl ?_
        refine at_end ?_
        refine at_sub [(0, (.pointer (some ⟨b_u, 0, none⟩))), (3, (.slice a9 (List.length (x3 ++ [(rd u.order x4)])) n9)), (11, (.slice a_u_order (List.length u.order) n_u_order)), (12, (.int .i64 (List.length u.order : Int))), (13, (.int .i64 (w64 (x4 + 1))))] ⟨rfl, rfl, rfl, rfl, rfl, trivial⟩ ?_
        refine at_then ?_
        exact at_roundL (k5, (x3 ++ [(rd u.order x4)]), (w64 (x4 + 1)), a9, n9, H9) [0, 0, 0, 0, 0] ⟨Z1, s9⟩ (Nat.lt_succ_self _) ⟨rfl, rfl, rfl, rfl, rfl, trivial⟩ rfl
      · replace Z1 := if_f (bf c4) Z1
        refine at_skip ?_
        refine at_nb ?_
        refine at_then ?_
        refine at_region [0, 1] rfl ?_
        iterate 2 refine at_s T rfl ?_
        refine at_end ?_
        refine at_sub [(0, (.pointer (some ⟨b_u, 0, none⟩))), (3, (.slice a5 (List.length x3) n5)), (11, (.slice a_u_order (List.length u.order) n_u_order)), (12, (.int .i64 (List.length u.order : Int))), (13, (.int .i64 (w64 (x4 + 1))))] ⟨rfl, rfl, rfl, rfl, rfl, trivial⟩ ?_
        refine at_then ?_
        exact at_roundL (k5, x3, (w64 (x4 + 1)), a5, n5, H5) [0, 0, 0, 0, 0] ⟨Z1, s5⟩ (Nat.lt_succ_self _) ⟨rfl, rfl, rfl, rfl, rfl, trivial⟩ rfl
    · replace Z1 := if_f (of_decide_eq_false c2) Z1
      refine at_exit ?_
      refine at_xt ?_
      refine at_xt ?_
      refine at_xb ?_
      refine at_then ?_
      refine at_seq ?_
      refine at_region [0, 1] rfl ?_
      iterate 2 refine at_s T rfl ?_
      refine at_end ?_
      refine at_sub [(2, (.slice a5 (List.length x3) n5))] ⟨rfl, trivial⟩ ?_
      refine at_then ?_
      refine at_ret ?_
      obtain rfl := Option.some.inj Z1
      exact at_post (T := T) rfl (.tmp rfl .nil) (fun w o => ⟨⟨(_, _), ⟨a5, n5, H5, s5, rfl, rfl⟩⟩, rfl, own_to [4, 1, 1, 1, 0] rfl o⟩)

/-! ### (*herdsman/units.Units).All: function 59 -/
def units_Units_All.l0 : Nat → units_Units → (List Int) → List api_Unit → Int → Option (List api_Unit)
  | 0, _, _, _, _ => none
  | k6 + 1, u, v1, x4, x5 => if x5 < (List.length v1 : Int) then (if (0 ≤ x5 ∧ x5 < (List.length v1 : Int)) then (if (List.length x4 + 1 ≤ 1099511627776) then (units_Units_All.l0 k6 u v1 (x4 ++ [(api_Unit.mk ((mval u.live (rd v1 x5)).Id) ((mval u.live (rd v1 x5)).Cell) ((mval u.live (rd v1 x5)).Goal))]) (w64 (x5 + 1))) else none) else none) else (some x4)
def units_Units_All.f (u : units_Units) : Option (List api_Unit) := (units_Units_alive.f u).bind fun v1 => units_Units_All.l0 fuel u v1 [] 0
def units_Units_All.R (r : (List api_Unit)) (u : Value) (G : List Hp) : Prop := ∃ (a0 : Option Addr) (n0 : Nat) (H0 : Hp), SliceO k_api_Unit 40 r a0 n0 H0 ∧ u = (.slice a0 (List.length r) n0) ∧ G = [H0]
set_option maxHeartbeats 4000000 in
theorem units_Units_All.c {b_u : Nat} {a_u_live : Nat} {H_u_live : Hp} {a_u_order : Option Addr} {n_u_order : Nat} {H_u_order : Hp} (u : units_Units) (r : (List api_Unit)) (F : Hp) (H : units_Units_All.f u = some r) (s_u_live : MapO (Ky.int .i64 u3) (fun x : api_Unit => Value.agg #[.int .i64 x.Id, .int .i64 x.Cell, .int .i64 x.Goal]) u.live a_u_live H_u_live) (s_u_order : SliceO (Fl.int .i64) 3 u.order a_u_order n_u_order H_u_order) :
    CallsL Try.prog 59 [(.pointer (some ⟨b_u, 0, none⟩))] [[(b_u, Obj.cells #[(.int .i64 u.most), (.int .i64 u.next), (.map (some a_u_live)), (.slice a_u_order (List.length u.order) n_u_order)] 102 (0, 0))], H_u_live, H_u_order, F] (fun p : { p : Value × List Hp // units_Units_All.R r p.1 p.2 } => p.1.1) (fun p => (p.1.2 ++ [[(b_u, Obj.cells #[(.int .i64 u.most), (.int .i64 u.next), (.map (some a_u_live)), (.slice a_u_order (List.length u.order) n_u_order)] 102 (0, 0))], H_u_live, H_u_order]) ++ [F]) := by
  unfold units_Units_All.f at H
  refine calls_atL [(0, (.pointer (some ⟨b_u, 0, none⟩)))] Try.func59 rfl rfl ⟨rfl, trivial⟩ (fun W => ?_)
  refine at_seq ?_
  refine at_region [0] rfl ?_
  refine at_s T rfl ?_
  refine at_end ?_
  refine at_sub [(0, (.pointer (some ⟨b_u, 0, none⟩)))] ⟨rfl, trivial⟩ ?_
  refine at_then ?_
  refine at_seq ?_
  refine at_seq ?_
  refine at_region [0, 1] rfl ?_
  iterate 2 refine at_s T rfl ?_
  refine at_end ?_
  refine at_sub [(0, (.pointer (some ⟨b_u, 0, none⟩))), (7, (.bool false))] ⟨rfl, rfl, trivial⟩ ?_
  refine at_then ?_
  refine at_cond_f rfl ?_
  refine at_skip ?_
  refine at_then ?_
  refine at_seq ?_
  refine at_region [0] rfl ?_
  refine at_s T rfl ?_
  refine at_end ?_
  refine at_sub [(0, (.pointer (some ⟨b_u, 0, none⟩))), (3, (.slice none 0 0))] ⟨rfl, rfl, trivial⟩ ?_
  refine at_then ?_
  refine at_seq ?_
  refine at_seq ?_
  refine at_region [0, 1, 2, 3] rfl ?_
  refine at_s T rfl ?_
  obtain ⟨v1, V1, H⟩ := bind_e H
  refine at_cons (at_cR (As := [[(b_u, Obj.cells #[(.int .i64 u.most), (.int .i64 u.next), (.map (some a_u_live)), (.slice a_u_order (List.length u.order) n_u_order)] 102 (0, 0))], H_u_live, H_u_order]) (R := [F]) (units_Units_alive.R v1) [[(b_u, Obj.cells #[(.int .i64 u.most), (.int .i64 u.next), (.map (some a_u_live)), (.slice a_u_order (List.length u.order) n_u_order)] 102 (0, 0))], H_u_live, H_u_order] [0, 0, 0] rfl rfl rfl rfl has77 rfl rfl (units_Units_alive.c u v1 _ V1 s_u_live s_u_order) ?_)
  rintro _ _ ⟨a4, n4, H4, s4, rfl, rfl⟩
  iterate 2 refine at_s T rfl ?_
  refine at_end ?_
  refine at_sub [(0, (.pointer (some ⟨b_u, 0, none⟩))), (3, (.slice none 0 0)), (9, (.slice a4 (List.length v1) n4)), (10, (.int .i64 (List.length v1 : Int))), (11, (.int .i64 0))] ⟨rfl, rfl, rfl, rfl, rfl, trivial⟩ ?_
  refine at_then ?_
  refine at_block ?_
  refine at_addnil ?_
  refine at_loopL (σ := Nat × List api_Unit × Int × Option Addr × Nat × Hp) (fun ⟨k6, x4, x5, a6, n6, H6⟩ => units_Units_All.l0 k6 u v1 x4 x5 = some r ∧ SliceO k_api_Unit 40 x4 a6 n6 H6) (fun ⟨k6, x4, x5, a6, n6, H6⟩ => [(0, (.pointer (some ⟨b_u, 0, none⟩))), (3, (.slice a6 (List.length x4) n6)), (9, (.slice a4 (List.length v1) n4)), (10, (.int .i64 (List.length v1 : Int))), (11, (.int .i64 x5))]) (fun ⟨k6, x4, x5, a6, n6, H6⟩ => [F, [(b_u, Obj.cells #[(.int .i64 u.most), (.int .i64 u.next), (.map (some a_u_live)), (.slice a_u_order (List.length u.order) n_u_order)] 102 (0, 0))], H_u_live, H_u_order, H6, H4]) (fun s => s.1) (fuel, [], 0, none, 0, []) [0, 1, 1, 1, 1, 0] ⟨H, SliceO.nil⟩ ⟨rfl, rfl, rfl, rfl, rfl, trivial⟩ rfl ?_
  rintro ⟨k6, x4, x5, a6, n6, H6⟩ ⟨Z2, s6⟩
  replace Z2 : units_Units_All.l0 k6 u v1 x4 x5 = some r := Z2
  rcases k6 with _ | k6
  · rw [units_Units_All.l0] at Z2; cases Z2
  · rw [units_Units_All.l0] at Z2
    refine at_seq ?_
    refine at_region [0] rfl ?_
    refine at_s T rfl ?_
    refine at_end ?_
    refine at_sub [(0, (.pointer (some ⟨b_u, 0, none⟩))), (3, (.slice a6 (List.length x4) n6)), (9, (.slice a4 (List.length v1) n4)), (10, (.int .i64 (List.length v1 : Int))), (11, (.int .i64 x5)), (12, (.bool (decide (x5 < (List.length v1 : Int)))))] ⟨rfl, rfl, rfl, rfl, rfl, rfl, trivial⟩ ?_
    refine at_then ?_
    refine at_seq ?_
    refine at_cond rfl (fun c3 => ?_) (fun c3 => ?_)
    · replace Z2 := if_t (of_decide_eq_true c3) Z2
      refine at_skip ?_
      refine at_then ?_
      refine at_seq ?_
      refine at_block ?_
      refine at_seq ?_
      refine at_region [0, 1, 2] rfl ?_
      obtain ⟨c4, Z2⟩ := chk_e Z2
      obtain ⟨q7, o7, e7⟩ := s4.r.addr c4.1 c4.2
      refine at_v rfl (g_index T rfl rfl rfl rfl rfl e7 c4.1 c4.2) ?_
      refine at_v rfl (g_load T rfl rfl rfl rfl (in_elem1 (k := (Fl.int .i64)) (own_of s4 (j := 5) rfl) e7 c4 0 rfl)) ?_
      refine at_s T rfl ?_
      refine at_end ?_
      refine at_sub [(0, (.pointer (some ⟨b_u, 0, none⟩))), (3, (.slice a6 (List.length x4) n6)), (5, (.int .i64 (rd v1 x5))), (9, (.slice a4 (List.length v1) n4)), (10, (.int .i64 (List.length v1 : Int))), (11, (.int .i64 x5))] ⟨rfl, rfl, rfl, rfl, rfl, rfl, trivial⟩ ?_
      refine at_then ?_
      refine at_region [0, 1, 2, 3, 4, 5, 6, 7, 8, 9] rfl ?_
      iterate 4 refine at_s T rfl ?_
      refine at_v rfl (g_load T rfl rfl rfl rfl (in_var (j := 1) rfl rfl)) ?_
      refine at_s T rfl ?_
      refine at_v rfl (g_look T (Ky.int .i64 u3) (fun x : api_Unit => Value.agg #[.int .i64 x.Id, .int .i64 x.Cell, .int .i64 x.Goal]) rfl rfl rfl rfl rfl (mown_of s_u_live (j := 2) rfl)) ?_
      refine at_cons (at_bs (k := k_api_Unit) T [(api_Unit.mk ((mval u.live (rd v1 x5)).Id) ((mval u.live (rd v1 x5)).Cell) ((mval u.live (rd v1 x5)).Goal))] rfl rfl rfl rfl rfl rfl rfl rfl rfl (fun a8 H8 s8 => ?_))
      obtain ⟨c5, Z2⟩ := chk_e Z2
      refine at_cons (at_ap (k := k_api_Unit) (xs := x4) T (g := 4) rfl rfl rfl rfl rfl rfl rfl rfl rfl rfl s6 (own_of s8 (j := 6) rfl) c5 rfl (fun a9 n9 H9 s9 => ?_))
      refine at_s T rfl ?_
      refine at_end ?_
      refine at_to [(0, (.pointer (some ⟨b_u, 0, none⟩))), (3, (.slice a9 (List.length (x4 ++ [(api_Unit.mk ((mval u.live (rd v1 x5)).Id) ((mval u.live (rd v1 x5)).Cell) ((mval u.live (rd v1 x5)).Goal))])) n9)), (9, (.slice a4 (List.length v1) n4)), (10, (.int .i64 (List.length v1 : Int))), (11, (.int .i64 x5))] [0, 0, 0, 0, 0, 0] [F, [(b_u, Obj.cells #[(.int .i64 u.most), (.int .i64 u.next), (.map (some a_u_live)), (.slice a_u_order (List.length u.order) n_u_order)] 102 (0, 0))], H_u_live, H_u_order, H9, H4] ⟨rfl, rfl, rfl, rfl, rfl, trivial⟩ rfl ?_
      refine at_nb ?_
      refine at_then ?_
      refine at_region [0, 1] rfl ?_
      iterate 2 refine at_s T rfl ?_
      refine at_end ?_
      refine at_sub [(0, (.pointer (some ⟨b_u, 0, none⟩))), (3, (.slice a9 (List.length (x4 ++ [(api_Unit.mk ((mval u.live (rd v1 x5)).Id) ((mval u.live (rd v1 x5)).Cell) ((mval u.live (rd v1 x5)).Goal))])) n9)), (9, (.slice a4 (List.length v1) n4)), (10, (.int .i64 (List.length v1 : Int))), (11, (.int .i64 (w64 (x5 + 1))))] ⟨rfl, rfl, rfl, rfl, rfl, trivial⟩ ?_
      refine at_then ?_
      exact at_roundL (k6, (x4 ++ [(api_Unit.mk ((mval u.live (rd v1 x5)).Id) ((mval u.live (rd v1 x5)).Cell) ((mval u.live (rd v1 x5)).Goal))]), (w64 (x5 + 1)), a9, n9, H9) [0, 0, 0, 0, 0, 0] ⟨Z2, s9⟩ (Nat.lt_succ_self _) ⟨rfl, rfl, rfl, rfl, rfl, trivial⟩ rfl
    · replace Z2 := if_f (of_decide_eq_false c3) Z2
      refine at_exit ?_
      refine at_xt ?_
      refine at_xt ?_
      refine at_xb ?_
      refine at_then ?_
      refine at_seq ?_
      refine at_region [0, 1] rfl ?_
      iterate 2 refine at_s T rfl ?_
      refine at_end ?_
      refine at_to [(2, (.slice a6 (List.length x4) n6))] [0, 0, 0, 0, 0] [F, [(b_u, Obj.cells #[(.int .i64 u.most), (.int .i64 u.next), (.map (some a_u_live)), (.slice a_u_order (List.length u.order) n_u_order)] 102 (0, 0))], H_u_live, H_u_order, H6] ⟨rfl, trivial⟩ rfl ?_
      refine at_then ?_
      refine at_ret ?_
      obtain rfl := Option.some.inj Z2
      exact at_post (T := T) rfl (.tmp rfl .nil) (fun w o => ⟨⟨(_, _), ⟨a6, n6, H6, s6, rfl, rfl⟩⟩, rfl, own_to [4, 1, 1, 1, 0] rfl o⟩)

/-! ### (*herdsman/units.Units).Get: function 60 -/
def units_Units_Get.f (u : units_Units) (id : Int) : Option (api_Unit × Bool) := some ((api_Unit.mk ((mval u.live id).Id) ((mval u.live id).Cell) ((mval u.live id).Goal)), (mhas u.live id))
set_option maxHeartbeats 4000000 in
theorem units_Units_Get.c {b_u : Nat} {a_u_live : Nat} {H_u_live : Hp} {a_u_order : Option Addr} {n_u_order : Nat} {H_u_order : Hp} (u : units_Units) (id : Int) (r : (api_Unit × Bool)) (F : Hp) (H : units_Units_Get.f u id = some r) (s_u_live : MapO (Ky.int .i64 u3) (fun x : api_Unit => Value.agg #[.int .i64 x.Id, .int .i64 x.Cell, .int .i64 x.Goal]) u.live a_u_live H_u_live) (s_u_order : SliceO (Fl.int .i64) 3 u.order a_u_order n_u_order H_u_order) :
    CallsL Try.prog 60 [(.pointer (some ⟨b_u, 0, none⟩)), (.int .i64 id)] [[(b_u, Obj.cells #[(.int .i64 u.most), (.int .i64 u.next), (.map (some a_u_live)), (.slice a_u_order (List.length u.order) n_u_order)] 102 (0, 0))], H_u_live, H_u_order, F] (fun _ : Unit => (.tuple #[(.agg #[(.int .i64 r.1.Id), (.int .i64 r.1.Cell), (.int .i64 r.1.Goal)]), (.bool r.2)])) (fun _ => [[(b_u, Obj.cells #[(.int .i64 u.most), (.int .i64 u.next), (.map (some a_u_live)), (.slice a_u_order (List.length u.order) n_u_order)] 102 (0, 0))], H_u_live, H_u_order] ++ [F]) := by
  unfold units_Units_Get.f at H
  refine calls_atL [(0, (.pointer (some ⟨b_u, 0, none⟩))), (1, (.int .i64 id))] Try.func60 rfl rfl ⟨rfl, rfl, trivial⟩ (fun W => ?_)
  refine at_seq ?_
  refine at_region [0, 1] rfl ?_
  refine at_cons (at_al T [(.int .i64 0), (.int .i64 0), (.int .i64 0)] rfl rfl rfl rfl (fun b4 => ?_))
  refine at_s T rfl ?_
  refine at_end ?_
  refine at_sub [(0, (.pointer (some ⟨b_u, 0, none⟩))), (1, (.int .i64 id)), (4, (.pointer (some ⟨b4, 0, none⟩)))] ⟨rfl, rfl, rfl, trivial⟩ ?_
  refine at_then ?_
  refine at_seq ?_
  refine at_seq ?_
  refine at_region [0, 1] rfl ?_
  iterate 2 refine at_s T rfl ?_
  refine at_end ?_
  refine at_sub [(0, (.pointer (some ⟨b_u, 0, none⟩))), (1, (.int .i64 id)), (4, (.pointer (some ⟨b4, 0, none⟩))), (9, (.bool false))] ⟨rfl, rfl, rfl, rfl, trivial⟩ ?_
  refine at_then ?_
  refine at_cond_f rfl ?_
  refine at_skip ?_
  refine at_then ?_
  refine at_seq ?_
  refine at_region [0, 1, 2, 3, 4, 5, 6, 7, 8, 9, 10, 11] rfl ?_
  iterate 3 refine at_s T rfl ?_
  refine at_v rfl (g_load T rfl rfl rfl rfl (in_var (j := 0) rfl rfl)) ?_
  refine at_s T rfl ?_
  refine at_v rfl (g_look T (Ky.int .i64 u3) (fun x : api_Unit => Value.agg #[.int .i64 x.Id, .int .i64 x.Cell, .int .i64 x.Goal]) rfl rfl rfl rfl rfl (mown_of s_u_live (j := 1) rfl)) ?_
  iterate 3 refine at_s T rfl ?_
  refine at_cons (at_al T [(.int .i64 0), (.int .i64 0), (.int .i64 0)] rfl rfl rfl rfl (fun b5 => ?_))
  refine at_cons (at_st T 5 [(.int .i64 (mval u.live id).Id), (.int .i64 (mval u.live id).Cell), (.int .i64 (mval u.live id).Goal)] rfl rfl rfl rfl rfl rfl rfl rfl rfl rfl ?_)
  refine at_s T rfl ?_
  refine at_end ?_
  refine at_sub [(4, (.pointer (some ⟨b4, 0, none⟩))), (6, (.pointer (some ⟨b5, 0, none⟩))), (7, (.bool (mhas u.live id)))] ⟨rfl, rfl, rfl, trivial⟩ ?_
  refine at_then ?_
  refine at_seq ?_
  refine at_region [0, 1, 2, 3] rfl ?_
  refine at_v rfl (g_loadA T (cs := [(.int .i64 (mval u.live id).Id), (.int .i64 (mval u.live id).Cell), (.int .i64 (mval u.live id).Goal)]) rfl rfl rfl rfl rfl rfl (in_varA (j := 5) rfl rfl)) ?_
  refine at_s T rfl ?_
  refine at_cons (at_st T 4 [(.int .i64 (mval u.live id).Id), (.int .i64 (mval u.live id).Cell), (.int .i64 (mval u.live id).Goal)] rfl rfl rfl rfl rfl rfl rfl rfl rfl rfl ?_)
  refine at_s T rfl ?_
  refine at_end ?_
  refine at_to [(4, (.pointer (some ⟨b4, 0, none⟩))), (5, (.bool (mhas u.live id)))] [0, 0, 0, 0, 0] [[(b_u, Obj.cells #[(.int .i64 u.most), (.int .i64 u.next), (.map (some a_u_live)), (.slice a_u_order (List.length u.order) n_u_order)] 102 (0, 0))], H_u_live, H_u_order, F, [(b4, Obj.cells #[(.int .i64 (mval u.live id).Id), (.int .i64 (mval u.live id).Cell), (.int .i64 (mval u.live id).Goal)] 40 (0, 0))]] ⟨rfl, rfl, trivial⟩ rfl ?_
  refine at_then ?_
  refine at_ret ?_
  obtain rfl := Option.some.inj H
  exact at_post (T := T) rfl (.aggv (j := 4) [(.int .i64 (mval u.live id).Id), (.int .i64 (mval u.live id).Cell), (.int .i64 (mval u.live id).Goal)] rfl rfl rfl rfl rfl rfl rfl (.tmp rfl .nil)) (fun w o => ⟨(), rfl, own_to [0, 0, 0, 0] rfl o⟩)

/-! ### (*herdsman/units.Units).Drop: function 78 -/
def units_Units_Drop.f (u : units_Units) (id : Int) : Option (Bool × units_Units) := (units_Units_Get.f u id).bind fun v1 => if (!v1.2) = true then (some (false, u)) else (if (List.length u.order : Int) > (w64 (2 * (List.length (mdel u.live id) : Int))) then ((units_Units_alive.f (units_Units.mk u.most u.next (mdel u.live id) u.order)).bind fun v2 => some (true, (units_Units.mk u.most u.next (mdel u.live id) v2))) else (some (true, (units_Units.mk u.most u.next (mdel u.live id) u.order))))
def units_Units_Drop.R (b_u : Nat) (r : (Bool × units_Units)) (u : Value) (G : List Hp) : Prop := ∃ (a0 : Nat) (H0 : Hp) (a1 : Option Addr) (n1 : Nat) (H1 : Hp), MapO (Ky.int .i64 u3) (fun x : api_Unit => Value.agg #[.int .i64 x.Id, .int .i64 x.Cell, .int .i64 x.Goal]) r.2.live a0 H0 ∧ SliceO (Fl.int .i64) 3 r.2.order a1 n1 H1 ∧ u = (.bool r.1) ∧ G = [[(b_u, Obj.cells #[(.int .i64 r.2.most), (.int .i64 r.2.next), (.map (some a0)), (.slice a1 (List.length r.2.order) n1)] 102 (0, 0))], H0, H1]
set_option maxHeartbeats 4000000 in
theorem units_Units_Drop.c {b_u : Nat} {a_u_live : Nat} {H_u_live : Hp} {a_u_order : Option Addr} {n_u_order : Nat} {H_u_order : Hp} (u : units_Units) (id : Int) (r : (Bool × units_Units)) (F : Hp) (H : units_Units_Drop.f u id = some r) (s_u_live : MapO (Ky.int .i64 u3) (fun x : api_Unit => Value.agg #[.int .i64 x.Id, .int .i64 x.Cell, .int .i64 x.Goal]) u.live a_u_live H_u_live) (s_u_order : SliceO (Fl.int .i64) 3 u.order a_u_order n_u_order H_u_order) :
    CallsL Try.prog 78 [(.pointer (some ⟨b_u, 0, none⟩)), (.int .i64 id)] [[(b_u, Obj.cells #[(.int .i64 u.most), (.int .i64 u.next), (.map (some a_u_live)), (.slice a_u_order (List.length u.order) n_u_order)] 102 (0, 0))], H_u_live, H_u_order, F] (fun p : { p : Value × List Hp // units_Units_Drop.R b_u r p.1 p.2 } => p.1.1) (fun p => (p.1.2 ++ []) ++ [F]) := by
  unfold units_Units_Drop.f at H
  refine calls_atL [(0, (.pointer (some ⟨b_u, 0, none⟩))), (1, (.int .i64 id))] Try.func78 rfl rfl ⟨rfl, rfl, trivial⟩ (fun W => ?_)
  refine at_seq ?_
  refine at_region [0] rfl ?_
  refine at_s T rfl ?_
  refine at_end ?_
  refine at_sub [(0, (.pointer (some ⟨b_u, 0, none⟩))), (1, (.int .i64 id))] ⟨rfl, rfl, trivial⟩ ?_
  refine at_then ?_
  refine at_seq ?_
  refine at_region [0, 1, 2, 3, 4, 5, 6, 7, 8] rfl ?_
  iterate 2 refine at_s T rfl ?_
  obtain ⟨v1, V1, H⟩ := bind_e H
  refine at_cons (at_c (As := [[(b_u, Obj.cells #[(.int .i64 u.most), (.int .i64 u.next), (.map (some a_u_live)), (.slice a_u_order (List.length u.order) n_u_order)] 102 (0, 0))], H_u_live, H_u_order]) (R := [F]) (B := fun _ => [[(b_u, Obj.cells #[(.int .i64 u.most), (.int .i64 u.next), (.map (some a_u_live)), (.slice a_u_order (List.length u.order) n_u_order)] 102 (0, 0))], H_u_live, H_u_order]) [0, 0, 0] rfl rfl rfl rfl has60 rfl rfl (units_Units_Get.c u id v1 _ V1 s_u_live s_u_order) (fun _ => ?_))
  iterate 3 refine at_s T rfl ?_
  refine at_cons (at_al T [(.int .i64 0), (.int .i64 0), (.int .i64 0)] rfl rfl rfl rfl (fun b4 => ?_))
  refine at_cons (at_st T 4 [(.int .i64 v1.1.Id), (.int .i64 v1.1.Cell), (.int .i64 v1.1.Goal)] rfl rfl rfl rfl rfl rfl rfl rfl rfl rfl ?_)
  refine at_s T rfl ?_
  refine at_end ?_
  refine at_to [(0, (.pointer (some ⟨b_u, 0, none⟩))), (1, (.int .i64 id)), (6, (.bool v1.2))] [0, 0, 0, 0] [F, [(b_u, Obj.cells #[(.int .i64 u.most), (.int .i64 u.next), (.map (some a_u_live)), (.slice a_u_order (List.length u.order) n_u_order)] 102 (0, 0))], H_u_live, H_u_order] ⟨rfl, rfl, rfl, trivial⟩ rfl ?_
  refine at_then ?_
  refine at_seq ?_
  refine at_seq ?_
  refine at_region [0, 1] rfl ?_
  iterate 2 refine at_s T rfl ?_
  refine at_end ?_
  refine at_sub [(0, (.pointer (some ⟨b_u, 0, none⟩))), (1, (.int .i64 id)), (14, (.bool (!v1.2)))] ⟨rfl, rfl, rfl, trivial⟩ ?_
  refine at_then ?_
  refine at_cond rfl (fun c2 => ?_) (fun c2 => ?_)
  · replace H := if_t c2 H
    refine at_seq ?_
    refine at_region [0] rfl ?_
    refine at_s T rfl ?_
    refine at_end ?_
    refine at_sub [(4, (.bool false))] ⟨rfl, trivial⟩ ?_
    refine at_then ?_
    refine at_ret ?_
    refine at_rt ?_
    obtain rfl := Option.some.inj H
    exact at_post (T := T) rfl (.tmp rfl .nil) (fun w o => ⟨⟨(_, _), ⟨a_u_live, H_u_live, a_u_order, n_u_order, H_u_order, s_u_live, s_u_order, rfl, rfl⟩⟩, rfl, own_to [1, 1, 1, 0] rfl o⟩)
  · replace H := if_f (bf c2) H
    refine at_skip ?_
    refine at_then ?_
    refine at_seq ?_
    refine at_region [0, 1, 2, 3, 4, 5] rfl ?_
    iterate 3 refine at_s T rfl ?_
    refine at_v rfl (g_load T rfl rfl rfl rfl (in_var (j := 1) rfl rfl)) ?_
    refine at_s T rfl ?_
    refine at_cons (at_md (g := 2) (m := u.live) (k := id) T (Ky.int .i64 u3) (fun x : api_Unit => Value.agg #[.int .i64 x.Id, .int .i64 x.Cell, .int .i64 x.Goal]) rfl rfl rfl rfl rfl rfl rfl rfl s_u_live (fun H5 s5 => ?_))
    refine at_end ?_
    refine at_sub [(0, (.pointer (some ⟨b_u, 0, none⟩)))] ⟨rfl, trivial⟩ ?_
    refine at_then ?_
    refine at_seq ?_
    refine at_seq ?_
    refine at_region_q mix (by kernel_rfl) ?_
    iterate 3 refine atq_s T rfl ?_
    refine atq_v rfl rfl rfl (g_load T rfl rfl rfl rfl (in_var (j := 1) rfl rfl)) ?_
    iterate 4 refine atq_s T rfl ?_
    refine atq_v rfl rfl rfl (g_load T rfl rfl rfl rfl (in_var (j := 1) rfl rfl)) ?_
    refine atq_v rfl rfl rfl (g_mlen T (Ky.int .i64 u3) (fun x : api_Unit => Value.agg #[.int .i64 x.Id, .int .i64 x.Cell, .int .i64 x.Goal]) rfl rfl rfl (mown_of s5 (j := 2) rfl)) ?_
    iterate 2 refine atq_s T rfl ?_
    refine atq_end ?_
    refine at_sub [(0, (.pointer (some ⟨b_u, 0, none⟩))), (31, (.bool (decide ((List.length u.order : Int) > (w64 (2 * (List.length (mdel u.live id) : Int)))))))] ⟨rfl, rfl, trivial⟩ ?_
    refine at_then ?_
    refine at_cond rfl (fun c3 => ?_) (fun c3 => ?_)
    · replace H := if_t (of_decide_eq_true c3) H
      refine at_region [0, 1, 2, 3, 4, 5] rfl ?_
      iterate 2 refine at_s T rfl ?_
      obtain ⟨v2, V4, H⟩ := bind_e H
      refine at_cons (at_cR (As := [[(b_u, Obj.cells #[(.int .i64 u.most), (.int .i64 u.next), (.map (some a_u_live)), (.slice a_u_order (List.length u.order) n_u_order)] 102 (0, 0))], H5, H_u_order]) (R := [F]) (units_Units_alive.R v2) [[(b_u, Obj.cells #[(.int .i64 u.most), (.int .i64 u.next), (.map (some a_u_live)), (.slice a_u_order (List.length u.order) n_u_order)] 102 (0, 0))], H5, H_u_order] [1, 1, 1] rfl rfl rfl rfl has77 rfl rfl (units_Units_alive.c (units_Units.mk u.most u.next (mdel u.live id) u.order) v2 _ V4 s5 s_u_order) ?_)
      rintro _ _ ⟨a6, n6, H6, s6, rfl, rfl⟩
      iterate 2 refine at_s T rfl ?_
      refine at_cons (at_st T 2 [(.int .i64 u.most), (.int .i64 u.next), (.map (some a_u_live)), (.slice a6 (List.length v2) n6)] rfl rfl rfl rfl rfl rfl rfl rfl rfl rfl ?_)
      refine at_end ?_
      refine at_to [] [0, 0, 0, 0] [F, H6, [(b_u, Obj.cells #[(.int .i64 u.most), (.int .i64 u.next), (.map (some a_u_live)), (.slice a6 (List.length v2) n6)] 102 (0, 0))], H5] trivial rfl ?_
      refine at_then ?_
      refine at_seq ?_
      refine at_region [0] rfl ?_
      refine at_s T rfl ?_
      refine at_end ?_
      refine at_sub [(4, (.bool true))] ⟨rfl, trivial⟩ ?_
      refine at_then ?_
      refine at_ret ?_
      obtain rfl := Option.some.inj H
      exact at_post (T := T) rfl (.tmp rfl .nil) (fun w o => ⟨⟨(_, _), ⟨a_u_live, H5, a6, n6, H6, s5, s6, rfl, rfl⟩⟩, rfl, own_to [2, 2, 1, 0] rfl o⟩)
    · replace H := if_f (of_decide_eq_false c3) H
      refine at_skip ?_
      refine at_then ?_
      refine at_seq ?_
      refine at_region [0] rfl ?_
      refine at_s T rfl ?_
      refine at_end ?_
      refine at_sub [(4, (.bool true))] ⟨rfl, trivial⟩ ?_
      refine at_then ?_
      refine at_ret ?_
      obtain rfl := Option.some.inj H
      exact at_post (T := T) rfl (.tmp rfl .nil) (fun w o => ⟨⟨(_, _), ⟨a_u_live, H5, a_u_order, n_u_order, H_u_order, s5, s_u_order, rfl, rfl⟩⟩, rfl, own_to [1, 1, 1, 0] rfl o⟩)

/-! ### (*herdsman/units.Units).Move$1: function 82 -/
def units_Units_Move_1.f (x : api_Unit) (p1 : Int) : Option api_Unit := some (api_Unit.mk x.Id p1 x.Goal)
def units_Units_Move_1.R (b_x : Nat) (r : api_Unit) (u : Value) (G : List Hp) : Prop := u = (.tuple #[]) ∧ G = [[(b_x, Obj.cells #[(.int .i64 r.Id), (.int .i64 r.Cell), (.int .i64 r.Goal)] 40 (0, 0))]]
set_option maxHeartbeats 4000000 in
theorem units_Units_Move_1.c {b_x : Nat} {b_p1 : Nat} (x : api_Unit) (p1 : Int) (r : api_Unit) (F : Hp) (H : units_Units_Move_1.f x p1 = some r) :
    CallsL Try.prog 82 [(.pointer (some ⟨b_x, 0, none⟩)), (.pointer (some ⟨b_p1, 0, none⟩))] [[(b_x, Obj.cells #[(.int .i64 x.Id), (.int .i64 x.Cell), (.int .i64 x.Goal)] 40 (0, 0))], [(b_p1, Obj.cells #[(.int .i64 p1)] 3 (0, 0))], F] (fun p : { p : Value × List Hp // units_Units_Move_1.R b_x r p.1 p.2 } => p.1.1) (fun p => (p.1.2 ++ [[(b_p1, Obj.cells #[(.int .i64 p1)] 3 (0, 0))]]) ++ [F]) := by
  unfold units_Units_Move_1.f at H
  refine calls_atL [(0, (.pointer (some ⟨b_x, 0, none⟩))), (1, (.pointer (some ⟨b_p1, 0, none⟩)))] Try.func82 rfl rfl ⟨rfl, rfl, trivial⟩ (fun W => ?_)
  refine at_region [0, 1, 2, 3, 4] rfl ?_
  refine at_s T rfl ?_
  refine at_v rfl (g_load T rfl rfl rfl rfl (in_var (j := 1) rfl rfl)) ?_
  iterate 2 refine at_s T rfl ?_
  refine at_cons (at_st T 0 [(.int .i64 x.Id), (.int .i64 p1), (.int .i64 x.Goal)] rfl rfl rfl rfl rfl rfl rfl rfl rfl rfl ?_)
  refine at_end ?_
  refine at_sub [] trivial ?_
  refine at_post_n ?_
  obtain rfl := Option.some.inj H
  exact at_post (T := T) rfl .nil (fun w o => ⟨⟨(_, _), ⟨rfl, rfl⟩⟩, rfl, own_to [0, 0, 0] rfl o⟩)

/-! ### (*herdsman/units.Units).set: function 80 -/
def units_Units_set.f (u : units_Units) (id : Int) (p78 : Int) : Option (Bool × units_Units) := (units_Units_Get.f u id).bind fun v1 => if v1.2 = true then ((units_Units_Move_1.f v1.1 p78).bind fun v2 => some (v1.2, (units_Units.mk u.most u.next (mset u.live id v2) u.order))) else (some (v1.2, u))
def units_Units_set.R (b_u : Nat) (r : (Bool × units_Units)) (u : Value) (G : List Hp) : Prop := ∃ (a0 : Nat) (H0 : Hp) (a1 : Option Addr) (n1 : Nat) (H1 : Hp), MapO (Ky.int .i64 u3) (fun x : api_Unit => Value.agg #[.int .i64 x.Id, .int .i64 x.Cell, .int .i64 x.Goal]) r.2.live a0 H0 ∧ SliceO (Fl.int .i64) 3 r.2.order a1 n1 H1 ∧ u = (.bool r.1) ∧ G = [[(b_u, Obj.cells #[(.int .i64 r.2.most), (.int .i64 r.2.next), (.map (some a0)), (.slice a1 (List.length r.2.order) n1)] 102 (0, 0))], H0, H1]
set_option maxHeartbeats 4000000 in
theorem units_Units_set.c {b_u : Nat} {a_u_live : Nat} {H_u_live : Hp} {a_u_order : Option Addr} {n_u_order : Nat} {H_u_order : Hp} {b_p78 : Nat} (u : units_Units) (id : Int) (p78 : Int) (r : (Bool × units_Units)) (F : Hp) (H : units_Units_set.f u id p78 = some r) (s_u_live : MapO (Ky.int .i64 u3) (fun x : api_Unit => Value.agg #[.int .i64 x.Id, .int .i64 x.Cell, .int .i64 x.Goal]) u.live a_u_live H_u_live) (s_u_order : SliceO (Fl.int .i64) 3 u.order a_u_order n_u_order H_u_order) :
    CallsL Try.prog 80 [(.pointer (some ⟨b_u, 0, none⟩)), (.int .i64 id), (.func (.func 82) #[] #[(.pointer (some ⟨b_p78, 0, none⟩))])] [[(b_u, Obj.cells #[(.int .i64 u.most), (.int .i64 u.next), (.map (some a_u_live)), (.slice a_u_order (List.length u.order) n_u_order)] 102 (0, 0))], H_u_live, H_u_order, [(b_p78, Obj.cells #[(.int .i64 p78)] 3 (0, 0))], F] (fun p : { p : Value × List Hp // units_Units_set.R b_u r p.1 p.2 } => p.1.1) (fun p => (p.1.2 ++ [[(b_p78, Obj.cells #[(.int .i64 p78)] 3 (0, 0))]]) ++ [F]) := by
  unfold units_Units_set.f at H
  refine calls_atL [(0, (.pointer (some ⟨b_u, 0, none⟩))), (1, (.int .i64 id)), (2, (.func (.func 82) #[] #[(.pointer (some ⟨b_p78, 0, none⟩))]))] Try.func80 rfl rfl ⟨rfl, rfl, rfl, trivial⟩ (fun W => ?_)
  refine at_seq ?_
  refine at_region [0] rfl ?_
  refine at_s T rfl ?_
  refine at_end ?_
  refine at_sub [(0, (.pointer (some ⟨b_u, 0, none⟩))), (1, (.int .i64 id)), (2, (.func (.func 82) #[] #[(.pointer (some ⟨b_p78, 0, none⟩))]))] ⟨rfl, rfl, rfl, trivial⟩ ?_
  refine at_then ?_
  refine at_seq ?_
  refine at_region [0, 1, 2, 3, 4, 5, 6, 7, 8] rfl ?_
  iterate 2 refine at_s T rfl ?_
  obtain ⟨v1, V1, H⟩ := bind_e H
  refine at_cons (at_c (As := [[(b_u, Obj.cells #[(.int .i64 u.most), (.int .i64 u.next), (.map (some a_u_live)), (.slice a_u_order (List.length u.order) n_u_order)] 102 (0, 0))], H_u_live, H_u_order]) (R := [[(b_p78, Obj.cells #[(.int .i64 p78)] 3 (0, 0))], F]) (B := fun _ => [[(b_u, Obj.cells #[(.int .i64 u.most), (.int .i64 u.next), (.map (some a_u_live)), (.slice a_u_order (List.length u.order) n_u_order)] 102 (0, 0))], H_u_live, H_u_order]) [0, 0, 0] rfl rfl rfl rfl has60 rfl rfl (units_Units_Get.c u id v1 _ V1 s_u_live s_u_order) (fun _ => ?_))
  iterate 3 refine at_s T rfl ?_
  refine at_cons (at_al T [(.int .i64 0), (.int .i64 0), (.int .i64 0)] rfl rfl rfl rfl (fun b5 => ?_))
  refine at_cons (at_st T 5 [(.int .i64 v1.1.Id), (.int .i64 v1.1.Cell), (.int .i64 v1.1.Goal)] rfl rfl rfl rfl rfl rfl rfl rfl rfl rfl ?_)
  refine at_s T rfl ?_
  refine at_end ?_
  refine at_sub [(0, (.pointer (some ⟨b_u, 0, none⟩))), (1, (.int .i64 id)), (2, (.func (.func 82) #[] #[(.pointer (some ⟨b_p78, 0, none⟩))])), (7, (.pointer (some ⟨b5, 0, none⟩))), (8, (.bool v1.2))] ⟨rfl, rfl, rfl, rfl, rfl, trivial⟩ ?_
  refine at_then ?_
  refine at_seq ?_
  refine at_seq ?_
  refine at_region [0] rfl ?_
  refine at_s T rfl ?_
  refine at_end ?_
  refine at_sub [(0, (.pointer (some ⟨b_u, 0, none⟩))), (1, (.int .i64 id)), (2, (.func (.func 82) #[] #[(.pointer (some ⟨b_p78, 0, none⟩))])), (7, (.pointer (some ⟨b5, 0, none⟩))), (8, (.bool v1.2)), (15, (.bool v1.2))] ⟨rfl, rfl, rfl, rfl, rfl, rfl, trivial⟩ ?_
  refine at_then ?_
  refine at_cond rfl (fun c2 => ?_) (fun c2 => ?_)
  · replace H := if_t c2 H
    refine at_seq ?_
    refine at_region [0, 1] rfl ?_
    refine at_s T rfl ?_
    obtain ⟨v2, V3, H⟩ := bind_e H
    refine at_cons (at_cR (As := [[(b5, Obj.cells #[(.int .i64 v1.1.Id), (.int .i64 v1.1.Cell), (.int .i64 v1.1.Goal)] 40 (0, 0))], [(b_p78, Obj.cells #[(.int .i64 p78)] 3 (0, 0))]]) (R := [F, [(b_u, Obj.cells #[(.int .i64 u.most), (.int .i64 u.next), (.map (some a_u_live)), (.slice a_u_order (List.length u.order) n_u_order)] 102 (0, 0))], H_u_live, H_u_order]) (units_Units_Move_1.R b5 v2) [[(b_p78, Obj.cells #[(.int .i64 p78)] 3 (0, 0))]] [5, 0] rfl rfl rfl rfl has82 rfl rfl (units_Units_Move_1.c v1.1 p78 v2 _ V3) ?_)
    rintro _ _ ⟨rfl, rfl⟩
    refine at_end ?_
    refine at_sub [(0, (.pointer (some ⟨b_u, 0, none⟩))), (1, (.int .i64 id)), (7, (.pointer (some ⟨b5, 0, none⟩))), (8, (.bool v1.2))] ⟨rfl, rfl, rfl, rfl, trivial⟩ ?_
    refine at_then ?_
    refine at_region_m [[], [0], [0, 1], [0, 1, 2], [], [], [0, 1, 2, 3, 4, 5]] [6] [F, [(b_u, Obj.cells #[(.int .i64 u.most), (.int .i64 u.next), (.map (some a_u_live)), (.slice a_u_order (List.length u.order) n_u_order)] 102 (0, 0))], H_u_live, H_u_order, [(b5, Obj.cells #[(.int .i64 v2.Id), (.int .i64 v2.Cell), (.int .i64 v2.Goal)] 40 (0, 0))], [(b_p78, Obj.cells #[(.int .i64 p78)] 3 (0, 0))]] mix (by kernel_rfl) (by repeat first | exact pf_body | refine pf_then ?_ | refine pf_block ?_) (fun hg pf => ?_)
    refine atm_s T 0 hg pf (by kernel_rfl) (still_o [0, 0, 0, 0, 0, 0] rfl) rfl ?_
    refine atm_s T 1 hg pf (by kernel_rfl) (still_o [0, 0, 0, 0, 0, 0] rfl) rfl ?_
    refine atm_s T 2 hg pf (by kernel_rfl) (still_o [0, 0, 0, 0, 0, 0] rfl) rfl ?_
    refine atm_v 3 hg pf (by kernel_rfl) (still_o [0, 0, 0, 0, 0, 0] rfl) rfl rfl (g_load T rfl rfl rfl rfl (in_var (j := 1) rfl rfl)) ?_
    refine atm_s T 4 hg pf (by kernel_rfl) (still_o [0, 0, 0, 0, 0, 0] rfl) rfl ?_
    refine atm_v 5 hg pf (by kernel_rfl) (still_o [0, 0, 0, 0, 0, 0] rfl) rfl rfl (g_loadA T (cs := [(.int .i64 v2.Id), (.int .i64 v2.Cell), (.int .i64 v2.Goal)]) rfl rfl rfl rfl rfl rfl (in_varA (j := 4) rfl rfl)) ?_
    refine atm_one 6 (by kernel_rfl) ?_
    refine at_mu (g := 2) (m := u.live) (k := id) (v := v2) T (Ky.int .i64 u3) (fun x : api_Unit => Value.agg #[.int .i64 x.Id, .int .i64 x.Cell, .int .i64 x.Goal]) rfl rfl rfl rfl rfl rfl rfl s_u_live (fun H6 s6 => ?_)
    refine atm_next (still_l (by kernel_rfl)) ?_
    refine atm_end (by kernel_rfl) ?_
    refine at_to [(8, (.bool v1.2))] [0, 0, 0, 0, 1] [F, [(b_u, Obj.cells #[(.int .i64 u.most), (.int .i64 u.next), (.map (some a_u_live)), (.slice a_u_order (List.length u.order) n_u_order)] 102 (0, 0))], H6, H_u_order, [(b_p78, Obj.cells #[(.int .i64 p78)] 3 (0, 0))]] ⟨rfl, trivial⟩ rfl ?_
    refine at_then ?_
    refine at_seq ?_
    refine at_region [0, 1] rfl ?_
    iterate 2 refine at_s T rfl ?_
    refine at_end ?_
    refine at_sub [(6, (.bool v1.2))] ⟨rfl, trivial⟩ ?_
    refine at_then ?_
    refine at_ret ?_
    obtain rfl := Option.some.inj H
    exact at_post (T := T) rfl (.tmp rfl .nil) (fun w o => ⟨⟨(_, _), ⟨a_u_live, H6, a_u_order, n_u_order, H_u_order, s6, s_u_order, rfl, rfl⟩⟩, rfl, own_to [1, 1, 1, 1, 0] rfl o⟩)
  · replace H := if_f (bf c2) H
    refine at_skip ?_
    refine at_then ?_
    refine at_seq ?_
    refine at_region [0, 1] rfl ?_
    iterate 2 refine at_s T rfl ?_
    refine at_end ?_
    refine at_to [(6, (.bool v1.2))] [0, 0, 0, 0, 0] [[(b_p78, Obj.cells #[(.int .i64 p78)] 3 (0, 0))], F, [(b_u, Obj.cells #[(.int .i64 u.most), (.int .i64 u.next), (.map (some a_u_live)), (.slice a_u_order (List.length u.order) n_u_order)] 102 (0, 0))], H_u_live, H_u_order] ⟨rfl, trivial⟩ rfl ?_
    refine at_then ?_
    refine at_ret ?_
    obtain rfl := Option.some.inj H
    exact at_post (T := T) rfl (.tmp rfl .nil) (fun w o => ⟨⟨(_, _), ⟨a_u_live, H_u_live, a_u_order, n_u_order, H_u_order, s_u_live, s_u_order, rfl, rfl⟩⟩, rfl, own_to [2, 2, 2, 0, 0] rfl o⟩)

/-! ### (*herdsman/units.Units).Move: function 65 -/
def units_Units_Move.f (u : units_Units) (id : Int) (cell : Int) : Option (Bool × units_Units) := (units_Units_set.f u id cell).bind fun v1 => some (v1.1, v1.2)
def units_Units_Move.R (b_u : Nat) (r : (Bool × units_Units)) (u : Value) (G : List Hp) : Prop := ∃ (a0 : Nat) (H0 : Hp) (a1 : Option Addr) (n1 : Nat) (H1 : Hp), MapO (Ky.int .i64 u3) (fun x : api_Unit => Value.agg #[.int .i64 x.Id, .int .i64 x.Cell, .int .i64 x.Goal]) r.2.live a0 H0 ∧ SliceO (Fl.int .i64) 3 r.2.order a1 n1 H1 ∧ u = (.bool r.1) ∧ G = [[(b_u, Obj.cells #[(.int .i64 r.2.most), (.int .i64 r.2.next), (.map (some a0)), (.slice a1 (List.length r.2.order) n1)] 102 (0, 0))], H0, H1]
set_option maxHeartbeats 4000000 in
theorem units_Units_Move.c {b_u : Nat} {a_u_live : Nat} {H_u_live : Hp} {a_u_order : Option Addr} {n_u_order : Nat} {H_u_order : Hp} (u : units_Units) (id : Int) (cell : Int) (r : (Bool × units_Units)) (F : Hp) (H : units_Units_Move.f u id cell = some r) (s_u_live : MapO (Ky.int .i64 u3) (fun x : api_Unit => Value.agg #[.int .i64 x.Id, .int .i64 x.Cell, .int .i64 x.Goal]) u.live a_u_live H_u_live) (s_u_order : SliceO (Fl.int .i64) 3 u.order a_u_order n_u_order H_u_order) :
    CallsL Try.prog 65 [(.pointer (some ⟨b_u, 0, none⟩)), (.int .i64 id), (.int .i64 cell)] [[(b_u, Obj.cells #[(.int .i64 u.most), (.int .i64 u.next), (.map (some a_u_live)), (.slice a_u_order (List.length u.order) n_u_order)] 102 (0, 0))], H_u_live, H_u_order, F] (fun p : { p : Value × List Hp // units_Units_Move.R b_u r p.1 p.2 } => p.1.1) (fun p => (p.1.2 ++ []) ++ [F]) := by
  unfold units_Units_Move.f at H
  refine calls_atL [(0, (.pointer (some ⟨b_u, 0, none⟩))), (1, (.int .i64 id)), (2, (.int .i64 cell))] Try.func65 rfl rfl ⟨rfl, rfl, rfl, trivial⟩ (fun W => ?_)
  refine at_seq ?_
  refine at_region [0, 1] rfl ?_
  refine at_cons (at_bx T [(.int .i64 cell)] rfl rfl rfl rfl (fun b4 => ?_))
  refine at_s T rfl ?_
  refine at_end ?_
  refine at_sub [(0, (.pointer (some ⟨b_u, 0, none⟩))), (1, (.int .i64 id)), (5, (.pointer (some ⟨b4, 0, none⟩)))] ⟨rfl, rfl, rfl, trivial⟩ ?_
  refine at_then ?_
  refine at_seq ?_
  refine at_region [0, 1, 2, 3, 4] rfl ?_
  iterate 3 refine at_s T rfl ?_
  obtain ⟨v1, V1, H⟩ := bind_e H
  refine at_cons (at_cR (As := [[(b_u, Obj.cells #[(.int .i64 u.most), (.int .i64 u.next), (.map (some a_u_live)), (.slice a_u_order (List.length u.order) n_u_order)] 102 (0, 0))], H_u_live, H_u_order, [(b4, Obj.cells #[(.int .i64 cell)] 3 (0, 0))]]) (R := [F]) (units_Units_set.R b_u v1) [[(b4, Obj.cells #[(.int .i64 cell)] 3 (0, 0))]] [0, 0, 0, 1] rfl rfl rfl rfl has80 rfl rfl (units_Units_set.c u id cell v1 _ V1 s_u_live s_u_order) ?_)
  rintro _ _ ⟨a5, H5, a6, n6, H6, s5, s6, rfl, rfl⟩
  refine at_s T rfl ?_
  refine at_end ?_
  refine at_to [(6, (.bool v1.1))] [0, 0, 0, 0] [F, [(b_u, Obj.cells #[(.int .i64 v1.2.most), (.int .i64 v1.2.next), (.map (some a5)), (.slice a6 (List.length v1.2.order) n6)] 102 (0, 0))], H5, H6] ⟨rfl, trivial⟩ rfl ?_
  refine at_then ?_
  refine at_ret ?_
  obtain rfl := Option.some.inj H
  exact at_post (T := T) rfl (.tmp rfl .nil) (fun w o => ⟨⟨(_, _), ⟨a5, H5, a6, n6, H6, s5, s6, rfl, rfl⟩⟩, rfl, own_to [1, 1, 1, 0] rfl o⟩)

/-! ### (*herdsman/units.Units).Aim$1: function 81 -/
def units_Units_Aim_1.f (x : api_Unit) (p1 : Int) : Option api_Unit := some (api_Unit.mk x.Id x.Cell p1)
def units_Units_Aim_1.R (b_x : Nat) (r : api_Unit) (u : Value) (G : List Hp) : Prop := u = (.tuple #[]) ∧ G = [[(b_x, Obj.cells #[(.int .i64 r.Id), (.int .i64 r.Cell), (.int .i64 r.Goal)] 40 (0, 0))]]
set_option maxHeartbeats 4000000 in
theorem units_Units_Aim_1.c {b_x : Nat} {b_p1 : Nat} (x : api_Unit) (p1 : Int) (r : api_Unit) (F : Hp) (H : units_Units_Aim_1.f x p1 = some r) :
    CallsL Try.prog 81 [(.pointer (some ⟨b_x, 0, none⟩)), (.pointer (some ⟨b_p1, 0, none⟩))] [[(b_x, Obj.cells #[(.int .i64 x.Id), (.int .i64 x.Cell), (.int .i64 x.Goal)] 40 (0, 0))], [(b_p1, Obj.cells #[(.int .i64 p1)] 3 (0, 0))], F] (fun p : { p : Value × List Hp // units_Units_Aim_1.R b_x r p.1 p.2 } => p.1.1) (fun p => (p.1.2 ++ [[(b_p1, Obj.cells #[(.int .i64 p1)] 3 (0, 0))]]) ++ [F]) := by
  unfold units_Units_Aim_1.f at H
  refine calls_atL [(0, (.pointer (some ⟨b_x, 0, none⟩))), (1, (.pointer (some ⟨b_p1, 0, none⟩)))] Try.func81 rfl rfl ⟨rfl, rfl, trivial⟩ (fun W => ?_)
  refine at_region [0, 1, 2, 3, 4] rfl ?_
  refine at_s T rfl ?_
  refine at_v rfl (g_load T rfl rfl rfl rfl (in_var (j := 1) rfl rfl)) ?_
  iterate 2 refine at_s T rfl ?_
  refine at_cons (at_st T 0 [(.int .i64 x.Id), (.int .i64 x.Cell), (.int .i64 p1)] rfl rfl rfl rfl rfl rfl rfl rfl rfl rfl ?_)
  refine at_end ?_
  refine at_sub [] trivial ?_
  refine at_post_n ?_
  obtain rfl := Option.some.inj H
  exact at_post (T := T) rfl .nil (fun w o => ⟨⟨(_, _), ⟨rfl, rfl⟩⟩, rfl, own_to [0, 0, 0] rfl o⟩)

/-! ### (*herdsman/units.Units).set: function 80 -/
def units_Units_set_2.f (u : units_Units) (id : Int) (p78 : Int) : Option (Bool × units_Units) := (units_Units_Get.f u id).bind fun v1 => if v1.2 = true then ((units_Units_Aim_1.f v1.1 p78).bind fun v2 => some (v1.2, (units_Units.mk u.most u.next (mset u.live id v2) u.order))) else (some (v1.2, u))
def units_Units_set_2.R (b_u : Nat) (r : (Bool × units_Units)) (u : Value) (G : List Hp) : Prop := ∃ (a0 : Nat) (H0 : Hp) (a1 : Option Addr) (n1 : Nat) (H1 : Hp), MapO (Ky.int .i64 u3) (fun x : api_Unit => Value.agg #[.int .i64 x.Id, .int .i64 x.Cell, .int .i64 x.Goal]) r.2.live a0 H0 ∧ SliceO (Fl.int .i64) 3 r.2.order a1 n1 H1 ∧ u = (.bool r.1) ∧ G = [[(b_u, Obj.cells #[(.int .i64 r.2.most), (.int .i64 r.2.next), (.map (some a0)), (.slice a1 (List.length r.2.order) n1)] 102 (0, 0))], H0, H1]
set_option maxHeartbeats 4000000 in
theorem units_Units_set_2.c {b_u : Nat} {a_u_live : Nat} {H_u_live : Hp} {a_u_order : Option Addr} {n_u_order : Nat} {H_u_order : Hp} {b_p78 : Nat} (u : units_Units) (id : Int) (p78 : Int) (r : (Bool × units_Units)) (F : Hp) (H : units_Units_set_2.f u id p78 = some r) (s_u_live : MapO (Ky.int .i64 u3) (fun x : api_Unit => Value.agg #[.int .i64 x.Id, .int .i64 x.Cell, .int .i64 x.Goal]) u.live a_u_live H_u_live) (s_u_order : SliceO (Fl.int .i64) 3 u.order a_u_order n_u_order H_u_order) :
    CallsL Try.prog 80 [(.pointer (some ⟨b_u, 0, none⟩)), (.int .i64 id), (.func (.func 81) #[] #[(.pointer (some ⟨b_p78, 0, none⟩))])] [[(b_u, Obj.cells #[(.int .i64 u.most), (.int .i64 u.next), (.map (some a_u_live)), (.slice a_u_order (List.length u.order) n_u_order)] 102 (0, 0))], H_u_live, H_u_order, [(b_p78, Obj.cells #[(.int .i64 p78)] 3 (0, 0))], F] (fun p : { p : Value × List Hp // units_Units_set_2.R b_u r p.1 p.2 } => p.1.1) (fun p => (p.1.2 ++ [[(b_p78, Obj.cells #[(.int .i64 p78)] 3 (0, 0))]]) ++ [F]) := by
  unfold units_Units_set_2.f at H
  refine calls_atL [(0, (.pointer (some ⟨b_u, 0, none⟩))), (1, (.int .i64 id)), (2, (.func (.func 81) #[] #[(.pointer (some ⟨b_p78, 0, none⟩))]))] Try.func80 rfl rfl ⟨rfl, rfl, rfl, trivial⟩ (fun W => ?_)
  refine at_seq ?_
  refine at_region [0] rfl ?_
  refine at_s T rfl ?_
  refine at_end ?_
  refine at_sub [(0, (.pointer (some ⟨b_u, 0, none⟩))), (1, (.int .i64 id)), (2, (.func (.func 81) #[] #[(.pointer (some ⟨b_p78, 0, none⟩))]))] ⟨rfl, rfl, rfl, trivial⟩ ?_
  refine at_then ?_
  refine at_seq ?_
  refine at_region [0, 1, 2, 3, 4, 5, 6, 7, 8] rfl ?_
  iterate 2 refine at_s T rfl ?_
  obtain ⟨v1, V1, H⟩ := bind_e H
  refine at_cons (at_c (As := [[(b_u, Obj.cells #[(.int .i64 u.most), (.int .i64 u.next), (.map (some a_u_live)), (.slice a_u_order (List.length u.order) n_u_order)] 102 (0, 0))], H_u_live, H_u_order]) (R := [[(b_p78, Obj.cells #[(.int .i64 p78)] 3 (0, 0))], F]) (B := fun _ => [[(b_u, Obj.cells #[(.int .i64 u.most), (.int .i64 u.next), (.map (some a_u_live)), (.slice a_u_order (List.length u.order) n_u_order)] 102 (0, 0))], H_u_live, H_u_order]) [0, 0, 0] rfl rfl rfl rfl has60 rfl rfl (units_Units_Get.c u id v1 _ V1 s_u_live s_u_order) (fun _ => ?_))
  iterate 3 refine at_s T rfl ?_
  refine at_cons (at_al T [(.int .i64 0), (.int .i64 0), (.int .i64 0)] rfl rfl rfl rfl (fun b5 => ?_))
  refine at_cons (at_st T 5 [(.int .i64 v1.1.Id), (.int .i64 v1.1.Cell), (.int .i64 v1.1.Goal)] rfl rfl rfl rfl rfl rfl rfl rfl rfl rfl ?_)
  refine at_s T rfl ?_
  refine at_end ?_
  refine at_sub [(0, (.pointer (some ⟨b_u, 0, none⟩))), (1, (.int .i64 id)), (2, (.func (.func 81) #[] #[(.pointer (some ⟨b_p78, 0, none⟩))])), (7, (.pointer (some ⟨b5, 0, none⟩))), (8, (.bool v1.2))] ⟨rfl, rfl, rfl, rfl, rfl, trivial⟩ ?_
  refine at_then ?_
  refine at_seq ?_
  refine at_seq ?_
  refine at_region [0] rfl ?_
  refine at_s T rfl ?_
  refine at_end ?_
  refine at_sub [(0, (.pointer (some ⟨b_u, 0, none⟩))), (1, (.int .i64 id)), (2, (.func (.func 81) #[] #[(.pointer (some ⟨b_p78, 0, none⟩))])), (7, (.pointer (some ⟨b5, 0, none⟩))), (8, (.bool v1.2)), (15, (.bool v1.2))] ⟨rfl, rfl, rfl, rfl, rfl, rfl, trivial⟩ ?_
  refine at_then ?_
  refine at_cond rfl (fun c2 => ?_) (fun c2 => ?_)
  · replace H := if_t c2 H
    refine at_seq ?_
    refine at_region [0, 1] rfl ?_
    refine at_s T rfl ?_
    obtain ⟨v2, V3, H⟩ := bind_e H
    refine at_cons (at_cR (As := [[(b5, Obj.cells #[(.int .i64 v1.1.Id), (.int .i64 v1.1.Cell), (.int .i64 v1.1.Goal)] 40 (0, 0))], [(b_p78, Obj.cells #[(.int .i64 p78)] 3 (0, 0))]]) (R := [F, [(b_u, Obj.cells #[(.int .i64 u.most), (.int .i64 u.next), (.map (some a_u_live)), (.slice a_u_order (List.length u.order) n_u_order)] 102 (0, 0))], H_u_live, H_u_order]) (units_Units_Aim_1.R b5 v2) [[(b_p78, Obj.cells #[(.int .i64 p78)] 3 (0, 0))]] [5, 0] rfl rfl rfl rfl has81 rfl rfl (units_Units_Aim_1.c v1.1 p78 v2 _ V3) ?_)
    rintro _ _ ⟨rfl, rfl⟩
    refine at_end ?_
    refine at_sub [(0, (.pointer (some ⟨b_u, 0, none⟩))), (1, (.int .i64 id)), (7, (.pointer (some ⟨b5, 0, none⟩))), (8, (.bool v1.2))] ⟨rfl, rfl, rfl, rfl, trivial⟩ ?_
    refine at_then ?_
    refine at_region_m [[], [0], [0, 1], [0, 1, 2], [], [], [0, 1, 2, 3, 4, 5]] [6] [F, [(b_u, Obj.cells #[(.int .i64 u.most), (.int .i64 u.next), (.map (some a_u_live)), (.slice a_u_order (List.length u.order) n_u_order)] 102 (0, 0))], H_u_live, H_u_order, [(b5, Obj.cells #[(.int .i64 v2.Id), (.int .i64 v2.Cell), (.int .i64 v2.Goal)] 40 (0, 0))], [(b_p78, Obj.cells #[(.int .i64 p78)] 3 (0, 0))]] mix (by kernel_rfl) (by repeat first | exact pf_body | refine pf_then ?_ | refine pf_block ?_) (fun hg pf => ?_)
    refine atm_s T 0 hg pf (by kernel_rfl) (still_o [0, 0, 0, 0, 0, 0] rfl) rfl ?_
    refine atm_s T 1 hg pf (by kernel_rfl) (still_o [0, 0, 0, 0, 0, 0] rfl) rfl ?_
    refine atm_s T 2 hg pf (by kernel_rfl) (still_o [0, 0, 0, 0, 0, 0] rfl) rfl ?_
    refine atm_v 3 hg pf (by kernel_rfl) (still_o [0, 0, 0, 0, 0, 0] rfl) rfl rfl (g_load T rfl rfl rfl rfl (in_var (j := 1) rfl rfl)) ?_
    refine atm_s T 4 hg pf (by kernel_rfl) (still_o [0, 0, 0, 0, 0, 0] rfl) rfl ?_
    refine atm_v 5 hg pf (by kernel_rfl) (still_o [0, 0, 0, 0, 0, 0] rfl) rfl rfl (g_loadA T (cs := [(.int .i64 v2.Id), (.int .i64 v2.Cell), (.int .i64 v2.Goal)]) rfl rfl rfl rfl rfl rfl (in_varA (j := 4) rfl rfl)) ?_
    refine atm_one 6 (by kernel_rfl) ?_
    refine at_mu (g := 2) (m := u.live) (k := id) (v := v2) T (Ky.int .i64 u3) (fun x : api_Unit => Value.agg #[.int .i64 x.Id, .int .i64 x.Cell, .int .i64 x.Goal]) rfl rfl rfl rfl rfl rfl rfl s_u_live (fun H6 s6 => ?_)
    refine atm_next (still_l (by kernel_rfl)) ?_
    refine atm_end (by kernel_rfl) ?_
    refine at_to [(8, (.bool v1.2))] [0, 0, 0, 0, 1] [F, [(b_u, Obj.cells #[(.int .i64 u.most), (.int .i64 u.next), (.map (some a_u_live)), (.slice a_u_order (List.length u.order) n_u_order)] 102 (0, 0))], H6, H_u_order, [(b_p78, Obj.cells #[(.int .i64 p78)] 3 (0, 0))]] ⟨rfl, trivial⟩ rfl ?_
    refine at_then ?_
    refine at_seq ?_
    refine at_region [0, 1] rfl ?_
    iterate 2 refine at_s T rfl ?_
    refine at_end ?_
    refine at_sub [(6, (.bool v1.2))] ⟨rfl, trivial⟩ ?_
    refine at_then ?_
    refine at_ret ?_
    obtain rfl := Option.some.inj H
    exact at_post (T := T) rfl (.tmp rfl .nil) (fun w o => ⟨⟨(_, _), ⟨a_u_live, H6, a_u_order, n_u_order, H_u_order, s6, s_u_order, rfl, rfl⟩⟩, rfl, own_to [1, 1, 1, 1, 0] rfl o⟩)
  · replace H := if_f (bf c2) H
    refine at_skip ?_
    refine at_then ?_
    refine at_seq ?_
    refine at_region [0, 1] rfl ?_
    iterate 2 refine at_s T rfl ?_
    refine at_end ?_
    refine at_to [(6, (.bool v1.2))] [0, 0, 0, 0, 0] [[(b_p78, Obj.cells #[(.int .i64 p78)] 3 (0, 0))], F, [(b_u, Obj.cells #[(.int .i64 u.most), (.int .i64 u.next), (.map (some a_u_live)), (.slice a_u_order (List.length u.order) n_u_order)] 102 (0, 0))], H_u_live, H_u_order] ⟨rfl, trivial⟩ rfl ?_
    refine at_then ?_
    refine at_ret ?_
    obtain rfl := Option.some.inj H
    exact at_post (T := T) rfl (.tmp rfl .nil) (fun w o => ⟨⟨(_, _), ⟨a_u_live, H_u_live, a_u_order, n_u_order, H_u_order, s_u_live, s_u_order, rfl, rfl⟩⟩, rfl, own_to [2, 2, 2, 0, 0] rfl o⟩)

/-! ### (*herdsman/units.Units).Aim: function 63 -/
def units_Units_Aim.f (u : units_Units) (id : Int) (goal : Int) : Option (Bool × units_Units) := (units_Units_set_2.f u id goal).bind fun v1 => some (v1.1, v1.2)
def units_Units_Aim.R (b_u : Nat) (r : (Bool × units_Units)) (u : Value) (G : List Hp) : Prop := ∃ (a0 : Nat) (H0 : Hp) (a1 : Option Addr) (n1 : Nat) (H1 : Hp), MapO (Ky.int .i64 u3) (fun x : api_Unit => Value.agg #[.int .i64 x.Id, .int .i64 x.Cell, .int .i64 x.Goal]) r.2.live a0 H0 ∧ SliceO (Fl.int .i64) 3 r.2.order a1 n1 H1 ∧ u = (.bool r.1) ∧ G = [[(b_u, Obj.cells #[(.int .i64 r.2.most), (.int .i64 r.2.next), (.map (some a0)), (.slice a1 (List.length r.2.order) n1)] 102 (0, 0))], H0, H1]
set_option maxHeartbeats 4000000 in
theorem units_Units_Aim.c {b_u : Nat} {a_u_live : Nat} {H_u_live : Hp} {a_u_order : Option Addr} {n_u_order : Nat} {H_u_order : Hp} (u : units_Units) (id : Int) (goal : Int) (r : (Bool × units_Units)) (F : Hp) (H : units_Units_Aim.f u id goal = some r) (s_u_live : MapO (Ky.int .i64 u3) (fun x : api_Unit => Value.agg #[.int .i64 x.Id, .int .i64 x.Cell, .int .i64 x.Goal]) u.live a_u_live H_u_live) (s_u_order : SliceO (Fl.int .i64) 3 u.order a_u_order n_u_order H_u_order) :
    CallsL Try.prog 63 [(.pointer (some ⟨b_u, 0, none⟩)), (.int .i64 id), (.int .i64 goal)] [[(b_u, Obj.cells #[(.int .i64 u.most), (.int .i64 u.next), (.map (some a_u_live)), (.slice a_u_order (List.length u.order) n_u_order)] 102 (0, 0))], H_u_live, H_u_order, F] (fun p : { p : Value × List Hp // units_Units_Aim.R b_u r p.1 p.2 } => p.1.1) (fun p => (p.1.2 ++ []) ++ [F]) := by
  unfold units_Units_Aim.f at H
  refine calls_atL [(0, (.pointer (some ⟨b_u, 0, none⟩))), (1, (.int .i64 id)), (2, (.int .i64 goal))] Try.func63 rfl rfl ⟨rfl, rfl, rfl, trivial⟩ (fun W => ?_)
  refine at_seq ?_
  refine at_region [0, 1] rfl ?_
  refine at_cons (at_bx T [(.int .i64 goal)] rfl rfl rfl rfl (fun b4 => ?_))
  refine at_s T rfl ?_
  refine at_end ?_
  refine at_sub [(0, (.pointer (some ⟨b_u, 0, none⟩))), (1, (.int .i64 id)), (5, (.pointer (some ⟨b4, 0, none⟩)))] ⟨rfl, rfl, rfl, trivial⟩ ?_
  refine at_then ?_
  refine at_seq ?_
  refine at_region [0, 1, 2, 3, 4] rfl ?_
  iterate 3 refine at_s T rfl ?_
  obtain ⟨v1, V1, H⟩ := bind_e H
  refine at_cons (at_cR (As := [[(b_u, Obj.cells #[(.int .i64 u.most), (.int .i64 u.next), (.map (some a_u_live)), (.slice a_u_order (List.length u.order) n_u_order)] 102 (0, 0))], H_u_live, H_u_order, [(b4, Obj.cells #[(.int .i64 goal)] 3 (0, 0))]]) (R := [F]) (units_Units_set_2.R b_u v1) [[(b4, Obj.cells #[(.int .i64 goal)] 3 (0, 0))]] [0, 0, 0, 1] rfl rfl rfl rfl has80 rfl rfl (units_Units_set_2.c u id goal v1 _ V1 s_u_live s_u_order) ?_)
  rintro _ _ ⟨a5, H5, a6, n6, H6, s5, s6, rfl, rfl⟩
  refine at_s T rfl ?_
  refine at_end ?_
  refine at_to [(6, (.bool v1.1))] [0, 0, 0, 0] [F, [(b_u, Obj.cells #[(.int .i64 v1.2.most), (.int .i64 v1.2.next), (.map (some a5)), (.slice a6 (List.length v1.2.order) n6)] 102 (0, 0))], H5, H6] ⟨rfl, trivial⟩ rfl ?_
  refine at_then ?_
  refine at_ret ?_
  obtain rfl := Option.some.inj H
  exact at_post (T := T) rfl (.tmp rfl .nil) (fun w o => ⟨⟨(_, _), ⟨a5, H5, a6, n6, H6, s5, s6, rfl, rfl⟩⟩, rfl, own_to [1, 1, 1, 0] rfl o⟩)
end Go.Proofs.Ytkidcebfpengmaa
