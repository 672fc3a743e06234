import Derived.Test.YticdodeoljodiaaT
import Derived.Test.YticdodeoljodiaaFatlas
import Derived.Test.YticdodeoljodiaaFflat
import Derived.Test.YticdodeoljodiaaFwhere
namespace Go.Proofs.Yticdodeoljodiaa
open Go.Hx
set_option maxRecDepth 100000
set_option linter.unusedVariables false
/-! ### herdsman/trail.Path: function 37 -/
def trail_Path.l0 : Nat → api_Map → Int → ((List Int) × Int) → Int → List Int → Option (List Int)
  | 0, _, _, _, _, _ => none
  | k9 + 1, m, goal, v2, x7, x8 => if (x7 != goal) = true then (if (0 ≤ x7 ∧ x7 < (List.length v2.1 : Int)) then ((where_Step.f m.W m.H x7 (rd v2.1 x7)).bind fun v10 => if (List.length x8 + 1 ≤ 1099511627776) then (trail_Path.l0 k9 m goal v2 v10 (x8 ++ [v10])) else none) else none) else (some x8)
def trail_Path.f (m : api_Map) (goal : Int) (cell : Int) : Option ((List Int) × Bool) := (flat_Query.f m goal cell).bind fun v1 => if ((v1.2.2 != 0) || (v1.1 == 1099511627776)) = true then (some ([], false)) else ((flat_Dirs.f m goal).bind fun v2 => (trail_Path.l0 fuel m goal v2 cell [cell]).bind fun x3 => some (x3, true))
def trail_Path.R (r : ((List Int) × Bool)) (u : Value) (G : List Hp) : Prop := ∃ (a0 : Option Addr) (n0 : Nat) (H0 : Hp), SliceO (Fl.int .i64) 3 r.1 a0 n0 H0 ∧ u = (.tuple #[(.slice a0 (List.length r.1) n0), (.bool r.2)]) ∧ G = [H0]
set_option maxHeartbeats 4000000 in
theorem trail_Path.c {a_m_C : Option Addr} {n_m_C : Nat} (m : api_Map) (goal : Int) (cell : Int) (r : ((List Int) × Bool)) (F : Hp) (H : trail_Path.f m goal cell = some r) (h_m_C : SliceR (Fl.int .u8) m.C a_m_C F) (c_m_C : List.length m.C ≤ n_m_C) :
    CallsL Try.prog 37 [(.agg #[(.int .i64 m.W), (.int .i64 m.H), (.slice a_m_C (List.length m.C) n_m_C)]), (.int .i64 goal), (.int .i64 cell)] [F] (fun qp : { qp : Value × List Hp // trail_Path.R r qp.1 qp.2 } => qp.1.1) (fun qp => (qp.1.2 ++ []) ++ [F]) := by
  unfold trail_Path.f at H
  refine calls_atL [(0, (.agg #[(.int .i64 m.W), (.int .i64 m.H), (.slice a_m_C (List.length m.C) n_m_C)])), (1, (.int .i64 goal)), (2, (.int .i64 cell))] Try.func37 rfl rfl ⟨rfl, rfl, rfl, trivial⟩ (fun W => ?_)
  refine at_seq ?_
  refine at_region [0, 1, 2] rfl ?_
  refine at_cons (at_bx T [(.int .i64 m.W), (.int .i64 m.H), (.slice a_m_C (List.length m.C) n_m_C)] rfl rfl rfl rfl (fun b1 => ?_))
  iterate 2 refine at_s T rfl ?_
  refine at_end ?_
  refine at_sub [(1, (.int .i64 goal)), (2, (.int .i64 cell)), (3, (.pointer (some ⟨b1, 0, none⟩)))] ⟨rfl, rfl, rfl, trivial⟩ ?_
  refine at_then ?_
  refine at_seq ?_
  refine at_region [0, 1, 2, 3, 4, 5, 6, 7, 8, 9, 10] rfl ?_
  refine at_v rfl (g_loadA T (cs := [(.int .i64 m.W), (.int .i64 m.H), (.slice a_m_C (List.length m.C) n_m_C)]) rfl rfl rfl rfl rfl rfl (in_varA (j := 1) rfl rfl)) ?_
  iterate 2 refine at_s T rfl ?_
  obtain ⟨v1, V1, H⟩ := bind_e H
  refine at_cons (at_c (B := fun _ => []) [] rfl rfl rfl rfl has41 rfl rfl (flat_Query.c m goal cell v1 _ V1 (ro_of h_m_C (j := 0) rfl) c_m_C) (fun _ => ?_))
  iterate 7 refine at_s T rfl ?_
  refine at_end ?_
  refine at_sub [(1, (.int .i64 goal)), (2, (.int .i64 cell)), (3, (.pointer (some ⟨b1, 0, none⟩))), (8, (.int .i64 v1.1)), (10, (.int .i64 v1.2.2))] ⟨rfl, rfl, rfl, rfl, rfl, trivial⟩ ?_
  refine at_then ?_
  refine at_seq ?_
  refine at_seq ?_
  refine at_region [0, 1, 2, 3, 4, 5] rfl ?_
  iterate 3 refine at_s T rfl ?_
  refine at_grp T [3, 4, 5] (s := 24) (c := (v1.2.2 != 0)) [(1, (.int .i64 goal)), (2, (.int .i64 cell)), (3, (.pointer (some ⟨b1, 0, none⟩))), (27, (.bool ((v1.2.2 != 0) || (v1.1 == 1099511627776))))] rfl rfl rfl (fun c2 => ⟨rfl, rfl, rfl, (by rw [c2]; rfl), trivial⟩) (fun c2 => ⟨rfl, rfl, rfl, (by rw [c2]; rfl), trivial⟩) ?_
  refine at_end ?_
  refine at_sub [(1, (.int .i64 goal)), (2, (.int .i64 cell)), (3, (.pointer (some ⟨b1, 0, none⟩))), (27, (.bool ((v1.2.2 != 0) || (v1.1 == 1099511627776))))] ⟨rfl, rfl, rfl, rfl, trivial⟩ ?_
  refine at_then ?_
  refine at_cond rfl (fun c3 => ?_) (fun c3 => ?_)
  · replace H := if_t c3 H
    refine at_seq ?_
    refine at_region [0, 1] rfl ?_
    iterate 2 refine at_s T rfl ?_
    refine at_end ?_
    refine at_to [(6, (.slice none 0 0)), (7, (.bool false))] [0] [F] ⟨rfl, rfl, trivial⟩ rfl ?_
    refine at_then ?_
    refine at_ret ?_
    refine at_rt ?_
    obtain rfl := Option.some.inj H
    refine at_addnil ?_
    exact at_post (T := T) rfl (.tmp rfl (.tmp rfl .nil)) (fun w o => ⟨⟨(_, _), ⟨none, 0, [], SliceO.nil, rfl, rfl⟩⟩, rfl, own_to [1, 0] rfl o⟩)
  · replace H := if_f (bf c3) H
    refine at_skip ?_
    refine at_then ?_
    refine at_seq ?_
    refine at_region [0, 1, 2, 3, 4, 5, 6, 7] rfl ?_
    refine at_v rfl (g_loadA T (cs := [(.int .i64 m.W), (.int .i64 m.H), (.slice a_m_C (List.length m.C) n_m_C)]) rfl rfl rfl rfl rfl rfl (in_varA (j := 1) rfl rfl)) ?_
    refine at_s T rfl ?_
    obtain ⟨v2, V4, H⟩ := bind_e H
    refine at_cons (at_cR (flat_Dirs.R v2) [] [] rfl rfl rfl rfl has69 rfl rfl (flat_Dirs.c m goal v2 _ V4 (ro_of h_m_C (j := 0) rfl) c_m_C) ?_)
    rintro _ _ ⟨a3, n3, H3, s3, rfl, rfl⟩
    iterate 5 refine at_s T rfl ?_
    refine at_end ?_
    refine at_sub [(1, (.int .i64 goal)), (2, (.int .i64 cell)), (3, (.pointer (some ⟨b1, 0, none⟩))), (11, (.slice a3 (List.length v2.1) n3))] ⟨rfl, rfl, rfl, rfl, trivial⟩ ?_
    refine at_then ?_
    refine at_seq ?_
    refine at_region [0, 1, 2] rfl ?_
    refine at_s T rfl ?_
    refine at_cons (at_bs (k := (Fl.int .i64)) T [cell] rfl rfl rfl rfl rfl rfl rfl rfl rfl (fun a4 H4 s4 => ?_))
    refine at_s T rfl ?_
    refine at_end ?_
    refine at_sub [(1, (.int .i64 goal)), (2, (.int .i64 cell)), (3, (.pointer (some ⟨b1, 0, none⟩))), (11, (.slice a3 (List.length v2.1) n3)), (13, (.slice a4 (List.length [cell]) (List.length [cell])))] ⟨rfl, rfl, rfl, rfl, rfl, trivial⟩ ?_
    refine at_then ?_
    obtain ⟨z4, Z5, H⟩ := bind_e H
    refine at_seq_mid (σ := List Int × Option Addr × Nat × Hp) (fun ⟨x3, a5, n5, H5⟩ => x3 = z4 ∧ SliceO (Fl.int .i64) 3 x3 a5 n5 H5) (fun ⟨x3, a5, n5, H5⟩ => [(13, (.slice a5 (List.length x3) n5))]) (fun ⟨x3, a5, n5, H5⟩ => [F, H5]) ?_ ?_
    · refine at_block ?_
      refine at_loopL (σ := Nat × Int × List Int × Option Addr × Nat × Hp) (fun ⟨k9, x7, x8, a7, n7, H7⟩ => trail_Path.l0 k9 m goal v2 x7 x8 = some z4 ∧ SliceO (Fl.int .i64) 3 x8 a7 n7 H7) (fun ⟨k9, x7, x8, a7, n7, H7⟩ => [(1, (.int .i64 goal)), (2, (.int .i64 x7)), (3, (.pointer (some ⟨b1, 0, none⟩))), (11, (.slice a3 (List.length v2.1) n3)), (13, (.slice a7 (List.length x8) n7))]) (fun ⟨k9, x7, x8, a7, n7, H7⟩ => [F, [(b1, Obj.cells #[(.int .i64 m.W), (.int .i64 m.H), (.slice a_m_C (List.length m.C) n_m_C)] 24 (0, 0))], H3, H7]) (fun s => s.1) (fuel, cell, [cell], a4, (List.length [cell]), H4) [0, 0, 0, 0] ⟨Z5, s4⟩ ⟨rfl, rfl, rfl, rfl, rfl, trivial⟩ rfl ?_
      rintro ⟨k9, x7, x8, a7, n7, H7⟩ ⟨Z6, s7⟩
      replace Z6 : trail_Path.l0 k9 m goal v2 x7 x8 = some z4 := Z6
      rcases k9 with _ | k9
      · rw [trail_Path.l0] at Z6; cases Z6
      · rw [trail_Path.l0] at Z6
        refine at_seq ?_
        refine at_seq ?_
        refine at_region [0, 1, 2] rfl ?_
        iterate 3 refine at_s T rfl ?_
        refine at_end ?_
        refine at_sub [(1, (.int .i64 goal)), (2, (.int .i64 x7)), (3, (.pointer (some ⟨b1, 0, none⟩))), (11, (.slice a3 (List.length v2.1) n3)), (13, (.slice a7 (List.length x8) n7)), (38, (.bool (x7 != goal)))] ⟨rfl, rfl, rfl, rfl, rfl, rfl, trivial⟩ ?_
        refine at_then ?_
        refine at_cond rfl (fun c7 => ?_) (fun c7 => ?_)
        · replace Z6 := if_t c7 Z6
          refine at_skip ?_
          refine at_then ?_
          refine at_block ?_
          refine at_seq ?_
          refine at_region_q mix (by kernel_rfl) ?_
          refine atq_s T rfl ?_
          refine atq_v rfl rfl rfl (g_load T rfl rfl rfl rfl (in_var (j := 1) rfl rfl)) ?_
          refine atq_s T rfl ?_
          refine atq_v rfl rfl rfl (g_load T rfl rfl rfl rfl (in_var (j := 1) rfl rfl)) ?_
          iterate 3 refine atq_s T rfl ?_
          obtain ⟨c8, Z6⟩ := chk_e Z6
          obtain ⟨q8, o8, e8⟩ := s3.r.addr c8.1 c8.2
          refine atq_v rfl rfl rfl (g_index T rfl rfl rfl rfl rfl e8 c8.1 c8.2) ?_
          refine atq_v rfl rfl rfl (g_load T rfl rfl rfl rfl (in_elem1 (k := (Fl.int .i64)) (own_of s3 (j := 2) rfl) e8 c8 0 rfl)) ?_
          obtain ⟨v10, V9, Z6⟩ := bind_e Z6
          refine atq_c rfl rfl rfl rfl rfl rfl has68 rfl (where_Step.c m.W m.H x7 (rd v2.1 x7) v10 _ V9) ?_
          refine atq_s T rfl ?_
          refine atq_end ?_
          refine at_sub [(1, (.int .i64 goal)), (2, (.int .i64 v10)), (3, (.pointer (some ⟨b1, 0, none⟩))), (11, (.slice a3 (List.length v2.1) n3)), (13, (.slice a7 (List.length x8) n7))] ⟨rfl, rfl, rfl, rfl, rfl, trivial⟩ ?_
          refine at_then ?_
          refine at_region [0, 1, 2, 3, 4] rfl ?_
          iterate 2 refine at_s T rfl ?_
          refine at_cons (at_bs (k := (Fl.int .i64)) T [v10] rfl rfl rfl rfl rfl rfl rfl rfl rfl (fun a9 H9 s9 => ?_))
          obtain ⟨c10, Z6⟩ := chk_e Z6
          refine at_cons (at_ap (k := (Fl.int .i64)) (xs := x8) T (g := 3) rfl rfl rfl rfl rfl rfl rfl rfl rfl rfl s7 (own_of s9 (j := 4) rfl) c10 rfl (fun a10 n10 H10 s10 => ?_))
          refine at_s T rfl ?_
          refine at_end ?_
          refine at_to [(1, (.int .i64 goal)), (2, (.int .i64 v10)), (3, (.pointer (some ⟨b1, 0, none⟩))), (11, (.slice a3 (List.length v2.1) n3)), (13, (.slice a10 (List.length (x8 ++ [v10])) n10))] [0, 0, 0, 0] [F, [(b1, Obj.cells #[(.int .i64 m.W), (.int .i64 m.H), (.slice a_m_C (List.length m.C) n_m_C)] 24 (0, 0))], H3, H10] ⟨rfl, rfl, rfl, rfl, rfl, trivial⟩ rfl ?_
          refine at_nb ?_
          refine at_then ?_
          exact at_roundL (k9, v10, (x8 ++ [v10]), a10, n10, H10) [0, 0, 0, 0] ⟨Z6, s10⟩ (Nat.lt_succ_self _) ⟨rfl, rfl, rfl, rfl, rfl, trivial⟩ rfl
        · replace Z6 := if_f (bf c7) Z6
          refine at_exit ?_
          refine at_xt ?_
          refine at_xt ?_
          refine at_xb ?_
          refine at_then ?_
          obtain rfl := Option.some.inj Z6
          exact at_mid (x8, a7, n7, H7) [0, 2] ⟨rfl, s7⟩ ⟨rfl, trivial⟩ rfl
    · rintro ⟨x3, a5, n5, H5⟩ ⟨rfl, s5⟩
      refine at_seq ?_
      refine at_region [0, 1, 2] rfl ?_
      iterate 3 refine at_s T rfl ?_
      refine at_end ?_
      refine at_sub [(6, (.slice a5 (List.length x3) n5)), (7, (.bool true))] ⟨rfl, rfl, trivial⟩ ?_
      refine at_then ?_
      refine at_ret ?_
      obtain rfl := Option.some.inj H
      exact at_post (T := T) rfl (.tmp rfl (.tmp rfl .nil)) (fun w o => ⟨⟨(_, _), ⟨a5, n5, H5, s5, rfl, rfl⟩⟩, rfl, own_to [1, 0] rfl o⟩)

/-! ### herdsman/trail.Cost: function 39 -/
def trail_Cost.l0 : Nat → api_Map → (List Int) → Int → Int → Option (Int × Bool)
  | 0, _, _, _, _ => none
  | k6 + 1, m, l, x4, x5 => if x5 < (List.length l : Int) then (if (0 ≤ x5 ∧ x5 < (List.length l : Int)) then (((where_Sector.f m.W m.H (rd l x5)).bind fun v9 => if v9 < 0 then (some true) else (if (0 ≤ (rd l x5) ∧ (rd l x5) < (List.length m.C : Int)) then (some ((rd m.C (rd l x5)) == 255)) else none)).bind fun x7 => if x7 = true then (some (0, false)) else (if (x5 == 0) = true then (trail_Cost.l0 k6 m l x4 (w64 (x5 + 1))) else (if (0 ≤ (w64 (x5 - 1)) ∧ (w64 (x5 - 1)) < (List.length l : Int)) then ((where_Side.f m.W m.H (rd l (w64 (x5 - 1))) (rd l x5)).bind fun v10 => if v10 > 3 then (some (0, false)) else (if (0 ≤ (rd l x5) ∧ (rd l x5) < (List.length m.C : Int)) then (trail_Cost.l0 k6 m l (w64 (x4 + (w64 (rd m.C (rd l x5))))) (w64 (x5 + 1))) else none)) else none))) else none) else (some (x4, true))
def trail_Cost.f (m : api_Map) (l : (List Int)) : Option (Int × Bool) := (atlas_May.f m).bind fun v1 => if ((!v1) || ((List.length l : Int) == 0)) = true then (some (0, false)) else (trail_Cost.l0 fuel m l 0 0)
set_option maxHeartbeats 4000000 in
theorem trail_Cost.c {a_m_C : Option Addr} {n_m_C : Nat} {a_l : Option Addr} {n_l : Nat} (m : api_Map) (l : (List Int)) (r : (Int × Bool)) (F : Hp) (H : trail_Cost.f m l = some r) (h_m_C : SliceR (Fl.int .u8) m.C a_m_C F) (c_m_C : List.length m.C ≤ n_m_C) (h_l : SliceR (Fl.int .i64) l a_l F) (c_l : List.length l ≤ n_l) :
    CallsL Try.prog 39 [(.agg #[(.int .i64 m.W), (.int .i64 m.H), (.slice a_m_C (List.length m.C) n_m_C)]), (.slice a_l (List.length l) n_l)] [F] (fun _ : Unit => (.tuple #[(.int .i64 r.1), (.bool r.2)])) (fun _ => [F]) := by
  unfold trail_Cost.f at H
  refine calls_atL [(0, (.agg #[(.int .i64 m.W), (.int .i64 m.H), (.slice a_m_C (List.length m.C) n_m_C)])), (1, (.slice a_l (List.length l) n_l))] Try.func39 rfl rfl ⟨rfl, rfl, trivial⟩ (fun W => ?_)
  refine at_seq ?_
  refine at_region [0, 1, 2] rfl ?_
  refine at_cons (at_bx T [(.int .i64 m.W), (.int .i64 m.H), (.slice a_m_C (List.length m.C) n_m_C)] rfl rfl rfl rfl (fun b1 => ?_))
  iterate 2 refine at_s T rfl ?_
  refine at_end ?_
  refine at_sub [(1, (.slice a_l (List.length l) n_l)), (2, (.pointer (some ⟨b1, 0, none⟩)))] ⟨rfl, rfl, trivial⟩ ?_
  refine at_then ?_
  refine at_seq ?_
  refine at_seq ?_
  refine at_region [0, 1, 2, 3, 4, 5, 6, 7] rfl ?_
  refine at_v rfl (g_loadA T (cs := [(.int .i64 m.W), (.int .i64 m.H), (.slice a_m_C (List.length m.C) n_m_C)]) rfl rfl rfl rfl rfl rfl (in_varA (j := 1) rfl rfl)) ?_
  obtain ⟨v1, V1, H⟩ := bind_e H
  refine at_cons (at_c (B := fun _ => []) [] rfl rfl rfl rfl has49 rfl rfl (atlas_May.c m v1 _ V1 (ro_of h_m_C (j := 0) rfl) c_m_C) (fun _ => ?_))
  iterate 2 refine at_s T rfl ?_
  refine at_grp T [4, 5, 6, 7] (s := 12) (c := (!v1)) [(1, (.slice a_l (List.length l) n_l)), (2, (.pointer (some ⟨b1, 0, none⟩))), (16, (.bool ((!v1) || ((List.length l : Int) == 0))))] rfl rfl rfl (fun c2 => ⟨rfl, rfl, (by rw [c2]; rfl), trivial⟩) (fun c2 => ⟨rfl, rfl, (by rw [c2]; rfl), trivial⟩) ?_
  refine at_end ?_
  refine at_sub [(1, (.slice a_l (List.length l) n_l)), (2, (.pointer (some ⟨b1, 0, none⟩))), (16, (.bool ((!v1) || ((List.length l : Int) == 0))))] ⟨rfl, rfl, rfl, trivial⟩ ?_
  refine at_then ?_
  refine at_cond rfl (fun c3 => ?_) (fun c3 => ?_)
  · replace H := if_t c3 H
    refine at_seq ?_
    refine at_region [0, 1] rfl ?_
    iterate 2 refine at_s T rfl ?_
    refine at_end ?_
    refine at_to [(4, (.int .i64 0)), (5, (.bool false))] [0] [F] ⟨rfl, rfl, trivial⟩ rfl ?_
    refine at_then ?_
    refine at_ret ?_
    refine at_rt ?_
    obtain rfl := Option.some.inj H
    exact at_post (T := T) rfl (.tmp rfl (.tmp rfl .nil)) (fun w o => ⟨(), rfl, own_to [0] rfl o⟩)
  · replace H := if_f (bf c3) H
    refine at_skip ?_
    refine at_then ?_
    refine at_seq ?_
    refine at_region [0] rfl ?_
    refine at_s T rfl ?_
    refine at_end ?_
    refine at_sub [(1, (.slice a_l (List.length l) n_l)), (2, (.pointer (some ⟨b1, 0, none⟩))), (6, (.int .i64 0))] ⟨rfl, rfl, rfl, trivial⟩ ?_
    refine at_then ?_
    refine at_seq ?_
    refine at_seq ?_
    refine at_region [0, 1, 2] rfl ?_
    iterate 3 refine at_s T rfl ?_
    refine at_end ?_
    refine at_sub [(1, (.slice a_l (List.length l) n_l)), (2, (.pointer (some ⟨b1, 0, none⟩))), (6, (.int .i64 0)), (17, (.slice a_l (List.length l) n_l)), (18, (.int .i64 (List.length l : Int))), (19, (.int .i64 0))] ⟨rfl, rfl, rfl, rfl, rfl, rfl, trivial⟩ ?_
    refine at_then ?_
    refine at_block ?_
    refine at_loopL (σ := Nat × Int × Int) (fun ⟨k6, x4, x5⟩ => trail_Cost.l0 k6 m l x4 x5 = some r) (fun ⟨k6, x4, x5⟩ => [(1, (.slice a_l (List.length l) n_l)), (2, (.pointer (some ⟨b1, 0, none⟩))), (6, (.int .i64 x4)), (17, (.slice a_l (List.length l) n_l)), (18, (.int .i64 (List.length l : Int))), (19, (.int .i64 x5))]) (fun ⟨k6, x4, x5⟩ => [F, [(b1, Obj.cells #[(.int .i64 m.W), (.int .i64 m.H), (.slice a_m_C (List.length m.C) n_m_C)] 24 (0, 0))]]) (fun s => s.1) (fuel, 0, 0) [0, 0] H ⟨rfl, rfl, rfl, rfl, rfl, rfl, trivial⟩ rfl ?_
    rintro ⟨k6, x4, x5⟩ Z4
    replace Z4 : trail_Cost.l0 k6 m l x4 x5 = some r := Z4
    rcases k6 with _ | k6
    · rw [trail_Cost.l0] at Z4; cases Z4
    · rw [trail_Cost.l0] at Z4
      refine at_seq ?_
      refine at_region [0] rfl ?_
      refine at_s T rfl ?_
      refine at_end ?_
      refine at_sub [(1, (.slice a_l (List.length l) n_l)), (2, (.pointer (some ⟨b1, 0, none⟩))), (6, (.int .i64 x4)), (17, (.slice a_l (List.length l) n_l)), (18, (.int .i64 (List.length l : Int))), (19, (.int .i64 x5)), (20, (.bool (decide (x5 < (List.length l : Int)))))] ⟨rfl, rfl, rfl, rfl, rfl, rfl, rfl, trivial⟩ ?_
      refine at_then ?_
      refine at_seq ?_
      refine at_cond rfl (fun c5 => ?_) (fun c5 => ?_)
      · replace Z4 := if_t (of_decide_eq_true c5) Z4
        refine at_skip ?_
        refine at_then ?_
        refine at_seq ?_
        refine at_block ?_
        refine at_seq ?_
        refine at_region [0, 1, 2, 3, 4] rfl ?_
        refine at_s T rfl ?_
        obtain ⟨c6, Z4⟩ := chk_e Z4
        obtain ⟨q2, o2, e2⟩ := h_l.addr c6.1 c6.2
        refine at_v rfl (g_index T rfl rfl rfl rfl rfl e2 c6.1 c6.2) ?_
        refine at_v rfl (g_load T rfl rfl rfl rfl (in_elem1 (k := (Fl.int .i64)) (ro_of h_l (j := 0) rfl) e2 c6 0 rfl)) ?_
        iterate 2 refine at_s T rfl ?_
        refine at_end ?_
        refine at_sub [(1, (.slice a_l (List.length l) n_l)), (2, (.pointer (some ⟨b1, 0, none⟩))), (6, (.int .i64 x4)), (7, (.int .i64 x5)), (8, (.int .i64 (rd l x5))), (17, (.slice a_l (List.length l) n_l)), (18, (.int .i64 (List.length l : Int))), (19, (.int .i64 x5))] ⟨rfl, rfl, rfl, rfl, rfl, rfl, rfl, rfl, trivial⟩ ?_
        refine at_then ?_
        refine at_seq ?_
        obtain ⟨z8, Z7, Z4⟩ := bind_e Z4
        refine at_seq_mid (σ := Bool) (fun x7 => x7 = z8) (fun x7 => [(1, (.slice a_l (List.length l) n_l)), (2, (.pointer (some ⟨b1, 0, none⟩))), (6, (.int .i64 x4)), (7, (.int .i64 x5)), (8, (.int .i64 (rd l x5))), (17, (.slice a_l (List.length l) n_l)), (18, (.int .i64 (List.length l : Int))), (19, (.int .i64 x5)), (38, (.bool x7))]) (fun x7 => [F, [(b1, Obj.cells #[(.int .i64 m.W), (.int .i64 m.H), (.slice a_m_C (List.length m.C) n_m_C)] 24 (0, 0))]]) ?_ ?_
        · refine at_region [0, 1, 2, 3, 4, 5, 6, 7, 8, 9, 10, 11, 12, 13, 14] rfl ?_
          refine at_s T rfl ?_
          refine at_v rfl (g_load T rfl rfl rfl rfl (in_var (j := 1) rfl rfl)) ?_
          refine at_s T rfl ?_
          refine at_v rfl (g_load T rfl rfl rfl rfl (in_var (j := 1) rfl rfl)) ?_
          refine at_s T rfl ?_
          obtain ⟨v9, V8, Z7⟩ := bind_e Z7
          refine at_cons (at_c (B := fun _ => []) [] rfl rfl rfl rfl has31 rfl rfl (where_Sector.c m.W m.H (rd l x5) v9 _ V8) (fun _ => ?_))
          iterate 2 refine at_s T rfl ?_
          refine at_case (s := 31) rfl (fun c9 => ?_) (fun c9 => ?_)
          · replace Z7 := if_t (of_decide_eq_true c9) Z7
            iterate 7 refine at_s T rfl ?_
            refine at_end ?_
            refine at_sub [(1, (.slice a_l (List.length l) n_l)), (2, (.pointer (some ⟨b1, 0, none⟩))), (6, (.int .i64 x4)), (7, (.int .i64 x5)), (8, (.int .i64 (rd l x5))), (17, (.slice a_l (List.length l) n_l)), (18, (.int .i64 (List.length l : Int))), (19, (.int .i64 x5)), (38, (.bool true))] ⟨rfl, rfl, rfl, rfl, rfl, rfl, rfl, rfl, rfl, trivial⟩ ?_
            refine at_then ?_
            obtain rfl := Option.some.inj Z7
            exact at_mid true [0, 0] rfl ⟨rfl, rfl, rfl, rfl, rfl, rfl, rfl, rfl, rfl, trivial⟩ rfl
          · replace Z7 := if_f (of_decide_eq_false c9) Z7
            refine at_s T rfl ?_
            refine at_v rfl (g_load T rfl rfl rfl rfl (in_var (j := 1) rfl rfl)) ?_
            refine at_s T rfl ?_
            obtain ⟨c10, Z7⟩ := chk_e Z7
            obtain ⟨q3, o3, e3⟩ := h_m_C.addr c10.1 c10.2
            refine at_v rfl (g_index T rfl rfl rfl rfl rfl e3 c10.1 c10.2) ?_
            refine at_v rfl (g_load T rfl rfl rfl rfl (in_elem1 (k := (Fl.int .u8)) (ro_of h_m_C (j := 0) rfl) e3 c10 0 rfl)) ?_
            iterate 2 refine at_s T rfl ?_
            refine at_end ?_
            refine at_sub [(1, (.slice a_l (List.length l) n_l)), (2, (.pointer (some ⟨b1, 0, none⟩))), (6, (.int .i64 x4)), (7, (.int .i64 x5)), (8, (.int .i64 (rd l x5))), (17, (.slice a_l (List.length l) n_l)), (18, (.int .i64 (List.length l : Int))), (19, (.int .i64 x5)), (38, (.bool ((rd m.C (rd l x5)) == 255)))] ⟨rfl, rfl, rfl, rfl, rfl, rfl, rfl, rfl, rfl, trivial⟩ ?_
            refine at_then ?_
            obtain rfl := Option.some.inj Z7
            exact at_mid ((rd m.C (rd l x5)) == 255) [0, 0] rfl ⟨rfl, rfl, rfl, rfl, rfl, rfl, rfl, rfl, rfl, trivial⟩ rfl
        · rintro x7 rfl
          refine at_cond rfl (fun c11 => ?_) (fun c11 => ?_)
          · replace Z4 := if_t c11 Z4
            refine at_seq ?_
            refine at_region [0, 1] rfl ?_
            iterate 2 refine at_s T rfl ?_
            refine at_end ?_
            refine at_to [(4, (.int .i64 0)), (5, (.bool false))] [0] [F] ⟨rfl, rfl, trivial⟩ rfl ?_
            refine at_then ?_
            refine at_ret ?_
            refine at_rt ?_
            refine at_rb ?_
            refine at_rt ?_
            refine at_rt ?_
            refine at_rb ?_
            refine at_rt ?_
            obtain rfl := Option.some.inj Z4
            exact at_post (T := T) rfl (.tmp rfl (.tmp rfl .nil)) (fun w o => ⟨(), rfl, own_to [0] rfl o⟩)
          · replace Z4 := if_f (bf c11) Z4
            refine at_skip ?_
            refine at_then ?_
            refine at_seq ?_
            refine at_seq ?_
            refine at_region [0, 1] rfl ?_
            iterate 2 refine at_s T rfl ?_
            refine at_end ?_
            refine at_sub [(1, (.slice a_l (List.length l) n_l)), (2, (.pointer (some ⟨b1, 0, none⟩))), (6, (.int .i64 x4)), (7, (.int .i64 x5)), (8, (.int .i64 (rd l x5))), (17, (.slice a_l (List.length l) n_l)), (18, (.int .i64 (List.length l : Int))), (19, (.int .i64 x5)), (40, (.bool (x5 == 0)))] ⟨rfl, rfl, rfl, rfl, rfl, rfl, rfl, rfl, rfl, trivial⟩ ?_
            refine at_then ?_
            refine at_cond rfl (fun c12 => ?_) (fun c12 => ?_)
            · replace Z4 := if_t c12 Z4
              refine at_exit ?_
              refine at_xt ?_
              refine at_xb ?_
              refine at_then ?_
              refine at_region [0, 1] rfl ?_
              iterate 2 refine at_s T rfl ?_
              refine at_end ?_
              refine at_sub [(1, (.slice a_l (List.length l) n_l)), (2, (.pointer (some ⟨b1, 0, none⟩))), (6, (.int .i64 x4)), (17, (.slice a_l (List.length l) n_l)), (18, (.int .i64 (List.length l : Int))), (19, (.int .i64 (w64 (x5 + 1))))] ⟨rfl, rfl, rfl, rfl, rfl, rfl, trivial⟩ ?_
              refine at_then ?_
              exact at_roundL (k6, x4, (w64 (x5 + 1))) [0, 0] Z4 (Nat.lt_succ_self _) ⟨rfl, rfl, rfl, rfl, rfl, rfl, trivial⟩ rfl
            · replace Z4 := if_f (bf c12) Z4
              refine at_skip ?_
              refine at_then ?_
              refine at_seq ?_
              refine at_seq ?_
              refine at_region_q mix (by kernel_rfl) ?_
              refine atq_s T rfl ?_
              refine atq_v rfl rfl rfl (g_load T rfl rfl rfl rfl (in_var (j := 1) rfl rfl)) ?_
              refine atq_s T rfl ?_
              refine atq_v rfl rfl rfl (g_load T rfl rfl rfl rfl (in_var (j := 1) rfl rfl)) ?_
              iterate 3 refine atq_s T rfl ?_
              obtain ⟨c13, Z4⟩ := chk_e Z4
              refine atq_v rfl rfl rfl (g_index T rfl rfl rfl rfl rfl e2 c13.1 c13.2) ?_
              refine atq_v rfl rfl rfl (g_load T rfl rfl rfl rfl (in_elem1 (k := (Fl.int .i64)) (ro_of h_l (j := 0) rfl) e2 c13 0 rfl)) ?_
              refine atq_s T rfl ?_
              obtain ⟨v10, V14, Z4⟩ := bind_e Z4
              refine atq_c rfl rfl rfl rfl rfl rfl has32 rfl (where_Side.c m.W m.H (rd l (w64 (x5 - 1))) (rd l x5) v10 _ V14) ?_
              refine atq_s T rfl ?_
              refine atq_end ?_
              refine at_sub [(1, (.slice a_l (List.length l) n_l)), (2, (.pointer (some ⟨b1, 0, none⟩))), (6, (.int .i64 x4)), (8, (.int .i64 (rd l x5))), (17, (.slice a_l (List.length l) n_l)), (18, (.int .i64 (List.length l : Int))), (19, (.int .i64 x5)), (52, (.bool (decide (v10 > 3))))] ⟨rfl, rfl, rfl, rfl, rfl, rfl, rfl, rfl, trivial⟩ ?_
              refine at_then ?_
              refine at_cond rfl (fun c15 => ?_) (fun c15 => ?_)
              · replace Z4 := if_t (of_decide_eq_true c15) Z4
                refine at_seq ?_
                refine at_region [0, 1] rfl ?_
                iterate 2 refine at_s T rfl ?_
                refine at_end ?_
                refine at_to [(4, (.int .i64 0)), (5, (.bool false))] [0] [F] ⟨rfl, rfl, trivial⟩ rfl ?_
                refine at_then ?_
                refine at_ret ?_
                refine at_rt ?_
                refine at_rb ?_
                refine at_rt ?_
                refine at_rt ?_
                refine at_rb ?_
                refine at_rt ?_
                obtain rfl := Option.some.inj Z4
                exact at_post (T := T) rfl (.tmp rfl (.tmp rfl .nil)) (fun w o => ⟨(), rfl, own_to [0] rfl o⟩)
              · replace Z4 := if_f (of_decide_eq_false c15) Z4
                refine at_skip ?_
                refine at_then ?_
                refine at_region [0, 1, 2, 3, 4, 5, 6, 7, 8] rfl ?_
                iterate 2 refine at_s T rfl ?_
                refine at_v rfl (g_load T rfl rfl rfl rfl (in_var (j := 1) rfl rfl)) ?_
                refine at_s T rfl ?_
                obtain ⟨c16, Z4⟩ := chk_e Z4
                obtain ⟨q4, o4, e4⟩ := h_m_C.addr c16.1 c16.2
                refine at_v rfl (g_index T rfl rfl rfl rfl rfl e4 c16.1 c16.2) ?_
                refine at_v rfl (g_load T rfl rfl rfl rfl (in_elem1 (k := (Fl.int .u8)) (ro_of h_m_C (j := 0) rfl) e4 c16 0 rfl)) ?_
                iterate 3 refine at_s T rfl ?_
                refine at_end ?_
                refine at_sub [(1, (.slice a_l (List.length l) n_l)), (2, (.pointer (some ⟨b1, 0, none⟩))), (6, (.int .i64 (w64 (x4 + (w64 (rd m.C (rd l x5))))))), (17, (.slice a_l (List.length l) n_l)), (18, (.int .i64 (List.length l : Int))), (19, (.int .i64 x5))] ⟨rfl, rfl, rfl, rfl, rfl, rfl, trivial⟩ ?_
                refine at_nb ?_
                refine at_then ?_
                refine at_region [0, 1] rfl ?_
                iterate 2 refine at_s T rfl ?_
                refine at_end ?_
                refine at_sub [(1, (.slice a_l (List.length l) n_l)), (2, (.pointer (some ⟨b1, 0, none⟩))), (6, (.int .i64 (w64 (x4 + (w64 (rd m.C (rd l x5))))))), (17, (.slice a_l (List.length l) n_l)), (18, (.int .i64 (List.length l : Int))), (19, (.int .i64 (w64 (x5 + 1))))] ⟨rfl, rfl, rfl, rfl, rfl, rfl, trivial⟩ ?_
                refine at_then ?_
                exact at_roundL (k6, (w64 (x4 + (w64 (rd m.C (rd l x5))))), (w64 (x5 + 1))) [0, 0] Z4 (Nat.lt_succ_self _) ⟨rfl, rfl, rfl, rfl, rfl, rfl, trivial⟩ rfl
      · replace Z4 := if_f (of_decide_eq_false c5) Z4
        refine at_exit ?_
        refine at_xt ?_
        refine at_xt ?_
        refine at_xb ?_
        refine at_then ?_
        refine at_seq ?_
        refine at_region [0, 1, 2] rfl ?_
        iterate 3 refine at_s T rfl ?_
        refine at_end ?_
        refine at_to [(4, (.int .i64 x4)), (5, (.bool true))] [0] [F] ⟨rfl, rfl, trivial⟩ rfl ?_
        refine at_then ?_
        refine at_ret ?_
        obtain rfl := Option.some.inj Z4
        exact at_post (T := T) rfl (.tmp rfl (.tmp rfl .nil)) (fun w o => ⟨(), rfl, own_to [0] rfl o⟩)
end Go.Proofs.Yticdodeoljodiaa
