import Derived.Test.YticdodeoljodiaaT
import Derived.Test.YticdodeoljodiaaFatlas
import Derived.Test.YticdodeoljodiaaFflat
import Derived.Test.YticdodeoljodiaaFwhere
namespace Go.Proofs.Yticdodeoljodiaa
open Go.Hx
set_option maxRecDepth 100000
set_option linter.unusedVariables false
noncomputable section
/-! ### herdsman/trail.Path: function 37 -/
def trail_Path.l0 : Nat → api_Map → Int → ((List Int) × Int) → Int → List Int → Option (List Int)
  | 0, _, _, _, _, _ => none
  | k9 + 1, m, goal, v2, x7, x8 => if (x7 != goal) = true then (if (0 ≤ x7 ∧ x7 < (List.length v2.1 : Int)) then ((where_Step.f m.W m.H x7 (rd v2.1 x7)).bind fun v10 => if (List.length x8 + 1 ≤ 1099511627776) then (trail_Path.l0 k9 m goal v2 v10 (x8 ++ [v10])) else none) else none) else (some x8)
def trail_Path.f (m : api_Map) (goal : Int) (cell : Int) : Option ((List Int) × Bool) := (flat_Query.f m goal cell).bind fun v1 => if ((v1.2.2 != 0) || (v1.1 == 1099511627776)) = true then (some ([], false)) else ((flat_Dirs.f m goal).bind fun v2 => (trail_Path.l0 fuel m goal v2 cell [cell]).bind fun x3 => some (x3, true))
def trail_Path.R (r : ((List Int) × Bool)) (u : Value) (G : List Hp) : Prop := ∃ (a0 : Option Addr) (n0 : Nat) (H0 : Hp), SliceO (Fl.int .i64) 3 r.1 a0 n0 H0 ∧ u = (.tuple #[(.slice a0 (List.length r.1) n0), (.bool r.2)]) ∧ G = [H0]
set_option maxHeartbeats 4000000 in
theorem trail_Path.c {a_m_C : Option Addr} {n_m_C : Nat} (m : api_Map) (goal : Int) (cell : Int) (r : ((List Int) × Bool)) (F : Hp) (H : trail_Path.f m goal cell = some r) (h_m_C : SliceR (Fl.int .u8) m.C a_m_C F) (c_m_C : List.length m.C ≤ n_m_C) :
    CallsL Try.prog 37 [(.agg #[(.int .i64 m.W), (.int .i64 m.H), (.slice a_m_C (List.length m.C) n_m_C)]), (.int .i64 goal), (.int .i64 cell)] [F] (fun qp : { qp : Value × List Hp // trail_Path.R r qp.1 qp.2 } => qp.1.1) (fun qp => (qp.1.2 ++ []) ++ [F]) := by
  unfold trail_Path.f at H
  refine calls_atL [(0, (.agg #[(.int .i64 m.W), (.int .i64 m.H), (.slice a_m_C (List.length m.C) n_m_C)])), (1, (.int .i64 goal)), (2, (.int .i64 cell))] Try.func37 rfl rfl ⟨rfl, rfl, rfl, trivial⟩ (fun W => ?_)
  refine at_seq ?_
  refine at_region [0, 1, 2] rfl ?_
  refine at_cons (at_bx T [(.int .i64 m.W), (.int .i64 m.H), (.slice a_m_C (List.length m.C) n_m_C)] rfl rfl rfl rfl (fun b1 => ?_))
  iterate 2 refine at_s T rfl ?_
  refine at_end ?_
  refine at_sub [(1, (.int .i64 goal)), (2, (.int .i64 cell)), (3, (.pointer (some ⟨b1, 0, none⟩)))] ⟨rfl, rfl, rfl, trivial⟩ ?_
  refine at_then ?_
  refine at_seq ?_
  refine at_region [0, 1, 2, 3, 4, 5, 6, 7, 8, 9, 10] rfl ?_
  refine at_v rfl (g_loadA T (cs := [(.int .i64 m.W), (.int .i64 m.H), (.slice a_m_C (List.length m.C) n_m_C)]) rfl rfl rfl rfl rfl rfl (in_varA (j := 1) rfl rfl)) ?_
  iterate 2 refine at_s T rfl ?_
  obtain ⟨v1, V1, H⟩ := bind_e H
  refine at_cons (at_c (B := fun _ => []) [] rfl rfl rfl rfl has41 rfl rfl (flat_Query.c m goal cell v1 _ V1 (ro_of h_m_C (j := 0) rfl) c_m_C) (fun _ => ?_))
  iterate 7 refine at_s T rfl ?_
  refine at_end ?_
  refine at_sub [(1, (.int .i64 goal)), (2, (.int .i64 cell)), (3, (.pointer (some ⟨b1, 0, none⟩))), (8, (.int .i64 v1.1)), (10, (.int .i64 v1.2.2))] ⟨rfl, rfl, rfl, rfl, rfl, trivial⟩ ?_
  refine at_then ?_
  refine at_seq ?_
  refine at_seq ?_
  refine at_region [0, 1, 2, 3, 4, 5] rfl ?_
  iterate 3 refine at_s T rfl ?_
  refine at_grp T [3, 4, 5] (s := 24) (c := (v1.2.2 != 0)) [(1, (.int .i64 goal)), (2, (.int .i64 cell)), (3, (.pointer (some ⟨b1, 0, none⟩))), (27, (.bool ((v1.2.2 != 0) || (v1.1 == 1099511627776))))] rfl rfl rfl (fun c2 => ⟨rfl, rfl, rfl, (by rw [c2]; rfl), trivial⟩) (fun c2 => ⟨rfl, rfl, rfl, (by rw [c2]; rfl), trivial⟩) ?_
  refine at_end ?_
  refine at_sub [(1, (.int .i64 goal)), (2, (.int .i64 cell)), (3, (.pointer (some ⟨b1, 0, none⟩))), (27, (.bool ((v1.2.2 != 0) || (v1.1 == 1099511627776))))] ⟨rfl, rfl, rfl, rfl, trivial⟩ ?_
  refine at_then ?_
  refine at_cond rfl (fun c3 => ?_) (fun c3 => ?_)
  · replace H := if_t c3 H
    refine at_seq ?_
    refine at_region [0, 1] rfl ?_
    iterate 2 refine at_s T rfl ?_
    refine at_end ?_
    refine at_to [(6, (.slice none 0 0)), (7, (.bool false))] [0] [F] ⟨rfl, rfl, trivial⟩ rfl ?_
    refine at_then ?_
    refine at_ret ?_
    refine at_rt ?_
    obtain rfl := Option.some.inj H
    refine at_addnil ?_
    exact at_post (T := T) rfl (.tmp rfl (.tmp rfl .nil)) (fun w o => ⟨⟨(_, _), ⟨none, 0, [], SliceO.nil, rfl, rfl⟩⟩, rfl, own_to [1, 0] rfl o⟩)
  · replace H := if_f (bf c3) H
    refine at_skip ?_
    refine at_then ?_
    refine at_seq ?_
    refine at_region [0, 1, 2, 3, 4, 5, 6, 7] rfl ?_
    refine at_v rfl (g_loadA T (cs := [(.int .i64 m.W), (.int .i64 m.H), (.slice a_m_C (List.length m.C) n_m_C)]) rfl rfl rfl rfl rfl rfl (in_varA (j := 1) rfl rfl)) ?_
    refine at_s T rfl ?_
    obtain ⟨v2, V4, H⟩ := bind_e H
    refine at_cons (at_cR (flat_Dirs.R v2) [] [] rfl rfl rfl rfl has69 rfl rfl (flat_Dirs.c m goal v2 _ V4 (ro_of h_m_C (j := 0) rfl) c_m_C) ?_)
    rintro _ _ ⟨a3, n3, H3, s3, rfl, rfl⟩
    iterate 5 refine at_s T rfl ?_
    refine at_end ?_
    refine at_sub [(1, (.int .i64 goal)), (2, (.int .i64 cell)), (3, (.pointer (some ⟨b1, 0, none⟩))), (11, (.slice a3 (List.length v2.1) n3))] ⟨rfl, rfl, rfl, rfl, trivial⟩ ?_
    refine at_then ?_
    refine at_seq ?_
    refine at_region [0, 1, 2] rfl ?_
    refine at_s T rfl ?_
    refine at_cons (at_bs (k := (Fl.int .i64)) T [cell] rfl rfl rfl rfl rfl rfl rfl rfl rfl (fun a4 H4 s4 => ?_))
    refine at_s T rfl ?_
    refine at_end ?_
    refine at_sub [(1, (.int .i64 goal)), (2, (.int .i64 cell)), (3, (.pointer (some ⟨b1, 0, none⟩))), (11, (.slice a3 (List.length v2.1) n3)), (13, (.slice a4 (List.length [cell]) (List.length [cell])))] ⟨rfl, rfl, rfl, rfl, rfl, trivial⟩ ?_
    refine at_then ?_
    obtain ⟨z4, Z5, H⟩ := bind_e H
    refine at_seq_mid (σ := List Int × Option Addr × Nat × Hp) (fun ⟨x3, a5, n5, H5⟩ => x3 = z4 ∧ SliceO (Fl.int .i64) 3 x3 a5 n5 H5) (fun ⟨x3, a5, n5, H5⟩ => [(13, (.slice a5 (List.length x3) n5))]) (fun ⟨x3, a5, n5, H5⟩ => [F, H5]) ?_ ?_
    · refine at_block ?_
      refine at_loopL (σ := Nat × Int × List Int × Option Addr × Nat × Hp) (fun ⟨k9, x7, x8, a7, n7, H7⟩ => trail_Path.l0 k9 m goal v2 x7 x8 = some z4 ∧ SliceO (Fl.int .i64) 3 x8 a7 n7 H7) (fun ⟨k9, x7, x8, a7, n7, H7⟩ => [(1, (.int .i64 goal)), (2, (.int .i64 x7)), (3, (.pointer (some ⟨b1, 0, none⟩))), (11, (.slice a3 (List.length v2.1) n3)), (13, (.slice a7 (List.length x8) n7))]) (fun ⟨k9, x7, x8, a7, n7, H7⟩ => [F, [(b1, Obj.cells #[(.int .i64 m.W), (.int .i64 m.H), (.slice a_m_C (List.length m.C) n_m_C)] 24 (0, 0))], H3, H7]) (fun s => s.1) (fuel, cell, [cell], a4, (List.length [cell]), H4) [0, 0, 0, 0] ⟨Z5, s4⟩ ⟨rfl, rfl, rfl, rfl, rfl, trivial⟩ rfl ?_
      rintro ⟨k9, x7, x8, a7, n7, H7⟩ ⟨Z6, s7⟩
      replace Z6 : trail_Path.l0 k9 m goal v2 x7 x8 = some z4 := Z6
      rcases k9 with _ | k9
      · rw [trail_Path.l0] at Z6; cases Z6
      · rw [trail_Path.l0] at Z6
        refine at_seq ?_
        refine at_seq ?_
        refine at_region [0, 1, 2] rfl ?_
        iterate 3 refine at_s T rfl ?_
        refine at_end ?_
        refine at_sub [(1, (.int .i64 goal)), (2, (.int .i64 x7)), (3, (.pointer (some ⟨b1, 0, none⟩))), (11, (.slice a3 (List.length v2.1) n3)), (13, (.slice a7 (List.length x8) n7)), (38, (.bool (x7 != goal)))] ⟨rfl, rfl, rfl, rfl, rfl, rfl, trivial⟩ ?_
        refine at_then ?_
        refine at_cond rfl (fun c7 => ?_) (fun c7 => ?_)
        · replace Z6 := if_t c7 Z6
          refine at_skip ?_
          refine at_then ?_
          refine at_block ?_
          refine at_seq ?_
          refine at_region_q mix (by kernel_rfl) ?_
          refine atq_s T rfl ?_
          refine atq_v rfl rfl rfl (g_load T rfl rfl rfl rfl (in_var (j := 1) rfl rfl)) ?_
          refine atq_s T rfl ?_
          refine atq_v rfl rfl rfl (g_load T rfl rfl rfl rfl (in_var (j := 1) rfl rfl)) ?_
          iterate 3 refine atq_s T rfl ?_
          obtain ⟨c8, Z6⟩ := chk_e Z6
          obtain ⟨q8, o8, e8⟩ := s3.r.addr c8.1 c8.2
          refine atq_v rfl rfl rfl (g_index T rfl rfl rfl rfl rfl e8 c8.1 c8.2) ?_
          refine atq_v rfl rfl rfl (g_load T rfl rfl rfl rfl (in_elem1 (k := (Fl.int .i64)) (own_of s3 (j := 2) rfl) e8 c8 0 rfl)) ?_
          obtain ⟨v10, V9, Z6⟩ := bind_e Z6
          refine atq_c rfl rfl rfl rfl rfl rfl has68 rfl (where_Step.c m.W m.H x7 (rd v2.1 x7) v10 _ V9) ?_
          refine atq_s T rfl ?_
          refine atq_end ?_
          refine at_sub [(1, (.int .i64 goal)), (2, (.int .i64 v10)), (3, (.pointer (some ⟨b1, 0, none⟩))), (11, (.slice a3 (List.length v2.1) n3)), (13, (.slice a7 (List.length x8) n7))] ⟨rfl, rfl, rfl, rfl, rfl, trivial⟩ ?_
          refine at_then ?_
          refine at_region [0, 1, 2, 3, 4] rfl ?_
          iterate 2 refine at_s T rfl ?_
          refine at_cons (at_bs (k := (Fl.int .i64)) T [v10] rfl rfl rfl rfl rfl rfl rfl rfl rfl (fun a9 H9 s9 => ?_))
          obtain ⟨c10, Z6⟩ := chk_e Z6
          refine at_cons (at_ap (k := (Fl.int .i64)) (xs := x8) T (g := 3) rfl rfl rfl rfl rfl rfl rfl rfl rfl rfl s7 (own_of s9 (j := 4) rfl) c10 rfl (fun a10 n10 H10 s10 => ?_))
          refine at_s T rfl ?_
          refine at_end ?_
          refine at_to [(1, (.int .i64 goal)), (2, (.int .i64 v10)), (3, (.pointer (some ⟨b1, 0, none⟩))), (11, (.slice a3 (List.length v2.1) n3)), (13, (.slice a10 (List.length (x8 ++ [v10])) n10))] [0, 0, 0, 0] [F, [(b1, Obj.cells #[(.int .i64 m.W), (.int .i64 m.H), (.slice a_m_C (List.length m.C) n_m_C)] 24 (0, 0))], H3, H10] ⟨rfl, rfl, rfl, rfl, rfl, trivial⟩ rfl ?_
          refine at_nb ?_
          refine at_then ?_
          exact at_roundL (k9, v10, (x8 ++ [v10]), a10, n10, H10) [0, 0, 0, 0] ⟨Z6, s10⟩ (Nat.lt_succ_self _) ⟨rfl, rfl, rfl, rfl, rfl, trivial⟩ rfl
        · replace Z6 := if_f (bf c7) Z6
          refine at_exit ?_
          refine at_xt ?_
          refine at_xt ?_
          refine at_xb ?_
          refine at_then ?_
          obtain rfl := Option.some.inj Z6
          exact at_mid (x8, a7, n7, H7) [0, 2] ⟨rfl, s7⟩ ⟨rfl, trivial⟩ rfl
    · rintro ⟨x3, a5, n5, H5⟩ ⟨rfl, s5⟩
      refine at_seq ?_
      refine at_region [0, 1, 2] rfl ?_
      iterate 3 refine at_s T rfl ?_
      refine at_end ?_
      refine at_sub [(6, (.slice a5 (List.length x3) n5)), (7, (.bool true))] ⟨rfl, rfl, trivial⟩ ?_
      refine at_then ?_
      refine at_ret ?_
      obtain rfl := Option.some.inj H
      exact at_post (T := T) rfl (.tmp rfl (.tmp rfl .nil)) (fun w o => ⟨⟨(_, _), ⟨a5, n5, H5, s5, rfl, rfl⟩⟩, rfl, own_to [1, 0] rfl o⟩)

/-! ### herdsman/trail.Cost: function 39 -/
def trail_Cost.l0 : Nat → api_Map → (List Int) → Int → Int → Option (Int × Bool)
  | 0, _, _, _, _ => none
  | k6 + 1, m, l, x4, x5 => if x5 < (List.length l : Int) then (if (0 ≤ x5 ∧ x5 < (List.length l : Int)) then (((where_Sector.f m.W m.H (rd l x5)).bind fun v9 => if v9 < 0 then (some true) else (if (0 ≤ (rd l x5) ∧ (rd l x5) < (List.length m.C : Int)) then (some ((rd m.C (rd l x5)) == 255)) else none)).bind fun x7 => if x7 = true then (some (0, false)) else (if (x5 == 0) = true then (trail_Cost.l0 k6 m l x4 (w64 (x5 + 1))) else (if (0 ≤ (w64 (x5 - 1)) ∧ (w64 (x5 - 1)) < (List.length l : Int)) then ((where_Side.f m.W m.H (rd l (w64 (x5 - 1))) (rd l x5)).bind fun v10 => if v10 > 3 then (some (0, false)) else (if (0 ≤ (rd l x5) ∧ (rd l x5) < (List.length m.C : Int)) then (trail_Cost.l0 k6 m l (w64 (x4 + (w64 (rd m.C (rd l x5))))) (w64 (x5 + 1))) else none)) else none))) else none) else (some (x4, true))
def trail_Cost.f (m : api_Map) (l : (List Int)) : Option (Int × Bool) := (atlas_May.f m).bind fun v1 => if ((!v1) || ((List.length l : Int) == 0)) = true then (some (0, false)) else (trail_Cost.l0 fuel m l 0 0)
set_option maxHeartbeats 4000000 in
theorem trail_Cost.c {a_m_C : Option Addr} {n_m_C : Nat} {a_l : Option Addr} {n_l : Nat} (m : api_Map) (l : (List Int)) (r : (Int × Bool)) (F : Hp) (H : trail_Cost.f m l = some r) (h_m_C : SliceR (Fl.int .u8) m.C a_m_C F) (c_m_C : List.length m.C ≤ n_m_C) (h_l : SliceR (Fl.int .i64) l a_l F) (c_l : List.length l ≤ n_l) :
    CallsL Try.prog 39 [(.agg #[(.int .i64 m.W), (.int .i64 m.H), (.slice a_m_C (List.length m.C) n_m_C)]), (.slice a_l (List.length l) n_l)] [F] (fun _ : Unit => (.tuple #[(.int .i64 r.1), (.bool r.2)])) (fun _ => [F]) := by
  unfold trail_Cost.f at H
  refine calls_atL [(0, (.agg #[(.int .i64 m.W), (.int .i64 m.H), (.slice a_m_C (List.length m.C) n_m_C)])), (1, (.slice a_l (List.length l) n_l))] Try.func39 rfl rfl ⟨rfl, rfl, trivial⟩ (fun W => ?_)
  refine at_seq ?_
  refine at_region [0, 1, 2] rfl ?_
  refine at_cons (at_bx T [(.int .i64 m.W), (.int .i64 m.H), (.slice a_m_C (List.length m.C) n_m_C)] rfl rfl rfl rfl (fun b1 => ?_))
  iterate 2 refine at_s T rfl ?_
  refine at_end ?_
  refine at_sub [(1, (.slice a_l (List.length l) n_l)), (2, (.pointer (some ⟨b1, 0, none⟩)))] ⟨rfl, rfl, trivial⟩ ?_
  refine at_then ?_
  refine at_seq ?_
  refine at_seq ?_
  refine at_region [0, 1, 2, 3, 4, 5, 6, 7] rfl ?_
  refine at_v rfl (g_loadA T (cs := [(.int .i64 m.W), (.int .i64 m.H), (.slice a_m_C (List.length m.C) n_m_C)]) rfl rfl rfl rfl rfl rfl (in_varA (j := 1) rfl rfl)) ?_
  obtain ⟨v1, V1, H⟩ := bind_e H
  refine at_cons (at_c (B := fun _ => []) [] rfl rfl rfl rfl has49 rfl rfl (atlas_May.c m v1 _ V1 (ro_of h_m_C (j := 0) rfl) c_m_C) (fun _ => ?_))
  iterate 2 refine at_s T rfl ?_
  refine at_grp T [4, 5, 6, 7] (s := 12) (c := (!v1)) [(1, (.slice a_l (List.length l) n_l)), (2, (.pointer (some ⟨b1, 0, none⟩))), (16, (.bool ((!v1) || ((List.length l : Int) == 0))))] rfl rfl rfl (fun c2 => ⟨rfl, rfl, (by rw [c2]; rfl), trivial⟩) (fun c2 => ⟨rfl, rfl, (by rw [c2]; rfl), trivial⟩) ?_
  refine at_end ?_
  refine at_sub [(1, (.slice a_l (List.length l) n_l)), (2, (.pointer (some ⟨b1, 0, none⟩))), (16, (.bool ((!v1) || ((List.length l : Int) == 0))))] ⟨rfl, rfl, rfl, trivial⟩ ?_
  refine at_then ?_
  refine at_cond rfl (fun c3 => ?_) (fun c3 => ?_)
  · replace H := if_t c3 H
    refine at_seq ?_
    refine at_region [0, 1] rfl ?_
    iterate 2 refine at_s T rfl ?_
    refine at_end ?_
    refine at_to [(4, (.int .i64 0)), (5, (.bool false))] [0] [F] ⟨rfl, rfl, trivial⟩ rfl ?_
    refine at_then ?_
    refine at_ret ?_
    refine at_rt ?_
    obtain rfl := Option.some.inj H
    exact at_post (T := T) rfl (.tmp rfl (.tmp rfl .nil)) (fun w o => ⟨(), rfl, own_to [0] rfl o⟩)
  · replace H := if_f (bf c3) H
    refine at_skip ?_
    refine at_then ?_
    refine at_seq ?_
    refine at_region [0] rfl ?_
    refine at_s T rfl ?_
    refine at_end ?_
    refine at_sub [(1, (.slice a_l (List.length l) n_l)), (2, (.pointer (some ⟨b1, 0, none⟩))), (6, (.int .i64 0))] ⟨rfl, rfl, rfl, trivial⟩ ?_
    refine at_then ?_
    refine at_seq ?_
    refine at_seq ?_
    refine at_region [0, 1, 2] rfl ?_
    iterate 3 refine at_s T rfl ?_
    refine at_end ?_
    refine at_sub [(1, (.slice a_l (List.length l) n_l)), (2, (.pointer (some ⟨b1, 0, none⟩))), (6, (.int .i64 0)), (17, (.slice a_l (List.length l) n_l)), (18, (.int .i64 (List.length l : Int))), (19, (.int .i64 0))] ⟨rfl, rfl, rfl, rfl, rfl, rfl, trivial⟩ ?_
    refine at_then ?_
    refine at_block ?_
    refine at_loopL (σ := Nat × Int × Int) (fun ⟨k6, x4, x5⟩ => trail_Cost.l0 k6 m l x4 x5 = some r) (fun ⟨k6, x4, x5⟩ => [(1, (.slice a_l (List.length l) n_l)), (2, (.pointer (some ⟨b1, 0, none⟩))), (6, (.int .i64 x4)), (17, (.slice a_l (List.length l) n_l)), (18, (.int .i64 (List.length l : Int))), (19, (.int .i64 x5))]) (fun ⟨k6, x4, x5⟩ => [F, [(b1, Obj.cells #[(.int .i64 m.W), (.int .i64 m.H), (.slice a_m_C (List.length m.C) n_m_C)] 24 (0, 0))]]) (fun s => s.1) (fuel, 0, 0) [0, 0] H ⟨rfl, rfl, rfl, rfl, rfl, rfl, trivial⟩ rfl ?_
    rintro ⟨k6, x4, x5⟩ Z4
    replace Z4 : trail_Cost.l0 k6 m l x4 x5 = some r := Z4
    rcases k6 with _ | k6
    · rw [trail_Cost.l0] at Z4; cases Z4
    · rw [trail_Cost.l0] at Z4
      refine at_seq ?_
      refine at_region [0] rfl ?_
      refine at_s T rfl ?_
      refine at_end ?_
      refine at_sub [(1, (.slice a_l (List.length l) n_l)), (2, (.pointer (some ⟨b1, 0, none⟩))), (6, (.int .i64 x4)), (17, (.slice a_l (List.length l) n_l)), (18, (.int .i64 (List.length l : Int))), (19, (.int .i64 x5)), (20, (.bool (decide (x5 < (List.length l : Int)))))] ⟨rfl, rfl, rfl, rfl, rfl, rfl, rfl, trivial⟩ ?_
      refine at_then ?_
      refine at_seq ?_
      refine at_cond rfl (fun c5 => ?_) (fun c5 => ?_)
      · replace Z4 := if_t (of_decide_eq_true c5) Z4
        refine at_skip ?_
        refine at_then ?_
        refine at_seq ?_
        refine at_block ?_
        refine at_seq ?_
        refine at_region [0, 1, 2, 3, 4] rfl ?_
        refine at_s T rfl ?_
        obtain ⟨c6, Z4⟩ := chk_e Z4
        obtain ⟨q2, o2, e2⟩ := h_l.addr c6.1 c6.2
        refine at_v rfl (g_index T rfl rfl rfl rfl rfl e2 c6.1 c6.2) ?_
        refine at_v rfl (g_load T rfl rfl rfl rfl (in_elem1 (k := (Fl.int .i64)) (ro_of h_l (j := 0) rfl) e2 c6 0 rfl)) ?_
        iterate 2 refine at_s T rfl ?_
        refine at_end ?_
        refine at_sub [(1, (.slice a_l (List.length l) n_l)), (2, (.pointer (some ⟨b1, 0, none⟩))), (6, (.int .i64 x4)), (7, (.int .i64 x5)), (8, (.int .i64 (rd l x5))), (17, (.slice a_l (List.length l) n_l)), (18, (.int .i64 (List.length l : Int))), (19, (.int .i64 x5))] ⟨rfl, rfl, rfl, rfl, rfl, rfl, rfl, rfl, trivial⟩ ?_
        refine at_then ?_
        refine at_seq ?_
        obtain ⟨z8, Z7, Z4⟩ := bind_e Z4
        refine at_seq_mid (σ := Bool) (fun x7 => x7 = z8) (fun x7 => [(1, (.slice a_l (List.length l) n_l)), (2, (.pointer (some ⟨b1, 0, none⟩))), (6, (.int .i64 x4)), (7, (.int .i64 x5)), (8, (.int .i64 (rd l x5))), (17, (.slice a_l (List.length l) n_l)), (18, (.int .i64 (List.length l : Int))), (19, (.int .i64 x5)), (38, (.bool x7))]) (fun x7 => [F, [(b1, Obj.cells #[(.int .i64 m.W), (.int .i64 m.H), (.slice a_m_C (List.length m.C) n_m_C)] 24 (0, 0))]]) ?_ ?_
        · refine at_region [0, 1, 2, 3, 4, 5, 6, 7, 8, 9, 10, 11, 12, 13, 14] rfl ?_
          refine at_s T rfl ?_
          refine at_v rfl (g_load T rfl rfl rfl rfl (in_var (j := 1) rfl rfl)) ?_
          refine at_s T rfl ?_
          refine at_v rfl (g_load T rfl rfl rfl rfl (in_var (j := 1) rfl rfl)) ?_
          refine at_s T rfl ?_
          obtain ⟨v9, V8, Z7⟩ := bind_e Z7
          refine at_cons (at_c (B := fun _ => []) [] rfl rfl rfl rfl has31 rfl rfl (where_Sector.c m.W m.H (rd l x5) v9 _ V8) (fun _ => ?_))
          iterate 2 refine at_s T rfl ?_
          refine at_case (s := 31) rfl (fun c9 => ?_) (fun c9 => ?_)
          · replace Z7 := if_t (of_decide_eq_true c9) Z7
            iterate 7 refine at_s T rfl ?_
            refine at_end ?_
            refine at_sub [(1, (.slice a_l (List.length l) n_l)), (2, (.pointer (some ⟨b1, 0, none⟩))), (6, (.int .i64 x4)), (7, (.int .i64 x5)), (8, (.int .i64 (rd l x5))), (17, (.slice a_l (List.length l) n_l)), (18, (.int .i64 (List.length l : Int))), (19, (.int .i64 x5)), (38, (.bool true))] ⟨rfl, rfl, rfl, rfl, rfl, rfl, rfl, rfl, rfl, trivial⟩ ?_
            refine at_then ?_
            obtain rfl := Option.some.inj Z7
            exact at_mid true [0, 0] rfl ⟨rfl, rfl, rfl, rfl, rfl, rfl, rfl, rfl, rfl, trivial⟩ rfl
          · replace Z7 := if_f (of_decide_eq_false c9) Z7
            refine at_s T rfl ?_
            refine at_v rfl (g_load T rfl rfl rfl rfl (in_var (j := 1) rfl rfl)) ?_
            refine at_s T rfl ?_
            obtain ⟨c10, Z7⟩ := chk_e Z7
            obtain ⟨q3, o3, e3⟩ := h_m_C.addr c10.1 c10.2
            refine at_v rfl (g_index T rfl rfl rfl rfl rfl e3 c10.1 c10.2) ?_
            refine at_v rfl (g_load T rfl rfl rfl rfl (in_elem1 (k := (Fl.int .u8)) (ro_of h_m_C (j := 0) rfl) e3 c10 0 rfl)) ?_
            iterate 2 refine at_s T rfl ?_
            refine at_end ?_
            refine at_sub [(1, (.slice a_l (List.length l) n_l)), (2, (.pointer (some ⟨b1, 0, none⟩))), (6, (.int .i64 x4)), (7, (.int .i64 x5)), (8, (.int .i64 (rd l x5))), (17, (.slice a_l (List.length l) n_l)), (18, (.int .i64 (List.length l : Int))), (19, (.int .i64 x5)), (38, (.bool ((rd m.C (rd l x5)) == 255)))] ⟨rfl, rfl, rfl, rfl, rfl, rfl, rfl, rfl, rfl, trivial⟩ ?_
            refine at_then ?_
            obtain rfl := Option.some.inj Z7
            exact at_mid ((rd m.C (rd l x5)) == 255) [0, 0] rfl ⟨rfl, rfl, rfl, rfl, rfl, rfl, rfl, rfl, rfl, trivial⟩ rfl
        · rintro x7 rfl
          refine at_cond rfl (fun c11 => ?_) (fun c11 => ?_)
          · replace Z4 := if_t c11 Z4
            refine at_seq ?_
            refine at_region [0, 1] rfl ?_
            iterate 2 refine at_s T rfl ?_
            refine at_end ?_
            refine at_to [(4, (.int .i64 0)), (5, (.bool false))] [0] [F] ⟨rfl, rfl, trivial⟩ rfl ?_
            refine at_then ?_
            refine at_ret ?_
            refine at_rt ?_
            refine at_rb ?_
            refine at_rt ?_
            refine at_rt ?_
            refine at_rb ?_
            refine at_rt ?_
            obtain rfl := Option.some.inj Z4
            exact at_post (T := T) rfl (.tmp rfl (.tmp rfl .nil)) (fun w o => ⟨(), rfl, own_to [0] rfl o⟩)
          · replace Z4 := if_f (bf c11) Z4
            refine at_skip ?_
            refine at_then ?_
            refine at_seq ?_
            refine at_seq ?_
            refine at_region [0, 1] rfl ?_
            iterate 2 refine at_s T rfl ?_
            refine at_end ?_
            refine at_sub [(1, (.slice a_l (List.length l) n_l)), (2, (.pointer (some ⟨b1, 0, none⟩))), (6, (.int .i64 x4)), (7, (.int .i64 x5)), (8, (.int .i64 (rd l x5))), (17, (.slice a_l (List.length l) n_l)), (18, (.int .i64 (List.length l : Int))), (19, (.int .i64 x5)), (40, (.bool (x5 == 0)))] ⟨rfl, rfl, rfl, rfl, rfl, rfl, rfl, rfl, rfl, trivial⟩ ?_
            refine at_then ?_
            refine at_cond rfl (fun c12 => ?_) (fun c12 => ?_)
            · replace Z4 := if_t c12 Z4
              refine at_exit ?_
              refine at_xt ?_
              refine at_xb ?_
              refine at_then ?_
              refine at_region [0, 1] rfl ?_
              iterate 2 refine at_s T rfl ?_
              refine at_end ?_
              refine at_sub [(1, (.slice a_l (List.length l) n_l)), (2, (.pointer (some ⟨b1, 0, none⟩))), (6, (.int .i64 x4)), (17, (.slice a_l (List.length l) n_l)), (18, (.int .i64 (List.length l : Int))), (19, (.int .i64 (w64 (x5 + 1))))] ⟨rfl, rfl, rfl, rfl, rfl, rfl, trivial⟩ ?_
              refine at_then ?_
              exact at_roundL (k6, x4, (w64 (x5 + 1))) [0, 0] Z4 (Nat.lt_succ_self _) ⟨rfl, rfl, rfl, rfl, rfl, rfl, trivial⟩ rfl
            · replace Z4 := if_f (bf c12) Z4
              refine at_skip ?_
              refine at_then ?_
              refine at_seq ?_
              refine at_seq ?_
              refine at_region_q mix (by kernel_rfl) ?_
              refine atq_s T rfl ?_
              refine atq_v rfl rfl rfl (g_load T rfl rfl rfl rfl (in_var (j := 1) rfl rfl)) ?_
              refine atq_s T rfl ?_
              refine atq_v rfl rfl rfl (g_load T rfl rfl rfl rfl (in_var (j := 1) rfl rfl)) ?_
              iterate 3 refine atq_s T rfl ?_
              obtain ⟨c13, Z4⟩ := chk_e Z4
              refine atq_v rfl rfl rfl (g_index T rfl rfl rfl rfl rfl e2 c13.1 c13.2) ?_
              refine atq_v rfl rfl rfl (g_load T rfl rfl rfl rfl (in_elem1 (k := (Fl.int .i64)) (ro_of h_l (j := 0) rfl) e2 c13 0 rfl)) ?_
              refine atq_s T rfl ?_
              obtain ⟨v10, V14, Z4⟩ := bind_e Z4
              refine atq_c rfl rfl rfl rfl rfl rfl has32 rfl (where_Side.c m.W m.H (rd l (w64 (x5 - 1))) (rd l x5) v10 _ V14) ?_
              refine atq_s T rfl ?_
              refine atq_end ?_
              refine at_sub [(1, (.slice a_l (List.length l) n_l)), (2, (.pointer (some ⟨b1, 0, none⟩))), (6, (.int .i64 x4)), (8, (.int .i64 (rd l x5))), (17, (.slice a_l (List.length l) n_l)), (18, (.int .i64 (List.length l : Int))), (19, (.int .i64 x5)), (52, (.bool (decide (v10 > 3))))] ⟨rfl, rfl, rfl, rfl, rfl, rfl, rfl, rfl, trivial⟩ ?_
              refine at_then ?_
              refine at_cond rfl (fun c15 => ?_) (fun c15 => ?_)
              · replace Z4 := if_t (of_decide_eq_true c15) Z4
                refine at_seq ?_
                refine at_region [0, 1] rfl ?_
                iterate 2 refine at_s T rfl ?_
                refine at_end ?_
                refine at_to [(4, (.int .i64 0)), (5, (.bool false))] [0] [F] ⟨rfl, rfl, trivial⟩ rfl ?_
                refine at_then ?_
                refine at_ret ?_
                refine at_rt ?_
                refine at_rb ?_
                refine at_rt ?_
                refine at_rt ?_
                refine at_rb ?_
                refine at_rt ?_
                obtain rfl := Option.some.inj Z4
                exact at_post (T := T) rfl (.tmp rfl (.tmp rfl .nil)) (fun w o => ⟨(), rfl, own_to [0] rfl o⟩)
              · replace Z4 := if_f (of_decide_eq_false c15) Z4
                refine at_skip ?_
                refine at_then ?_
                refine at_region [0, 1, 2, 3, 4, 5, 6, 7, 8] rfl ?_
                iterate 2 refine at_s T rfl ?_
                refine at_v rfl (g_load T rfl rfl rfl rfl (in_var (j := 1) rfl rfl)) ?_
                refine at_s T rfl ?_
                obtain ⟨c16, Z4⟩ := chk_e Z4
                obtain ⟨q4, o4, e4⟩ := h_m_C.addr c16.1 c16.2
                refine at_v rfl (g_index T rfl rfl rfl rfl rfl e4 c16.1 c16.2) ?_
                refine at_v rfl (g_load T rfl rfl rfl rfl (in_elem1 (k := (Fl.int .u8)) (ro_of h_m_C (j := 0) rfl) e4 c16 0 rfl)) ?_
                iterate 3 refine at_s T rfl ?_
                refine at_end ?_
                refine at_sub [(1, (.slice a_l (List.length l) n_l)), (2, (.pointer (some ⟨b1, 0, none⟩))), (6, (.int .i64 (w64 (x4 + (w64 (rd m.C (rd l x5))))))), (17, (.slice a_l (List.length l) n_l)), (18, (.int .i64 (List.length l : Int))), (19, (.int .i64 x5))] ⟨rfl, rfl, rfl, rfl, rfl, rfl, trivial⟩ ?_
                refine at_nb ?_
                refine at_then ?_
                refine at_region [0, 1] rfl ?_
                iterate 2 refine at_s T rfl ?_
                refine at_end ?_
                refine at_sub [(1, (.slice a_l (List.length l) n_l)), (2, (.pointer (some ⟨b1, 0, none⟩))), (6, (.int .i64 (w64 (x4 + (w64 (rd m.C (rd l x5))))))), (17, (.slice a_l (List.length l) n_l)), (18, (.int .i64 (List.length l : Int))), (19, (.int .i64 (w64 (x5 + 1))))] ⟨rfl, rfl, rfl, rfl, rfl, rfl, trivial⟩ ?_
                refine at_then ?_
                exact at_roundL (k6, (w64 (x4 + (w64 (rd m.C (rd l x5))))), (w64 (x5 + 1))) [0, 0] Z4 (Nat.lt_succ_self _) ⟨rfl, rfl, rfl, rfl, rfl, rfl, trivial⟩ rfl
      · replace Z4 := if_f (of_decide_eq_false c5) Z4
        refine at_exit ?_
        refine at_xt ?_
        refine at_xt ?_
        refine at_xb ?_
        refine at_then ?_
        refine at_seq ?_
        refine at_region [0, 1, 2] rfl ?_
        iterate 3 refine at_s T rfl ?_
        refine at_end ?_
        refine at_to [(4, (.int .i64 x4)), (5, (.bool true))] [0] [F] ⟨rfl, rfl, trivial⟩ rfl ?_
        refine at_then ?_
        refine at_ret ?_
        obtain rfl := Option.some.inj Z4
        exact at_post (T := T) rfl (.tmp rfl (.tmp rfl .nil)) (fun w o => ⟨(), rfl, own_to [0] rfl o⟩)

/-! ### herdsman/trail.left: function 75 -/
def trail_left.l2 : Nat → (List api_Unit) → (Int × List Int) → ((List Int) × Int) → List Int → Int → Option (List Int)
  | 0, _, _, _, _, _ => none
  | k25 + 1, l, v16, v20, x23, x24 => if x24 < (List.length v16.2 : Int) then (if (0 ≤ x24 ∧ x24 < (List.length v16.2 : Int)) then (if (0 ≤ (rd v16.2 x24) ∧ (rd v16.2 x24) < (List.length l : Int)) then (if (0 ≤ (rd l (rd v16.2 x24)).Cell ∧ (rd l (rd v16.2 x24)).Cell < (List.length v20.1 : Int)) then (if (0 ≤ (rd v16.2 x24) ∧ (rd v16.2 x24) < (List.length x23 : Int)) then (trail_left.l2 k25 l v16 v20 (List.set x23 (Int.toNat (rd v16.2 x24)) (rd v20.1 ((rd l (rd v16.2 x24)).Cell))) (w64 (x24 + 1))) else none) else none) else none) else none) else (some x23)
def trail_left.l1 : Nat → api_Map → (List api_Unit) → List Int → List (Int × List Int) → Option ((List Int) × Bool)
  | 0, _, _, _, _ => none
  | k15 + 1, m, l, x13, x14 => rangeP x14 (some (x13, true)) (fun v16 => fun v17 => ((flat_Dist.f m v16.1).bind fun v20 => trail_left.l2 fuel l v16 v20 x13 0).bind fun x18 => trail_left.l1 k15 m l x18 v17)
def trail_left.l0 : Nat → api_Map → (List api_Unit) → (List (Int × (List Int))) → Int → Option ((List Int) × Bool)
  | 0, _, _, _, _ => none
  | k6 + 1, m, l, x4, x5 => if x5 < (List.length l : Int) then (if (0 ≤ x5 ∧ x5 < (List.length l : Int)) then (((where_Sector.f m.W m.H ((rd l x5).Cell)).bind fun v9 => if v9 < 0 then (some true) else ((where_Sector.f m.W m.H ((rd l x5).Goal)).bind fun v10 => some (decide (v10 < 0)))).bind fun x7 => if x7 = true then (some ([], false)) else (if (List.length (mval x4 ((rd l x5).Goal)) + 1 ≤ 1099511627776) then (trail_left.l0 k6 m l (mset x4 ((rd l x5).Goal) ((mval x4 ((rd l x5).Goal)) ++ [x5])) (w64 (x5 + 1))) else none)) else none) else (if (0 ≤ (List.length l : Int) ∧ (List.length l : Int) ≤ 1099511627776) then (trail_left.l1 fuel m l (List.replicate (Int.toNat (List.length l : Int)) (0 : Int)) x4) else none)
def trail_left.f (m : api_Map) (l : (List api_Unit)) : Option ((List Int) × Bool) := (atlas_May.f m).bind fun v1 => if (!v1) = true then (some ([], false)) else (trail_left.l0 fuel m l ([] : (List (Int × (List Int)))) 0)
def trail_left.R (r : ((List Int) × Bool)) (u : Value) (G : List Hp) : Prop := ∃ (a0 : Option Addr) (n0 : Nat) (H0 : Hp), SliceO (Fl.int .i64) 3 r.1 a0 n0 H0 ∧ u = (.tuple #[(.slice a0 (List.length r.1) n0), (.bool r.2)]) ∧ G = [H0]
set_option maxHeartbeats 4000000 in
theorem trail_left.c {a_m_C : Option Addr} {n_m_C : Nat} {a_l : Option Addr} {n_l : Nat} (m : api_Map) (l : (List api_Unit)) (r : ((List Int) × Bool)) (F : Hp) (H : trail_left.f m l = some r) (h_m_C : SliceR (Fl.int .u8) m.C a_m_C F) (c_m_C : List.length m.C ≤ n_m_C) (h_l : SliceR k_api_Unit l a_l F) (c_l : List.length l ≤ n_l) :
    CallsL Try.prog 75 [(.agg #[(.int .i64 m.W), (.int .i64 m.H), (.slice a_m_C (List.length m.C) n_m_C)]), (.slice a_l (List.length l) n_l)] [F] (fun qp : { qp : Value × List Hp // trail_left.R r qp.1 qp.2 } => qp.1.1) (fun qp => (qp.1.2 ++ []) ++ [F]) := by
  unfold trail_left.f at H
  refine calls_atL [(0, (.agg #[(.int .i64 m.W), (.int .i64 m.H), (.slice a_m_C (List.length m.C) n_m_C)])), (1, (.slice a_l (List.length l) n_l))] Try.func75 rfl rfl ⟨rfl, rfl, trivial⟩ (fun W => ?_)
  refine at_seq ?_
  refine at_region [0, 1, 2] rfl ?_
  refine at_cons (at_bx T [(.int .i64 m.W), (.int .i64 m.H), (.slice a_m_C (List.length m.C) n_m_C)] rfl rfl rfl rfl (fun b1 => ?_))
  iterate 2 refine at_s T rfl ?_
  refine at_end ?_
  refine at_sub [(1, (.slice a_l (List.length l) n_l)), (2, (.pointer (some ⟨b1, 0, none⟩)))] ⟨rfl, rfl, trivial⟩ ?_
  refine at_then ?_
  refine at_seq ?_
  refine at_seq ?_
  refine at_region [0, 1, 2] rfl ?_
  refine at_v rfl (g_loadA T (cs := [(.int .i64 m.W), (.int .i64 m.H), (.slice a_m_C (List.length m.C) n_m_C)]) rfl rfl rfl rfl rfl rfl (in_varA (j := 1) rfl rfl)) ?_
  obtain ⟨v1, V1, H⟩ := bind_e H
  refine at_cons (at_c (B := fun _ => []) [] rfl rfl rfl rfl has49 rfl rfl (atlas_May.c m v1 _ V1 (ro_of h_m_C (j := 0) rfl) c_m_C) (fun _ => ?_))
  refine at_s T rfl ?_
  refine at_end ?_
  refine at_sub [(1, (.slice a_l (List.length l) n_l)), (2, (.pointer (some ⟨b1, 0, none⟩))), (18, (.bool (!v1)))] ⟨rfl, rfl, rfl, trivial⟩ ?_
  refine at_then ?_
  refine at_cond rfl (fun c2 => ?_) (fun c2 => ?_)
  · replace H := if_t c2 H
    refine at_seq ?_
    refine at_region [0, 1] rfl ?_
    iterate 2 refine at_s T rfl ?_
    refine at_end ?_
    refine at_to [(4, (.slice none 0 0)), (5, (.bool false))] [0] [F] ⟨rfl, rfl, trivial⟩ rfl ?_
    refine at_then ?_
    refine at_ret ?_
    refine at_rt ?_
    obtain rfl := Option.some.inj H
    refine at_addnil ?_
    exact at_post (T := T) rfl (.tmp rfl (.tmp rfl .nil)) (fun w o => ⟨⟨(_, _), ⟨none, 0, [], SliceO.nil, rfl, rfl⟩⟩, rfl, own_to [1, 0] rfl o⟩)
  · replace H := if_f (bf c2) H
    refine at_skip ?_
    refine at_then ?_
    refine at_seq ?_
    refine at_region [0, 1] rfl ?_
    refine at_cons (at_mm T (Ky.int .i64 u3) hdv rfl rfl rfl trivial (fun a3 H3 s3 => ?_))
    refine at_s T rfl ?_
    refine at_end ?_
    refine at_sub [(1, (.slice a_l (List.length l) n_l)), (2, (.pointer (some ⟨b1, 0, none⟩))), (6, (.map (some a3)))] ⟨rfl, rfl, rfl, trivial⟩ ?_
    refine at_then ?_
    refine at_seq ?_
    refine at_seq ?_
    refine at_region [0, 1, 2] rfl ?_
    iterate 3 refine at_s T rfl ?_
    refine at_end ?_
    refine at_sub [(1, (.slice a_l (List.length l) n_l)), (2, (.pointer (some ⟨b1, 0, none⟩))), (6, (.map (some a3))), (20, (.slice a_l (List.length l) n_l)), (21, (.int .i64 (List.length l : Int))), (22, (.int .i64 0))] ⟨rfl, rfl, rfl, rfl, rfl, rfl, trivial⟩ ?_
    refine at_then ?_
    refine at_block ?_
    refine at_loopL (σ := Nat × (List (Int × (List Int))) × Int × Nat × Hp) (fun ⟨k6, x4, x5, a5, H5⟩ => trail_left.l0 k6 m l x4 x5 = some r ∧ MsO (Fl.int .i64) 3 (Ky.int .i64 u3) x4 a5 H5) (fun ⟨k6, x4, x5, a5, H5⟩ => [(1, (.slice a_l (List.length l) n_l)), (2, (.pointer (some ⟨b1, 0, none⟩))), (6, (.map (some a5))), (20, (.slice a_l (List.length l) n_l)), (21, (.int .i64 (List.length l : Int))), (22, (.int .i64 x5))]) (fun ⟨k6, x4, x5, a5, H5⟩ => [F, [(b1, Obj.cells #[(.int .i64 m.W), (.int .i64 m.H), (.slice a_m_C (List.length m.C) n_m_C)] 24 (0, 0))], H5]) (fun s => s.1) (fuel, ([] : (List (Int × (List Int)))), 0, a3, H3) [0, 0, 0] ⟨H, (mso_nil (k := (Fl.int .i64)) (E := 3) s3)⟩ ⟨rfl, rfl, rfl, rfl, rfl, rfl, trivial⟩ rfl ?_
    rintro ⟨k6, x4, x5, a5, H5⟩ ⟨Z3, s5⟩
    replace Z3 : trail_left.l0 k6 m l x4 x5 = some r := Z3
    rcases k6 with _ | k6
    · rw [trail_left.l0] at Z3; cases Z3
    · rw [trail_left.l0] at Z3
      refine at_seq ?_
      refine at_region [0] rfl ?_
      refine at_s T rfl ?_
      refine at_end ?_
      refine at_sub [(1, (.slice a_l (List.length l) n_l)), (2, (.pointer (some ⟨b1, 0, none⟩))), (6, (.map (some a5))), (20, (.slice a_l (List.length l) n_l)), (21, (.int .i64 (List.length l : Int))), (22, (.int .i64 x5)), (23, (.bool (decide (x5 < (List.length l : Int)))))] ⟨rfl, rfl, rfl, rfl, rfl, rfl, rfl, trivial⟩ ?_
      refine at_then ?_
      refine at_seq ?_
      refine at_cond rfl (fun c4 => ?_) (fun c4 => ?_)
      · replace Z3 := if_t (of_decide_eq_true c4) Z3
        refine at_skip ?_
        refine at_then ?_
        refine at_seq ?_
        refine at_block ?_
        refine at_seq ?_
        refine at_region [0, 1, 2, 3, 4, 5] rfl ?_
        refine at_s T rfl ?_
        obtain ⟨c5, Z3⟩ := chk_e Z3
        obtain ⟨q6, o6, e6⟩ := h_l.addr c5.1 c5.2
        refine at_v rfl (g_index T rfl rfl rfl rfl rfl e6 c5.1 c5.2) ?_
        refine at_v rfl (g_loadA T (cs := [(.int .i64 (rd l x5).Id), (.int .i64 (rd l x5).Cell), (.int .i64 (rd l x5).Goal)]) rfl rfl rfl rfl rfl rfl (in_elemA (k := k_api_Unit) (ro_of h_l (j := 0) rfl) e6 c5 rfl)) ?_
        refine at_cons (at_al T [(.int .i64 0), (.int .i64 0), (.int .i64 0)] rfl rfl rfl rfl (fun b7 => ?_))
        refine at_s T rfl ?_
        refine at_cons (at_st T 3 [(.int .i64 (rd l x5).Id), (.int .i64 (rd l x5).Cell), (.int .i64 (rd l x5).Goal)] rfl rfl rfl rfl rfl rfl rfl rfl rfl rfl ?_)
        refine at_end ?_
        refine at_sub [(1, (.slice a_l (List.length l) n_l)), (2, (.pointer (some ⟨b1, 0, none⟩))), (6, (.map (some a5))), (7, (.int .i64 x5)), (8, (.pointer (some ⟨b7, 0, none⟩))), (20, (.slice a_l (List.length l) n_l)), (21, (.int .i64 (List.length l : Int))), (22, (.int .i64 x5))] ⟨rfl, rfl, rfl, rfl, rfl, rfl, rfl, rfl, trivial⟩ ?_
        refine at_then ?_
        refine at_seq ?_
        obtain ⟨z8, Z6, Z3⟩ := bind_e Z3
        refine at_seq_mid (σ := Bool) (fun x7 => x7 = z8) (fun x7 => [(1, (.slice a_l (List.length l) n_l)), (2, (.pointer (some ⟨b1, 0, none⟩))), (6, (.map (some a5))), (7, (.int .i64 x5)), (8, (.pointer (some ⟨b7, 0, none⟩))), (20, (.slice a_l (List.length l) n_l)), (21, (.int .i64 (List.length l : Int))), (22, (.int .i64 x5)), (44, (.bool x7))]) (fun x7 => [F, [(b1, Obj.cells #[(.int .i64 m.W), (.int .i64 m.H), (.slice a_m_C (List.length m.C) n_m_C)] 24 (0, 0))], H5, [(b7, Obj.cells #[(.int .i64 (rd l x5).Id), (.int .i64 (rd l x5).Cell), (.int .i64 (rd l x5).Goal)] 72 (0, 0))]]) ?_ ?_
        · refine at_region [0, 1, 2, 3, 4, 5, 6, 7, 8, 9, 10, 11, 12, 13, 14, 15, 16, 17] rfl ?_
          refine at_s T rfl ?_
          refine at_v rfl (g_load T rfl rfl rfl rfl (in_var (j := 1) rfl rfl)) ?_
          refine at_s T rfl ?_
          refine at_v rfl (g_load T rfl rfl rfl rfl (in_var (j := 1) rfl rfl)) ?_
          refine at_s T rfl ?_
          refine at_v rfl (g_load T rfl rfl rfl rfl (in_var (j := 3) rfl rfl)) ?_
          obtain ⟨v9, V7, Z6⟩ := bind_e Z6
          refine at_cons (at_c (B := fun _ => []) [] rfl rfl rfl rfl has31 rfl rfl (where_Sector.c m.W m.H ((rd l x5).Cell) v9 _ V7) (fun _ => ?_))
          iterate 2 refine at_s T rfl ?_
          refine at_case (s := 35) rfl (fun c8 => ?_) (fun c8 => ?_)
          · replace Z6 := if_t (of_decide_eq_true c8) Z6
            iterate 9 refine at_s T rfl ?_
            refine at_end ?_
            refine at_sub [(1, (.slice a_l (List.length l) n_l)), (2, (.pointer (some ⟨b1, 0, none⟩))), (6, (.map (some a5))), (7, (.int .i64 x5)), (8, (.pointer (some ⟨b7, 0, none⟩))), (20, (.slice a_l (List.length l) n_l)), (21, (.int .i64 (List.length l : Int))), (22, (.int .i64 x5)), (44, (.bool true))] ⟨rfl, rfl, rfl, rfl, rfl, rfl, rfl, rfl, rfl, trivial⟩ ?_
            refine at_then ?_
            obtain rfl := Option.some.inj Z6
            exact at_mid true [0, 0, 0, 0] rfl ⟨rfl, rfl, rfl, rfl, rfl, rfl, rfl, rfl, rfl, trivial⟩ rfl
          · replace Z6 := if_f (of_decide_eq_false c8) Z6
            refine at_s T rfl ?_
            refine at_v rfl (g_load T rfl rfl rfl rfl (in_var (j := 1) rfl rfl)) ?_
            refine at_s T rfl ?_
            refine at_v rfl (g_load T rfl rfl rfl rfl (in_var (j := 1) rfl rfl)) ?_
            refine at_s T rfl ?_
            refine at_v rfl (g_load T rfl rfl rfl rfl (in_var (j := 3) rfl rfl)) ?_
            obtain ⟨v10, V9, Z6⟩ := bind_e Z6
            refine at_cons (at_c (B := fun _ => []) [] rfl rfl rfl rfl has31 rfl rfl (where_Sector.c m.W m.H ((rd l x5).Goal) v10 _ V9) (fun _ => ?_))
            iterate 2 refine at_s T rfl ?_
            refine at_end ?_
            refine at_sub [(1, (.slice a_l (List.length l) n_l)), (2, (.pointer (some ⟨b1, 0, none⟩))), (6, (.map (some a5))), (7, (.int .i64 x5)), (8, (.pointer (some ⟨b7, 0, none⟩))), (20, (.slice a_l (List.length l) n_l)), (21, (.int .i64 (List.length l : Int))), (22, (.int .i64 x5)), (44, (.bool (decide (v10 < 0))))] ⟨rfl, rfl, rfl, rfl, rfl, rfl, rfl, rfl, rfl, trivial⟩ ?_
            refine at_then ?_
            obtain rfl := Option.some.inj Z6
            exact at_mid (decide (v10 < 0)) [0, 0, 0, 0] rfl ⟨rfl, rfl, rfl, rfl, rfl, rfl, rfl, rfl, rfl, trivial⟩ rfl
        · rintro x7 rfl
          refine at_cond rfl (fun c10 => ?_) (fun c10 => ?_)
          · replace Z3 := if_t c10 Z3
            refine at_seq ?_
            refine at_region [0, 1] rfl ?_
            iterate 2 refine at_s T rfl ?_
            refine at_end ?_
            refine at_to [(4, (.slice none 0 0)), (5, (.bool false))] [0] [F] ⟨rfl, rfl, trivial⟩ rfl ?_
            refine at_then ?_
            refine at_ret ?_
            refine at_rt ?_
            refine at_rb ?_
            refine at_rt ?_
            refine at_rt ?_
            refine at_rb ?_
            refine at_rt ?_
            obtain rfl := Option.some.inj Z3
            refine at_addnil ?_
            exact at_post (T := T) rfl (.tmp rfl (.tmp rfl .nil)) (fun w o => ⟨⟨(_, _), ⟨none, 0, [], SliceO.nil, rfl, rfl⟩⟩, rfl, own_to [1, 0] rfl o⟩)
          · replace Z3 := if_f (bf c10) Z3
            refine at_skip ?_
            refine at_then ?_
            refine at_region_m [[], [], [1], [], [], [4], [3, 4, 5], [], [7], [3, 4, 5, 6, 7, 8], [0, 1, 2, 3, 4, 5, 6, 7, 8, 9]] [10] [F, [(b1, Obj.cells #[(.int .i64 m.W), (.int .i64 m.H), (.slice a_m_C (List.length m.C) n_m_C)] 24 (0, 0))], [(b7, Obj.cells #[(.int .i64 (rd l x5).Id), (.int .i64 (rd l x5).Cell), (.int .i64 (rd l x5).Goal)] 72 (0, 0))]] mix (by kernel_rfl) (by repeat first | exact pf_body | refine pf_then ?_ | refine pf_block ?_) (fun hg pf => ?_)
            refine atm_s T 0 hg pf (by kernel_rfl) (still_o [0, 0, 1] rfl) rfl ?_
            refine atm_s T 1 hg pf (by kernel_rfl) (still_o [0, 0, 1] rfl) rfl ?_
            refine atm_v 2 hg pf (by kernel_rfl) (still_o [0, 0, 1] rfl) rfl rfl (g_load T rfl rfl rfl rfl (in_var (j := 2) rfl rfl)) ?_
            refine atm_s T 3 hg pf (by kernel_rfl) (still_o [0, 0, 1] rfl) rfl ?_
            refine atm_s T 4 hg pf (by kernel_rfl) (still_o [0, 0, 1] rfl) rfl ?_
            refine atm_v 5 hg pf (by kernel_rfl) (still_o [0, 0, 1] rfl) rfl rfl (g_load T rfl rfl rfl rfl (in_var (j := 2) rfl rfl)) ?_
            refine atm_s T 7 hg pf (by kernel_rfl) (still_o [0, 0, 1] rfl) rfl ?_
            refine atm_two 6 8 (by kernel_rfl) ?_ ?_
            · refine at_msopen (j := 2) ((rd l x5).Goal) rfl s5 (fun a9 n9 H9 H10 s9 s10 => ?_)
              refine at_g rfl (g_lookms (kx := (rd l x5).Goal) (v := (a9, List.length (mval x4 ((rd l x5).Goal)), n9)) T (Ky.int .i64 u3) rfl rfl rfl rfl rfl (in_msh (j := 2) rfl s10)) ?_
              refine atm_next (still_o [0, 0, 1] rfl) ?_
              refine atm_one 8 (by kernel_rfl) ?_
              refine at_bs (k := (Fl.int .i64)) T [x5] rfl rfl rfl rfl rfl rfl rfl rfl rfl (fun a11 H11 s11 => ?_)
              refine atm_next (still_o [0, 0, 1] rfl) ?_
              refine atm_one 9 (by kernel_rfl) ?_
              obtain ⟨c11, Z3⟩ := chk_e Z3
              refine at_ap (k := (Fl.int .i64)) (xs := (mval x4 ((rd l x5).Goal))) T (g := 4) rfl rfl rfl rfl rfl rfl rfl rfl rfl rfl s9 (own_of s11 (j := 5) rfl) c11 rfl (fun a12 n12 H12 s12 => ?_)
              refine atm_next (still_o [0, 0, 1] rfl) ?_
              refine atm_one 10 (by kernel_rfl) ?_
              refine at_msput (q := 4) (kx := (rd l x5).Goal) (ys := ((mval x4 ((rd l x5).Goal)) ++ [x5])) T (Ky.int .i64 u3) 2 rfl rfl rfl rfl rfl rfl rfl s10 (by decide) rfl s12 (fun H13 s13 => ?_)
              refine atm_next (still_l (by kernel_rfl)) ?_
              refine atm_end (by kernel_rfl) ?_
              refine at_to [(1, (.slice a_l (List.length l) n_l)), (2, (.pointer (some ⟨b1, 0, none⟩))), (6, (.map (some a5))), (20, (.slice a_l (List.length l) n_l)), (21, (.int .i64 (List.length l : Int))), (22, (.int .i64 x5))] [0, 0, 0] [F, [(b1, Obj.cells #[(.int .i64 m.W), (.int .i64 m.H), (.slice a_m_C (List.length m.C) n_m_C)] 24 (0, 0))], H13] ⟨rfl, rfl, rfl, rfl, rfl, rfl, trivial⟩ rfl ?_
              refine at_nb ?_
              refine at_then ?_
              refine at_region [0, 1] rfl ?_
              iterate 2 refine at_s T rfl ?_
              refine at_end ?_
              refine at_sub [(1, (.slice a_l (List.length l) n_l)), (2, (.pointer (some ⟨b1, 0, none⟩))), (6, (.map (some a5))), (20, (.slice a_l (List.length l) n_l)), (21, (.int .i64 (List.length l : Int))), (22, (.int .i64 (w64 (x5 + 1))))] ⟨rfl, rfl, rfl, rfl, rfl, rfl, trivial⟩ ?_
              refine at_then ?_
              exact at_roundL (k6, (mset x4 ((rd l x5).Goal) ((mval x4 ((rd l x5).Goal)) ++ [x5])), (w64 (x5 + 1)), a5, H13) [0, 0, 0] ⟨Z3, s13⟩ (Nat.lt_succ_self _) ⟨rfl, rfl, rfl, rfl, rfl, rfl, trivial⟩ rfl
            · refine at_bs (k := (Fl.int .i64)) T [x5] rfl rfl rfl rfl rfl rfl rfl rfl rfl (fun a14 H14 s14 => ?_)
              refine atm_next (still_o [0, 0, 1] rfl) ?_
              refine atm_one 6 (by kernel_rfl) ?_
              refine at_msopen (j := 2) ((rd l x5).Goal) rfl s5 (fun a15 n15 H15 H16 s15 s16 => ?_)
              refine at_g rfl (g_lookms (kx := (rd l x5).Goal) (v := (a15, List.length (mval x4 ((rd l x5).Goal)), n15)) T (Ky.int .i64 u3) rfl rfl rfl rfl rfl (in_msh (j := 2) rfl s16)) ?_
              refine atm_next (still_o [0, 0, 1] rfl) ?_
              refine atm_one 9 (by kernel_rfl) ?_
              obtain ⟨c12, Z3⟩ := chk_e Z3
              refine at_ap (k := (Fl.int .i64)) (xs := (mval x4 ((rd l x5).Goal))) T (g := 5) rfl rfl rfl rfl rfl rfl rfl rfl rfl rfl s15 (own_of s14 (j := 4) rfl) c12 rfl (fun a17 n17 H17 s17 => ?_)
              refine atm_next (still_o [0, 0, 1] rfl) ?_
              refine atm_one 10 (by kernel_rfl) ?_
              refine at_msput (q := 5) (kx := (rd l x5).Goal) (ys := ((mval x4 ((rd l x5).Goal)) ++ [x5])) T (Ky.int .i64 u3) 2 rfl rfl rfl rfl rfl rfl rfl s16 (by decide) rfl s17 (fun H18 s18 => ?_)
              refine atm_next (still_l (by kernel_rfl)) ?_
              refine atm_end (by kernel_rfl) ?_
              refine at_to [(1, (.slice a_l (List.length l) n_l)), (2, (.pointer (some ⟨b1, 0, none⟩))), (6, (.map (some a5))), (20, (.slice a_l (List.length l) n_l)), (21, (.int .i64 (List.length l : Int))), (22, (.int .i64 x5))] [0, 0, 0] [F, [(b1, Obj.cells #[(.int .i64 m.W), (.int .i64 m.H), (.slice a_m_C (List.length m.C) n_m_C)] 24 (0, 0))], H18] ⟨rfl, rfl, rfl, rfl, rfl, rfl, trivial⟩ rfl ?_
              refine at_nb ?_
              refine at_then ?_
              refine at_region [0, 1] rfl ?_
              iterate 2 refine at_s T rfl ?_
              refine at_end ?_
              refine at_sub [(1, (.slice a_l (List.length l) n_l)), (2, (.pointer (some ⟨b1, 0, none⟩))), (6, (.map (some a5))), (20, (.slice a_l (List.length l) n_l)), (21, (.int .i64 (List.length l : Int))), (22, (.int .i64 (w64 (x5 + 1))))] ⟨rfl, rfl, rfl, rfl, rfl, rfl, trivial⟩ ?_
              refine at_then ?_
              exact at_roundL (k6, (mset x4 ((rd l x5).Goal) ((mval x4 ((rd l x5).Goal)) ++ [x5])), (w64 (x5 + 1)), a5, H18) [0, 0, 0] ⟨Z3, s18⟩ (Nat.lt_succ_self _) ⟨rfl, rfl, rfl, rfl, rfl, rfl, trivial⟩ rfl
      · replace Z3 := if_f (of_decide_eq_false c4) Z3
        refine at_exit ?_
        refine at_xt ?_
        refine at_xt ?_
        refine at_xb ?_
        refine at_then ?_
        refine at_seq ?_
        refine at_region [0, 1, 2, 3] rfl ?_
        iterate 2 refine at_s T rfl ?_
        obtain ⟨c13, Z3⟩ := chk_e Z3
        refine at_cons (at_mk (k := (Fl.int .i64)) T (0 : Int) rfl rfl rfl rfl rfl rfl rfl rfl c13 rfl (fun a19 n19 H19 s19 => ?_))
        refine at_s T rfl ?_
        refine at_end ?_
        refine at_sub [(1, (.slice a_l (List.length l) n_l)), (2, (.pointer (some ⟨b1, 0, none⟩))), (6, (.map (some a5))), (9, (.slice a19 (List.length (List.replicate (Int.toNat (List.length l : Int)) (0 : Int))) n19))] ⟨rfl, rfl, rfl, rfl, trivial⟩ ?_
        refine at_then ?_
        refine at_seq ?_
        refine at_seq ?_
        refine at_region [0, 1] rfl ?_
        refine at_s T rfl ?_
        refine at_cons (at_range T (Ky.int .i64 u3) 2 rfl rfl rfl rfl rfl s5 (fun b20 H20 s20 => ?_))
        refine at_end ?_
        refine at_sub [(1, (.slice a_l (List.length l) n_l)), (2, (.pointer (some ⟨b1, 0, none⟩))), (9, (.slice a19 (List.length (List.replicate (Int.toNat (List.length l : Int)) (0 : Int))) n19)), (60, (.pointer (some ⟨b20, 0, none⟩)))] ⟨rfl, rfl, rfl, rfl, trivial⟩ ?_
        refine at_then ?_
        refine at_block ?_
        refine at_loopL (σ := Nat × List Int × List (Int × List Int) × Option Addr × Nat × Hp × Hp × Option ((Int × List Int) × Option Addr × Nat)) (fun ⟨k15, x13, x14, a23, n23, H23, H24, q24⟩ => trail_left.l1 k15 m l x13 x14 = some r ∧ SliceO (Fl.int .i64) 3 x13 a23 n23 H23 ∧ RgO (Fl.int .i64) 3 (Ky.int .i64 u3) x14 q24 a5 b20 H24) (fun ⟨k15, x13, x14, a23, n23, H23, H24, q24⟩ => [(1, (.slice a_l (List.length l) n_l)), (2, (.pointer (some ⟨b1, 0, none⟩))), (9, (.slice a23 (List.length x13) n23)), (60, (.pointer (some ⟨b20, 0, none⟩)))]) (fun ⟨k15, x13, x14, a23, n23, H23, H24, q24⟩ => [F, [(b1, Obj.cells #[(.int .i64 m.W), (.int .i64 m.H), (.slice a_m_C (List.length m.C) n_m_C)] 24 (0, 0))], H23, H24]) (fun s => s.1) (fuel, (List.replicate (Int.toNat (List.length l : Int)) (0 : Int)), x4, a19, n19, H19, H20, none) [0, 0, 1, 0] ⟨Z3, s19, s20⟩ ⟨rfl, rfl, rfl, rfl, trivial⟩ rfl ?_
        rintro ⟨k15, x13, x14, a23, n23, H23, H24, q24⟩ ⟨Z14, s23, s24⟩
        replace Z14 : trail_left.l1 k15 m l x13 x14 = some r := Z14
        rcases k15 with _ | k15
        · rw [trail_left.l1] at Z14; cases Z14
        · rw [trail_left.l1] at Z14
          refine at_seq ?_
          refine at_region [0, 1] rfl ?_
          refine at_cons (at_next T (Ky.int .i64 u3) 3 rfl rfl rfl rfl s24 (fun c15 => ?_) (fun v16 v17 a25 n25 H25 p25 r25 m25 s25 => ?_))
          · replace Z14 := rangeP_nil c15 Z14
            refine at_s T rfl ?_
            refine at_end ?_
            refine at_sub [(1, (.slice a_l (List.length l) n_l)), (2, (.pointer (some ⟨b1, 0, none⟩))), (9, (.slice a23 (List.length x13) n23)), (60, (.pointer (some ⟨b20, 0, none⟩))), (62, (.bool false))] ⟨rfl, rfl, rfl, rfl, rfl, trivial⟩ ?_
            refine at_then ?_
            refine at_seq ?_
            refine at_cond_f rfl ?_
            refine at_exit ?_
            refine at_xt ?_
            refine at_xt ?_
            refine at_xb ?_
            refine at_then ?_
            refine at_seq ?_
            refine at_region [0, 1, 2] rfl ?_
            iterate 3 refine at_s T rfl ?_
            refine at_end ?_
            refine at_to [(4, (.slice a23 (List.length x13) n23)), (5, (.bool true))] [0, 1] [F, H23] ⟨rfl, rfl, trivial⟩ rfl ?_
            refine at_then ?_
            refine at_ret ?_
            obtain rfl := Option.some.inj Z14
            exact at_post (T := T) rfl (.tmp rfl (.tmp rfl .nil)) (fun w o => ⟨⟨(_, _), ⟨a23, n23, H23, s23, rfl, rfl⟩⟩, rfl, own_to [1, 0] rfl o⟩)
          · replace Z14 := rangeP_pick p25 Z14
            refine at_s T rfl ?_
            refine at_end ?_
            refine at_sub [(1, (.slice a_l (List.length l) n_l)), (2, (.pointer (some ⟨b1, 0, none⟩))), (9, (.slice a23 (List.length x13) n23)), (60, (.pointer (some ⟨b20, 0, none⟩))), (62, (.bool true))] ⟨rfl, rfl, rfl, rfl, rfl, trivial⟩ ?_
            refine at_then ?_
            refine at_seq ?_
            refine at_cond_t rfl ?_
            refine at_skip ?_
            refine at_then ?_
            obtain ⟨z19, Z16, Z14⟩ := bind_e Z14
            refine at_any_mid (σ := List Int × Option Addr × Nat × Hp) (fun ⟨x18, a26, n26, H26⟩ => x18 = z19 ∧ SliceO (Fl.int .i64) 3 x18 a26 n26 H26) (fun ⟨x18, a26, n26, H26⟩ => [(1, (.slice a_l (List.length l) n_l)), (2, (.pointer (some ⟨b1, 0, none⟩))), (9, (.slice a26 (List.length x18) n26)), (60, (.pointer (some ⟨b20, 0, none⟩)))]) (fun ⟨x18, a26, n26, H26⟩ => [F, [(b1, Obj.cells #[(.int .i64 m.W), (.int .i64 m.H), (.slice a_m_C (List.length m.C) n_m_C)] 24 (0, 0))], H26, H25]) ?_ ?_
            · refine at_block ?_
              refine at_seq ?_
              refine at_region [0, 1, 2, 3, 4] rfl ?_
              refine at_v rfl (g_entry (j := 3) T (Ky.int .i64 u3) rfl rfl rfl s25) ?_
              iterate 4 refine at_s T rfl ?_
              refine at_end ?_
              refine at_sub [(1, (.slice a_l (List.length l) n_l)), (2, (.pointer (some ⟨b1, 0, none⟩))), (9, (.slice a23 (List.length x13) n23)), (10, (.int .i64 v16.1)), (11, (.slice a25 (List.length v16.2) n25)), (60, (.pointer (some ⟨b20, 0, none⟩)))] ⟨rfl, rfl, rfl, rfl, rfl, rfl, trivial⟩ ?_
              refine at_then ?_
              refine at_seq ?_
              refine at_region [0, 1, 2, 3, 4, 5, 6, 7] rfl ?_
              refine at_v rfl (g_loadA T (cs := [(.int .i64 m.W), (.int .i64 m.H), (.slice a_m_C (List.length m.C) n_m_C)]) rfl rfl rfl rfl rfl rfl (in_varA (j := 1) rfl rfl)) ?_
              refine at_s T rfl ?_
              obtain ⟨v20, V17, Z16⟩ := bind_e Z16
              refine at_cons (at_cR (flat_Dist.R v20) [] [] rfl rfl rfl rfl has86 rfl rfl (flat_Dist.c m v16.1 v20 _ V17 (ro_of h_m_C (j := 0) rfl) c_m_C) ?_)
              rintro _ _ ⟨a27, n27, H27, s27, rfl, rfl⟩
              iterate 5 refine at_s T rfl ?_
              refine at_end ?_
              refine at_sub [(1, (.slice a_l (List.length l) n_l)), (2, (.pointer (some ⟨b1, 0, none⟩))), (9, (.slice a23 (List.length x13) n23)), (11, (.slice a25 (List.length v16.2) n25)), (12, (.slice a27 (List.length v20.1) n27)), (60, (.pointer (some ⟨b20, 0, none⟩)))] ⟨rfl, rfl, rfl, rfl, rfl, rfl, trivial⟩ ?_
              refine at_then ?_
              refine at_seq ?_
              refine at_region [0, 1, 2] rfl ?_
              iterate 3 refine at_s T rfl ?_
              refine at_end ?_
              refine at_sub [(1, (.slice a_l (List.length l) n_l)), (2, (.pointer (some ⟨b1, 0, none⟩))), (9, (.slice a23 (List.length x13) n23)), (12, (.slice a27 (List.length v20.1) n27)), (60, (.pointer (some ⟨b20, 0, none⟩))), (72, (.slice a25 (List.length v16.2) n25)), (73, (.int .i64 (List.length v16.2 : Int))), (74, (.int .i64 0))] ⟨rfl, rfl, rfl, rfl, rfl, rfl, rfl, rfl, trivial⟩ ?_
              refine at_then ?_
              refine at_block ?_
              refine at_loopL (σ := Nat × List Int × Int × Option Addr × Nat × Hp) (fun ⟨k25, x23, x24, a29, n29, H29⟩ => trail_left.l2 k25 l v16 v20 x23 x24 = some z19 ∧ SliceO (Fl.int .i64) 3 x23 a29 n29 H29) (fun ⟨k25, x23, x24, a29, n29, H29⟩ => [(1, (.slice a_l (List.length l) n_l)), (2, (.pointer (some ⟨b1, 0, none⟩))), (9, (.slice a29 (List.length x23) n29)), (12, (.slice a27 (List.length v20.1) n27)), (60, (.pointer (some ⟨b20, 0, none⟩))), (72, (.slice a25 (List.length v16.2) n25)), (73, (.int .i64 (List.length v16.2 : Int))), (74, (.int .i64 x24))]) (fun ⟨k25, x23, x24, a29, n29, H29⟩ => [F, [(b1, Obj.cells #[(.int .i64 m.W), (.int .i64 m.H), (.slice a_m_C (List.length m.C) n_m_C)] 24 (0, 0))], H29, H27, H25]) (fun s => s.1) (fuel, x13, 0, a23, n23, H23) [0, 0, 0, 1, 0] ⟨Z16, s23⟩ ⟨rfl, rfl, rfl, rfl, rfl, rfl, rfl, rfl, trivial⟩ rfl ?_
              rintro ⟨k25, x23, x24, a29, n29, H29⟩ ⟨Z18, s29⟩
              replace Z18 : trail_left.l2 k25 l v16 v20 x23 x24 = some z19 := Z18
              rcases k25 with _ | k25
              · rw [trail_left.l2] at Z18; cases Z18
              · rw [trail_left.l2] at Z18
                refine at_seq ?_
                refine at_region [0] rfl ?_
                refine at_s T rfl ?_
                refine at_end ?_
                refine at_sub [(1, (.slice a_l (List.length l) n_l)), (2, (.pointer (some ⟨b1, 0, none⟩))), (9, (.slice a29 (List.length x23) n29)), (12, (.slice a27 (List.length v20.1) n27)), (60, (.pointer (some ⟨b20, 0, none⟩))), (72, (.slice a25 (List.length v16.2) n25)), (73, (.int .i64 (List.length v16.2 : Int))), (74, (.int .i64 x24)), (75, (.bool (decide (x24 < (List.length v16.2 : Int)))))] ⟨rfl, rfl, rfl, rfl, rfl, rfl, rfl, rfl, rfl, trivial⟩ ?_
                refine at_then ?_
                refine at_seq ?_
                refine at_cond rfl (fun c19 => ?_) (fun c19 => ?_)
                · replace Z18 := if_t (of_decide_eq_true c19) Z18
                  refine at_skip ?_
                  refine at_then ?_
                  refine at_seq ?_
                  refine at_block ?_
                  refine at_seq ?_
                  refine at_region [0, 1, 2] rfl ?_
                  obtain ⟨c20, Z18⟩ := chk_e Z18
                  obtain ⟨q30, o30, e30⟩ := r25.addr c20.1 c20.2
                  refine at_v rfl (g_index T rfl rfl rfl rfl rfl e30 c20.1 c20.2) ?_
                  refine at_v rfl (g_load T rfl rfl rfl rfl (in_elem1 (k := (Fl.int .i64)) (ro_of r25 (j := 4) rfl) e30 c20 0 rfl)) ?_
                  refine at_s T rfl ?_
                  refine at_end ?_
                  refine at_sub [(1, (.slice a_l (List.length l) n_l)), (2, (.pointer (some ⟨b1, 0, none⟩))), (9, (.slice a29 (List.length x23) n29)), (12, (.slice a27 (List.length v20.1) n27)), (15, (.int .i64 (rd v16.2 x24))), (60, (.pointer (some ⟨b20, 0, none⟩))), (72, (.slice a25 (List.length v16.2) n25)), (73, (.int .i64 (List.length v16.2 : Int))), (74, (.int .i64 x24))] ⟨rfl, rfl, rfl, rfl, rfl, rfl, rfl, rfl, rfl, trivial⟩ ?_
                  refine at_then ?_
                  refine at_region [0, 1, 2, 3, 4, 5, 6, 7, 8, 9, 10, 11] rfl ?_
                  iterate 5 refine at_s T rfl ?_
                  obtain ⟨c21, Z18⟩ := chk_e Z18
                  obtain ⟨q31, o31, e31⟩ := h_l.addr c21.1 c21.2
                  refine at_v rfl (g_index T rfl rfl rfl rfl rfl e31 c21.1 c21.2) ?_
                  refine at_s T rfl ?_
                  refine at_v rfl (g_load T rfl rfl rfl rfl (in_elem1 (k := k_api_Unit) (ro_of h_l (j := 0) rfl) e31 c21 1 rfl)) ?_
                  obtain ⟨c22, Z18⟩ := chk_e Z18
                  obtain ⟨q32, o32, e32⟩ := s27.r.addr c22.1 c22.2
                  refine at_v rfl (g_index T rfl rfl rfl rfl rfl e32 c22.1 c22.2) ?_
                  refine at_v rfl (g_load T rfl rfl rfl rfl (in_elem1 (k := (Fl.int .i64)) (own_of s27 (j := 3) rfl) e32 c22 0 rfl)) ?_
                  obtain ⟨c23, Z18⟩ := chk_e Z18
                  obtain ⟨q33, o33, e33⟩ := s29.r.addr c23.1 c23.2
                  refine at_v rfl (g_index T rfl rfl rfl rfl rfl e33 c23.1 c23.2) ?_
                  refine at_cons (at_se (k := (Fl.int .i64)) T 2 0 (rd v20.1 ((rd l (rd v16.2 x24)).Cell)) rfl rfl rfl rfl rfl rfl s29 e33 c23 rfl rfl rfl (fun H34 s34 => ?_))
                  refine at_to [(1, (.slice a_l (List.length l) n_l)), (2, (.pointer (some ⟨b1, 0, none⟩))), (9, (.slice a29 (List.length (List.set x23 (Int.toNat (rd v16.2 x24)) (rd v20.1 ((rd l (rd v16.2 x24)).Cell)))) n29)), (12, (.slice a27 (List.length v20.1) n27)), (60, (.pointer (some ⟨b20, 0, none⟩))), (72, (.slice a25 (List.length v16.2) n25)), (73, (.int .i64 (List.length v16.2 : Int))), (74, (.int .i64 x24))] [0, 0, 0, 0, 0] [F, [(b1, Obj.cells #[(.int .i64 m.W), (.int .i64 m.H), (.slice a_m_C (List.length m.C) n_m_C)] 24 (0, 0))], H34, H27, H25] ⟨rfl, rfl, (by first | rfl | (simp only [List.length_set]; rfl)), rfl, rfl, rfl, rfl, rfl, trivial⟩ rfl ?_
                  refine at_end ?_
                  refine at_sub [(1, (.slice a_l (List.length l) n_l)), (2, (.pointer (some ⟨b1, 0, none⟩))), (9, (.slice a29 (List.length (List.set x23 (Int.toNat (rd v16.2 x24)) (rd v20.1 ((rd l (rd v16.2 x24)).Cell)))) n29)), (12, (.slice a27 (List.length v20.1) n27)), (60, (.pointer (some ⟨b20, 0, none⟩))), (72, (.slice a25 (List.length v16.2) n25)), (73, (.int .i64 (List.length v16.2 : Int))), (74, (.int .i64 x24))] ⟨rfl, rfl, rfl, rfl, rfl, rfl, rfl, rfl, trivial⟩ ?_
                  refine at_nb ?_
                  refine at_then ?_
                  refine at_region [0, 1] rfl ?_
                  iterate 2 refine at_s T rfl ?_
                  refine at_end ?_
                  refine at_sub [(1, (.slice a_l (List.length l) n_l)), (2, (.pointer (some ⟨b1, 0, none⟩))), (9, (.slice a29 (List.length (List.set x23 (Int.toNat (rd v16.2 x24)) (rd v20.1 ((rd l (rd v16.2 x24)).Cell)))) n29)), (12, (.slice a27 (List.length v20.1) n27)), (60, (.pointer (some ⟨b20, 0, none⟩))), (72, (.slice a25 (List.length v16.2) n25)), (73, (.int .i64 (List.length v16.2 : Int))), (74, (.int .i64 (w64 (x24 + 1))))] ⟨rfl, rfl, rfl, rfl, rfl, rfl, rfl, rfl, trivial⟩ ?_
                  refine at_then ?_
                  exact at_roundL (k25, (List.set x23 (Int.toNat (rd v16.2 x24)) (rd v20.1 ((rd l (rd v16.2 x24)).Cell))), (w64 (x24 + 1)), a29, n29, H34) [0, 0, 0, 0, 0] ⟨Z18, s34⟩ (Nat.lt_succ_self _) ⟨rfl, rfl, rfl, rfl, rfl, rfl, rfl, rfl, trivial⟩ rfl
                · replace Z18 := if_f (of_decide_eq_false c19) Z18
                  refine at_exit ?_
                  refine at_xt ?_
                  refine at_xt ?_
                  refine at_xb ?_
                  refine at_nb ?_
                  refine at_then ?_
                  obtain rfl := Option.some.inj Z18
                  exact at_mid (x23, a29, n29, H29) [0, 0, 0, 1] ⟨rfl, s29⟩ ⟨rfl, rfl, rfl, rfl, trivial⟩ rfl
            · rintro ⟨x18, a26, n26, H26⟩ ⟨rfl, s26⟩
              refine at_then ?_
              exact at_roundL (k15, x18, v17, a26, n26, H26, H25, (some (v16, a25, n25))) [0, 0, 0, 0] ⟨Z14, s26, s25⟩ (Nat.lt_succ_self _) ⟨rfl, rfl, rfl, rfl, trivial⟩ rfl

/-! ### herdsman/trail.Rest: function 43 -/
def trail_Rest.l0 : Nat → ((List Int) × Bool) → Int → Int → Option (Int × Bool)
  | 0, _, _, _ => none
  | k6 + 1, v1, x4, x5 => if x5 < (List.length v1.1 : Int) then (if (0 ≤ x5 ∧ x5 < (List.length v1.1 : Int)) then (if ((rd v1.1 x5) != 1099511627776) = true then (trail_Rest.l0 k6 v1 (w64 (x4 + (rd v1.1 x5))) (w64 (x5 + 1))) else (trail_Rest.l0 k6 v1 x4 (w64 (x5 + 1)))) else none) else (some (x4, v1.2))
def trail_Rest.f (m : api_Map) (l : (List api_Unit)) : Option (Int × Bool) := (trail_left.f m l).bind fun v1 => trail_Rest.l0 fuel v1 0 0
set_option maxHeartbeats 4000000 in
theorem trail_Rest.c {a_m_C : Option Addr} {n_m_C : Nat} {a_l : Option Addr} {n_l : Nat} (m : api_Map) (l : (List api_Unit)) (r : (Int × Bool)) (F : Hp) (H : trail_Rest.f m l = some r) (h_m_C : SliceR (Fl.int .u8) m.C a_m_C F) (c_m_C : List.length m.C ≤ n_m_C) (h_l : SliceR k_api_Unit l a_l F) (c_l : List.length l ≤ n_l) :
    CallsL Try.prog 43 [(.agg #[(.int .i64 m.W), (.int .i64 m.H), (.slice a_m_C (List.length m.C) n_m_C)]), (.slice a_l (List.length l) n_l)] [F] (fun _ : Unit => (.tuple #[(.int .i64 r.1), (.bool r.2)])) (fun _ => [F]) := by
  unfold trail_Rest.f at H
  refine calls_atL [(0, (.agg #[(.int .i64 m.W), (.int .i64 m.H), (.slice a_m_C (List.length m.C) n_m_C)])), (1, (.slice a_l (List.length l) n_l))] Try.func43 rfl rfl ⟨rfl, rfl, trivial⟩ (fun W => ?_)
  refine at_seq ?_
  refine at_region [0, 1, 2] rfl ?_
  refine at_cons (at_bx T [(.int .i64 m.W), (.int .i64 m.H), (.slice a_m_C (List.length m.C) n_m_C)] rfl rfl rfl rfl (fun b1 => ?_))
  iterate 2 refine at_s T rfl ?_
  refine at_end ?_
  refine at_sub [(1, (.slice a_l (List.length l) n_l)), (2, (.pointer (some ⟨b1, 0, none⟩)))] ⟨rfl, rfl, trivial⟩ ?_
  refine at_then ?_
  refine at_seq ?_
  refine at_region [0, 1, 2, 3, 4, 5, 6, 7] rfl ?_
  refine at_v rfl (g_loadA T (cs := [(.int .i64 m.W), (.int .i64 m.H), (.slice a_m_C (List.length m.C) n_m_C)]) rfl rfl rfl rfl rfl rfl (in_varA (j := 1) rfl rfl)) ?_
  refine at_s T rfl ?_
  obtain ⟨v1, V1, H⟩ := bind_e H
  refine at_cons (at_cR (trail_left.R v1) [] [] rfl rfl rfl rfl has75 rfl rfl (trail_left.c m l v1 _ V1 (ro_of h_m_C (j := 0) rfl) c_m_C (ro_of h_l (j := 0) rfl) c_l) ?_)
  rintro _ _ ⟨a2, n2, H2, s2, rfl, rfl⟩
  iterate 5 refine at_s T rfl ?_
  refine at_end ?_
  refine at_to [(6, (.slice a2 (List.length v1.1) n2)), (7, (.bool v1.2))] [0, 1] [F, H2] ⟨rfl, rfl, trivial⟩ rfl ?_
  refine at_then ?_
  refine at_seq ?_
  refine at_region [0] rfl ?_
  refine at_s T rfl ?_
  refine at_end ?_
  refine at_sub [(6, (.slice a2 (List.length v1.1) n2)), (7, (.bool v1.2)), (8, (.int .i64 0))] ⟨rfl, rfl, rfl, trivial⟩ ?_
  refine at_then ?_
  refine at_seq ?_
  refine at_seq ?_
  refine at_region [0, 1, 2] rfl ?_
  iterate 3 refine at_s T rfl ?_
  refine at_end ?_
  refine at_sub [(7, (.bool v1.2)), (8, (.int .i64 0)), (17, (.slice a2 (List.length v1.1) n2)), (18, (.int .i64 (List.length v1.1 : Int))), (19, (.int .i64 0))] ⟨rfl, rfl, rfl, rfl, rfl, trivial⟩ ?_
  refine at_then ?_
  refine at_block ?_
  refine at_loopL (σ := Nat × Int × Int) (fun ⟨k6, x4, x5⟩ => trail_Rest.l0 k6 v1 x4 x5 = some r) (fun ⟨k6, x4, x5⟩ => [(7, (.bool v1.2)), (8, (.int .i64 x4)), (17, (.slice a2 (List.length v1.1) n2)), (18, (.int .i64 (List.length v1.1 : Int))), (19, (.int .i64 x5))]) (fun ⟨k6, x4, x5⟩ => [F, H2]) (fun s => s.1) (fuel, 0, 0) [0, 0] H ⟨rfl, rfl, rfl, rfl, rfl, trivial⟩ rfl ?_
  rintro ⟨k6, x4, x5⟩ Z2
  replace Z2 : trail_Rest.l0 k6 v1 x4 x5 = some r := Z2
  rcases k6 with _ | k6
  · rw [trail_Rest.l0] at Z2; cases Z2
  · rw [trail_Rest.l0] at Z2
    refine at_seq ?_
    refine at_region [0] rfl ?_
    refine at_s T rfl ?_
    refine at_end ?_
    refine at_sub [(7, (.bool v1.2)), (8, (.int .i64 x4)), (17, (.slice a2 (List.length v1.1) n2)), (18, (.int .i64 (List.length v1.1 : Int))), (19, (.int .i64 x5)), (20, (.bool (decide (x5 < (List.length v1.1 : Int)))))] ⟨rfl, rfl, rfl, rfl, rfl, rfl, trivial⟩ ?_
    refine at_then ?_
    refine at_seq ?_
    refine at_cond rfl (fun c3 => ?_) (fun c3 => ?_)
    · replace Z2 := if_t (of_decide_eq_true c3) Z2
      refine at_skip ?_
      refine at_then ?_
      refine at_seq ?_
      refine at_block ?_
      refine at_seq ?_
      refine at_region [0, 1, 2] rfl ?_
      obtain ⟨c4, Z2⟩ := chk_e Z2
      obtain ⟨q3, o3, e3⟩ := s2.r.addr c4.1 c4.2
      refine at_v rfl (g_index T rfl rfl rfl rfl rfl e3 c4.1 c4.2) ?_
      refine at_v rfl (g_load T rfl rfl rfl rfl (in_elem1 (k := (Fl.int .i64)) (own_of s2 (j := 1) rfl) e3 c4 0 rfl)) ?_
      refine at_s T rfl ?_
      refine at_end ?_
      refine at_sub [(7, (.bool v1.2)), (8, (.int .i64 x4)), (10, (.int .i64 (rd v1.1 x5))), (17, (.slice a2 (List.length v1.1) n2)), (18, (.int .i64 (List.length v1.1 : Int))), (19, (.int .i64 x5))] ⟨rfl, rfl, rfl, rfl, rfl, rfl, trivial⟩ ?_
      refine at_then ?_
      refine at_seq ?_
      refine at_region [0, 1] rfl ?_
      iterate 2 refine at_s T rfl ?_
      refine at_end ?_
      refine at_sub [(7, (.bool v1.2)), (8, (.int .i64 x4)), (10, (.int .i64 (rd v1.1 x5))), (17, (.slice a2 (List.length v1.1) n2)), (18, (.int .i64 (List.length v1.1 : Int))), (19, (.int .i64 x5)), (24, (.bool ((rd v1.1 x5) != 1099511627776)))] ⟨rfl, rfl, rfl, rfl, rfl, rfl, rfl, trivial⟩ ?_
      refine at_then ?_
      refine at_cond rfl (fun c5 => ?_) (fun c5 => ?_)
      · replace Z2 := if_t c5 Z2
        refine at_region [0, 1, 2, 3] rfl ?_
        iterate 4 refine at_s T rfl ?_
        refine at_end ?_
        refine at_sub [(7, (.bool v1.2)), (8, (.int .i64 (w64 (x4 + (rd v1.1 x5))))), (17, (.slice a2 (List.length v1.1) n2)), (18, (.int .i64 (List.length v1.1 : Int))), (19, (.int .i64 x5))] ⟨rfl, rfl, rfl, rfl, rfl, trivial⟩ ?_
        refine at_nb ?_
        refine at_then ?_
        refine at_region [0, 1] rfl ?_
        iterate 2 refine at_s T rfl ?_
        refine at_end ?_
        refine at_sub [(7, (.bool v1.2)), (8, (.int .i64 (w64 (x4 + (rd v1.1 x5))))), (17, (.slice a2 (List.length v1.1) n2)), (18, (.int .i64 (List.length v1.1 : Int))), (19, (.int .i64 (w64 (x5 + 1))))] ⟨rfl, rfl, rfl, rfl, rfl, trivial⟩ ?_
        refine at_then ?_
        exact at_roundL (k6, (w64 (x4 + (rd v1.1 x5))), (w64 (x5 + 1))) [0, 0] Z2 (Nat.lt_succ_self _) ⟨rfl, rfl, rfl, rfl, rfl, trivial⟩ rfl
      · replace Z2 := if_f (bf c5) Z2
        refine at_skip ?_
        refine at_nb ?_
        refine at_then ?_
        refine at_region [0, 1] rfl ?_
        iterate 2 refine at_s T rfl ?_
        refine at_end ?_
        refine at_sub [(7, (.bool v1.2)), (8, (.int .i64 x4)), (17, (.slice a2 (List.length v1.1) n2)), (18, (.int .i64 (List.length v1.1 : Int))), (19, (.int .i64 (w64 (x5 + 1))))] ⟨rfl, rfl, rfl, rfl, rfl, trivial⟩ ?_
        refine at_then ?_
        exact at_roundL (k6, x4, (w64 (x5 + 1))) [0, 0] Z2 (Nat.lt_succ_self _) ⟨rfl, rfl, rfl, rfl, rfl, trivial⟩ rfl
    · replace Z2 := if_f (of_decide_eq_false c3) Z2
      refine at_exit ?_
      refine at_xt ?_
      refine at_xt ?_
      refine at_xb ?_
      refine at_then ?_
      refine at_seq ?_
      refine at_region [0, 1, 2, 3] rfl ?_
      iterate 4 refine at_s T rfl ?_
      refine at_end ?_
      refine at_to [(4, (.int .i64 x4)), (5, (.bool v1.2))] [0] [F] ⟨rfl, rfl, trivial⟩ rfl ?_
      refine at_then ?_
      refine at_ret ?_
      obtain rfl := Option.some.inj Z2
      exact at_post (T := T) rfl (.tmp rfl (.tmp rfl .nil)) (fun w o => ⟨(), rfl, own_to [0] rfl o⟩)

/-! ### herdsman/trail.First: function 46 -/
def trail_First.l0 : Nat → (List api_Unit) → ((List Int) × Bool) → Int → Int → Int → Option Int
  | 0, _, _, _, _, _ => none
  | k8 + 1, l, v1, x5, x6, x7 => if x7 < (List.length v1.1 : Int) then (if (0 ≤ x7 ∧ x7 < (List.length v1.1 : Int)) then (if (rd v1.1 x7) < x6 then (if (0 ≤ x7 ∧ x7 < (List.length l : Int)) then (trail_First.l0 k8 l v1 ((rd l x7).Id) (rd v1.1 x7) (w64 (x7 + 1))) else none) else (trail_First.l0 k8 l v1 x5 x6 (w64 (x7 + 1)))) else none) else (some x5)
def trail_First.f (m : api_Map) (l : (List api_Unit)) : Option Int := (trail_left.f m l).bind fun v1 => trail_First.l0 fuel l v1 (-1) 1099511627776 0
set_option maxHeartbeats 4000000 in
theorem trail_First.c {a_m_C : Option Addr} {n_m_C : Nat} {a_l : Option Addr} {n_l : Nat} (m : api_Map) (l : (List api_Unit)) (r : Int) (F : Hp) (H : trail_First.f m l = some r) (h_m_C : SliceR (Fl.int .u8) m.C a_m_C F) (c_m_C : List.length m.C ≤ n_m_C) (h_l : SliceR k_api_Unit l a_l F) (c_l : List.length l ≤ n_l) :
    CallsL Try.prog 46 [(.agg #[(.int .i64 m.W), (.int .i64 m.H), (.slice a_m_C (List.length m.C) n_m_C)]), (.slice a_l (List.length l) n_l)] [F] (fun _ : Unit => (.int .i64 r)) (fun _ => [F]) := by
  unfold trail_First.f at H
  refine calls_atL [(0, (.agg #[(.int .i64 m.W), (.int .i64 m.H), (.slice a_m_C (List.length m.C) n_m_C)])), (1, (.slice a_l (List.length l) n_l))] Try.func46 rfl rfl ⟨rfl, rfl, trivial⟩ (fun W => ?_)
  refine at_seq ?_
  refine at_region [0, 1] rfl ?_
  refine at_cons (at_bx T [(.int .i64 m.W), (.int .i64 m.H), (.slice a_m_C (List.length m.C) n_m_C)] rfl rfl rfl rfl (fun b1 => ?_))
  refine at_s T rfl ?_
  refine at_end ?_
  refine at_sub [(1, (.slice a_l (List.length l) n_l)), (2, (.pointer (some ⟨b1, 0, none⟩)))] ⟨rfl, rfl, trivial⟩ ?_
  refine at_then ?_
  refine at_seq ?_
  refine at_region [0, 1, 2, 3, 4, 5, 6, 7] rfl ?_
  refine at_v rfl (g_loadA T (cs := [(.int .i64 m.W), (.int .i64 m.H), (.slice a_m_C (List.length m.C) n_m_C)]) rfl rfl rfl rfl rfl rfl (in_varA (j := 1) rfl rfl)) ?_
  refine at_s T rfl ?_
  obtain ⟨v1, V1, H⟩ := bind_e H
  refine at_cons (at_cR (trail_left.R v1) [] [] rfl rfl rfl rfl has75 rfl rfl (trail_left.c m l v1 _ V1 (ro_of h_m_C (j := 0) rfl) c_m_C (ro_of h_l (j := 0) rfl) c_l) ?_)
  rintro _ _ ⟨a2, n2, H2, s2, rfl, rfl⟩
  iterate 5 refine at_s T rfl ?_
  refine at_end ?_
  refine at_to [(1, (.slice a_l (List.length l) n_l)), (5, (.slice a2 (List.length v1.1) n2))] [0, 1] [F, H2] ⟨rfl, rfl, trivial⟩ rfl ?_
  refine at_then ?_
  refine at_seq ?_
  refine at_region [0, 1] rfl ?_
  iterate 2 refine at_s T rfl ?_
  refine at_end ?_
  refine at_sub [(1, (.slice a_l (List.length l) n_l)), (5, (.slice a2 (List.length v1.1) n2)), (7, (.int .i64 (-1))), (8, (.int .i64 1099511627776))] ⟨rfl, rfl, rfl, rfl, trivial⟩ ?_
  refine at_then ?_
  refine at_seq ?_
  refine at_seq ?_
  refine at_region [0, 1, 2] rfl ?_
  iterate 3 refine at_s T rfl ?_
  refine at_end ?_
  refine at_sub [(1, (.slice a_l (List.length l) n_l)), (7, (.int .i64 (-1))), (8, (.int .i64 1099511627776)), (17, (.slice a2 (List.length v1.1) n2)), (18, (.int .i64 (List.length v1.1 : Int))), (19, (.int .i64 0))] ⟨rfl, rfl, rfl, rfl, rfl, rfl, trivial⟩ ?_
  refine at_then ?_
  refine at_block ?_
  refine at_loopL (σ := Nat × Int × Int × Int) (fun ⟨k8, x5, x6, x7⟩ => trail_First.l0 k8 l v1 x5 x6 x7 = some r) (fun ⟨k8, x5, x6, x7⟩ => [(1, (.slice a_l (List.length l) n_l)), (7, (.int .i64 x5)), (8, (.int .i64 x6)), (17, (.slice a2 (List.length v1.1) n2)), (18, (.int .i64 (List.length v1.1 : Int))), (19, (.int .i64 x7))]) (fun ⟨k8, x5, x6, x7⟩ => [F, H2]) (fun s => s.1) (fuel, (-1), 1099511627776, 0) [0, 0] H ⟨rfl, rfl, rfl, rfl, rfl, rfl, trivial⟩ rfl ?_
  rintro ⟨k8, x5, x6, x7⟩ Z2
  replace Z2 : trail_First.l0 k8 l v1 x5 x6 x7 = some r := Z2
  rcases k8 with _ | k8
  · rw [trail_First.l0] at Z2; cases Z2
  · rw [trail_First.l0] at Z2
    refine at_seq ?_
    refine at_region [0] rfl ?_
    refine at_s T rfl ?_
    refine at_end ?_
    refine at_sub [(1, (.slice a_l (List.length l) n_l)), (7, (.int .i64 x5)), (8, (.int .i64 x6)), (17, (.slice a2 (List.length v1.1) n2)), (18, (.int .i64 (List.length v1.1 : Int))), (19, (.int .i64 x7)), (20, (.bool (decide (x7 < (List.length v1.1 : Int)))))] ⟨rfl, rfl, rfl, rfl, rfl, rfl, rfl, trivial⟩ ?_
    refine at_then ?_
    refine at_seq ?_
    refine at_cond rfl (fun c3 => ?_) (fun c3 => ?_)
    · replace Z2 := if_t (of_decide_eq_true c3) Z2
      refine at_skip ?_
      refine at_then ?_
      refine at_seq ?_
      refine at_block ?_
      refine at_seq ?_
      refine at_region [0, 1, 2, 3, 4] rfl ?_
      refine at_s T rfl ?_
      obtain ⟨c4, Z2⟩ := chk_e Z2
      obtain ⟨q3, o3, e3⟩ := s2.r.addr c4.1 c4.2
      refine at_v rfl (g_index T rfl rfl rfl rfl rfl e3 c4.1 c4.2) ?_
      refine at_v rfl (g_load T rfl rfl rfl rfl (in_elem1 (k := (Fl.int .i64)) (own_of s2 (j := 1) rfl) e3 c4 0 rfl)) ?_
      iterate 2 refine at_s T rfl ?_
      refine at_end ?_
      refine at_sub [(1, (.slice a_l (List.length l) n_l)), (7, (.int .i64 x5)), (8, (.int .i64 x6)), (9, (.int .i64 x7)), (10, (.int .i64 (rd v1.1 x7))), (17, (.slice a2 (List.length v1.1) n2)), (18, (.int .i64 (List.length v1.1 : Int))), (19, (.int .i64 x7))] ⟨rfl, rfl, rfl, rfl, rfl, rfl, rfl, rfl, trivial⟩ ?_
      refine at_then ?_
      refine at_seq ?_
      refine at_region [0, 1, 2] rfl ?_
      iterate 3 refine at_s T rfl ?_
      refine at_end ?_
      refine at_sub [(1, (.slice a_l (List.length l) n_l)), (7, (.int .i64 x5)), (8, (.int .i64 x6)), (9, (.int .i64 x7)), (10, (.int .i64 (rd v1.1 x7))), (17, (.slice a2 (List.length v1.1) n2)), (18, (.int .i64 (List.length v1.1 : Int))), (19, (.int .i64 x7)), (26, (.bool (decide ((rd v1.1 x7) < x6))))] ⟨rfl, rfl, rfl, rfl, rfl, rfl, rfl, rfl, rfl, trivial⟩ ?_
      refine at_then ?_
      refine at_cond rfl (fun c5 => ?_) (fun c5 => ?_)
      · replace Z2 := if_t (of_decide_eq_true c5) Z2
        refine at_region [0, 1, 2, 3, 4, 5, 6, 7] rfl ?_
        iterate 2 refine at_s T rfl ?_
        obtain ⟨c6, Z2⟩ := chk_e Z2
        obtain ⟨q4, o4, e4⟩ := h_l.addr c6.1 c6.2
        refine at_v rfl (g_index T rfl rfl rfl rfl rfl e4 c6.1 c6.2) ?_
        refine at_s T rfl ?_
        refine at_v rfl (g_load T rfl rfl rfl rfl (in_elem1 (k := k_api_Unit) (ro_of h_l (j := 0) rfl) e4 c6 0 rfl)) ?_
        iterate 3 refine at_s T rfl ?_
        refine at_end ?_
        refine at_sub [(1, (.slice a_l (List.length l) n_l)), (7, (.int .i64 (rd l x7).Id)), (8, (.int .i64 (rd v1.1 x7))), (17, (.slice a2 (List.length v1.1) n2)), (18, (.int .i64 (List.length v1.1 : Int))), (19, (.int .i64 x7))] ⟨rfl, rfl, rfl, rfl, rfl, rfl, trivial⟩ ?_
        refine at_nb ?_
        refine at_then ?_
        refine at_region [0, 1] rfl ?_
        iterate 2 refine at_s T rfl ?_
        refine at_end ?_
        refine at_sub [(1, (.slice a_l (List.length l) n_l)), (7, (.int .i64 (rd l x7).Id)), (8, (.int .i64 (rd v1.1 x7))), (17, (.slice a2 (List.length v1.1) n2)), (18, (.int .i64 (List.length v1.1 : Int))), (19, (.int .i64 (w64 (x7 + 1))))] ⟨rfl, rfl, rfl, rfl, rfl, rfl, trivial⟩ ?_
        refine at_then ?_
        exact at_roundL (k8, (rd l x7).Id, (rd v1.1 x7), (w64 (x7 + 1))) [0, 0] Z2 (Nat.lt_succ_self _) ⟨rfl, rfl, rfl, rfl, rfl, rfl, trivial⟩ rfl
      · replace Z2 := if_f (of_decide_eq_false c5) Z2
        refine at_skip ?_
        refine at_nb ?_
        refine at_then ?_
        refine at_region [0, 1] rfl ?_
        iterate 2 refine at_s T rfl ?_
        refine at_end ?_
        refine at_sub [(1, (.slice a_l (List.length l) n_l)), (7, (.int .i64 x5)), (8, (.int .i64 x6)), (17, (.slice a2 (List.length v1.1) n2)), (18, (.int .i64 (List.length v1.1 : Int))), (19, (.int .i64 (w64 (x7 + 1))))] ⟨rfl, rfl, rfl, rfl, rfl, rfl, trivial⟩ ?_
        refine at_then ?_
        exact at_roundL (k8, x5, x6, (w64 (x7 + 1))) [0, 0] Z2 (Nat.lt_succ_self _) ⟨rfl, rfl, rfl, rfl, rfl, rfl, trivial⟩ rfl
    · replace Z2 := if_f (of_decide_eq_false c3) Z2
      refine at_exit ?_
      refine at_xt ?_
      refine at_xt ?_
      refine at_xb ?_
      refine at_then ?_
      refine at_seq ?_
      refine at_region [0, 1] rfl ?_
      iterate 2 refine at_s T rfl ?_
      refine at_end ?_
      refine at_to [(4, (.int .i64 x5))] [0] [F] ⟨rfl, trivial⟩ rfl ?_
      refine at_then ?_
      refine at_ret ?_
      obtain rfl := Option.some.inj Z2
      exact at_post (T := T) rfl (.tmp rfl .nil) (fun w o => ⟨(), rfl, own_to [0] rfl o⟩)
end

end Go.Proofs.Yticdodeoljodiaa
