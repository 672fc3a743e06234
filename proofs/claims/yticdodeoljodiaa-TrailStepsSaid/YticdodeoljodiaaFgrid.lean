import Derived.Test.YticdodeoljodiaaT
import Derived.Test.YticdodeoljodiaaFatlas
import Derived.Test.YticdodeoljodiaaFslices
import Derived.Test.YticdodeoljodiaaFwhere
namespace Go.Proofs.Yticdodeoljodiaa
open Go.Hx
set_option maxRecDepth 100000
set_option linter.unusedVariables false
/-! ### herdsman/grid.New: function 14 -/
def grid_New.l0 : Nat → api_Map → Int → (List Int) → (Int × Int) → List Int → Int → Option (Option grid_Grid)
  | 0, _, _, _, _, _, _ => none
  | k8 + 1, m, epoch, v2, v3, x6, x7 => if x7 < (List.length (List.replicate (Int.toNat (w64 (v3.1 * v3.2))) (0 : Int)) : Int) then (if (0 ≤ x7 ∧ x7 < (List.length x6 : Int)) then (grid_New.l0 k8 m epoch v2 v3 (List.set x6 (Int.toNat x7) (w64 (epoch + 1))) (w64 (x7 + 1))) else none) else (some (some (grid_Grid.mk (api_Map.mk m.W m.H v2) (w64 (epoch + 1)) x6)))
def grid_New.f (m : api_Map) (epoch : Int) : Option (Option grid_Grid) := (atlas_May.f m).bind fun v1 => if (((!v1) || (decide (epoch < 0))) || (decide (epoch > 4611686018427387904))) = true then (some none) else ((slices_Clone_byte_byte.f m.C).bind fun v2 => (where_Sectors.f m.W m.H).bind fun v3 => if (0 ≤ (w64 (v3.1 * v3.2)) ∧ (w64 (v3.1 * v3.2)) ≤ 1099511627776) then (grid_New.l0 fuel m epoch v2 v3 (List.replicate (Int.toNat (w64 (v3.1 * v3.2))) (0 : Int)) 0) else none)
def grid_New.R (r : (Option grid_Grid)) (u : Value) (G : List Hp) : Prop := ∃ (u0 : Value) (G0 : List Hp), O_grid_Grid r u0 G0 ∧ u = u0 ∧ G = G0
set_option maxHeartbeats 4000000 in
theorem grid_New.c {a_m_C : Option Addr} {n_m_C : Nat} (m : api_Map) (epoch : Int) (r : (Option grid_Grid)) (F : Hp) (H : grid_New.f m epoch = some r) (h_m_C : SliceR (Fl.int .u8) m.C a_m_C F) (c_m_C : List.length m.C ≤ n_m_C) :
    CallsL Try.prog 14 [(.agg #[(.int .i64 m.W), (.int .i64 m.H), (.slice a_m_C (List.length m.C) n_m_C)]), (.int .i64 epoch)] [F] (fun qp : { qp : Value × List Hp // grid_New.R r qp.1 qp.2 } => qp.1.1) (fun qp => (qp.1.2 ++ []) ++ [F]) := by
  unfold grid_New.f at H
  refine calls_atL [(0, (.agg #[(.int .i64 m.W), (.int .i64 m.H), (.slice a_m_C (List.length m.C) n_m_C)])), (1, (.int .i64 epoch))] Try.func14 rfl rfl ⟨rfl, rfl, trivial⟩ (fun W => ?_)
  refine at_seq ?_
  refine at_region [0, 1] rfl ?_
  refine at_cons (at_bx T [(.int .i64 m.W), (.int .i64 m.H), (.slice a_m_C (List.length m.C) n_m_C)] rfl rfl rfl rfl (fun b1 => ?_))
  refine at_s T rfl ?_
  refine at_end ?_
  refine at_sub [(1, (.int .i64 epoch)), (2, (.pointer (some ⟨b1, 0, none⟩)))] ⟨rfl, rfl, trivial⟩ ?_
  refine at_then ?_
  refine at_seq ?_
  refine at_seq ?_
  refine at_region [0, 1, 2, 3, 4, 5, 6, 7, 8, 9, 10] rfl ?_
  refine at_v rfl (g_loadA T (cs := [(.int .i64 m.W), (.int .i64 m.H), (.slice a_m_C (List.length m.C) n_m_C)]) rfl rfl rfl rfl rfl rfl (in_varA (j := 1) rfl rfl)) ?_
  obtain ⟨v1, V1, H⟩ := bind_e H
  refine at_cons (at_c (B := fun _ => []) [] rfl rfl rfl rfl has49 rfl rfl (atlas_May.c m v1 _ V1 (ro_of h_m_C (j := 0) rfl) c_m_C) (fun _ => ?_))
  iterate 2 refine at_s T rfl ?_
  refine at_grp T [4, 5, 6] (s := 12) (c := (!v1)) [(1, (.int .i64 epoch)), (2, (.pointer (some ⟨b1, 0, none⟩))), (15, (.bool ((!v1) || (decide (epoch < 0)))))] rfl rfl rfl (fun c2 => ⟨rfl, rfl, (by rw [c2]; rfl), trivial⟩) (fun c2 => ⟨rfl, rfl, (by rw [c2]; rfl), trivial⟩) ?_
  refine at_s T rfl ?_
  refine at_grp T [8, 9, 10] (s := 16) (c := ((!v1) || (decide (epoch < 0)))) [(1, (.int .i64 epoch)), (2, (.pointer (some ⟨b1, 0, none⟩))), (19, (.bool (((!v1) || (decide (epoch < 0))) || (decide (epoch > 4611686018427387904)))))] rfl rfl rfl (fun c3 => ⟨rfl, rfl, (by rw [c3]; rfl), trivial⟩) (fun c3 => ⟨rfl, rfl, (by rw [c3]; rfl), trivial⟩) ?_
  refine at_end ?_
  refine at_sub [(1, (.int .i64 epoch)), (2, (.pointer (some ⟨b1, 0, none⟩))), (19, (.bool (((!v1) || (decide (epoch < 0))) || (decide (epoch > 4611686018427387904)))))] ⟨rfl, rfl, rfl, trivial⟩ ?_
  refine at_then ?_
  refine at_cond rfl (fun c4 => ?_) (fun c4 => ?_)
  · replace H := if_t c4 H
    refine at_seq ?_
    refine at_region [0] rfl ?_
    refine at_s T rfl ?_
    refine at_end ?_
    refine at_to [(4, (.pointer none))] [0] [F] ⟨rfl, trivial⟩ rfl ?_
    refine at_then ?_
    refine at_ret ?_
    refine at_rt ?_
    obtain rfl := Option.some.inj H
    exact at_post (T := T) rfl (.tmp rfl .nil) (fun w o => ⟨⟨(_, _), ⟨_, _, ⟨rfl, rfl⟩, rfl, rfl⟩⟩, rfl, own_to [0] rfl o⟩)
  · replace H := if_f (bf c4) H
    refine at_skip ?_
    refine at_then ?_
    refine at_seq ?_
    refine at_region [0, 1, 2, 3, 4] rfl ?_
    refine at_s T rfl ?_
    refine at_v rfl (g_load T rfl rfl rfl rfl (in_var (j := 1) rfl rfl)) ?_
    obtain ⟨v2, V5, H⟩ := bind_e H
    refine at_cons (at_cR (slices_Clone_byte_byte.R v2) [] [] rfl rfl rfl rfl has50 rfl rfl (slices_Clone_byte_byte.c m.C v2 _ V5 (ro_of h_m_C (j := 0) rfl) c_m_C) ?_)
    rintro _ _ ⟨a2, n2, H2, s2, rfl, rfl⟩
    refine at_s T rfl ?_
    refine at_cons (at_st T 1 [(.int .i64 m.W), (.int .i64 m.H), (.slice a2 (List.length v2) n2)] rfl rfl rfl rfl rfl rfl rfl rfl rfl rfl ?_)
    refine at_end ?_
    refine at_sub [(1, (.int .i64 epoch)), (2, (.pointer (some ⟨b1, 0, none⟩)))] ⟨rfl, rfl, trivial⟩ ?_
    refine at_then ?_
    refine at_seq ?_
    refine at_region [0, 1, 2, 3, 4, 5, 6, 7, 8, 9] rfl ?_
    refine at_s T rfl ?_
    refine at_v rfl (g_load T rfl rfl rfl rfl (in_var (j := 1) rfl rfl)) ?_
    refine at_s T rfl ?_
    refine at_v rfl (g_load T rfl rfl rfl rfl (in_var (j := 1) rfl rfl)) ?_
    obtain ⟨v3, V6, H⟩ := bind_e H
    refine at_cons (at_c (B := fun _ => []) [] rfl rfl rfl rfl has51 rfl rfl (where_Sectors.c m.W m.H v3 _ V6) (fun _ => ?_))
    iterate 5 refine at_s T rfl ?_
    refine at_end ?_
    refine at_sub [(1, (.int .i64 epoch)), (2, (.pointer (some ⟨b1, 0, none⟩))), (5, (.int .i64 v3.1)), (6, (.int .i64 v3.2))] ⟨rfl, rfl, rfl, rfl, trivial⟩ ?_
    refine at_then ?_
    refine at_seq ?_
    refine at_region_m [[], [], [1], [], [], [3, 4], [3, 4, 5], [0, 1, 2, 3, 4, 5, 6], [0, 1, 2, 3, 4, 5, 6, 7], [0, 1, 2, 3, 4, 5, 6, 7, 8]] [] [F, [(b1, Obj.cells #[(.int .i64 m.W), (.int .i64 m.H), (.slice a2 (List.length v2) n2)] 24 (0, 0))], H2] mix (by kernel_rfl) (by repeat first | exact pf_body | refine pf_then ?_ | refine pf_block ?_) (fun hg pf => ?_)
    refine atm_v 0 hg pf (by kernel_rfl) (still_o [0, 0, 0] rfl) rfl rfl (g_loadA T (cs := [(.int .i64 m.W), (.int .i64 m.H), (.slice a2 (List.length v2) n2)]) rfl rfl rfl rfl rfl rfl (in_varA (j := 1) rfl rfl)) ?_
    refine atm_s T 1 hg pf (by kernel_rfl) (still_o [0, 0, 0] rfl) rfl ?_
    refine atm_s T 2 hg pf (by kernel_rfl) (still_o [0, 0, 0] rfl) rfl ?_
    refine atm_s T 3 hg pf (by kernel_rfl) (still_o [0, 0, 0] rfl) rfl ?_
    refine atm_s T 4 hg pf (by kernel_rfl) (still_o [0, 0, 0] rfl) rfl ?_
    refine atm_s T 5 hg pf (by kernel_rfl) (still_o [0, 0, 0] rfl) rfl ?_
    refine atm_one 6 (by kernel_rfl) ?_
    obtain ⟨c7, H⟩ := chk_e H
    refine at_mk (k := (Fl.int .i64)) T (0 : Int) rfl rfl rfl rfl rfl rfl rfl rfl c7 rfl (fun a3 n3 H3 s3 => ?_)
    refine atm_next (still_o [0, 0, 0] rfl) ?_
    refine atm_s T 7 hg pf (by kernel_rfl) (still_o [0, 0, 0] rfl) rfl ?_
    refine atm_one 8 (by kernel_rfl) ?_
    refine at_bx T [(.int .i64 m.W), (.int .i64 m.H), (.slice a2 (List.length v2) n2), (.int .i64 (w64 (epoch + 1))), (.slice a3 (List.length (List.replicate (Int.toNat (w64 (v3.1 * v3.2))) (0 : Int))) n3)] rfl rfl rfl rfl (fun b4 => ?_)
    refine atm_next (still_o [0, 0, 0] rfl) ?_
    refine atm_s T 9 hg pf (by kernel_rfl) (still_o [0, 0, 0] rfl) rfl ?_
    refine atm_end (by kernel_rfl) ?_
    refine at_to [(7, (.pointer (some ⟨b4, 0, none⟩)))] [0, 1, 1, 1] [F, H2, H3, [(b4, Obj.cells #[(.int .i64 m.W), (.int .i64 m.H), (.slice a2 (List.length v2) n2), (.int .i64 (w64 (epoch + 1))), (.slice a3 (List.length (List.replicate (Int.toNat (w64 (v3.1 * v3.2))) (0 : Int))) n3)] 81 (0, 0))]] ⟨rfl, trivial⟩ rfl ?_
    refine at_then ?_
    refine at_seq ?_
    refine at_seq ?_
    refine at_region [0, 1, 2, 3, 4, 5] rfl ?_
    iterate 3 refine at_s T rfl ?_
    refine at_v rfl (g_load T rfl rfl rfl rfl (in_var (j := 3) rfl rfl)) ?_
    iterate 2 refine at_s T rfl ?_
    refine at_end ?_
    refine at_sub [(7, (.pointer (some ⟨b4, 0, none⟩))), (45, (.int .i64 (List.length (List.replicate (Int.toNat (w64 (v3.1 * v3.2))) (0 : Int)) : Int))), (46, (.int .i64 0))] ⟨rfl, rfl, rfl, trivial⟩ ?_
    refine at_then ?_
    refine at_block ?_
    refine at_loopL (σ := Nat × List Int × Int × Option Addr × Nat × Hp) (fun ⟨k8, x6, x7, a6, n6, H6⟩ => grid_New.l0 k8 m epoch v2 v3 x6 x7 = some r ∧ SliceO (Fl.int .i64) 2 x6 a6 n6 H6) (fun ⟨k8, x6, x7, a6, n6, H6⟩ => [(7, (.pointer (some ⟨b4, 0, none⟩))), (45, (.int .i64 (List.length (List.replicate (Int.toNat (w64 (v3.1 * v3.2))) (0 : Int)) : Int))), (46, (.int .i64 x7))]) (fun ⟨k8, x6, x7, a6, n6, H6⟩ => [F, [(b4, Obj.cells #[(.int .i64 m.W), (.int .i64 m.H), (.slice a2 (List.length v2) n2), (.int .i64 (w64 (epoch + 1))), (.slice a6 (List.length x6) n6)] 81 (0, 0))], H2, H6]) (fun s => s.1) (fuel, (List.replicate (Int.toNat (w64 (v3.1 * v3.2))) (0 : Int)), 0, a3, n3, H3) [0, 2, 0, 0] ⟨H, s3⟩ ⟨rfl, rfl, rfl, trivial⟩ rfl ?_
    rintro ⟨k8, x6, x7, a6, n6, H6⟩ ⟨Z8, s6⟩
    replace Z8 : grid_New.l0 k8 m epoch v2 v3 x6 x7 = some r := Z8
    rcases k8 with _ | k8
    · rw [grid_New.l0] at Z8; cases Z8
    · rw [grid_New.l0] at Z8
      refine at_seq ?_
      refine at_region [0] rfl ?_
      refine at_s T rfl ?_
      refine at_end ?_
      refine at_sub [(7, (.pointer (some ⟨b4, 0, none⟩))), (45, (.int .i64 (List.length (List.replicate (Int.toNat (w64 (v3.1 * v3.2))) (0 : Int)) : Int))), (46, (.int .i64 x7)), (47, (.bool (decide (x7 < (List.length (List.replicate (Int.toNat (w64 (v3.1 * v3.2))) (0 : Int)) : Int)))))] ⟨rfl, rfl, rfl, rfl, trivial⟩ ?_
      refine at_then ?_
      refine at_seq ?_
      refine at_cond rfl (fun c9 => ?_) (fun c9 => ?_)
      · replace Z8 := if_t (of_decide_eq_true c9) Z8
        refine at_skip ?_
        refine at_then ?_
        refine at_seq ?_
        refine at_block ?_
        refine at_seq ?_
        refine at_region [0, 1] rfl ?_
        iterate 2 refine at_s T rfl ?_
        refine at_end ?_
        refine at_sub [(7, (.pointer (some ⟨b4, 0, none⟩))), (8, (.int .i64 x7)), (45, (.int .i64 (List.length (List.replicate (Int.toNat (w64 (v3.1 * v3.2))) (0 : Int)) : Int))), (46, (.int .i64 x7))] ⟨rfl, rfl, rfl, rfl, trivial⟩ ?_
        refine at_then ?_
        refine at_region_m [[], [0], [0, 1], [0, 1, 2], [], [], [5], [5, 6], [5, 6, 7], [0, 1, 2, 3, 4, 5, 6, 7, 8], [0, 1, 2, 3, 4, 5, 6, 7, 8, 9]] [10] [F, [(b4, Obj.cells #[(.int .i64 m.W), (.int .i64 m.H), (.slice a2 (List.length v2) n2), (.int .i64 (w64 (epoch + 1))), (.slice a6 (List.length x6) n6)] 81 (0, 0))], H2, H6] mix (by kernel_rfl) (by repeat first | exact pf_body | refine pf_then ?_ | refine pf_block ?_) (fun hg pf => ?_)
        refine atm_s T 0 hg pf (by kernel_rfl) (still_o [0, 0, 0, 0] rfl) rfl ?_
        refine atm_s T 1 hg pf (by kernel_rfl) (still_o [0, 0, 0, 0] rfl) rfl ?_
        refine atm_s T 2 hg pf (by kernel_rfl) (still_o [0, 0, 0, 0] rfl) rfl ?_
        refine atm_v 3 hg pf (by kernel_rfl) (still_o [0, 0, 0, 0] rfl) rfl rfl (g_load T rfl rfl rfl rfl (in_var (j := 1) rfl rfl)) ?_
        refine atm_s T 4 hg pf (by kernel_rfl) (still_o [0, 0, 0, 0] rfl) rfl ?_
        refine atm_s T 5 hg pf (by kernel_rfl) (still_o [0, 0, 0, 0] rfl) rfl ?_
        refine atm_s T 6 hg pf (by kernel_rfl) (still_o [0, 0, 0, 0] rfl) rfl ?_
        refine atm_s T 7 hg pf (by kernel_rfl) (still_o [0, 0, 0, 0] rfl) rfl ?_
        refine atm_v 8 hg pf (by kernel_rfl) (still_o [0, 0, 0, 0] rfl) rfl rfl (g_load T rfl rfl rfl rfl (in_var (j := 1) rfl rfl)) ?_
        obtain ⟨c10, Z8⟩ := chk_e Z8
        obtain ⟨q7, o7, e7⟩ := s6.r.addr c10.1 c10.2
        refine atm_v 9 hg pf (by kernel_rfl) (still_o [0, 0, 0, 0] rfl) rfl rfl (g_index T rfl rfl rfl rfl rfl e7 c10.1 c10.2) ?_
        refine atm_one 10 (by kernel_rfl) ?_
        refine at_se (k := (Fl.int .i64)) T 3 0 (w64 (epoch + 1)) rfl rfl rfl rfl rfl rfl s6 e7 c10 rfl rfl rfl (fun H8 s8 => ?_)
        refine at_to [(7, (.pointer (some ⟨b4, 0, none⟩))), (8, (.int .i64 x7)), (45, (.int .i64 (List.length (List.replicate (Int.toNat (w64 (v3.1 * v3.2))) (0 : Int)) : Int))), (46, (.int .i64 x7)), (49, (.pointer (some ⟨b4, 0, none⟩))), (50, (.pointer (some ⟨b4, 0, none⟩))), (51, (.pointer (some ⟨b4, 4, none⟩))), (52, (.slice a6 (List.length (List.set x6 (Int.toNat x7) (w64 (epoch + 1)))) n6)), (53, (.int .i64 x7)), (54, (.pointer (some ⟨b4, 0, none⟩))), (55, (.pointer (some ⟨b4, 0, none⟩))), (56, (.pointer (some ⟨b4, 3, none⟩))), (57, (.int .i64 (w64 (epoch + 1)))), (58, (.pointer (some ⟨q7, o7 + Int.toNat x7 * 1, none⟩)))] [0, 0, 0, 0] [F, [(b4, Obj.cells #[(.int .i64 m.W), (.int .i64 m.H), (.slice a2 (List.length v2) n2), (.int .i64 (w64 (epoch + 1))), (.slice a6 (List.length (List.set x6 (Int.toNat x7) (w64 (epoch + 1)))) n6)] 81 (0, 0))], H2, H8] ⟨rfl, rfl, rfl, rfl, rfl, rfl, rfl, (by first | rfl | (simp only [List.length_set]; rfl)), rfl, rfl, rfl, rfl, rfl, rfl, trivial⟩ (by first | rfl | (simp only [List.length_set]; rfl)) ?_
        refine atm_next (still_l (by kernel_rfl)) ?_
        refine atm_end (by kernel_rfl) ?_
        refine at_sub [(7, (.pointer (some ⟨b4, 0, none⟩))), (45, (.int .i64 (List.length (List.replicate (Int.toNat (w64 (v3.1 * v3.2))) (0 : Int)) : Int))), (46, (.int .i64 x7))] ⟨rfl, rfl, rfl, trivial⟩ ?_
        refine at_nb ?_
        refine at_then ?_
        refine at_region [0, 1] rfl ?_
        iterate 2 refine at_s T rfl ?_
        refine at_end ?_
        refine at_sub [(7, (.pointer (some ⟨b4, 0, none⟩))), (45, (.int .i64 (List.length (List.replicate (Int.toNat (w64 (v3.1 * v3.2))) (0 : Int)) : Int))), (46, (.int .i64 (w64 (x7 + 1))))] ⟨rfl, rfl, rfl, trivial⟩ ?_
        refine at_then ?_
        exact at_roundL (k8, (List.set x6 (Int.toNat x7) (w64 (epoch + 1))), (w64 (x7 + 1)), a6, n6, H8) [0, 0, 0, 0] ⟨Z8, s8⟩ (Nat.lt_succ_self _) ⟨rfl, rfl, rfl, trivial⟩ rfl
      · replace Z8 := if_f (of_decide_eq_false c9) Z8
        refine at_exit ?_
        refine at_xt ?_
        refine at_xt ?_
        refine at_xb ?_
        refine at_then ?_
        refine at_seq ?_
        refine at_region [0, 1] rfl ?_
        iterate 2 refine at_s T rfl ?_
        refine at_end ?_
        refine at_sub [(4, (.pointer (some ⟨b4, 0, none⟩)))] ⟨rfl, trivial⟩ ?_
        refine at_then ?_
        refine at_ret ?_
        obtain rfl := Option.some.inj Z8
        exact at_post (T := T) rfl (.tmp rfl .nil) (fun w o => ⟨⟨(_, _), ⟨_, _, ⟨b4, a2, n2, H2, a6, n6, H6, s2, s6, rfl, rfl⟩, rfl, rfl⟩⟩, rfl, own_to [1, 1, 1, 0] rfl o⟩)

/-! ### (*herdsman/grid.Grid).Size: function 63 -/
def grid_Grid_Size.f (g : grid_Grid) : Option (Int × Int) := some (g.m.W, g.m.H)
set_option maxHeartbeats 4000000 in
theorem grid_Grid_Size.c {b_g : Nat} {a_g_m_C : Option Addr} {n_g_m_C : Nat} {H_g_m_C : Hp} {a_g_versions : Option Addr} {n_g_versions : Nat} {H_g_versions : Hp} (g : grid_Grid) (r : (Int × Int)) (F : Hp) (H : grid_Grid_Size.f g = some r) (s_g_m_C : SliceO (Fl.int .u8) 5 g.m.C a_g_m_C n_g_m_C H_g_m_C) (s_g_versions : SliceO (Fl.int .i64) 2 g.versions a_g_versions n_g_versions H_g_versions) :
    CallsL Try.prog 63 [(.pointer (some ⟨b_g, 0, none⟩))] [[(b_g, Obj.cells #[(.int .i64 g.m.W), (.int .i64 g.m.H), (.slice a_g_m_C (List.length g.m.C) n_g_m_C), (.int .i64 g.epoch), (.slice a_g_versions (List.length g.versions) n_g_versions)] 81 (0, 0))], H_g_m_C, H_g_versions, F] (fun _ : Unit => (.tuple #[(.int .i64 r.1), (.int .i64 r.2)])) (fun _ => [[(b_g, Obj.cells #[(.int .i64 g.m.W), (.int .i64 g.m.H), (.slice a_g_m_C (List.length g.m.C) n_g_m_C), (.int .i64 g.epoch), (.slice a_g_versions (List.length g.versions) n_g_versions)] 81 (0, 0))], H_g_m_C, H_g_versions] ++ [F]) := by
  unfold grid_Grid_Size.f at H
  refine calls_atL [(0, (.pointer (some ⟨b_g, 0, none⟩)))] Try.func63 rfl rfl ⟨rfl, trivial⟩ (fun W => ?_)
  refine at_seq ?_
  refine at_region [0, 1] rfl ?_
  iterate 2 refine at_s T rfl ?_
  refine at_end ?_
  refine at_sub [(0, (.pointer (some ⟨b_g, 0, none⟩)))] ⟨rfl, trivial⟩ ?_
  refine at_then ?_
  refine at_seq ?_
  refine at_seq ?_
  refine at_region [0, 1] rfl ?_
  iterate 2 refine at_s T rfl ?_
  refine at_end ?_
  refine at_sub [(0, (.pointer (some ⟨b_g, 0, none⟩))), (5, (.bool false))] ⟨rfl, rfl, trivial⟩ ?_
  refine at_then ?_
  refine at_cond_f rfl ?_
  refine at_skip ?_
  refine at_then ?_
  refine at_seq ?_
  refine at_region_q mix (by kernel_rfl) ?_
  iterate 4 refine atq_s T rfl ?_
  refine atq_v rfl rfl rfl (g_load T rfl rfl rfl rfl (in_var (j := 0) rfl rfl)) ?_
  iterate 4 refine atq_s T rfl ?_
  refine atq_v rfl rfl rfl (g_load T rfl rfl rfl rfl (in_var (j := 0) rfl rfl)) ?_
  iterate 2 refine atq_s T rfl ?_
  refine atq_end ?_
  refine at_sub [(2, (.int .i64 g.m.W)), (3, (.int .i64 g.m.H))] ⟨rfl, rfl, trivial⟩ ?_
  refine at_then ?_
  refine at_ret ?_
  obtain rfl := Option.some.inj H
  exact at_post (T := T) rfl (.tmp rfl (.tmp rfl .nil)) (fun w o => ⟨(), rfl, own_to [0, 0, 0, 0] rfl o⟩)

/-! ### (*herdsman/grid.Grid).Cost: function 65 -/
def grid_Grid_Cost.f (g : grid_Grid) (cell : Int) : Option Int := (if cell < 0 then (some true) else (some (decide (cell ≥ (List.length g.m.C : Int))))).bind fun x1 => if x1 = true then (some 0) else (if (0 ≤ cell ∧ cell < (List.length g.m.C : Int)) then (some (w64 (rd g.m.C cell))) else none)
set_option maxHeartbeats 4000000 in
theorem grid_Grid_Cost.c {b_g : Nat} {a_g_m_C : Option Addr} {n_g_m_C : Nat} {H_g_m_C : Hp} {a_g_versions : Option Addr} {n_g_versions : Nat} {H_g_versions : Hp} (g : grid_Grid) (cell : Int) (r : Int) (F : Hp) (H : grid_Grid_Cost.f g cell = some r) (s_g_m_C : SliceO (Fl.int .u8) 5 g.m.C a_g_m_C n_g_m_C H_g_m_C) (s_g_versions : SliceO (Fl.int .i64) 2 g.versions a_g_versions n_g_versions H_g_versions) :
    CallsL Try.prog 65 [(.pointer (some ⟨b_g, 0, none⟩)), (.int .i64 cell)] [[(b_g, Obj.cells #[(.int .i64 g.m.W), (.int .i64 g.m.H), (.slice a_g_m_C (List.length g.m.C) n_g_m_C), (.int .i64 g.epoch), (.slice a_g_versions (List.length g.versions) n_g_versions)] 81 (0, 0))], H_g_m_C, H_g_versions, F] (fun _ : Unit => (.int .i64 r)) (fun _ => [[(b_g, Obj.cells #[(.int .i64 g.m.W), (.int .i64 g.m.H), (.slice a_g_m_C (List.length g.m.C) n_g_m_C), (.int .i64 g.epoch), (.slice a_g_versions (List.length g.versions) n_g_versions)] 81 (0, 0))], H_g_m_C, H_g_versions] ++ [F]) := by
  unfold grid_Grid_Cost.f at H
  refine calls_atL [(0, (.pointer (some ⟨b_g, 0, none⟩))), (1, (.int .i64 cell))] Try.func65 rfl rfl ⟨rfl, rfl, trivial⟩ (fun W => ?_)
  refine at_seq ?_
  refine at_region [0] rfl ?_
  refine at_s T rfl ?_
  refine at_end ?_
  refine at_sub [(0, (.pointer (some ⟨b_g, 0, none⟩))), (1, (.int .i64 cell))] ⟨rfl, rfl, trivial⟩ ?_
  refine at_then ?_
  refine at_seq ?_
  obtain ⟨z2, Z1, H⟩ := bind_e H
  refine at_seq_mid (σ := Bool) (fun x1 => x1 = z2) (fun x1 => [(0, (.pointer (some ⟨b_g, 0, none⟩))), (1, (.int .i64 cell)), (20, (.bool x1))]) (fun x1 => [F, [(b_g, Obj.cells #[(.int .i64 g.m.W), (.int .i64 g.m.H), (.slice a_g_m_C (List.length g.m.C) n_g_m_C), (.int .i64 g.epoch), (.slice a_g_versions (List.length g.versions) n_g_versions)] 81 (0, 0))], H_g_m_C, H_g_versions]) ?_ ?_
  · refine at_region [0, 1, 2, 3, 4, 5, 6, 7, 8, 9, 10, 11, 12, 13, 14, 15] rfl ?_
    iterate 7 refine at_s T rfl ?_
    refine at_case (s := 11) rfl (fun c2 => ?_) (fun c2 => ?_)
    · replace Z1 := if_t (of_decide_eq_true c2) Z1
      iterate 9 refine at_s T rfl ?_
      refine at_end ?_
      refine at_sub [(0, (.pointer (some ⟨b_g, 0, none⟩))), (1, (.int .i64 cell)), (20, (.bool true))] ⟨rfl, rfl, rfl, trivial⟩ ?_
      refine at_then ?_
      obtain rfl := Option.some.inj Z1
      exact at_mid true [3, 0, 0, 0] rfl ⟨rfl, rfl, rfl, trivial⟩ rfl
    · replace Z1 := if_f (of_decide_eq_false c2) Z1
      iterate 5 refine at_s T rfl ?_
      refine at_v rfl (g_load T rfl rfl rfl rfl (in_var (j := 0) rfl rfl)) ?_
      iterate 3 refine at_s T rfl ?_
      refine at_end ?_
      refine at_sub [(0, (.pointer (some ⟨b_g, 0, none⟩))), (1, (.int .i64 cell)), (20, (.bool (decide (cell ≥ (List.length g.m.C : Int)))))] ⟨rfl, rfl, rfl, trivial⟩ ?_
      refine at_then ?_
      obtain rfl := Option.some.inj Z1
      exact at_mid (decide (cell ≥ (List.length g.m.C : Int))) [3, 0, 0, 0] rfl ⟨rfl, rfl, rfl, trivial⟩ rfl
  · rintro x1 rfl
    refine at_cond rfl (fun c3 => ?_) (fun c3 => ?_)
    · replace H := if_t c3 H
      refine at_seq ?_
      refine at_region [0] rfl ?_
      refine at_s T rfl ?_
      refine at_end ?_
      refine at_sub [(4, (.int .i64 0))] ⟨rfl, trivial⟩ ?_
      refine at_then ?_
      refine at_ret ?_
      refine at_rt ?_
      obtain rfl := Option.some.inj H
      exact at_post (T := T) rfl (.tmp rfl .nil) (fun w o => ⟨(), rfl, own_to [1, 1, 1, 0] rfl o⟩)
    · replace H := if_f (bf c3) H
      refine at_skip ?_
      refine at_then ?_
      refine at_seq ?_
      refine at_region [0, 1, 2, 3, 4, 5, 6, 7, 8, 9] rfl ?_
      iterate 4 refine at_s T rfl ?_
      refine at_v rfl (g_load T rfl rfl rfl rfl (in_var (j := 1) rfl rfl)) ?_
      refine at_s T rfl ?_
      obtain ⟨c4, H⟩ := chk_e H
      obtain ⟨q4, o4, e4⟩ := s_g_m_C.r.addr c4.1 c4.2
      refine at_v rfl (g_index T rfl rfl rfl rfl rfl e4 c4.1 c4.2) ?_
      refine at_v rfl (g_load T rfl rfl rfl rfl (in_elem1 (k := (Fl.int .u8)) (own_of s_g_m_C (j := 2) rfl) e4 c4 0 rfl)) ?_
      iterate 2 refine at_s T rfl ?_
      refine at_end ?_
      refine at_sub [(4, (.int .i64 (w64 (rd g.m.C cell))))] ⟨rfl, trivial⟩ ?_
      refine at_then ?_
      refine at_ret ?_
      obtain rfl := Option.some.inj H
      exact at_post (T := T) rfl (.tmp rfl .nil) (fun w o => ⟨(), rfl, own_to [1, 1, 1, 0] rfl o⟩)

/-! ### (*herdsman/grid.Grid).Edit: function 33 -/
def grid_Grid_Edit.f (g : grid_Grid) (cell : Int) (cost : Int) : Option (Int × grid_Grid) := (if cell < 0 then (some true) else (some (decide (cell ≥ (List.length g.m.C : Int))))).bind fun x1 => if x1 = true then (some (7, g)) else (if ((decide (cost < 1)) || (decide (cost > 255))) = true then (some (8, g)) else (if (0 ≤ cell ∧ cell < (List.length g.m.C : Int)) then ((where_Sector.f g.m.W g.m.H cell).bind fun v3 => if (0 ≤ v3 ∧ v3 < (List.length g.versions : Int)) then (some (0, (grid_Grid.mk (api_Map.mk g.m.W g.m.H (List.set g.m.C (Int.toNat cell) (wu8 cost))) (w64 (g.epoch + 1)) (List.set g.versions (Int.toNat v3) (w64 (g.epoch + 1)))))) else none) else none))
def grid_Grid_Edit.R (b_g : Nat) (r : (Int × grid_Grid)) (u : Value) (G : List Hp) : Prop := ∃ (a0 : Option Addr) (n0 : Nat) (H0 : Hp) (a1 : Option Addr) (n1 : Nat) (H1 : Hp), SliceO (Fl.int .u8) 5 r.2.m.C a0 n0 H0 ∧ SliceO (Fl.int .i64) 2 r.2.versions a1 n1 H1 ∧ u = (.int .i64 r.1) ∧ G = [[(b_g, Obj.cells #[(.int .i64 r.2.m.W), (.int .i64 r.2.m.H), (.slice a0 (List.length r.2.m.C) n0), (.int .i64 r.2.epoch), (.slice a1 (List.length r.2.versions) n1)] 81 (0, 0))], H0, H1]
set_option maxHeartbeats 4000000 in
theorem grid_Grid_Edit.c {b_g : Nat} {a_g_m_C : Option Addr} {n_g_m_C : Nat} {H_g_m_C : Hp} {a_g_versions : Option Addr} {n_g_versions : Nat} {H_g_versions : Hp} (g : grid_Grid) (cell : Int) (cost : Int) (r : (Int × grid_Grid)) (F : Hp) (H : grid_Grid_Edit.f g cell cost = some r) (s_g_m_C : SliceO (Fl.int .u8) 5 g.m.C a_g_m_C n_g_m_C H_g_m_C) (s_g_versions : SliceO (Fl.int .i64) 2 g.versions a_g_versions n_g_versions H_g_versions) :
    CallsL Try.prog 33 [(.pointer (some ⟨b_g, 0, none⟩)), (.int .i64 cell), (.int .i64 cost)] [[(b_g, Obj.cells #[(.int .i64 g.m.W), (.int .i64 g.m.H), (.slice a_g_m_C (List.length g.m.C) n_g_m_C), (.int .i64 g.epoch), (.slice a_g_versions (List.length g.versions) n_g_versions)] 81 (0, 0))], H_g_m_C, H_g_versions, F] (fun qp : { qp : Value × List Hp // grid_Grid_Edit.R b_g r qp.1 qp.2 } => qp.1.1) (fun qp => (qp.1.2 ++ []) ++ [F]) := by
  unfold grid_Grid_Edit.f at H
  refine calls_atL [(0, (.pointer (some ⟨b_g, 0, none⟩))), (1, (.int .i64 cell)), (2, (.int .i64 cost))] Try.func33 rfl rfl ⟨rfl, rfl, rfl, trivial⟩ (fun W => ?_)
  refine at_seq ?_
  refine at_region [0] rfl ?_
  refine at_s T rfl ?_
  refine at_end ?_
  refine at_sub [(0, (.pointer (some ⟨b_g, 0, none⟩))), (1, (.int .i64 cell)), (2, (.int .i64 cost))] ⟨rfl, rfl, rfl, trivial⟩ ?_
  refine at_then ?_
  refine at_seq ?_
  refine at_block ?_
  refine at_seq ?_
  refine at_region [0, 1, 2] rfl ?_
  iterate 3 refine at_s T rfl ?_
  refine at_end ?_
  refine at_sub [(0, (.pointer (some ⟨b_g, 0, none⟩))), (1, (.int .i64 cell)), (2, (.int .i64 cost)), (7, (.bool false))] ⟨rfl, rfl, rfl, rfl, trivial⟩ ?_
  refine at_then ?_
  refine at_cond_f rfl ?_
  obtain ⟨z2, Z1, H⟩ := bind_e H
  refine at_seq_mid (σ := Bool) (fun x1 => x1 = z2) (fun x1 => [(0, (.pointer (some ⟨b_g, 0, none⟩))), (1, (.int .i64 cell)), (2, (.int .i64 cost)), (10, (.bool x1))]) (fun x1 => [F, [(b_g, Obj.cells #[(.int .i64 g.m.W), (.int .i64 g.m.H), (.slice a_g_m_C (List.length g.m.C) n_g_m_C), (.int .i64 g.epoch), (.slice a_g_versions (List.length g.versions) n_g_versions)] 81 (0, 0))], H_g_m_C, H_g_versions]) ?_ ?_
  · refine at_region [0, 1, 2, 3, 4, 5, 6, 7, 8, 9, 10, 11, 12] rfl ?_
    iterate 3 refine at_s T rfl ?_
    refine at_case (s := 13) rfl (fun c2 => ?_) (fun c2 => ?_)
    · replace Z1 := if_t (of_decide_eq_true c2) Z1
      iterate 10 refine at_s T rfl ?_
      refine at_end ?_
      refine at_sub [(0, (.pointer (some ⟨b_g, 0, none⟩))), (1, (.int .i64 cell)), (2, (.int .i64 cost)), (10, (.bool true))] ⟨rfl, rfl, rfl, rfl, trivial⟩ ?_
      refine at_then ?_
      obtain rfl := Option.some.inj Z1
      exact at_mid true [3, 0, 0, 0] rfl ⟨rfl, rfl, rfl, rfl, trivial⟩ rfl
    · replace Z1 := if_f (of_decide_eq_false c2) Z1
      iterate 5 refine at_s T rfl ?_
      refine at_v rfl (g_load T rfl rfl rfl rfl (in_var (j := 0) rfl rfl)) ?_
      iterate 4 refine at_s T rfl ?_
      refine at_end ?_
      refine at_sub [(0, (.pointer (some ⟨b_g, 0, none⟩))), (1, (.int .i64 cell)), (2, (.int .i64 cost)), (10, (.bool (decide (cell ≥ (List.length g.m.C : Int)))))] ⟨rfl, rfl, rfl, rfl, trivial⟩ ?_
      refine at_then ?_
      obtain rfl := Option.some.inj Z1
      exact at_mid (decide (cell ≥ (List.length g.m.C : Int))) [3, 0, 0, 0] rfl ⟨rfl, rfl, rfl, rfl, trivial⟩ rfl
  · rintro x1 rfl
    refine at_cond rfl (fun c3 => ?_) (fun c3 => ?_)
    · replace H := if_t c3 H
      refine at_seq ?_
      refine at_region [0] rfl ?_
      refine at_s T rfl ?_
      refine at_end ?_
      refine at_sub [(6, (.int .i64 7))] ⟨rfl, trivial⟩ ?_
      refine at_then ?_
      refine at_ret ?_
      refine at_rb ?_
      refine at_rt ?_
      obtain rfl := Option.some.inj H
      exact at_post (T := T) rfl (.tmp rfl .nil) (fun w o => ⟨⟨(_, _), ⟨a_g_m_C, n_g_m_C, H_g_m_C, a_g_versions, n_g_versions, H_g_versions, s_g_m_C, s_g_versions, rfl, rfl⟩⟩, rfl, own_to [1, 1, 1, 0] rfl o⟩)
    · replace H := if_f (bf c3) H
      refine at_seq ?_
      refine at_region [0, 1, 2, 3, 4, 5, 6] rfl ?_
      iterate 3 refine at_s T rfl ?_
      refine at_grp T [3, 4, 5] (s := 26) (c := (decide (cost < 1))) [(0, (.pointer (some ⟨b_g, 0, none⟩))), (1, (.int .i64 cell)), (2, (.int .i64 cost)), (29, (.bool ((decide (cost < 1)) || (decide (cost > 255)))))] rfl rfl rfl (fun c4 => ⟨rfl, rfl, rfl, (by rw [c4]; rfl), trivial⟩) (fun c4 => ⟨rfl, rfl, rfl, (by rw [c4]; rfl), trivial⟩) ?_
      refine at_s T rfl ?_
      refine at_end ?_
      refine at_sub [(0, (.pointer (some ⟨b_g, 0, none⟩))), (1, (.int .i64 cell)), (2, (.int .i64 cost)), (23, (.bool ((decide (cost < 1)) || (decide (cost > 255)))))] ⟨rfl, rfl, rfl, rfl, trivial⟩ ?_
      refine at_then ?_
      refine at_cond rfl (fun c5 => ?_) (fun c5 => ?_)
      · replace H := if_t c5 H
        refine at_seq ?_
        refine at_region [0] rfl ?_
        refine at_s T rfl ?_
        refine at_end ?_
        refine at_sub [(6, (.int .i64 8))] ⟨rfl, trivial⟩ ?_
        refine at_then ?_
        refine at_ret ?_
        refine at_rb ?_
        refine at_rt ?_
        obtain rfl := Option.some.inj H
        exact at_post (T := T) rfl (.tmp rfl .nil) (fun w o => ⟨⟨(_, _), ⟨a_g_m_C, n_g_m_C, H_g_m_C, a_g_versions, n_g_versions, H_g_versions, s_g_m_C, s_g_versions, rfl, rfl⟩⟩, rfl, own_to [1, 1, 1, 0] rfl o⟩)
      · replace H := if_f (bf c5) H
        refine at_skip ?_
        refine at_nb ?_
        refine at_then ?_
        refine at_seq ?_
        refine at_region [0, 1, 2, 3, 4, 5, 6, 7, 8, 9] rfl ?_
        iterate 4 refine at_s T rfl ?_
        refine at_v rfl (g_load T rfl rfl rfl rfl (in_var (j := 1) rfl rfl)) ?_
        iterate 3 refine at_s T rfl ?_
        obtain ⟨c6, H⟩ := chk_e H
        obtain ⟨q4, o4, e4⟩ := s_g_m_C.r.addr c6.1 c6.2
        refine at_v rfl (g_index T rfl rfl rfl rfl rfl e4 c6.1 c6.2) ?_
        refine at_cons (at_se (k := (Fl.int .u8)) T 2 0 (wu8 cost) rfl rfl rfl rfl rfl rfl s_g_m_C e4 c6 rfl rfl rfl (fun H5 s5 => ?_))
        refine at_to [(0, (.pointer (some ⟨b_g, 0, none⟩))), (1, (.int .i64 cell))] [0, 0, 0, 0] [F, [(b_g, Obj.cells #[(.int .i64 g.m.W), (.int .i64 g.m.H), (.slice a_g_m_C (List.length (List.set g.m.C (Int.toNat cell) (wu8 cost))) n_g_m_C), (.int .i64 g.epoch), (.slice a_g_versions (List.length g.versions) n_g_versions)] 81 (0, 0))], H5, H_g_versions] ⟨rfl, rfl, trivial⟩ (by first | rfl | (simp only [List.length_set]; rfl)) ?_
        refine at_end ?_
        refine at_sub [(0, (.pointer (some ⟨b_g, 0, none⟩))), (1, (.int .i64 cell))] ⟨rfl, rfl, trivial⟩ ?_
        refine at_then ?_
        refine at_seq ?_
        refine at_region [0, 1, 2, 3, 4, 5, 6, 7] rfl ?_
        iterate 3 refine at_s T rfl ?_
        refine at_v rfl (g_load T rfl rfl rfl rfl (in_var (j := 1) rfl rfl)) ?_
        iterate 3 refine at_s T rfl ?_
        refine at_cons (at_st T 1 [(.int .i64 g.m.W), (.int .i64 g.m.H), (.slice a_g_m_C (List.length (List.set g.m.C (Int.toNat cell) (wu8 cost))) n_g_m_C), (.int .i64 (w64 (g.epoch + 1))), (.slice a_g_versions (List.length g.versions) n_g_versions)] rfl rfl rfl rfl rfl rfl rfl rfl rfl rfl ?_)
        refine at_end ?_
        refine at_sub [(0, (.pointer (some ⟨b_g, 0, none⟩))), (1, (.int .i64 cell))] ⟨rfl, rfl, trivial⟩ ?_
        refine at_then ?_
        refine at_seq ?_
        refine at_region_m [[], [0], [0, 1], [0, 1, 2], [], [4], [4, 5], [4, 5, 6], [4, 5, 6, 7], [], [9], [9, 10], [9, 10, 11], [9, 10, 11, 12], [], [4, 5, 6, 7, 8, 9, 10, 11, 12, 13, 14], [], [16], [16, 17], [16, 17, 18], [0, 1, 2, 3, 4, 5, 6, 7, 8, 9, 10, 11, 12, 13, 14, 15, 16, 17, 18, 19], [0, 1, 2, 3, 4, 5, 6, 7, 8, 9, 10, 11, 12, 13, 14, 15, 16, 17, 18, 19, 20]] [21] [F, [(b_g, Obj.cells #[(.int .i64 g.m.W), (.int .i64 g.m.H), (.slice a_g_m_C (List.length (List.set g.m.C (Int.toNat cell) (wu8 cost))) n_g_m_C), (.int .i64 (w64 (g.epoch + 1))), (.slice a_g_versions (List.length g.versions) n_g_versions)] 81 (0, 0))], H5, H_g_versions] mix (by kernel_rfl) (by repeat first | exact pf_body | refine pf_then ?_ | refine pf_block ?_) (fun hg pf => ?_)
        refine atm_s T 0 hg pf (by kernel_rfl) (still_o [0, 0, 0, 0] rfl) rfl ?_
        refine atm_s T 1 hg pf (by kernel_rfl) (still_o [0, 0, 0, 0] rfl) rfl ?_
        refine atm_s T 2 hg pf (by kernel_rfl) (still_o [0, 0, 0, 0] rfl) rfl ?_
        refine atm_v 3 hg pf (by kernel_rfl) (still_o [0, 0, 0, 0] rfl) rfl rfl (g_load T rfl rfl rfl rfl (in_var (j := 1) rfl rfl)) ?_
        refine atm_s T 4 hg pf (by kernel_rfl) (still_o [0, 0, 0, 0] rfl) rfl ?_
        refine atm_s T 5 hg pf (by kernel_rfl) (still_o [0, 0, 0, 0] rfl) rfl ?_
        refine atm_s T 6 hg pf (by kernel_rfl) (still_o [0, 0, 0, 0] rfl) rfl ?_
        refine atm_s T 7 hg pf (by kernel_rfl) (still_o [0, 0, 0, 0] rfl) rfl ?_
        refine atm_v 8 hg pf (by kernel_rfl) (still_o [0, 0, 0, 0] rfl) rfl rfl (g_load T rfl rfl rfl rfl (in_var (j := 1) rfl rfl)) ?_
        refine atm_s T 9 hg pf (by kernel_rfl) (still_o [0, 0, 0, 0] rfl) rfl ?_
        refine atm_s T 10 hg pf (by kernel_rfl) (still_o [0, 0, 0, 0] rfl) rfl ?_
        refine atm_s T 11 hg pf (by kernel_rfl) (still_o [0, 0, 0, 0] rfl) rfl ?_
        refine atm_s T 12 hg pf (by kernel_rfl) (still_o [0, 0, 0, 0] rfl) rfl ?_
        refine atm_v 13 hg pf (by kernel_rfl) (still_o [0, 0, 0, 0] rfl) rfl rfl (g_load T rfl rfl rfl rfl (in_var (j := 1) rfl rfl)) ?_
        refine atm_s T 14 hg pf (by kernel_rfl) (still_o [0, 0, 0, 0] rfl) rfl ?_
        refine atm_s T 16 hg pf (by kernel_rfl) (still_o [0, 0, 0, 0] rfl) rfl ?_
        refine atm_s T 17 hg pf (by kernel_rfl) (still_o [0, 0, 0, 0] rfl) rfl ?_
        refine atm_s T 18 hg pf (by kernel_rfl) (still_o [0, 0, 0, 0] rfl) rfl ?_
        refine atm_v 19 hg pf (by kernel_rfl) (still_o [0, 0, 0, 0] rfl) rfl rfl (g_load T rfl rfl rfl rfl (in_var (j := 1) rfl rfl)) ?_
        refine atm_one 15 (by kernel_rfl) ?_
        obtain ⟨v3, V7, H⟩ := bind_e H
        refine at_c (B := fun _ => []) [] rfl rfl rfl rfl has31 rfl rfl (where_Sector.c g.m.W g.m.H cell v3 _ V7) (fun _ => ?_)
        refine atm_next (still_o [0, 0, 0, 0] rfl) ?_
        obtain ⟨c8, H⟩ := chk_e H
        obtain ⟨q6, o6, e6⟩ := s_g_versions.r.addr c8.1 c8.2
        refine atm_v 20 hg pf (by kernel_rfl) (still_o [0, 0, 0, 0] rfl) rfl rfl (g_index T rfl rfl rfl rfl rfl e6 c8.1 c8.2) ?_
        refine atm_one 21 (by kernel_rfl) ?_
        refine at_se (k := (Fl.int .i64)) T 3 0 (w64 (g.epoch + 1)) rfl rfl rfl rfl rfl rfl s_g_versions e6 c8 rfl rfl rfl (fun H7 s7 => ?_)
        refine at_to [(0, (.pointer (some ⟨b_g, 0, none⟩))), (1, (.int .i64 cell)), (46, (.pointer (some ⟨b_g, 0, none⟩))), (47, (.pointer (some ⟨b_g, 0, none⟩))), (48, (.pointer (some ⟨b_g, 4, none⟩))), (49, (.slice a_g_versions (List.length (List.set g.versions (Int.toNat v3) (w64 (g.epoch + 1)))) n_g_versions)), (50, (.pointer (some ⟨b_g, 0, none⟩))), (51, (.pointer (some ⟨b_g, 0, none⟩))), (52, (.pointer (some ⟨b_g, 0, none⟩))), (53, (.pointer (some ⟨b_g, 0, none⟩))), (54, (.int .i64 g.m.W)), (55, (.pointer (some ⟨b_g, 0, none⟩))), (56, (.pointer (some ⟨b_g, 0, none⟩))), (57, (.pointer (some ⟨b_g, 0, none⟩))), (58, (.pointer (some ⟨b_g, 1, none⟩))), (59, (.int .i64 g.m.H)), (60, (.int .i64 cell)), (61, (.int .i64 v3)), (62, (.pointer (some ⟨b_g, 0, none⟩))), (63, (.pointer (some ⟨b_g, 0, none⟩))), (64, (.pointer (some ⟨b_g, 3, none⟩))), (65, (.int .i64 (w64 (g.epoch + 1)))), (66, (.pointer (some ⟨q6, o6 + Int.toNat v3 * 1, none⟩)))] [0, 0, 0, 0] [F, [(b_g, Obj.cells #[(.int .i64 g.m.W), (.int .i64 g.m.H), (.slice a_g_m_C (List.length (List.set g.m.C (Int.toNat cell) (wu8 cost))) n_g_m_C), (.int .i64 (w64 (g.epoch + 1))), (.slice a_g_versions (List.length (List.set g.versions (Int.toNat v3) (w64 (g.epoch + 1)))) n_g_versions)] 81 (0, 0))], H5, H7] ⟨rfl, rfl, rfl, rfl, rfl, (by first | rfl | (simp only [List.length_set]; rfl)), rfl, rfl, rfl, rfl, rfl, rfl, rfl, rfl, rfl, rfl, rfl, rfl, rfl, rfl, rfl, rfl, rfl, trivial⟩ (by first | rfl | (simp only [List.length_set]; rfl)) ?_
        refine atm_next (still_l (by kernel_rfl)) ?_
        refine atm_end (by kernel_rfl) ?_
        refine at_sub [] trivial ?_
        refine at_then ?_
        refine at_seq ?_
        refine at_region [0] rfl ?_
        refine at_s T rfl ?_
        refine at_end ?_
        refine at_sub [(6, (.int .i64 0))] ⟨rfl, trivial⟩ ?_
        refine at_then ?_
        refine at_ret ?_
        obtain rfl := Option.some.inj H
        exact at_post (T := T) rfl (.tmp rfl .nil) (fun w o => ⟨⟨(_, _), ⟨a_g_m_C, n_g_m_C, H5, a_g_versions, n_g_versions, H7, s5, s7, rfl, rfl⟩⟩, rfl, own_to [1, 1, 1, 0] rfl o⟩)
end Go.Proofs.Yticdodeoljodiaa
