import Derived.Test.YtmjcmkimhkjdeaaT
import Derived.Test.YtmjcmkimhkjdeaaFatlas
import Derived.Test.YtmjcmkimhkjdeaaFslices
import Derived.Test.YtmjcmkimhkjdeaaFwhere
namespace Go.Proofs.Ytmjcmkimhkjdeaa
open Go.Hx
set_option maxRecDepth 100000
set_option linter.unusedVariables false
/-! ### herdsman/grid.New: function 15 -/
def grid_New.l0 : Nat → api_Map → Int → (List Int) → (Int × Int) → List Int → Int → Option (Option grid_Grid)
  | 0, _, _, _, _, _, _ => none
  | k8 + 1, m, epoch, v2, v3, x6, x7 => if x7 < (List.length (List.replicate (Int.toNat (w64 (v3.1 * v3.2))) (0 : Int)) : Int) then (if (0 ≤ x7 ∧ x7 < (List.length x6 : Int)) then (grid_New.l0 k8 m epoch v2 v3 (List.set x6 (Int.toNat x7) (w64 (epoch + 1))) (w64 (x7 + 1))) else none) else (some (some (grid_Grid.mk (api_Map.mk m.W m.H v2) (w64 (epoch + 1)) x6)))
def grid_New.f (m : api_Map) (epoch : Int) : Option (Option grid_Grid) := (atlas_May.f m).bind fun v1 => if (((!v1) || (decide (epoch < 0))) || (decide (epoch > 4611686018427387904))) = true then (some none) else ((slices_Clone_byte_byte.f m.C).bind fun v2 => (where_Sectors.f m.W m.H).bind fun v3 => if (0 ≤ (w64 (v3.1 * v3.2)) ∧ (w64 (v3.1 * v3.2)) ≤ 1099511627776) then (grid_New.l0 fuel m epoch v2 v3 (List.replicate (Int.toNat (w64 (v3.1 * v3.2))) (0 : Int)) 0) else none)
def grid_New.R (r : (Option grid_Grid)) (u : Value) (G : List Hp) : Prop := ∃ (u0 : Value) (G0 : List Hp), O_grid_Grid r u0 G0 ∧ u = u0 ∧ G = G0
set_option maxHeartbeats 4000000 in
theorem grid_New.c {a_m_C : Option Addr} {n_m_C : Nat} (m : api_Map) (epoch : Int) (r : (Option grid_Grid)) (F : Hp) (H : grid_New.f m epoch = some r) (h_m_C : SliceR (Fl.int .u8) m.C a_m_C F) (c_m_C : List.length m.C ≤ n_m_C) :
    CallsL Try.prog 15 [(.agg #[(.int .i64 m.W), (.int .i64 m.H), (.slice a_m_C (List.length m.C) n_m_C)]), (.int .i64 epoch)] [F] (fun qp : { qp : Value × List Hp // grid_New.R r qp.1 qp.2 } => qp.1.1) (fun qp => (qp.1.2 ++ []) ++ [F]) := by
  unfold grid_New.f at H
  refine calls_atL [(0, (.agg #[(.int .i64 m.W), (.int .i64 m.H), (.slice a_m_C (List.length m.C) n_m_C)])), (1, (.int .i64 epoch))] Try.func15 rfl rfl ⟨rfl, rfl, trivial⟩ (fun W => ?_)
  refine at_seq ?_
  refine at_region [0, 1] rfl ?_
  refine at_cons (at_bx T [(.int .i64 m.W), (.int .i64 m.H), (.slice a_m_C (List.length m.C) n_m_C)] rfl rfl rfl rfl (fun b1 => ?_))
  refine at_s T rfl ?_
  refine at_end ?_
  refine at_sub [(1, (.int .i64 epoch)), (2, (.pointer (some ⟨b1, 0, none⟩)))] ⟨rfl, rfl, trivial⟩ ?_
  refine at_then ?_
  refine at_seq ?_
  refine at_seq ?_
  refine at_region [0, 1, 2, 3, 4, 5, 6, 7, 8, 9, 10] rfl ?_
  refine at_v rfl (g_loadA T (cs := [(.int .i64 m.W), (.int .i64 m.H), (.slice a_m_C (List.length m.C) n_m_C)]) rfl rfl rfl rfl rfl rfl (in_varA (j := 1) rfl rfl)) ?_
  obtain ⟨v1, V1, H⟩ := bind_e H
  refine at_cons (at_c (B := fun _ => []) [] rfl rfl rfl rfl has44 rfl rfl (atlas_May.c m v1 _ V1 (ro_of h_m_C (j := 0) rfl) c_m_C) (fun _ => ?_))
  iterate 2 refine at_s T rfl ?_
  refine at_grp T [4, 5, 6] (s := 12) (c := (!v1)) [(1, (.int .i64 epoch)), (2, (.pointer (some ⟨b1, 0, none⟩))), (15, (.bool ((!v1) || (decide (epoch < 0)))))] rfl rfl rfl (fun c2 => ⟨rfl, rfl, (by rw [c2]; rfl), trivial⟩) (fun c2 => ⟨rfl, rfl, (by rw [c2]; rfl), trivial⟩) ?_
  refine at_s T rfl ?_
  refine at_grp T [8, 9, 10] (s := 16) (c := ((!v1) || (decide (epoch < 0)))) [(1, (.int .i64 epoch)), (2, (.pointer (some ⟨b1, 0, none⟩))), (19, (.bool (((!v1) || (decide (epoch < 0))) || (decide (epoch > 4611686018427387904)))))] rfl rfl rfl (fun c3 => ⟨rfl, rfl, (by rw [c3]; rfl), trivial⟩) (fun c3 => ⟨rfl, rfl, (by rw [c3]; rfl), trivial⟩) ?_
  refine at_end ?_
  refine at_sub [(1, (.int .i64 epoch)), (2, (.pointer (some ⟨b1, 0, none⟩))), (19, (.bool (((!v1) || (decide (epoch < 0))) || (decide (epoch > 4611686018427387904)))))] ⟨rfl, rfl, rfl, trivial⟩ ?_
  refine at_then ?_
  refine at_cond rfl (fun c4 => ?_) (fun c4 => ?_)
  · replace H := if_t c4 H
    refine at_seq ?_
    refine at_region [0] rfl ?_
    refine at_s T rfl ?_
    refine at_end ?_
    refine at_to [(4, (.pointer none))] [0] [F] ⟨rfl, trivial⟩ rfl ?_
    refine at_then ?_
    refine at_ret ?_
    refine at_rt ?_
    obtain rfl := Option.some.inj H
    exact at_post (T := T) rfl (.tmp rfl .nil) (fun w o => ⟨⟨(_, _), ⟨_, _, ⟨rfl, rfl⟩, rfl, rfl⟩⟩, rfl, own_to [0] rfl o⟩)
  · replace H := if_f (bf c4) H
    refine at_skip ?_
    refine at_then ?_
    refine at_seq ?_
    refine at_region [0, 1, 2, 3, 4] rfl ?_
    refine at_s T rfl ?_
    refine at_v rfl (g_load T rfl rfl rfl rfl (in_var (j := 1) rfl rfl)) ?_
    obtain ⟨v2, V5, H⟩ := bind_e H
    refine at_cons (at_cR (slices_Clone_byte_byte.R v2) [] [] rfl rfl rfl rfl has45 rfl rfl (slices_Clone_byte_byte.c m.C v2 _ V5 (ro_of h_m_C (j := 0) rfl) c_m_C) ?_)
    rintro _ _ ⟨a2, n2, H2, s2, rfl, rfl⟩
    refine at_s T rfl ?_
    refine at_cons (at_st T 1 [(.int .i64 m.W), (.int .i64 m.H), (.slice a2 (List.length v2) n2)] rfl rfl rfl rfl rfl rfl rfl rfl rfl rfl ?_)
    refine at_end ?_
    refine at_sub [(1, (.int .i64 epoch)), (2, (.pointer (some ⟨b1, 0, none⟩)))] ⟨rfl, rfl, trivial⟩ ?_
    refine at_then ?_
    refine at_seq ?_
    refine at_region [0, 1, 2, 3, 4, 5, 6, 7, 8, 9] rfl ?_
    refine at_s T rfl ?_
    refine at_v rfl (g_load T rfl rfl rfl rfl (in_var (j := 1) rfl rfl)) ?_
    refine at_s T rfl ?_
    refine at_v rfl (g_load T rfl rfl rfl rfl (in_var (j := 1) rfl rfl)) ?_
    obtain ⟨v3, V6, H⟩ := bind_e H
    refine at_cons (at_c (B := fun _ => []) [] rfl rfl rfl rfl has46 rfl rfl (where_Sectors.c m.W m.H v3 _ V6) (fun _ => ?_))
    iterate 5 refine at_s T rfl ?_
    refine at_end ?_
    refine at_sub [(1, (.int .i64 epoch)), (2, (.pointer (some ⟨b1, 0, none⟩))), (5, (.int .i64 v3.1)), (6, (.int .i64 v3.2))] ⟨rfl, rfl, rfl, rfl, trivial⟩ ?_
    refine at_then ?_
    refine at_seq ?_
    refine at_region_m [[], [], [1], [], [], [3, 4], [3, 4, 5], [0, 1, 2, 3, 4, 5, 6], [0, 1, 2, 3, 4, 5, 6, 7], [0, 1, 2, 3, 4, 5, 6, 7, 8]] [] [F, [(b1, Obj.cells #[(.int .i64 m.W), (.int .i64 m.H), (.slice a2 (List.length v2) n2)] 25 (0, 0))], H2] mix (by kernel_rfl) (by repeat first | exact pf_body | refine pf_then ?_ | refine pf_block ?_) (fun hg pf => ?_)
    refine atm_v 0 hg pf (by kernel_rfl) (still_o [0, 0, 0] rfl) rfl rfl (g_loadA T (cs := [(.int .i64 m.W), (.int .i64 m.H), (.slice a2 (List.length v2) n2)]) rfl rfl rfl rfl rfl rfl (in_varA (j := 1) rfl rfl)) ?_
    refine atm_s T 1 hg pf (by kernel_rfl) (still_o [0, 0, 0] rfl) rfl ?_
    refine atm_s T 2 hg pf (by kernel_rfl) (still_o [0, 0, 0] rfl) rfl ?_
    refine atm_s T 3 hg pf (by kernel_rfl) (still_o [0, 0, 0] rfl) rfl ?_
    refine atm_s T 4 hg pf (by kernel_rfl) (still_o [0, 0, 0] rfl) rfl ?_
    refine atm_s T 5 hg pf (by kernel_rfl) (still_o [0, 0, 0] rfl) rfl ?_
    refine atm_one 6 (by kernel_rfl) ?_
    obtain ⟨c7, H⟩ := chk_e H
    refine at_mk (k := (Fl.int .i64)) T (0 : Int) rfl rfl rfl rfl rfl rfl rfl rfl c7 rfl (fun a3 n3 H3 s3 => ?_)
    refine atm_next (still_o [0, 0, 0] rfl) ?_
    refine atm_s T 7 hg pf (by kernel_rfl) (still_o [0, 0, 0] rfl) rfl ?_
    refine atm_one 8 (by kernel_rfl) ?_
    refine at_bx T [(.int .i64 m.W), (.int .i64 m.H), (.slice a2 (List.length v2) n2), (.int .i64 (w64 (epoch + 1))), (.slice a3 (List.length (List.replicate (Int.toNat (w64 (v3.1 * v3.2))) (0 : Int))) n3)] rfl rfl rfl rfl (fun b4 => ?_)
    refine atm_next (still_o [0, 0, 0] rfl) ?_
    refine atm_s T 9 hg pf (by kernel_rfl) (still_o [0, 0, 0] rfl) rfl ?_
    refine atm_end (by kernel_rfl) ?_
    refine at_to [(7, (.pointer (some ⟨b4, 0, none⟩)))] [0, 1, 1, 1] [F, H2, H3, [(b4, Obj.cells #[(.int .i64 m.W), (.int .i64 m.H), (.slice a2 (List.length v2) n2), (.int .i64 (w64 (epoch + 1))), (.slice a3 (List.length (List.replicate (Int.toNat (w64 (v3.1 * v3.2))) (0 : Int))) n3)] 71 (0, 0))]] ⟨rfl, trivial⟩ rfl ?_
    refine at_then ?_
    refine at_seq ?_
    refine at_seq ?_
    refine at_region [0, 1, 2, 3, 4, 5] rfl ?_
    iterate 3 refine at_s T rfl ?_
    refine at_v rfl (g_load T rfl rfl rfl rfl (in_var (j := 3) rfl rfl)) ?_
    iterate 2 refine at_s T rfl ?_
    refine at_end ?_
    refine at_sub [(7, (.pointer (some ⟨b4, 0, none⟩))), (45, (.int .i64 (List.length (List.replicate (Int.toNat (w64 (v3.1 * v3.2))) (0 : Int)) : Int))), (46, (.int .i64 0))] ⟨rfl, rfl, rfl, trivial⟩ ?_
    refine at_then ?_
    refine at_block ?_
    refine at_loopL (σ := Nat × List Int × Int × Option Addr × Nat × Hp) (fun ⟨k8, x6, x7, a6, n6, H6⟩ => grid_New.l0 k8 m epoch v2 v3 x6 x7 = some r ∧ SliceO (Fl.int .i64) 2 x6 a6 n6 H6) (fun ⟨k8, x6, x7, a6, n6, H6⟩ => [(7, (.pointer (some ⟨b4, 0, none⟩))), (45, (.int .i64 (List.length (List.replicate (Int.toNat (w64 (v3.1 * v3.2))) (0 : Int)) : Int))), (46, (.int .i64 x7))]) (fun ⟨k8, x6, x7, a6, n6, H6⟩ => [F, [(b4, Obj.cells #[(.int .i64 m.W), (.int .i64 m.H), (.slice a2 (List.length v2) n2), (.int .i64 (w64 (epoch + 1))), (.slice a6 (List.length x6) n6)] 71 (0, 0))], H2, H6]) (fun s => s.1) (fuel, (List.replicate (Int.toNat (w64 (v3.1 * v3.2))) (0 : Int)), 0, a3, n3, H3) [0, 2, 0, 0] ⟨H, s3⟩ ⟨rfl, rfl, rfl, trivial⟩ rfl ?_
    rintro ⟨k8, x6, x7, a6, n6, H6⟩ ⟨Z8, s6⟩
    replace Z8 : grid_New.l0 k8 m epoch v2 v3 x6 x7 = some r := Z8
    rcases k8 with _ | k8
    · rw [grid_New.l0] at Z8; cases Z8
    · rw [grid_New.l0] at Z8
      refine at_seq ?_
      refine at_region [0] rfl ?_
      refine at_s T rfl ?_
      refine at_end ?_
      refine at_sub [(7, (.pointer (some ⟨b4, 0, none⟩))), (45, (.int .i64 (List.length (List.replicate (Int.toNat (w64 (v3.1 * v3.2))) (0 : Int)) : Int))), (46, (.int .i64 x7)), (47, (.bool (decide (x7 < (List.length (List.replicate (Int.toNat (w64 (v3.1 * v3.2))) (0 : Int)) : Int)))))] ⟨rfl, rfl, rfl, rfl, trivial⟩ ?_
      refine at_then ?_
      refine at_seq ?_
      refine at_cond rfl (fun c9 => ?_) (fun c9 => ?_)
      · replace Z8 := if_t (of_decide_eq_true c9) Z8
        refine at_skip ?_
        refine at_then ?_
        refine at_seq ?_
        refine at_block ?_
        refine at_seq ?_
        refine at_region [0, 1] rfl ?_
        iterate 2 refine at_s T rfl ?_
        refine at_end ?_
        refine at_sub [(7, (.pointer (some ⟨b4, 0, none⟩))), (8, (.int .i64 x7)), (45, (.int .i64 (List.length (List.replicate (Int.toNat (w64 (v3.1 * v3.2))) (0 : Int)) : Int))), (46, (.int .i64 x7))] ⟨rfl, rfl, rfl, rfl, trivial⟩ ?_
        refine at_then ?_
        refine at_region_m [[], [0], [0, 1], [0, 1, 2], [], [], [5], [5, 6], [5, 6, 7], [0, 1, 2, 3, 4, 5, 6, 7, 8], [0, 1, 2, 3, 4, 5, 6, 7, 8, 9]] [10] [F, [(b4, Obj.cells #[(.int .i64 m.W), (.int .i64 m.H), (.slice a2 (List.length v2) n2), (.int .i64 (w64 (epoch + 1))), (.slice a6 (List.length x6) n6)] 71 (0, 0))], H2, H6] mix (by kernel_rfl) (by repeat first | exact pf_body | refine pf_then ?_ | refine pf_block ?_) (fun hg pf => ?_)
        refine atm_s T 0 hg pf (by kernel_rfl) (still_o [0, 0, 0, 0] rfl) rfl ?_
        refine atm_s T 1 hg pf (by kernel_rfl) (still_o [0, 0, 0, 0] rfl) rfl ?_
        refine atm_s T 2 hg pf (by kernel_rfl) (still_o [0, 0, 0, 0] rfl) rfl ?_
        refine atm_v 3 hg pf (by kernel_rfl) (still_o [0, 0, 0, 0] rfl) rfl rfl (g_load T rfl rfl rfl rfl (in_var (j := 1) rfl rfl)) ?_
        refine atm_s T 4 hg pf (by kernel_rfl) (still_o [0, 0, 0, 0] rfl) rfl ?_
        refine atm_s T 5 hg pf (by kernel_rfl) (still_o [0, 0, 0, 0] rfl) rfl ?_
        refine atm_s T 6 hg pf (by kernel_rfl) (still_o [0, 0, 0, 0] rfl) rfl ?_
        refine atm_s T 7 hg pf (by kernel_rfl) (still_o [0, 0, 0, 0] rfl) rfl ?_
        refine atm_v 8 hg pf (by kernel_rfl) (still_o [0, 0, 0, 0] rfl) rfl rfl (g_load T rfl rfl rfl rfl (in_var (j := 1) rfl rfl)) ?_
        obtain ⟨c10, Z8⟩ := chk_e Z8
        obtain ⟨q7, o7, e7⟩ := s6.r.addr c10.1 c10.2
        refine atm_v 9 hg pf (by kernel_rfl) (still_o [0, 0, 0, 0] rfl) rfl rfl (g_index T rfl rfl rfl rfl rfl e7 c10.1 c10.2) ?_
        refine atm_one 10 (by kernel_rfl) ?_
        refine at_se (k := (Fl.int .i64)) T 3 0 (w64 (epoch + 1)) rfl rfl rfl rfl rfl rfl s6 e7 c10 rfl rfl rfl (fun H8 s8 => ?_)
        refine at_to [(7, (.pointer (some ⟨b4, 0, none⟩))), (8, (.int .i64 x7)), (45, (.int .i64 (List.length (List.replicate (Int.toNat (w64 (v3.1 * v3.2))) (0 : Int)) : Int))), (46, (.int .i64 x7)), (49, (.pointer (some ⟨b4, 0, none⟩))), (50, (.pointer (some ⟨b4, 0, none⟩))), (51, (.pointer (some ⟨b4, 4, none⟩))), (52, (.slice a6 (List.length (List.set x6 (Int.toNat x7) (w64 (epoch + 1)))) n6)), (53, (.int .i64 x7)), (54, (.pointer (some ⟨b4, 0, none⟩))), (55, (.pointer (some ⟨b4, 0, none⟩))), (56, (.pointer (some ⟨b4, 3, none⟩))), (57, (.int .i64 (w64 (epoch + 1)))), (58, (.pointer (some ⟨q7, o7 + Int.toNat x7 * 1, none⟩)))] [0, 0, 0, 0] [F, [(b4, Obj.cells #[(.int .i64 m.W), (.int .i64 m.H), (.slice a2 (List.length v2) n2), (.int .i64 (w64 (epoch + 1))), (.slice a6 (List.length (List.set x6 (Int.toNat x7) (w64 (epoch + 1)))) n6)] 71 (0, 0))], H2, H8] ⟨rfl, rfl, rfl, rfl, rfl, rfl, rfl, (by first | rfl | (simp only [List.length_set]; rfl)), rfl, rfl, rfl, rfl, rfl, rfl, trivial⟩ (by first | rfl | (simp only [List.length_set]; rfl)) ?_
        refine atm_next (still_l (by kernel_rfl)) ?_
        refine atm_end (by kernel_rfl) ?_
        refine at_sub [(7, (.pointer (some ⟨b4, 0, none⟩))), (45, (.int .i64 (List.length (List.replicate (Int.toNat (w64 (v3.1 * v3.2))) (0 : Int)) : Int))), (46, (.int .i64 x7))] ⟨rfl, rfl, rfl, trivial⟩ ?_
        refine at_nb ?_
        refine at_then ?_
        refine at_region [0, 1] rfl ?_
        iterate 2 refine at_s T rfl ?_
        refine at_end ?_
        refine at_sub [(7, (.pointer (some ⟨b4, 0, none⟩))), (45, (.int .i64 (List.length (List.replicate (Int.toNat (w64 (v3.1 * v3.2))) (0 : Int)) : Int))), (46, (.int .i64 (w64 (x7 + 1))))] ⟨rfl, rfl, rfl, trivial⟩ ?_
        refine at_then ?_
        exact at_roundL (k8, (List.set x6 (Int.toNat x7) (w64 (epoch + 1))), (w64 (x7 + 1)), a6, n6, H8) [0, 0, 0, 0] ⟨Z8, s8⟩ (Nat.lt_succ_self _) ⟨rfl, rfl, rfl, trivial⟩ rfl
      · replace Z8 := if_f (of_decide_eq_false c9) Z8
        refine at_exit ?_
        refine at_xt ?_
        refine at_xt ?_
        refine at_xb ?_
        refine at_then ?_
        refine at_seq ?_
        refine at_region [0, 1] rfl ?_
        iterate 2 refine at_s T rfl ?_
        refine at_end ?_
        refine at_sub [(4, (.pointer (some ⟨b4, 0, none⟩)))] ⟨rfl, trivial⟩ ?_
        refine at_then ?_
        refine at_ret ?_
        obtain rfl := Option.some.inj Z8
        exact at_post (T := T) rfl (.tmp rfl .nil) (fun w o => ⟨⟨(_, _), ⟨_, _, ⟨b4, a2, n2, H2, a6, n6, H6, s2, s6, rfl, rfl⟩, rfl, rfl⟩⟩, rfl, own_to [1, 1, 1, 0] rfl o⟩)

/-! ### (*herdsman/grid.Grid).Version: function 18 -/
def grid_Grid_Version.f (g : grid_Grid) (sector : Int) : Option Int := (if sector < 0 then (some true) else (some (decide (sector ≥ (List.length g.versions : Int))))).bind fun x1 => if x1 = true then (some 0) else (if (0 ≤ sector ∧ sector < (List.length g.versions : Int)) then (some (rd g.versions sector)) else none)
set_option maxHeartbeats 4000000 in
theorem grid_Grid_Version.c {b_g : Nat} {a_g_m_C : Option Addr} {n_g_m_C : Nat} {H_g_m_C : Hp} {a_g_versions : Option Addr} {n_g_versions : Nat} {H_g_versions : Hp} (g : grid_Grid) (sector : Int) (r : Int) (F : Hp) (H : grid_Grid_Version.f g sector = some r) (s_g_m_C : SliceO (Fl.int .u8) 5 g.m.C a_g_m_C n_g_m_C H_g_m_C) (s_g_versions : SliceO (Fl.int .i64) 2 g.versions a_g_versions n_g_versions H_g_versions) :
    CallsL Try.prog 18 [(.pointer (some ⟨b_g, 0, none⟩)), (.int .i64 sector)] [[(b_g, Obj.cells #[(.int .i64 g.m.W), (.int .i64 g.m.H), (.slice a_g_m_C (List.length g.m.C) n_g_m_C), (.int .i64 g.epoch), (.slice a_g_versions (List.length g.versions) n_g_versions)] 71 (0, 0))], H_g_m_C, H_g_versions, F] (fun _ : Unit => (.int .i64 r)) (fun _ => [[(b_g, Obj.cells #[(.int .i64 g.m.W), (.int .i64 g.m.H), (.slice a_g_m_C (List.length g.m.C) n_g_m_C), (.int .i64 g.epoch), (.slice a_g_versions (List.length g.versions) n_g_versions)] 71 (0, 0))], H_g_m_C, H_g_versions] ++ [F]) := by
  unfold grid_Grid_Version.f at H
  refine calls_atL [(0, (.pointer (some ⟨b_g, 0, none⟩))), (1, (.int .i64 sector))] Try.func18 rfl rfl ⟨rfl, rfl, trivial⟩ (fun W => ?_)
  refine at_seq ?_
  refine at_region [0] rfl ?_
  refine at_s T rfl ?_
  refine at_end ?_
  refine at_sub [(0, (.pointer (some ⟨b_g, 0, none⟩))), (1, (.int .i64 sector))] ⟨rfl, rfl, trivial⟩ ?_
  refine at_then ?_
  refine at_seq ?_
  obtain ⟨z2, Z1, H⟩ := bind_e H
  refine at_seq_mid (σ := Bool) (fun x1 => x1 = z2) (fun x1 => [(0, (.pointer (some ⟨b_g, 0, none⟩))), (1, (.int .i64 sector)), (19, (.bool x1))]) (fun x1 => [F, [(b_g, Obj.cells #[(.int .i64 g.m.W), (.int .i64 g.m.H), (.slice a_g_m_C (List.length g.m.C) n_g_m_C), (.int .i64 g.epoch), (.slice a_g_versions (List.length g.versions) n_g_versions)] 71 (0, 0))], H_g_m_C, H_g_versions]) ?_ ?_
  · refine at_region [0, 1, 2, 3, 4, 5, 6, 7, 8, 9, 10, 11, 12, 13, 14] rfl ?_
    iterate 7 refine at_s T rfl ?_
    refine at_case (s := 11) rfl (fun c2 => ?_) (fun c2 => ?_)
    · replace Z1 := if_t (of_decide_eq_true c2) Z1
      iterate 8 refine at_s T rfl ?_
      refine at_end ?_
      refine at_sub [(0, (.pointer (some ⟨b_g, 0, none⟩))), (1, (.int .i64 sector)), (19, (.bool true))] ⟨rfl, rfl, rfl, trivial⟩ ?_
      refine at_then ?_
      obtain rfl := Option.some.inj Z1
      exact at_mid true [3, 0, 0, 0] rfl ⟨rfl, rfl, rfl, trivial⟩ rfl
    · replace Z1 := if_f (of_decide_eq_false c2) Z1
      iterate 4 refine at_s T rfl ?_
      refine at_v rfl (g_load T rfl rfl rfl rfl (in_var (j := 0) rfl rfl)) ?_
      iterate 3 refine at_s T rfl ?_
      refine at_end ?_
      refine at_sub [(0, (.pointer (some ⟨b_g, 0, none⟩))), (1, (.int .i64 sector)), (19, (.bool (decide (sector ≥ (List.length g.versions : Int)))))] ⟨rfl, rfl, rfl, trivial⟩ ?_
      refine at_then ?_
      obtain rfl := Option.some.inj Z1
      exact at_mid (decide (sector ≥ (List.length g.versions : Int))) [3, 0, 0, 0] rfl ⟨rfl, rfl, rfl, trivial⟩ rfl
  · rintro x1 rfl
    refine at_cond rfl (fun c3 => ?_) (fun c3 => ?_)
    · replace H := if_t c3 H
      refine at_seq ?_
      refine at_region [0] rfl ?_
      refine at_s T rfl ?_
      refine at_end ?_
      refine at_sub [(4, (.int .i64 0))] ⟨rfl, trivial⟩ ?_
      refine at_then ?_
      refine at_ret ?_
      refine at_rt ?_
      obtain rfl := Option.some.inj H
      exact at_post (T := T) rfl (.tmp rfl .nil) (fun w o => ⟨(), rfl, own_to [1, 1, 1, 0] rfl o⟩)
    · replace H := if_f (bf c3) H
      refine at_skip ?_
      refine at_then ?_
      refine at_seq ?_
      refine at_region [0, 1, 2, 3, 4, 5, 6, 7] rfl ?_
      iterate 3 refine at_s T rfl ?_
      refine at_v rfl (g_load T rfl rfl rfl rfl (in_var (j := 1) rfl rfl)) ?_
      refine at_s T rfl ?_
      obtain ⟨c4, H⟩ := chk_e H
      obtain ⟨q4, o4, e4⟩ := s_g_versions.r.addr c4.1 c4.2
      refine at_v rfl (g_index T rfl rfl rfl rfl rfl e4 c4.1 c4.2) ?_
      refine at_v rfl (g_load T rfl rfl rfl rfl (in_elem1 (k := (Fl.int .i64)) (own_of s_g_versions (j := 3) rfl) e4 c4 0 rfl)) ?_
      refine at_s T rfl ?_
      refine at_end ?_
      refine at_sub [(4, (.int .i64 (rd g.versions sector)))] ⟨rfl, trivial⟩ ?_
      refine at_then ?_
      refine at_ret ?_
      obtain rfl := Option.some.inj H
      exact at_post (T := T) rfl (.tmp rfl .nil) (fun w o => ⟨(), rfl, own_to [1, 1, 1, 0] rfl o⟩)

/-! ### (*herdsman/grid.Grid).Epoch: function 19 -/
def grid_Grid_Epoch.f (g : grid_Grid) : Option Int := some g.epoch
set_option maxHeartbeats 4000000 in
theorem grid_Grid_Epoch.c {b_g : Nat} {a_g_m_C : Option Addr} {n_g_m_C : Nat} {H_g_m_C : Hp} {a_g_versions : Option Addr} {n_g_versions : Nat} {H_g_versions : Hp} (g : grid_Grid) (r : Int) (F : Hp) (H : grid_Grid_Epoch.f g = some r) (s_g_m_C : SliceO (Fl.int .u8) 5 g.m.C a_g_m_C n_g_m_C H_g_m_C) (s_g_versions : SliceO (Fl.int .i64) 2 g.versions a_g_versions n_g_versions H_g_versions) :
    CallsL Try.prog 19 [(.pointer (some ⟨b_g, 0, none⟩))] [[(b_g, Obj.cells #[(.int .i64 g.m.W), (.int .i64 g.m.H), (.slice a_g_m_C (List.length g.m.C) n_g_m_C), (.int .i64 g.epoch), (.slice a_g_versions (List.length g.versions) n_g_versions)] 71 (0, 0))], H_g_m_C, H_g_versions, F] (fun _ : Unit => (.int .i64 r)) (fun _ => [[(b_g, Obj.cells #[(.int .i64 g.m.W), (.int .i64 g.m.H), (.slice a_g_m_C (List.length g.m.C) n_g_m_C), (.int .i64 g.epoch), (.slice a_g_versions (List.length g.versions) n_g_versions)] 71 (0, 0))], H_g_m_C, H_g_versions] ++ [F]) := by
  unfold grid_Grid_Epoch.f at H
  refine calls_atL [(0, (.pointer (some ⟨b_g, 0, none⟩)))] Try.func19 rfl rfl ⟨rfl, trivial⟩ (fun W => ?_)
  refine at_seq ?_
  refine at_region [0] rfl ?_
  refine at_s T rfl ?_
  refine at_end ?_
  refine at_sub [(0, (.pointer (some ⟨b_g, 0, none⟩)))] ⟨rfl, trivial⟩ ?_
  refine at_then ?_
  refine at_seq ?_
  refine at_seq ?_
  refine at_region [0, 1] rfl ?_
  iterate 2 refine at_s T rfl ?_
  refine at_end ?_
  refine at_sub [(0, (.pointer (some ⟨b_g, 0, none⟩))), (4, (.bool false))] ⟨rfl, rfl, trivial⟩ ?_
  refine at_then ?_
  refine at_cond_f rfl ?_
  refine at_skip ?_
  refine at_then ?_
  refine at_seq ?_
  refine at_region [0, 1, 2, 3, 4] rfl ?_
  iterate 3 refine at_s T rfl ?_
  refine at_v rfl (g_load T rfl rfl rfl rfl (in_var (j := 0) rfl rfl)) ?_
  refine at_s T rfl ?_
  refine at_end ?_
  refine at_sub [(2, (.int .i64 g.epoch))] ⟨rfl, trivial⟩ ?_
  refine at_then ?_
  refine at_ret ?_
  obtain rfl := Option.some.inj H
  exact at_post (T := T) rfl (.tmp rfl .nil) (fun w o => ⟨(), rfl, own_to [0, 0, 0, 0] rfl o⟩)

/-! ### (*herdsman/grid.Grid).Cost: function 20 -/
def grid_Grid_Cost.f (g : grid_Grid) (cell : Int) : Option Int := (if cell < 0 then (some true) else (some (decide (cell ≥ (List.length g.m.C : Int))))).bind fun x1 => if x1 = true then (some 0) else (if (0 ≤ cell ∧ cell < (List.length g.m.C : Int)) then (some (w64 (rd g.m.C cell))) else none)
set_option maxHeartbeats 4000000 in
theorem grid_Grid_Cost.c {b_g : Nat} {a_g_m_C : Option Addr} {n_g_m_C : Nat} {H_g_m_C : Hp} {a_g_versions : Option Addr} {n_g_versions : Nat} {H_g_versions : Hp} (g : grid_Grid) (cell : Int) (r : Int) (F : Hp) (H : grid_Grid_Cost.f g cell = some r) (s_g_m_C : SliceO (Fl.int .u8) 5 g.m.C a_g_m_C n_g_m_C H_g_m_C) (s_g_versions : SliceO (Fl.int .i64) 2 g.versions a_g_versions n_g_versions H_g_versions) :
    CallsL Try.prog 20 [(.pointer (some ⟨b_g, 0, none⟩)), (.int .i64 cell)] [[(b_g, Obj.cells #[(.int .i64 g.m.W), (.int .i64 g.m.H), (.slice a_g_m_C (List.length g.m.C) n_g_m_C), (.int .i64 g.epoch), (.slice a_g_versions (List.length g.versions) n_g_versions)] 71 (0, 0))], H_g_m_C, H_g_versions, F] (fun _ : Unit => (.int .i64 r)) (fun _ => [[(b_g, Obj.cells #[(.int .i64 g.m.W), (.int .i64 g.m.H), (.slice a_g_m_C (List.length g.m.C) n_g_m_C), (.int .i64 g.epoch), (.slice a_g_versions (List.length g.versions) n_g_versions)] 71 (0, 0))], H_g_m_C, H_g_versions] ++ [F]) := by
  unfold grid_Grid_Cost.f at H
  refine calls_atL [(0, (.pointer (some ⟨b_g, 0, none⟩))), (1, (.int .i64 cell))] Try.func20 rfl rfl ⟨rfl, rfl, trivial⟩ (fun W => ?_)
  refine at_seq ?_
  refine at_region [0] rfl ?_
  refine at_s T rfl ?_
  refine at_end ?_
  refine at_sub [(0, (.pointer (some ⟨b_g, 0, none⟩))), (1, (.int .i64 cell))] ⟨rfl, rfl, trivial⟩ ?_
  refine at_then ?_
  refine at_seq ?_
  obtain ⟨z2, Z1, H⟩ := bind_e H
  refine at_seq_mid (σ := Bool) (fun x1 => x1 = z2) (fun x1 => [(0, (.pointer (some ⟨b_g, 0, none⟩))), (1, (.int .i64 cell)), (20, (.bool x1))]) (fun x1 => [F, [(b_g, Obj.cells #[(.int .i64 g.m.W), (.int .i64 g.m.H), (.slice a_g_m_C (List.length g.m.C) n_g_m_C), (.int .i64 g.epoch), (.slice a_g_versions (List.length g.versions) n_g_versions)] 71 (0, 0))], H_g_m_C, H_g_versions]) ?_ ?_
  · refine at_region [0, 1, 2, 3, 4, 5, 6, 7, 8, 9, 10, 11, 12, 13, 14, 15] rfl ?_
    iterate 7 refine at_s T rfl ?_
    refine at_case (s := 11) rfl (fun c2 => ?_) (fun c2 => ?_)
    · replace Z1 := if_t (of_decide_eq_true c2) Z1
      iterate 9 refine at_s T rfl ?_
      refine at_end ?_
      refine at_sub [(0, (.pointer (some ⟨b_g, 0, none⟩))), (1, (.int .i64 cell)), (20, (.bool true))] ⟨rfl, rfl, rfl, trivial⟩ ?_
      refine at_then ?_
      obtain rfl := Option.some.inj Z1
      exact at_mid true [3, 0, 0, 0] rfl ⟨rfl, rfl, rfl, trivial⟩ rfl
    · replace Z1 := if_f (of_decide_eq_false c2) Z1
      iterate 5 refine at_s T rfl ?_
      refine at_v rfl (g_load T rfl rfl rfl rfl (in_var (j := 0) rfl rfl)) ?_
      iterate 3 refine at_s T rfl ?_
      refine at_end ?_
      refine at_sub [(0, (.pointer (some ⟨b_g, 0, none⟩))), (1, (.int .i64 cell)), (20, (.bool (decide (cell ≥ (List.length g.m.C : Int)))))] ⟨rfl, rfl, rfl, trivial⟩ ?_
      refine at_then ?_
      obtain rfl := Option.some.inj Z1
      exact at_mid (decide (cell ≥ (List.length g.m.C : Int))) [3, 0, 0, 0] rfl ⟨rfl, rfl, rfl, trivial⟩ rfl
  · rintro x1 rfl
    refine at_cond rfl (fun c3 => ?_) (fun c3 => ?_)
    · replace H := if_t c3 H
      refine at_seq ?_
      refine at_region [0] rfl ?_
      refine at_s T rfl ?_
      refine at_end ?_
      refine at_sub [(4, (.int .i64 0))] ⟨rfl, trivial⟩ ?_
      refine at_then ?_
      refine at_ret ?_
      refine at_rt ?_
      obtain rfl := Option.some.inj H
      exact at_post (T := T) rfl (.tmp rfl .nil) (fun w o => ⟨(), rfl, own_to [1, 1, 1, 0] rfl o⟩)
    · replace H := if_f (bf c3) H
      refine at_skip ?_
      refine at_then ?_
      refine at_seq ?_
      refine at_region [0, 1, 2, 3, 4, 5, 6, 7, 8, 9] rfl ?_
      iterate 4 refine at_s T rfl ?_
      refine at_v rfl (g_load T rfl rfl rfl rfl (in_var (j := 1) rfl rfl)) ?_
      refine at_s T rfl ?_
      obtain ⟨c4, H⟩ := chk_e H
      obtain ⟨q4, o4, e4⟩ := s_g_m_C.r.addr c4.1 c4.2
      refine at_v rfl (g_index T rfl rfl rfl rfl rfl e4 c4.1 c4.2) ?_
      refine at_v rfl (g_load T rfl rfl rfl rfl (in_elem1 (k := (Fl.int .u8)) (own_of s_g_m_C (j := 2) rfl) e4 c4 0 rfl)) ?_
      iterate 2 refine at_s T rfl ?_
      refine at_end ?_
      refine at_sub [(4, (.int .i64 (w64 (rd g.m.C cell))))] ⟨rfl, trivial⟩ ?_
      refine at_then ?_
      refine at_ret ?_
      obtain rfl := Option.some.inj H
      exact at_post (T := T) rfl (.tmp rfl .nil) (fun w o => ⟨(), rfl, own_to [1, 1, 1, 0] rfl o⟩)

/-! ### (*herdsman/grid.Grid).Edit: function 21 -/
def grid_Grid_Edit.f (g : grid_Grid) (cell : Int) (cost : Int) : Option (Int × grid_Grid) := (if cell < 0 then (some true) else (some (decide (cell ≥ (List.length g.m.C : Int))))).bind fun x1 => if x1 = true then (some (7, g)) else (if ((decide (cost < 1)) || (decide (cost > 255))) = true then (some (8, g)) else (if (0 ≤ cell ∧ cell < (List.length g.m.C : Int)) then ((where_Sector.f g.m.W g.m.H cell).bind fun v3 => if (0 ≤ v3 ∧ v3 < (List.length g.versions : Int)) then (some (0, (grid_Grid.mk (api_Map.mk g.m.W g.m.H (List.set g.m.C (Int.toNat cell) (wu8 cost))) (w64 (g.epoch + 1)) (List.set g.versions (Int.toNat v3) (w64 (g.epoch + 1)))))) else none) else none))
def grid_Grid_Edit.R (b_g : Nat) (r : (Int × grid_Grid)) (u : Value) (G : List Hp) : Prop := ∃ (a0 : Option Addr) (n0 : Nat) (H0 : Hp) (a1 : Option Addr) (n1 : Nat) (H1 : Hp), SliceO (Fl.int .u8) 5 r.2.m.C a0 n0 H0 ∧ SliceO (Fl.int .i64) 2 r.2.versions a1 n1 H1 ∧ u = (.int .i64 r.1) ∧ G = [[(b_g, Obj.cells #[(.int .i64 r.2.m.W), (.int .i64 r.2.m.H), (.slice a0 (List.length r.2.m.C) n0), (.int .i64 r.2.epoch), (.slice a1 (List.length r.2.versions) n1)] 71 (0, 0))], H0, H1]
set_option maxHeartbeats 4000000 in
theorem grid_Grid_Edit.c {b_g : Nat} {a_g_m_C : Option Addr} {n_g_m_C : Nat} {H_g_m_C : Hp} {a_g_versions : Option Addr} {n_g_versions : Nat} {H_g_versions : Hp} (g : grid_Grid) (cell : Int) (cost : Int) (r : (Int × grid_Grid)) (F : Hp) (H : grid_Grid_Edit.f g cell cost = some r) (s_g_m_C : SliceO (Fl.int .u8) 5 g.m.C a_g_m_C n_g_m_C H_g_m_C) (s_g_versions : SliceO (Fl.int .i64) 2 g.versions a_g_versions n_g_versions H_g_versions) :
    CallsL Try.prog 21 [(.pointer (some ⟨b_g, 0, none⟩)), (.int .i64 cell), (.int .i64 cost)] [[(b_g, Obj.cells #[(.int .i64 g.m.W), (.int .i64 g.m.H), (.slice a_g_m_C (List.length g.m.C) n_g_m_C), (.int .i64 g.epoch), (.slice a_g_versions (List.length g.versions) n_g_versions)] 71 (0, 0))], H_g_m_C, H_g_versions, F] (fun qp : { qp : Value × List Hp // grid_Grid_Edit.R b_g r qp.1 qp.2 } => qp.1.1) (fun qp => (qp.1.2 ++ []) ++ [F]) := by
  unfold grid_Grid_Edit.f at H
  refine calls_atL [(0, (.pointer (some ⟨b_g, 0, none⟩))), (1, (.int .i64 cell)), (2, (.int .i64 cost))] Try.func21 rfl rfl ⟨rfl, rfl, rfl, trivial⟩ (fun W => ?_)
  refine at_seq ?_
  refine at_region [0] rfl ?_
  refine at_s T rfl ?_
  refine at_end ?_
  refine at_sub [(0, (.pointer (some ⟨b_g, 0, none⟩))), (1, (.int .i64 cell)), (2, (.int .i64 cost))] ⟨rfl, rfl, rfl, trivial⟩ ?_
  refine at_then ?_
  refine at_seq ?_
  refine at_block ?_
  refine at_seq ?_
  refine at_region [0, 1, 2] rfl ?_
  iterate 3 refine at_s T rfl ?_
  refine at_end ?_
  refine at_sub [(0, (.pointer (some ⟨b_g, 0, none⟩))), (1, (.int .i64 cell)), (2, (.int .i64 cost)), (7, (.bool false))] ⟨rfl, rfl, rfl, rfl, trivial⟩ ?_
  refine at_then ?_
  refine at_cond_f rfl ?_
  obtain ⟨z2, Z1, H⟩ := bind_e H
  refine at_seq_mid (σ := Bool) (fun x1 => x1 = z2) (fun x1 => [(0, (.pointer (some ⟨b_g, 0, none⟩))), (1, (.int .i64 cell)), (2, (.int .i64 cost)), (10, (.bool x1))]) (fun x1 => [F, [(b_g, Obj.cells #[(.int .i64 g.m.W), (.int .i64 g.m.H), (.slice a_g_m_C (List.length g.m.C) n_g_m_C), (.int .i64 g.epoch), (.slice a_g_versions (List.length g.versions) n_g_versions)] 71 (0, 0))], H_g_m_C, H_g_versions]) ?_ ?_
  · refine at_region [0, 1, 2, 3, 4, 5, 6, 7, 8, 9, 10, 11, 12] rfl ?_
    iterate 3 refine at_s T rfl ?_
    refine at_case (s := 13) rfl (fun c2 => ?_) (fun c2 => ?_)
    · replace Z1 := if_t (of_decide_eq_true c2) Z1
      iterate 10 refine at_s T rfl ?_
      refine at_end ?_
      refine at_sub [(0, (.pointer (some ⟨b_g, 0, none⟩))), (1, (.int .i64 cell)), (2, (.int .i64 cost)), (10, (.bool true))] ⟨rfl, rfl, rfl, rfl, trivial⟩ ?_
      refine at_then ?_
      obtain rfl := Option.some.inj Z1
      exact at_mid true [3, 0, 0, 0] rfl ⟨rfl, rfl, rfl, rfl, trivial⟩ rfl
    · replace Z1 := if_f (of_decide_eq_false c2) Z1
      iterate 5 refine at_s T rfl ?_
      refine at_v rfl (g_load T rfl rfl rfl rfl (in_var (j := 0) rfl rfl)) ?_
      iterate 4 refine at_s T rfl ?_
      refine at_end ?_
      refine at_sub [(0, (.pointer (some ⟨b_g, 0, none⟩))), (1, (.int .i64 cell)), (2, (.int .i64 cost)), (10, (.bool (decide (cell ≥ (List.length g.m.C : Int)))))] ⟨rfl, rfl, rfl, rfl, trivial⟩ ?_
      refine at_then ?_
      obtain rfl := Option.some.inj Z1
      exact at_mid (decide (cell ≥ (List.length g.m.C : Int))) [3, 0, 0, 0] rfl ⟨rfl, rfl, rfl, rfl, trivial⟩ rfl
  · rintro x1 rfl
    refine at_cond rfl (fun c3 => ?_) (fun c3 => ?_)
    · replace H := if_t c3 H
      refine at_seq ?_
      refine at_region [0] rfl ?_
      refine at_s T rfl ?_
      refine at_end ?_
      refine at_sub [(6, (.int .i64 7))] ⟨rfl, trivial⟩ ?_
      refine at_then ?_
      refine at_ret ?_
      refine at_rb ?_
      refine at_rt ?_
      obtain rfl := Option.some.inj H
      exact at_post (T := T) rfl (.tmp rfl .nil) (fun w o => ⟨⟨(_, _), ⟨a_g_m_C, n_g_m_C, H_g_m_C, a_g_versions, n_g_versions, H_g_versions, s_g_m_C, s_g_versions, rfl, rfl⟩⟩, rfl, own_to [1, 1, 1, 0] rfl o⟩)
    · replace H := if_f (bf c3) H
      refine at_seq ?_
      refine at_region [0, 1, 2, 3, 4, 5, 6] rfl ?_
      iterate 3 refine at_s T rfl ?_
      refine at_grp T [3, 4, 5] (s := 26) (c := (decide (cost < 1))) [(0, (.pointer (some ⟨b_g, 0, none⟩))), (1, (.int .i64 cell)), (2, (.int .i64 cost)), (29, (.bool ((decide (cost < 1)) || (decide (cost > 255)))))] rfl rfl rfl (fun c4 => ⟨rfl, rfl, rfl, (by rw [c4]; rfl), trivial⟩) (fun c4 => ⟨rfl, rfl, rfl, (by rw [c4]; rfl), trivial⟩) ?_
      refine at_s T rfl ?_
      refine at_end ?_
      refine at_sub [(0, (.pointer (some ⟨b_g, 0, none⟩))), (1, (.int .i64 cell)), (2, (.int .i64 cost)), (23, (.bool ((decide (cost < 1)) || (decide (cost > 255)))))] ⟨rfl, rfl, rfl, rfl, trivial⟩ ?_
      refine at_then ?_
      refine at_cond rfl (fun c5 => ?_) (fun c5 => ?_)
      · replace H := if_t c5 H
        refine at_seq ?_
        refine at_region [0] rfl ?_
        refine at_s T rfl ?_
        refine at_end ?_
        refine at_sub [(6, (.int .i64 8))] ⟨rfl, trivial⟩ ?_
        refine at_then ?_
        refine at_ret ?_
        refine at_rb ?_
        refine at_rt ?_
        obtain rfl := Option.some.inj H
        exact at_post (T := T) rfl (.tmp rfl .nil) (fun w o => ⟨⟨(_, _), ⟨a_g_m_C, n_g_m_C, H_g_m_C, a_g_versions, n_g_versions, H_g_versions, s_g_m_C, s_g_versions, rfl, rfl⟩⟩, rfl, own_to [1, 1, 1, 0] rfl o⟩)
      · replace H := if_f (bf c5) H
        refine at_skip ?_
        refine at_nb ?_
        refine at_then ?_
        refine at_seq ?_
        refine at_region [0, 1, 2, 3, 4, 5, 6, 7, 8, 9] rfl ?_
        iterate 4 refine at_s T rfl ?_
        refine at_v rfl (g_load T rfl rfl rfl rfl (in_var (j := 1) rfl rfl)) ?_
        iterate 3 refine at_s T rfl ?_
        obtain ⟨c6, H⟩ := chk_e H
        obtain ⟨q4, o4, e4⟩ := s_g_m_C.r.addr c6.1 c6.2
        refine at_v rfl (g_index T rfl rfl rfl rfl rfl e4 c6.1 c6.2) ?_
        refine at_cons (at_se (k := (Fl.int .u8)) T 2 0 (wu8 cost) rfl rfl rfl rfl rfl rfl s_g_m_C e4 c6 rfl rfl rfl (fun H5 s5 => ?_))
        refine at_to [(0, (.pointer (some ⟨b_g, 0, none⟩))), (1, (.int .i64 cell))] [0, 0, 0, 0] [F, [(b_g, Obj.cells #[(.int .i64 g.m.W), (.int .i64 g.m.H), (.slice a_g_m_C (List.length (List.set g.m.C (Int.toNat cell) (wu8 cost))) n_g_m_C), (.int .i64 g.epoch), (.slice a_g_versions (List.length g.versions) n_g_versions)] 71 (0, 0))], H5, H_g_versions] ⟨rfl, rfl, trivial⟩ (by first | rfl | (simp only [List.length_set]; rfl)) ?_
        refine at_end ?_
        refine at_sub [(0, (.pointer (some ⟨b_g, 0, none⟩))), (1, (.int .i64 cell))] ⟨rfl, rfl, trivial⟩ ?_
        refine at_then ?_
        refine at_seq ?_
        refine at_region [0, 1, 2, 3, 4, 5, 6, 7] rfl ?_
        iterate 3 refine at_s T rfl ?_
        refine at_v rfl (g_load T rfl rfl rfl rfl (in_var (j := 1) rfl rfl)) ?_
        iterate 3 refine at_s T rfl ?_
        refine at_cons (at_st T 1 [(.int .i64 g.m.W), (.int .i64 g.m.H), (.slice a_g_m_C (List.length (List.set g.m.C (Int.toNat cell) (wu8 cost))) n_g_m_C), (.int .i64 (w64 (g.epoch + 1))), (.slice a_g_versions (List.length g.versions) n_g_versions)] rfl rfl rfl rfl rfl rfl rfl rfl rfl rfl ?_)
        refine at_end ?_
        refine at_sub [(0, (.pointer (some ⟨b_g, 0, none⟩))), (1, (.int .i64 cell))] ⟨rfl, rfl, trivial⟩ ?_
        refine at_then ?_
        refine at_seq ?_
        refine at_region_m [[], [0], [0, 1], [0, 1, 2], [], [4], [4, 5], [4, 5, 6], [4, 5, 6, 7], [], [9], [9, 10], [9, 10, 11], [9, 10, 11, 12], [], [4, 5, 6, 7, 8, 9, 10, 11, 12, 13, 14], [], [16], [16, 17], [16, 17, 18], [0, 1, 2, 3, 4, 5, 6, 7, 8, 9, 10, 11, 12, 13, 14, 15, 16, 17, 18, 19], [0, 1, 2, 3, 4, 5, 6, 7, 8, 9, 10, 11, 12, 13, 14, 15, 16, 17, 18, 19, 20]] [21] [F, [(b_g, Obj.cells #[(.int .i64 g.m.W), (.int .i64 g.m.H), (.slice a_g_m_C (List.length (List.set g.m.C (Int.toNat cell) (wu8 cost))) n_g_m_C), (.int .i64 (w64 (g.epoch + 1))), (.slice a_g_versions (List.length g.versions) n_g_versions)] 71 (0, 0))], H5, H_g_versions] mix (by kernel_rfl) (by repeat first | exact pf_body | refine pf_then ?_ | refine pf_block ?_) (fun hg pf => ?_)
        refine atm_s T 0 hg pf (by kernel_rfl) (still_o [0, 0, 0, 0] rfl) rfl ?_
        refine atm_s T 1 hg pf (by kernel_rfl) (still_o [0, 0, 0, 0] rfl) rfl ?_
        refine atm_s T 2 hg pf (by kernel_rfl) (still_o [0, 0, 0, 0] rfl) rfl ?_
        refine atm_v 3 hg pf (by kernel_rfl) (still_o [0, 0, 0, 0] rfl) rfl rfl (g_load T rfl rfl rfl rfl (in_var (j := 1) rfl rfl)) ?_
        refine atm_s T 4 hg pf (by kernel_rfl) (still_o [0, 0, 0, 0] rfl) rfl ?_
        refine atm_s T 5 hg pf (by kernel_rfl) (still_o [0, 0, 0, 0] rfl) rfl ?_
        refine atm_s T 6 hg pf (by kernel_rfl) (still_o [0, 0, 0, 0] rfl) rfl ?_
        refine atm_s T 7 hg pf (by kernel_rfl) (still_o [0, 0, 0, 0] rfl) rfl ?_
        refine atm_v 8 hg pf (by kernel_rfl) (still_o [0, 0, 0, 0] rfl) rfl rfl (g_load T rfl rfl rfl rfl (in_var (j := 1) rfl rfl)) ?_
        refine atm_s T 9 hg pf (by kernel_rfl) (still_o [0, 0, 0, 0] rfl) rfl ?_
        refine atm_s T 10 hg pf (by kernel_rfl) (still_o [0, 0, 0, 0] rfl) rfl ?_
        refine atm_s T 11 hg pf (by kernel_rfl) (still_o [0, 0, 0, 0] rfl) rfl ?_
        refine atm_s T 12 hg pf (by kernel_rfl) (still_o [0, 0, 0, 0] rfl) rfl ?_
        refine atm_v 13 hg pf (by kernel_rfl) (still_o [0, 0, 0, 0] rfl) rfl rfl (g_load T rfl rfl rfl rfl (in_var (j := 1) rfl rfl)) ?_
        refine atm_s T 14 hg pf (by kernel_rfl) (still_o [0, 0, 0, 0] rfl) rfl ?_
        refine atm_s T 16 hg pf (by kernel_rfl) (still_o [0, 0, 0, 0] rfl) rfl ?_
        refine atm_s T 17 hg pf (by kernel_rfl) (still_o [0, 0, 0, 0] rfl) rfl ?_
        refine atm_s T 18 hg pf (by kernel_rfl) (still_o [0, 0, 0, 0] rfl) rfl ?_
        refine atm_v 19 hg pf (by kernel_rfl) (still_o [0, 0, 0, 0] rfl) rfl rfl (g_load T rfl rfl rfl rfl (in_var (j := 1) rfl rfl)) ?_
        refine atm_one 15 (by kernel_rfl) ?_
        obtain ⟨v3, V7, H⟩ := bind_e H
        refine at_c (B := fun _ => []) [] rfl rfl rfl rfl has48 rfl rfl (where_Sector.c g.m.W g.m.H cell v3 _ V7) (fun _ => ?_)
        refine atm_next (still_o [0, 0, 0, 0] rfl) ?_
        obtain ⟨c8, H⟩ := chk_e H
        obtain ⟨q6, o6, e6⟩ := s_g_versions.r.addr c8.1 c8.2
        refine atm_v 20 hg pf (by kernel_rfl) (still_o [0, 0, 0, 0] rfl) rfl rfl (g_index T rfl rfl rfl rfl rfl e6 c8.1 c8.2) ?_
        refine atm_one 21 (by kernel_rfl) ?_
        refine at_se (k := (Fl.int .i64)) T 3 0 (w64 (g.epoch + 1)) rfl rfl rfl rfl rfl rfl s_g_versions e6 c8 rfl rfl rfl (fun H7 s7 => ?_)
        refine at_to [(0, (.pointer (some ⟨b_g, 0, none⟩))), (1, (.int .i64 cell)), (46, (.pointer (some ⟨b_g, 0, none⟩))), (47, (.pointer (some ⟨b_g, 0, none⟩))), (48, (.pointer (some ⟨b_g, 4, none⟩))), (49, (.slice a_g_versions (List.length (List.set g.versions (Int.toNat v3) (w64 (g.epoch + 1)))) n_g_versions)), (50, (.pointer (some ⟨b_g, 0, none⟩))), (51, (.pointer (some ⟨b_g, 0, none⟩))), (52, (.pointer (some ⟨b_g, 0, none⟩))), (53, (.pointer (some ⟨b_g, 0, none⟩))), (54, (.int .i64 g.m.W)), (55, (.pointer (some ⟨b_g, 0, none⟩))), (56, (.pointer (some ⟨b_g, 0, none⟩))), (57, (.pointer (some ⟨b_g, 0, none⟩))), (58, (.pointer (some ⟨b_g, 1, none⟩))), (59, (.int .i64 g.m.H)), (60, (.int .i64 cell)), (61, (.int .i64 v3)), (62, (.pointer (some ⟨b_g, 0, none⟩))), (63, (.pointer (some ⟨b_g, 0, none⟩))), (64, (.pointer (some ⟨b_g, 3, none⟩))), (65, (.int .i64 (w64 (g.epoch + 1)))), (66, (.pointer (some ⟨q6, o6 + Int.toNat v3 * 1, none⟩)))] [0, 0, 0, 0] [F, [(b_g, Obj.cells #[(.int .i64 g.m.W), (.int .i64 g.m.H), (.slice a_g_m_C (List.length (List.set g.m.C (Int.toNat cell) (wu8 cost))) n_g_m_C), (.int .i64 (w64 (g.epoch + 1))), (.slice a_g_versions (List.length (List.set g.versions (Int.toNat v3) (w64 (g.epoch + 1)))) n_g_versions)] 71 (0, 0))], H5, H7] ⟨rfl, rfl, rfl, rfl, rfl, (by first | rfl | (simp only [List.length_set]; rfl)), rfl, rfl, rfl, rfl, rfl, rfl, rfl, rfl, rfl, rfl, rfl, rfl, rfl, rfl, rfl, rfl, rfl, trivial⟩ (by first | rfl | (simp only [List.length_set]; rfl)) ?_
        refine atm_next (still_l (by kernel_rfl)) ?_
        refine atm_end (by kernel_rfl) ?_
        refine at_sub [] trivial ?_
        refine at_then ?_
        refine at_seq ?_
        refine at_region [0] rfl ?_
        refine at_s T rfl ?_
        refine at_end ?_
        refine at_sub [(6, (.int .i64 0))] ⟨rfl, trivial⟩ ?_
        refine at_then ?_
        refine at_ret ?_
        obtain rfl := Option.some.inj H
        exact at_post (T := T) rfl (.tmp rfl .nil) (fun w o => ⟨⟨(_, _), ⟨a_g_m_C, n_g_m_C, H5, a_g_versions, n_g_versions, H7, s5, s7, rfl, rfl⟩⟩, rfl, own_to [1, 1, 1, 0] rfl o⟩)

/-! ### (*herdsman/grid.Grid).Map: function 27 -/
def grid_Grid_Map.f (g : grid_Grid) : Option api_Map := (slices_Clone_byte_byte.f g.m.C).bind fun v1 => some (api_Map.mk g.m.W g.m.H v1)
def grid_Grid_Map.R (r : api_Map) (u : Value) (G : List Hp) : Prop := ∃ (a0 : Option Addr) (n0 : Nat) (H0 : Hp), SliceO (Fl.int .u8) 5 r.C a0 n0 H0 ∧ u = (.agg #[(.int .i64 r.W), (.int .i64 r.H), (.slice a0 (List.length r.C) n0)]) ∧ G = [H0]
set_option maxHeartbeats 4000000 in
theorem grid_Grid_Map.c {b_g : Nat} {a_g_m_C : Option Addr} {n_g_m_C : Nat} {H_g_m_C : Hp} {a_g_versions : Option Addr} {n_g_versions : Nat} {H_g_versions : Hp} (g : grid_Grid) (r : api_Map) (F : Hp) (H : grid_Grid_Map.f g = some r) (s_g_m_C : SliceO (Fl.int .u8) 5 g.m.C a_g_m_C n_g_m_C H_g_m_C) (s_g_versions : SliceO (Fl.int .i64) 2 g.versions a_g_versions n_g_versions H_g_versions) :
    CallsL Try.prog 27 [(.pointer (some ⟨b_g, 0, none⟩))] [[(b_g, Obj.cells #[(.int .i64 g.m.W), (.int .i64 g.m.H), (.slice a_g_m_C (List.length g.m.C) n_g_m_C), (.int .i64 g.epoch), (.slice a_g_versions (List.length g.versions) n_g_versions)] 71 (0, 0))], H_g_m_C, H_g_versions, F] (fun qp : { qp : Value × List Hp // grid_Grid_Map.R r qp.1 qp.2 } => qp.1.1) (fun qp => (qp.1.2 ++ [[(b_g, Obj.cells #[(.int .i64 g.m.W), (.int .i64 g.m.H), (.slice a_g_m_C (List.length g.m.C) n_g_m_C), (.int .i64 g.epoch), (.slice a_g_versions (List.length g.versions) n_g_versions)] 71 (0, 0))], H_g_m_C, H_g_versions]) ++ [F]) := by
  unfold grid_Grid_Map.f at H
  refine calls_atL [(0, (.pointer (some ⟨b_g, 0, none⟩)))] Try.func27 rfl rfl ⟨rfl, trivial⟩ (fun W => ?_)
  refine at_seq ?_
  refine at_region [0] rfl ?_
  refine at_cons (at_al T [(.int .i64 0), (.int .i64 0), (.slice none 0 0)] rfl rfl rfl rfl (fun b4 => ?_))
  refine at_end ?_
  refine at_sub [(0, (.pointer (some ⟨b_g, 0, none⟩))), (2, (.pointer (some ⟨b4, 0, none⟩)))] ⟨rfl, rfl, trivial⟩ ?_
  refine at_then ?_
  refine at_seq ?_
  refine at_seq ?_
  refine at_region [0, 1] rfl ?_
  iterate 2 refine at_s T rfl ?_
  refine at_end ?_
  refine at_sub [(0, (.pointer (some ⟨b_g, 0, none⟩))), (2, (.pointer (some ⟨b4, 0, none⟩))), (4, (.bool false))] ⟨rfl, rfl, rfl, trivial⟩ ?_
  refine at_then ?_
  refine at_cond_f rfl ?_
  refine at_skip ?_
  refine at_then ?_
  refine at_seq ?_
  refine at_region_m [[], [0], [0, 1], [0, 1, 2], [0, 1, 2, 3], [], [5], [5, 6], [5, 6, 7], [5, 6, 7, 8], [], [10], [10, 11], [10, 11, 12], [10, 11, 12, 13], [10, 11, 12, 13, 14], [0, 1, 2, 3, 4, 5, 6, 7, 8, 9, 10, 11, 12, 13, 14, 15], [0, 1, 2, 3, 4, 5, 6, 7, 8, 9, 10, 11, 12, 13, 14, 15, 16]] [17] [[(b_g, Obj.cells #[(.int .i64 g.m.W), (.int .i64 g.m.H), (.slice a_g_m_C (List.length g.m.C) n_g_m_C), (.int .i64 g.epoch), (.slice a_g_versions (List.length g.versions) n_g_versions)] 71 (0, 0))], H_g_m_C, H_g_versions, F, [(b4, Obj.cells #[(.int .i64 0), (.int .i64 0), (.slice none 0 0)] 25 (0, 0))]] mix (by kernel_rfl) (by repeat first | exact pf_body | refine pf_then ?_ | refine pf_block ?_) (fun hg pf => ?_)
  refine atm_s T 0 hg pf (by kernel_rfl) (still_o [0, 0, 0, 0, 0] rfl) rfl ?_
  refine atm_s T 1 hg pf (by kernel_rfl) (still_o [0, 0, 0, 0, 0] rfl) rfl ?_
  refine atm_s T 2 hg pf (by kernel_rfl) (still_o [0, 0, 0, 0, 0] rfl) rfl ?_
  refine atm_s T 3 hg pf (by kernel_rfl) (still_o [0, 0, 0, 0, 0] rfl) rfl ?_
  refine atm_v 4 hg pf (by kernel_rfl) (still_o [0, 0, 0, 0, 0] rfl) rfl rfl (g_load T rfl rfl rfl rfl (in_var (j := 0) rfl rfl)) ?_
  refine atm_s T 5 hg pf (by kernel_rfl) (still_o [0, 0, 0, 0, 0] rfl) rfl ?_
  refine atm_s T 6 hg pf (by kernel_rfl) (still_o [0, 0, 0, 0, 0] rfl) rfl ?_
  refine atm_s T 7 hg pf (by kernel_rfl) (still_o [0, 0, 0, 0, 0] rfl) rfl ?_
  refine atm_s T 8 hg pf (by kernel_rfl) (still_o [0, 0, 0, 0, 0] rfl) rfl ?_
  refine atm_v 9 hg pf (by kernel_rfl) (still_o [0, 0, 0, 0, 0] rfl) rfl rfl (g_load T rfl rfl rfl rfl (in_var (j := 0) rfl rfl)) ?_
  refine atm_s T 10 hg pf (by kernel_rfl) (still_o [0, 0, 0, 0, 0] rfl) rfl ?_
  refine atm_s T 11 hg pf (by kernel_rfl) (still_o [0, 0, 0, 0, 0] rfl) rfl ?_
  refine atm_s T 12 hg pf (by kernel_rfl) (still_o [0, 0, 0, 0, 0] rfl) rfl ?_
  refine atm_s T 13 hg pf (by kernel_rfl) (still_o [0, 0, 0, 0, 0] rfl) rfl ?_
  refine atm_v 14 hg pf (by kernel_rfl) (still_o [0, 0, 0, 0, 0] rfl) rfl rfl (g_load T rfl rfl rfl rfl (in_var (j := 0) rfl rfl)) ?_
  refine atm_one 15 (by kernel_rfl) ?_
  obtain ⟨v1, V1, H⟩ := bind_e H
  refine at_cR (slices_Clone_byte_byte.R v1) [] [] rfl rfl rfl rfl has45 rfl rfl (slices_Clone_byte_byte.c g.m.C v1 _ V1 (own_of s_g_m_C (j := 1) rfl) s_g_m_C.cap_le) ?_
  rintro _ _ ⟨a5, n5, H5, s5, rfl, rfl⟩
  refine atm_next (still_o [0, 0, 0, 0, 0] rfl) ?_
  refine atm_s T 16 hg pf (by kernel_rfl) (still_o [0, 0, 0, 0, 0] rfl) rfl ?_
  refine atm_one 17 (by kernel_rfl) ?_
  refine at_st T 4 [(.int .i64 g.m.W), (.int .i64 g.m.H), (.slice a5 (List.length v1) n5)] rfl rfl rfl rfl rfl rfl rfl rfl rfl rfl ?_
  refine atm_next (still_l (by kernel_rfl)) ?_
  refine atm_end (by kernel_rfl) ?_
  refine at_sub [(2, (.pointer (some ⟨b4, 0, none⟩)))] ⟨rfl, trivial⟩ ?_
  refine at_then ?_
  refine at_ret ?_
  obtain rfl := Option.some.inj H
  exact at_post (T := T) rfl (.aggv (j := 4) [(.int .i64 g.m.W), (.int .i64 g.m.H), (.slice a5 (List.length v1) n5)] rfl rfl rfl rfl rfl rfl rfl .nil) (fun w o => ⟨⟨(_, _), ⟨a5, n5, H5, s5, rfl, rfl⟩⟩, rfl, own_to [5, 0, 0, 0, 0] rfl o⟩)

/-! ### (*herdsman/grid.Grid).Size: function 34 -/
def grid_Grid_Size.f (g : grid_Grid) : Option (Int × Int) := some (g.m.W, g.m.H)
set_option maxHeartbeats 4000000 in
theorem grid_Grid_Size.c {b_g : Nat} {a_g_m_C : Option Addr} {n_g_m_C : Nat} {H_g_m_C : Hp} {a_g_versions : Option Addr} {n_g_versions : Nat} {H_g_versions : Hp} (g : grid_Grid) (r : (Int × Int)) (F : Hp) (H : grid_Grid_Size.f g = some r) (s_g_m_C : SliceO (Fl.int .u8) 5 g.m.C a_g_m_C n_g_m_C H_g_m_C) (s_g_versions : SliceO (Fl.int .i64) 2 g.versions a_g_versions n_g_versions H_g_versions) :
    CallsL Try.prog 34 [(.pointer (some ⟨b_g, 0, none⟩))] [[(b_g, Obj.cells #[(.int .i64 g.m.W), (.int .i64 g.m.H), (.slice a_g_m_C (List.length g.m.C) n_g_m_C), (.int .i64 g.epoch), (.slice a_g_versions (List.length g.versions) n_g_versions)] 71 (0, 0))], H_g_m_C, H_g_versions, F] (fun _ : Unit => (.tuple #[(.int .i64 r.1), (.int .i64 r.2)])) (fun _ => [[(b_g, Obj.cells #[(.int .i64 g.m.W), (.int .i64 g.m.H), (.slice a_g_m_C (List.length g.m.C) n_g_m_C), (.int .i64 g.epoch), (.slice a_g_versions (List.length g.versions) n_g_versions)] 71 (0, 0))], H_g_m_C, H_g_versions] ++ [F]) := by
  unfold grid_Grid_Size.f at H
  refine calls_atL [(0, (.pointer (some ⟨b_g, 0, none⟩)))] Try.func34 rfl rfl ⟨rfl, trivial⟩ (fun W => ?_)
  refine at_seq ?_
  refine at_region [0, 1] rfl ?_
  iterate 2 refine at_s T rfl ?_
  refine at_end ?_
  refine at_sub [(0, (.pointer (some ⟨b_g, 0, none⟩)))] ⟨rfl, trivial⟩ ?_
  refine at_then ?_
  refine at_seq ?_
  refine at_seq ?_
  refine at_region [0, 1] rfl ?_
  iterate 2 refine at_s T rfl ?_
  refine at_end ?_
  refine at_sub [(0, (.pointer (some ⟨b_g, 0, none⟩))), (5, (.bool false))] ⟨rfl, rfl, trivial⟩ ?_
  refine at_then ?_
  refine at_cond_f rfl ?_
  refine at_skip ?_
  refine at_then ?_
  refine at_seq ?_
  refine at_region_q mix (by kernel_rfl) ?_
  iterate 4 refine atq_s T rfl ?_
  refine atq_v rfl rfl rfl (g_load T rfl rfl rfl rfl (in_var (j := 0) rfl rfl)) ?_
  iterate 4 refine atq_s T rfl ?_
  refine atq_v rfl rfl rfl (g_load T rfl rfl rfl rfl (in_var (j := 0) rfl rfl)) ?_
  iterate 2 refine atq_s T rfl ?_
  refine atq_end ?_
  refine at_sub [(2, (.int .i64 g.m.W)), (3, (.int .i64 g.m.H))] ⟨rfl, rfl, trivial⟩ ?_
  refine at_then ?_
  refine at_ret ?_
  obtain rfl := Option.some.inj H
  exact at_post (T := T) rfl (.tmp rfl (.tmp rfl .nil)) (fun w o => ⟨(), rfl, own_to [0, 0, 0, 0] rfl o⟩)

/-! ### (*herdsman/grid.Grid).Tile: function 31 -/
def grid_Grid_Tile.l0 : Nat → grid_Grid → Int → (Int × Int) → (Int × Int) → List Int → Int → Option (api_Map × Bool)
  | 0, _, _, _, _, _, _ => none
  | k7 + 1, g, sector, v1, v2, x5, x6 => if x6 < v2.2 then ((where_Global.f v1.1 v1.2 sector (w64 (x6 * v2.1))).bind fun v8 => if (0 ≤ v8 ∧ v8 ≤ (w64 (v8 + v2.1)) ∧ (w64 (v8 + v2.1)) ≤ (List.length g.m.C : Int)) then (if (List.length x5 + List.length (sub' g.m.C v8 (w64 (v8 + v2.1))) ≤ 1099511627776) then (grid_Grid_Tile.l0 k7 g sector v1 v2 (x5 ++ (sub' g.m.C v8 (w64 (v8 + v2.1)))) (w64 (x6 + 1))) else none) else none) else (some ((api_Map.mk v2.1 v2.2 x5), true))
def grid_Grid_Tile.f (g : grid_Grid) (sector : Int) : Option (api_Map × Bool) := (grid_Grid_Size.f g).bind fun v1 => (where_Size.f v1.1 v1.2 sector).bind fun v2 => if (v2.1 == 0) = true then (some ((api_Map.mk 0 0 []), false)) else (grid_Grid_Tile.l0 fuel g sector v1 v2 [] 0)
def grid_Grid_Tile.R (r : (api_Map × Bool)) (u : Value) (G : List Hp) : Prop := ∃ (a0 : Option Addr) (n0 : Nat) (H0 : Hp), SliceO (Fl.int .u8) 5 r.1.C a0 n0 H0 ∧ u = (.tuple #[(.agg #[(.int .i64 r.1.W), (.int .i64 r.1.H), (.slice a0 (List.length r.1.C) n0)]), (.bool r.2)]) ∧ G = [H0]
set_option maxHeartbeats 4000000 in
theorem grid_Grid_Tile.c {b_g : Nat} {a_g_m_C : Option Addr} {n_g_m_C : Nat} {H_g_m_C : Hp} {a_g_versions : Option Addr} {n_g_versions : Nat} {H_g_versions : Hp} (g : grid_Grid) (sector : Int) (r : (api_Map × Bool)) (F : Hp) (H : grid_Grid_Tile.f g sector = some r) (s_g_m_C : SliceO (Fl.int .u8) 5 g.m.C a_g_m_C n_g_m_C H_g_m_C) (s_g_versions : SliceO (Fl.int .i64) 2 g.versions a_g_versions n_g_versions H_g_versions) :
    CallsL Try.prog 31 [(.pointer (some ⟨b_g, 0, none⟩)), (.int .i64 sector)] [[(b_g, Obj.cells #[(.int .i64 g.m.W), (.int .i64 g.m.H), (.slice a_g_m_C (List.length g.m.C) n_g_m_C), (.int .i64 g.epoch), (.slice a_g_versions (List.length g.versions) n_g_versions)] 71 (0, 0))], H_g_m_C, H_g_versions, F] (fun qp : { qp : Value × List Hp // grid_Grid_Tile.R r qp.1 qp.2 } => qp.1.1) (fun qp => (qp.1.2 ++ [[(b_g, Obj.cells #[(.int .i64 g.m.W), (.int .i64 g.m.H), (.slice a_g_m_C (List.length g.m.C) n_g_m_C), (.int .i64 g.epoch), (.slice a_g_versions (List.length g.versions) n_g_versions)] 71 (0, 0))], H_g_m_C, H_g_versions]) ++ [F]) := by
  unfold grid_Grid_Tile.f at H
  refine calls_atL [(0, (.pointer (some ⟨b_g, 0, none⟩))), (1, (.int .i64 sector))] Try.func31 rfl rfl ⟨rfl, rfl, trivial⟩ (fun W => ?_)
  refine at_seq ?_
  refine at_region [0, 1] rfl ?_
  refine at_cons (at_al T [(.int .i64 0), (.int .i64 0), (.slice none 0 0)] rfl rfl rfl rfl (fun b4 => ?_))
  refine at_s T rfl ?_
  refine at_end ?_
  refine at_sub [(0, (.pointer (some ⟨b_g, 0, none⟩))), (1, (.int .i64 sector)), (4, (.pointer (some ⟨b4, 0, none⟩)))] ⟨rfl, rfl, rfl, trivial⟩ ?_
  refine at_then ?_
  refine at_seq ?_
  refine at_region [0, 1, 2, 3, 4, 5, 6] rfl ?_
  refine at_s T rfl ?_
  obtain ⟨v1, V1, H⟩ := bind_e H
  refine at_cons (at_c (As := [[(b_g, Obj.cells #[(.int .i64 g.m.W), (.int .i64 g.m.H), (.slice a_g_m_C (List.length g.m.C) n_g_m_C), (.int .i64 g.epoch), (.slice a_g_versions (List.length g.versions) n_g_versions)] 71 (0, 0))], H_g_m_C, H_g_versions]) (R := [F, [(b4, Obj.cells #[(.int .i64 0), (.int .i64 0), (.slice none 0 0)] 46 (0, 0))]]) (B := fun _ => [[(b_g, Obj.cells #[(.int .i64 g.m.W), (.int .i64 g.m.H), (.slice a_g_m_C (List.length g.m.C) n_g_m_C), (.int .i64 g.epoch), (.slice a_g_versions (List.length g.versions) n_g_versions)] 71 (0, 0))], H_g_m_C, H_g_versions]) [0, 0, 0] rfl rfl rfl rfl has34 rfl rfl (grid_Grid_Size.c g v1 _ V1 s_g_m_C s_g_versions) (fun _ => ?_))
  iterate 5 refine at_s T rfl ?_
  refine at_end ?_
  refine at_sub [(0, (.pointer (some ⟨b_g, 0, none⟩))), (1, (.int .i64 sector)), (4, (.pointer (some ⟨b4, 0, none⟩))), (6, (.int .i64 v1.1)), (7, (.int .i64 v1.2))] ⟨rfl, rfl, rfl, rfl, rfl, trivial⟩ ?_
  refine at_then ?_
  refine at_seq ?_
  refine at_region [0, 1, 2, 3, 4, 5, 6, 7, 8] rfl ?_
  iterate 3 refine at_s T rfl ?_
  obtain ⟨v2, V2, H⟩ := bind_e H
  refine at_cons (at_c (B := fun _ => []) [] rfl rfl rfl rfl has52 rfl rfl (where_Size.c v1.1 v1.2 sector v2 _ V2) (fun _ => ?_))
  iterate 5 refine at_s T rfl ?_
  refine at_end ?_
  refine at_sub [(0, (.pointer (some ⟨b_g, 0, none⟩))), (1, (.int .i64 sector)), (4, (.pointer (some ⟨b4, 0, none⟩))), (6, (.int .i64 v1.1)), (7, (.int .i64 v1.2)), (8, (.int .i64 v2.1)), (9, (.int .i64 v2.2))] ⟨rfl, rfl, rfl, rfl, rfl, rfl, rfl, trivial⟩ ?_
  refine at_then ?_
  refine at_seq ?_
  refine at_seq ?_
  refine at_region [0, 1] rfl ?_
  iterate 2 refine at_s T rfl ?_
  refine at_end ?_
  refine at_sub [(0, (.pointer (some ⟨b_g, 0, none⟩))), (1, (.int .i64 sector)), (4, (.pointer (some ⟨b4, 0, none⟩))), (6, (.int .i64 v1.1)), (7, (.int .i64 v1.2)), (8, (.int .i64 v2.1)), (9, (.int .i64 v2.2)), (26, (.bool (v2.1 == 0)))] ⟨rfl, rfl, rfl, rfl, rfl, rfl, rfl, rfl, trivial⟩ ?_
  refine at_then ?_
  refine at_cond rfl (fun c3 => ?_) (fun c3 => ?_)
  · replace H := if_t c3 H
    refine at_seq ?_
    refine at_region [0, 1, 2] rfl ?_
    refine at_s T rfl ?_
    refine at_cons (at_st T 1 [(.int .i64 0), (.int .i64 0), (.slice none 0 0)] rfl rfl rfl rfl rfl rfl rfl rfl rfl rfl ?_)
    refine at_s T rfl ?_
    refine at_end ?_
    refine at_sub [(4, (.pointer (some ⟨b4, 0, none⟩))), (5, (.bool false))] ⟨rfl, rfl, trivial⟩ ?_
    refine at_then ?_
    refine at_ret ?_
    refine at_rt ?_
    obtain rfl := Option.some.inj H
    refine at_addnil ?_
    exact at_post (T := T) rfl (.aggv (j := 1) [(.int .i64 0), (.int .i64 0), (.slice none 0 0)] rfl rfl rfl rfl rfl rfl rfl (.tmp rfl .nil)) (fun w o => ⟨⟨(_, _), ⟨none, 0, [], SliceO.nil, rfl, rfl⟩⟩, rfl, own_to [5, 2, 2, 2, 0] rfl o⟩)
  · replace H := if_f (bf c3) H
    refine at_skip ?_
    refine at_then ?_
    refine at_seq ?_
    refine at_region [0, 1, 2, 3, 4] rfl ?_
    iterate 3 refine at_s T rfl ?_
    refine at_cons (at_al T [(.int .i64 0), (.int .i64 0), (.slice none 0 0)] rfl rfl rfl rfl (fun b6 => ?_))
    refine at_cons (at_st T 5 [(.int .i64 v2.1), (.int .i64 v2.2), (.slice none 0 0)] rfl rfl rfl rfl rfl rfl rfl rfl rfl rfl ?_)
    refine at_end ?_
    refine at_sub [(0, (.pointer (some ⟨b_g, 0, none⟩))), (1, (.int .i64 sector)), (4, (.pointer (some ⟨b4, 0, none⟩))), (6, (.int .i64 v1.1)), (7, (.int .i64 v1.2)), (8, (.int .i64 v2.1)), (9, (.int .i64 v2.2)), (10, (.pointer (some ⟨b6, 0, none⟩)))] ⟨rfl, rfl, rfl, rfl, rfl, rfl, rfl, rfl, trivial⟩ ?_
    refine at_then ?_
    refine at_seq ?_
    refine at_seq ?_
    refine at_region [0, 1] rfl ?_
    iterate 2 refine at_s T rfl ?_
    refine at_end ?_
    refine at_sub [(0, (.pointer (some ⟨b_g, 0, none⟩))), (1, (.int .i64 sector)), (4, (.pointer (some ⟨b4, 0, none⟩))), (6, (.int .i64 v1.1)), (7, (.int .i64 v1.2)), (8, (.int .i64 v2.1)), (10, (.pointer (some ⟨b6, 0, none⟩))), (31, (.int .i64 v2.2)), (32, (.int .i64 0))] ⟨rfl, rfl, rfl, rfl, rfl, rfl, rfl, rfl, rfl, trivial⟩ ?_
    refine at_then ?_
    refine at_block ?_
    refine at_addnil ?_
    refine at_loopL (σ := Nat × List Int × Int × Option Addr × Nat × Hp) (fun ⟨k7, x5, x6, a8, n8, H8⟩ => grid_Grid_Tile.l0 k7 g sector v1 v2 x5 x6 = some r ∧ SliceO (Fl.int .u8) 5 x5 a8 n8 H8) (fun ⟨k7, x5, x6, a8, n8, H8⟩ => [(0, (.pointer (some ⟨b_g, 0, none⟩))), (1, (.int .i64 sector)), (4, (.pointer (some ⟨b4, 0, none⟩))), (6, (.int .i64 v1.1)), (7, (.int .i64 v1.2)), (8, (.int .i64 v2.1)), (10, (.pointer (some ⟨b6, 0, none⟩))), (31, (.int .i64 v2.2)), (32, (.int .i64 x6))]) (fun ⟨k7, x5, x6, a8, n8, H8⟩ => [F, [(b_g, Obj.cells #[(.int .i64 g.m.W), (.int .i64 g.m.H), (.slice a_g_m_C (List.length g.m.C) n_g_m_C), (.int .i64 g.epoch), (.slice a_g_versions (List.length g.versions) n_g_versions)] 71 (0, 0))], H_g_m_C, H_g_versions, [(b4, Obj.cells #[(.int .i64 0), (.int .i64 0), (.slice none 0 0)] 46 (0, 0))], [(b6, Obj.cells #[(.int .i64 v2.1), (.int .i64 v2.2), (.slice a8 (List.length x5) n8)] 46 (0, 0))], H8]) (fun s => s.1) (fuel, [], 0, none, 0, []) [0, 1, 1, 1, 0, 0, 0] ⟨H, SliceO.nil⟩ ⟨rfl, rfl, rfl, rfl, rfl, rfl, rfl, rfl, rfl, trivial⟩ rfl ?_
    rintro ⟨k7, x5, x6, a8, n8, H8⟩ ⟨Z4, s8⟩
    replace Z4 : grid_Grid_Tile.l0 k7 g sector v1 v2 x5 x6 = some r := Z4
    rcases k7 with _ | k7
    · rw [grid_Grid_Tile.l0] at Z4; cases Z4
    · rw [grid_Grid_Tile.l0] at Z4
      refine at_seq ?_
      refine at_region [0] rfl ?_
      refine at_s T rfl ?_
      refine at_end ?_
      refine at_sub [(0, (.pointer (some ⟨b_g, 0, none⟩))), (1, (.int .i64 sector)), (4, (.pointer (some ⟨b4, 0, none⟩))), (6, (.int .i64 v1.1)), (7, (.int .i64 v1.2)), (8, (.int .i64 v2.1)), (10, (.pointer (some ⟨b6, 0, none⟩))), (31, (.int .i64 v2.2)), (32, (.int .i64 x6)), (33, (.bool (decide (x6 < v2.2))))] ⟨rfl, rfl, rfl, rfl, rfl, rfl, rfl, rfl, rfl, rfl, trivial⟩ ?_
      refine at_then ?_
      refine at_seq ?_
      refine at_cond rfl (fun c5 => ?_) (fun c5 => ?_)
      · replace Z4 := if_t (of_decide_eq_true c5) Z4
        refine at_skip ?_
        refine at_then ?_
        refine at_seq ?_
        refine at_block ?_
        refine at_seq ?_
        refine at_region [0, 1] rfl ?_
        iterate 2 refine at_s T rfl ?_
        refine at_end ?_
        refine at_sub [(0, (.pointer (some ⟨b_g, 0, none⟩))), (1, (.int .i64 sector)), (4, (.pointer (some ⟨b4, 0, none⟩))), (6, (.int .i64 v1.1)), (7, (.int .i64 v1.2)), (8, (.int .i64 v2.1)), (10, (.pointer (some ⟨b6, 0, none⟩))), (11, (.int .i64 x6)), (31, (.int .i64 v2.2)), (32, (.int .i64 x6))] ⟨rfl, rfl, rfl, rfl, rfl, rfl, rfl, rfl, rfl, rfl, trivial⟩ ?_
        refine at_then ?_
        refine at_seq ?_
        refine at_region [0, 1, 2, 3, 4, 5, 6, 7] rfl ?_
        iterate 6 refine at_s T rfl ?_
        obtain ⟨v8, V6, Z4⟩ := bind_e Z4
        refine at_cons (at_c (B := fun _ => []) [] rfl rfl rfl rfl has53 rfl rfl (where_Global.c v1.1 v1.2 sector (w64 (x6 * v2.1)) v8 _ V6) (fun _ => ?_))
        refine at_s T rfl ?_
        refine at_end ?_
        refine at_sub [(0, (.pointer (some ⟨b_g, 0, none⟩))), (1, (.int .i64 sector)), (4, (.pointer (some ⟨b4, 0, none⟩))), (6, (.int .i64 v1.1)), (7, (.int .i64 v1.2)), (8, (.int .i64 v2.1)), (10, (.pointer (some ⟨b6, 0, none⟩))), (12, (.int .i64 v8)), (31, (.int .i64 v2.2)), (32, (.int .i64 x6))] ⟨rfl, rfl, rfl, rfl, rfl, rfl, rfl, rfl, rfl, rfl, trivial⟩ ?_
        refine at_then ?_
        refine at_region_m [[], [0], [], [2], [2, 3], [2, 3, 4], [2, 3, 4, 5], [], [], [], [8, 9], [2, 3, 4, 5, 6, 7, 8, 9, 10], [0, 1, 2, 3, 4, 5, 6, 7, 8, 9, 10, 11], [0, 1, 2, 3, 4, 5, 6, 7, 8, 9, 10, 11, 12], [0, 1, 2, 3, 4, 5, 6, 7, 8, 9, 10, 11, 12, 13]] [12, 14] [F, [(b_g, Obj.cells #[(.int .i64 g.m.W), (.int .i64 g.m.H), (.slice a_g_m_C (List.length g.m.C) n_g_m_C), (.int .i64 g.epoch), (.slice a_g_versions (List.length g.versions) n_g_versions)] 71 (0, 0))], H_g_m_C, H_g_versions, [(b4, Obj.cells #[(.int .i64 0), (.int .i64 0), (.slice none 0 0)] 46 (0, 0))], [(b6, Obj.cells #[(.int .i64 v2.1), (.int .i64 v2.2), (.slice a8 (List.length x5) n8)] 46 (0, 0))], H8] mix (by kernel_rfl) (by repeat first | exact pf_body | refine pf_then ?_ | refine pf_block ?_) (fun hg pf => ?_)
        refine atm_s T 0 hg pf (by kernel_rfl) (still_o [0, 0, 0, 0, 0, 0, 0] rfl) rfl ?_
        refine atm_v 1 hg pf (by kernel_rfl) (still_o [0, 0, 0, 0, 0, 0, 0] rfl) rfl rfl (g_load T rfl rfl rfl rfl (in_var (j := 5) rfl rfl)) ?_
        refine atm_s T 2 hg pf (by kernel_rfl) (still_o [0, 0, 0, 0, 0, 0, 0] rfl) rfl ?_
        refine atm_s T 3 hg pf (by kernel_rfl) (still_o [0, 0, 0, 0, 0, 0, 0] rfl) rfl ?_
        refine atm_s T 4 hg pf (by kernel_rfl) (still_o [0, 0, 0, 0, 0, 0, 0] rfl) rfl ?_
        refine atm_s T 5 hg pf (by kernel_rfl) (still_o [0, 0, 0, 0, 0, 0, 0] rfl) rfl ?_
        refine atm_v 6 hg pf (by kernel_rfl) (still_o [0, 0, 0, 0, 0, 0, 0] rfl) rfl rfl (g_load T rfl rfl rfl rfl (in_var (j := 1) rfl rfl)) ?_
        refine atm_s T 7 hg pf (by kernel_rfl) (still_o [0, 0, 0, 0, 0, 0, 0] rfl) rfl ?_
        refine atm_s T 8 hg pf (by kernel_rfl) (still_o [0, 0, 0, 0, 0, 0, 0] rfl) rfl ?_
        refine atm_s T 9 hg pf (by kernel_rfl) (still_o [0, 0, 0, 0, 0, 0, 0] rfl) rfl ?_
        refine atm_s T 10 hg pf (by kernel_rfl) (still_o [0, 0, 0, 0, 0, 0, 0] rfl) rfl ?_
        obtain ⟨c7, Z4⟩ := chk_e Z4
        refine atm_v 11 hg pf (by kernel_rfl) (still_o [0, 0, 0, 0, 0, 0, 0] rfl) rfl rfl (g_sub T rfl rfl rfl rfl rfl rfl c7 s_g_m_C.cap_le) ?_
        refine atm_one 12 (by kernel_rfl) ?_
        obtain ⟨c8, Z4⟩ := chk_e Z4
        refine at_ap (k := (Fl.int .u8)) (xs := x5) T (g := 6) rfl rfl rfl rfl rfl rfl rfl rfl rfl rfl s8 (sub_r (own_of s_g_m_C (j := 2) rfl) c7 s_g_m_C.cap_le) c8 rfl (fun a9 n9 H9 s9 => ?_)
        refine atm_next (still_l (by kernel_rfl)) ?_
        refine atm_s T 13 hg pf (by kernel_rfl) (still_l (by kernel_rfl)) rfl ?_
        refine atm_one 14 (by kernel_rfl) ?_
        refine at_st T 5 [(.int .i64 v2.1), (.int .i64 v2.2), (.slice a9 (List.length (x5 ++ (sub' g.m.C v8 (w64 (v8 + v2.1))))) n9)] rfl rfl rfl rfl rfl rfl rfl rfl rfl rfl ?_
        refine atm_next (still_l (by kernel_rfl)) ?_
        refine atm_end (by kernel_rfl) ?_
        refine at_sub [(0, (.pointer (some ⟨b_g, 0, none⟩))), (1, (.int .i64 sector)), (4, (.pointer (some ⟨b4, 0, none⟩))), (6, (.int .i64 v1.1)), (7, (.int .i64 v1.2)), (8, (.int .i64 v2.1)), (10, (.pointer (some ⟨b6, 0, none⟩))), (31, (.int .i64 v2.2)), (32, (.int .i64 x6))] ⟨rfl, rfl, rfl, rfl, rfl, rfl, rfl, rfl, rfl, trivial⟩ ?_
        refine at_nb ?_
        refine at_then ?_
        refine at_region [0, 1] rfl ?_
        iterate 2 refine at_s T rfl ?_
        refine at_end ?_
        refine at_sub [(0, (.pointer (some ⟨b_g, 0, none⟩))), (1, (.int .i64 sector)), (4, (.pointer (some ⟨b4, 0, none⟩))), (6, (.int .i64 v1.1)), (7, (.int .i64 v1.2)), (8, (.int .i64 v2.1)), (10, (.pointer (some ⟨b6, 0, none⟩))), (31, (.int .i64 v2.2)), (32, (.int .i64 (w64 (x6 + 1))))] ⟨rfl, rfl, rfl, rfl, rfl, rfl, rfl, rfl, rfl, trivial⟩ ?_
        refine at_then ?_
        exact at_roundL (k7, (x5 ++ (sub' g.m.C v8 (w64 (v8 + v2.1)))), (w64 (x6 + 1)), a9, n9, H9) [0, 0, 0, 0, 0, 0, 0] ⟨Z4, s9⟩ (Nat.lt_succ_self _) ⟨rfl, rfl, rfl, rfl, rfl, rfl, rfl, rfl, rfl, trivial⟩ rfl
      · replace Z4 := if_f (of_decide_eq_false c5) Z4
        refine at_exit ?_
        refine at_xt ?_
        refine at_xt ?_
        refine at_xb ?_
        refine at_then ?_
        refine at_seq ?_
        refine at_region [0, 1, 2] rfl ?_
        refine at_v rfl (g_loadA T (cs := [(.int .i64 v2.1), (.int .i64 v2.2), (.slice a8 (List.length x5) n8)]) rfl rfl rfl rfl rfl rfl (in_varA (j := 5) rfl rfl)) ?_
        refine at_cons (at_st T 4 [(.int .i64 v2.1), (.int .i64 v2.2), (.slice a8 (List.length x5) n8)] rfl rfl rfl rfl rfl rfl rfl rfl rfl rfl ?_)
        refine at_s T rfl ?_
        refine at_end ?_
        refine at_to [(4, (.pointer (some ⟨b4, 0, none⟩))), (5, (.bool true))] [0, 0, 0, 0, 0, 1] [F, [(b_g, Obj.cells #[(.int .i64 g.m.W), (.int .i64 g.m.H), (.slice a_g_m_C (List.length g.m.C) n_g_m_C), (.int .i64 g.epoch), (.slice a_g_versions (List.length g.versions) n_g_versions)] 71 (0, 0))], H_g_m_C, H_g_versions, [(b4, Obj.cells #[(.int .i64 v2.1), (.int .i64 v2.2), (.slice a8 (List.length x5) n8)] 46 (0, 0))], H8] ⟨rfl, rfl, trivial⟩ rfl ?_
        refine at_then ?_
        refine at_ret ?_
        obtain rfl := Option.some.inj Z4
        exact at_post (T := T) rfl (.aggv (j := 4) [(.int .i64 v2.1), (.int .i64 v2.2), (.slice a8 (List.length x5) n8)] rfl rfl rfl rfl rfl rfl rfl (.tmp rfl .nil)) (fun w o => ⟨⟨(_, _), ⟨a8, n8, H8, s8, rfl, rfl⟩⟩, rfl, own_to [5, 1, 1, 1, 0] rfl o⟩)

/-! ### (*herdsman/grid.Grid).Size: function 34 -/
def grid_Grid_Size_2.f : Option (Int × Int) := some (0, 0)
set_option maxHeartbeats 4000000 in
theorem grid_Grid_Size_2.c (r : (Int × Int)) (F : Hp) (H : grid_Grid_Size_2.f = some r) :
    CallsL Try.prog 34 [(.pointer none)] [F] (fun _ : Unit => (.tuple #[(.int .i64 r.1), (.int .i64 r.2)])) (fun _ => [F]) := by
  unfold grid_Grid_Size_2.f at H
  refine calls_atL [(0, (.pointer none))] Try.func34 rfl rfl ⟨rfl, trivial⟩ (fun W => ?_)
  refine at_seq ?_
  refine at_region [0, 1] rfl ?_
  iterate 2 refine at_s T rfl ?_
  refine at_end ?_
  refine at_sub [(0, (.pointer none))] ⟨rfl, trivial⟩ ?_
  refine at_then ?_
  refine at_seq ?_
  refine at_seq ?_
  refine at_region [0, 1] rfl ?_
  iterate 2 refine at_s T rfl ?_
  refine at_end ?_
  refine at_sub [(0, (.pointer none)), (5, (.bool true))] ⟨rfl, rfl, trivial⟩ ?_
  refine at_then ?_
  refine at_cond_t rfl ?_
  refine at_seq ?_
  refine at_region [0, 1] rfl ?_
  iterate 2 refine at_s T rfl ?_
  refine at_end ?_
  refine at_sub [(2, (.int .i64 0)), (3, (.int .i64 0))] ⟨rfl, rfl, trivial⟩ ?_
  refine at_then ?_
  refine at_ret ?_
  refine at_rt ?_
  obtain rfl := Option.some.inj H
  exact at_post (T := T) rfl (.tmp rfl (.tmp rfl .nil)) (fun w o => ⟨(), rfl, own_to [0] rfl o⟩)

/-! ### (*herdsman/grid.Grid).Tile: function 31 -/
def grid_Grid_Tile_2.l0 : Nat → Int → (Int × Int) → (Int × Int) → Option (api_Map × Bool)
  | 0, _, _, _ => none
  | k3 + 1, sector, v1, v2 => if 0 < v2.2 then ((where_Global.f v1.1 v1.2 sector (w64 (0 * v2.1))).bind fun v4 => none) else (some ((api_Map.mk v2.1 v2.2 []), true))
def grid_Grid_Tile_2.f (sector : Int) : Option (api_Map × Bool) := (grid_Grid_Size_2.f).bind fun v1 => (where_Size.f v1.1 v1.2 sector).bind fun v2 => if (v2.1 == 0) = true then (some ((api_Map.mk 0 0 []), false)) else (grid_Grid_Tile_2.l0 fuel sector v1 v2)
def grid_Grid_Tile_2.R (r : (api_Map × Bool)) (u : Value) (G : List Hp) : Prop := ∃ (a0 : Option Addr) (n0 : Nat) (H0 : Hp), SliceO (Fl.int .u8) 5 r.1.C a0 n0 H0 ∧ u = (.tuple #[(.agg #[(.int .i64 r.1.W), (.int .i64 r.1.H), (.slice a0 (List.length r.1.C) n0)]), (.bool r.2)]) ∧ G = [H0]
set_option maxHeartbeats 4000000 in
theorem grid_Grid_Tile_2.c (sector : Int) (r : (api_Map × Bool)) (F : Hp) (H : grid_Grid_Tile_2.f sector = some r) :
    CallsL Try.prog 31 [(.pointer none), (.int .i64 sector)] [F] (fun qp : { qp : Value × List Hp // grid_Grid_Tile_2.R r qp.1 qp.2 } => qp.1.1) (fun qp => (qp.1.2 ++ []) ++ [F]) := by
  unfold grid_Grid_Tile_2.f at H
  refine calls_atL [(0, (.pointer none)), (1, (.int .i64 sector))] Try.func31 rfl rfl ⟨rfl, rfl, trivial⟩ (fun W => ?_)
  refine at_seq ?_
  refine at_region [0, 1] rfl ?_
  refine at_cons (at_al T [(.int .i64 0), (.int .i64 0), (.slice none 0 0)] rfl rfl rfl rfl (fun b1 => ?_))
  refine at_s T rfl ?_
  refine at_end ?_
  refine at_sub [(0, (.pointer none)), (1, (.int .i64 sector)), (4, (.pointer (some ⟨b1, 0, none⟩)))] ⟨rfl, rfl, rfl, trivial⟩ ?_
  refine at_then ?_
  refine at_seq ?_
  refine at_region [0, 1, 2, 3, 4, 5, 6] rfl ?_
  refine at_s T rfl ?_
  obtain ⟨v1, V1, H⟩ := bind_e H
  refine at_cons (at_c (B := fun _ => []) [] rfl rfl rfl rfl has34 rfl rfl (grid_Grid_Size_2.c  v1 _ V1) (fun _ => ?_))
  iterate 5 refine at_s T rfl ?_
  refine at_end ?_
  refine at_sub [(0, (.pointer none)), (1, (.int .i64 sector)), (4, (.pointer (some ⟨b1, 0, none⟩))), (6, (.int .i64 v1.1)), (7, (.int .i64 v1.2))] ⟨rfl, rfl, rfl, rfl, rfl, trivial⟩ ?_
  refine at_then ?_
  refine at_seq ?_
  refine at_region [0, 1, 2, 3, 4, 5, 6, 7, 8] rfl ?_
  iterate 3 refine at_s T rfl ?_
  obtain ⟨v2, V2, H⟩ := bind_e H
  refine at_cons (at_c (B := fun _ => []) [] rfl rfl rfl rfl has52 rfl rfl (where_Size.c v1.1 v1.2 sector v2 _ V2) (fun _ => ?_))
  iterate 5 refine at_s T rfl ?_
  refine at_end ?_
  refine at_sub [(0, (.pointer none)), (1, (.int .i64 sector)), (4, (.pointer (some ⟨b1, 0, none⟩))), (6, (.int .i64 v1.1)), (7, (.int .i64 v1.2)), (8, (.int .i64 v2.1)), (9, (.int .i64 v2.2))] ⟨rfl, rfl, rfl, rfl, rfl, rfl, rfl, trivial⟩ ?_
  refine at_then ?_
  refine at_seq ?_
  refine at_seq ?_
  refine at_region [0, 1] rfl ?_
  iterate 2 refine at_s T rfl ?_
  refine at_end ?_
  refine at_sub [(0, (.pointer none)), (1, (.int .i64 sector)), (4, (.pointer (some ⟨b1, 0, none⟩))), (6, (.int .i64 v1.1)), (7, (.int .i64 v1.2)), (8, (.int .i64 v2.1)), (9, (.int .i64 v2.2)), (26, (.bool (v2.1 == 0)))] ⟨rfl, rfl, rfl, rfl, rfl, rfl, rfl, rfl, trivial⟩ ?_
  refine at_then ?_
  refine at_cond rfl (fun c3 => ?_) (fun c3 => ?_)
  · replace H := if_t c3 H
    refine at_seq ?_
    refine at_region [0, 1, 2] rfl ?_
    refine at_s T rfl ?_
    refine at_cons (at_st T 1 [(.int .i64 0), (.int .i64 0), (.slice none 0 0)] rfl rfl rfl rfl rfl rfl rfl rfl rfl rfl ?_)
    refine at_s T rfl ?_
    refine at_end ?_
    refine at_sub [(4, (.pointer (some ⟨b1, 0, none⟩))), (5, (.bool false))] ⟨rfl, rfl, trivial⟩ ?_
    refine at_then ?_
    refine at_ret ?_
    refine at_rt ?_
    obtain rfl := Option.some.inj H
    refine at_addnil ?_
    exact at_post (T := T) rfl (.aggv (j := 1) [(.int .i64 0), (.int .i64 0), (.slice none 0 0)] rfl rfl rfl rfl rfl rfl rfl (.tmp rfl .nil)) (fun w o => ⟨⟨(_, _), ⟨none, 0, [], SliceO.nil, rfl, rfl⟩⟩, rfl, own_to [2, 0] rfl o⟩)
  · replace H := if_f (bf c3) H
    refine at_skip ?_
    refine at_then ?_
    refine at_seq ?_
    refine at_region [0, 1, 2, 3, 4] rfl ?_
    iterate 3 refine at_s T rfl ?_
    refine at_cons (at_al T [(.int .i64 0), (.int .i64 0), (.slice none 0 0)] rfl rfl rfl rfl (fun b3 => ?_))
    refine at_cons (at_st T 2 [(.int .i64 v2.1), (.int .i64 v2.2), (.slice none 0 0)] rfl rfl rfl rfl rfl rfl rfl rfl rfl rfl ?_)
    refine at_end ?_
    refine at_sub [(0, (.pointer none)), (1, (.int .i64 sector)), (4, (.pointer (some ⟨b1, 0, none⟩))), (6, (.int .i64 v1.1)), (7, (.int .i64 v1.2)), (8, (.int .i64 v2.1)), (9, (.int .i64 v2.2)), (10, (.pointer (some ⟨b3, 0, none⟩)))] ⟨rfl, rfl, rfl, rfl, rfl, rfl, rfl, rfl, trivial⟩ ?_
    refine at_then ?_
    refine at_seq ?_
    refine at_seq ?_
    refine at_region [0, 1] rfl ?_
    iterate 2 refine at_s T rfl ?_
    refine at_end ?_
    refine at_sub [(0, (.pointer none)), (1, (.int .i64 sector)), (4, (.pointer (some ⟨b1, 0, none⟩))), (6, (.int .i64 v1.1)), (7, (.int .i64 v1.2)), (8, (.int .i64 v2.1)), (10, (.pointer (some ⟨b3, 0, none⟩))), (31, (.int .i64 v2.2)), (32, (.int .i64 0))] ⟨rfl, rfl, rfl, rfl, rfl, rfl, rfl, rfl, rfl, trivial⟩ ?_
    refine at_then ?_
    refine at_block ?_
    refine at_loopL (σ := Nat) (fun k3 => grid_Grid_Tile_2.l0 k3 sector v1 v2 = some r) (fun k3 => [(0, (.pointer none)), (1, (.int .i64 sector)), (4, (.pointer (some ⟨b1, 0, none⟩))), (6, (.int .i64 v1.1)), (7, (.int .i64 v1.2)), (8, (.int .i64 v2.1)), (10, (.pointer (some ⟨b3, 0, none⟩))), (31, (.int .i64 v2.2)), (32, (.int .i64 0))]) (fun k3 => [F, [(b1, Obj.cells #[(.int .i64 0), (.int .i64 0), (.slice none 0 0)] 46 (0, 0))], [(b3, Obj.cells #[(.int .i64 v2.1), (.int .i64 v2.2), (.slice none 0 0)] 46 (0, 0))]]) (fun s => s) fuel [0, 0, 0] H ⟨rfl, rfl, rfl, rfl, rfl, rfl, rfl, rfl, rfl, trivial⟩ rfl ?_
    rintro k3 Z4
    replace Z4 : grid_Grid_Tile_2.l0 k3 sector v1 v2 = some r := Z4
    rcases k3 with _ | k3
    · rw [grid_Grid_Tile_2.l0] at Z4; cases Z4
    · rw [grid_Grid_Tile_2.l0] at Z4
      refine at_seq ?_
      refine at_region [0] rfl ?_
      refine at_s T rfl ?_
      refine at_end ?_
      refine at_sub [(0, (.pointer none)), (1, (.int .i64 sector)), (4, (.pointer (some ⟨b1, 0, none⟩))), (6, (.int .i64 v1.1)), (7, (.int .i64 v1.2)), (8, (.int .i64 v2.1)), (10, (.pointer (some ⟨b3, 0, none⟩))), (31, (.int .i64 v2.2)), (32, (.int .i64 0)), (33, (.bool (decide (0 < v2.2))))] ⟨rfl, rfl, rfl, rfl, rfl, rfl, rfl, rfl, rfl, rfl, trivial⟩ ?_
      refine at_then ?_
      refine at_seq ?_
      refine at_cond rfl (fun c5 => ?_) (fun c5 => ?_)
      · replace Z4 := if_t (of_decide_eq_true c5) Z4
        refine at_skip ?_
        refine at_then ?_
        refine at_seq ?_
        refine at_block ?_
        refine at_seq ?_
        refine at_region [0, 1] rfl ?_
        iterate 2 refine at_s T rfl ?_
        refine at_end ?_
        refine at_sub [(0, (.pointer none)), (1, (.int .i64 sector)), (4, (.pointer (some ⟨b1, 0, none⟩))), (6, (.int .i64 v1.1)), (7, (.int .i64 v1.2)), (8, (.int .i64 v2.1)), (10, (.pointer (some ⟨b3, 0, none⟩))), (11, (.int .i64 0)), (31, (.int .i64 v2.2)), (32, (.int .i64 0))] ⟨rfl, rfl, rfl, rfl, rfl, rfl, rfl, rfl, rfl, rfl, trivial⟩ ?_
        refine at_then ?_
        refine at_seq ?_
        refine at_region [0, 1, 2, 3, 4, 5, 6, 7] rfl ?_
        iterate 6 refine at_s T rfl ?_
        obtain ⟨v4, V6, Z4⟩ := bind_e Z4
        refine at_cons (at_c (B := fun _ => []) [] rfl rfl rfl rfl has53 rfl rfl (where_Global.c v1.1 v1.2 sector (w64 (0 * v2.1)) v4 _ V6) (fun _ => ?_))
        refine at_s T rfl ?_
        refine at_end ?_
        refine at_sub [(0, (.pointer none)), (1, (.int .i64 sector)), (4, (.pointer (some ⟨b1, 0, none⟩))), (6, (.int .i64 v1.1)), (7, (.int .i64 v1.2)), (8, (.int .i64 v2.1)), (10, (.pointer (some ⟨b3, 0, none⟩))), (12, (.int .i64 v4)), (31, (.int .i64 v2.2)), (32, (.int .i64 0))] ⟨rfl, rfl, rfl, rfl, rfl, rfl, rfl, rfl, rfl, rfl, trivial⟩ ?_
        refine at_then ?_
        refine at_region_m [[], [0], [], [2], [2, 3], [2, 3, 4], [2, 3, 4, 5], [], [], [], [8, 9], [2, 3, 4, 5, 6, 7, 8, 9, 10], [0, 1, 2, 3, 4, 5, 6, 7, 8, 9, 10, 11], [0, 1, 2, 3, 4, 5, 6, 7, 8, 9, 10, 11, 12], [0, 1, 2, 3, 4, 5, 6, 7, 8, 9, 10, 11, 12, 13]] [] [F, [(b1, Obj.cells #[(.int .i64 0), (.int .i64 0), (.slice none 0 0)] 46 (0, 0))], [(b3, Obj.cells #[(.int .i64 v2.1), (.int .i64 v2.2), (.slice none 0 0)] 46 (0, 0))]] mix (by kernel_rfl) (by repeat first | exact pf_body | refine pf_then ?_ | refine pf_block ?_) (fun hg pf => ?_)
        refine atm_s T 0 hg pf (by kernel_rfl) (still_o [0, 0, 0] rfl) rfl ?_
        refine atm_v 1 hg pf (by kernel_rfl) (still_o [0, 0, 0] rfl) rfl rfl (g_load T rfl rfl rfl rfl (in_var (j := 2) rfl rfl)) ?_
        refine atm_s T 2 hg pf (by kernel_rfl) (still_o [0, 0, 0] rfl) rfl ?_
        cases Z4
      · replace Z4 := if_f (of_decide_eq_false c5) Z4
        refine at_exit ?_
        refine at_xt ?_
        refine at_xt ?_
        refine at_xb ?_
        refine at_then ?_
        refine at_seq ?_
        refine at_region [0, 1, 2] rfl ?_
        refine at_v rfl (g_loadA T (cs := [(.int .i64 v2.1), (.int .i64 v2.2), (.slice none 0 0)]) rfl rfl rfl rfl rfl rfl (in_varA (j := 2) rfl rfl)) ?_
        refine at_cons (at_st T 1 [(.int .i64 v2.1), (.int .i64 v2.2), (.slice none 0 0)] rfl rfl rfl rfl rfl rfl rfl rfl rfl rfl ?_)
        refine at_s T rfl ?_
        refine at_end ?_
        refine at_to [(4, (.pointer (some ⟨b1, 0, none⟩))), (5, (.bool true))] [0, 0] [F, [(b1, Obj.cells #[(.int .i64 v2.1), (.int .i64 v2.2), (.slice none 0 0)] 46 (0, 0))]] ⟨rfl, rfl, trivial⟩ rfl ?_
        refine at_then ?_
        refine at_ret ?_
        obtain rfl := Option.some.inj Z4
        refine at_addnil ?_
        exact at_post (T := T) rfl (.aggv (j := 1) [(.int .i64 v2.1), (.int .i64 v2.2), (.slice none 0 0)] rfl rfl rfl rfl rfl rfl rfl (.tmp rfl .nil)) (fun w o => ⟨⟨(_, _), ⟨none, 0, [], SliceO.nil, rfl, rfl⟩⟩, rfl, own_to [2, 0] rfl o⟩)

/-! ### (*herdsman/grid.Grid).Map: function 27 -/
def grid_Grid_Map_2.f : Option api_Map := some (api_Map.mk 0 0 [])
def grid_Grid_Map_2.R (r : api_Map) (u : Value) (G : List Hp) : Prop := ∃ (a0 : Option Addr) (n0 : Nat) (H0 : Hp), SliceO (Fl.int .u8) 5 r.C a0 n0 H0 ∧ u = (.agg #[(.int .i64 r.W), (.int .i64 r.H), (.slice a0 (List.length r.C) n0)]) ∧ G = [H0]
set_option maxHeartbeats 4000000 in
theorem grid_Grid_Map_2.c (r : api_Map) (F : Hp) (H : grid_Grid_Map_2.f = some r) :
    CallsL Try.prog 27 [(.pointer none)] [F] (fun qp : { qp : Value × List Hp // grid_Grid_Map_2.R r qp.1 qp.2 } => qp.1.1) (fun qp => (qp.1.2 ++ []) ++ [F]) := by
  unfold grid_Grid_Map_2.f at H
  refine calls_atL [(0, (.pointer none))] Try.func27 rfl rfl ⟨rfl, trivial⟩ (fun W => ?_)
  refine at_seq ?_
  refine at_region [0] rfl ?_
  refine at_cons (at_al T [(.int .i64 0), (.int .i64 0), (.slice none 0 0)] rfl rfl rfl rfl (fun b1 => ?_))
  refine at_end ?_
  refine at_sub [(0, (.pointer none)), (2, (.pointer (some ⟨b1, 0, none⟩)))] ⟨rfl, rfl, trivial⟩ ?_
  refine at_then ?_
  refine at_seq ?_
  refine at_seq ?_
  refine at_region [0, 1] rfl ?_
  iterate 2 refine at_s T rfl ?_
  refine at_end ?_
  refine at_sub [(0, (.pointer none)), (2, (.pointer (some ⟨b1, 0, none⟩))), (4, (.bool true))] ⟨rfl, rfl, rfl, trivial⟩ ?_
  refine at_then ?_
  refine at_cond_t rfl ?_
  refine at_seq ?_
  refine at_region [0, 1] rfl ?_
  refine at_s T rfl ?_
  refine at_cons (at_st T 1 [(.int .i64 0), (.int .i64 0), (.slice none 0 0)] rfl rfl rfl rfl rfl rfl rfl rfl rfl rfl ?_)
  refine at_end ?_
  refine at_sub [(2, (.pointer (some ⟨b1, 0, none⟩)))] ⟨rfl, trivial⟩ ?_
  refine at_then ?_
  refine at_ret ?_
  refine at_rt ?_
  obtain rfl := Option.some.inj H
  refine at_addnil ?_
  exact at_post (T := T) rfl (.aggv (j := 1) [(.int .i64 0), (.int .i64 0), (.slice none 0 0)] rfl rfl rfl rfl rfl rfl rfl .nil) (fun w o => ⟨⟨(_, _), ⟨none, 0, [], SliceO.nil, rfl, rfl⟩⟩, rfl, own_to [2, 0] rfl o⟩)

/-! ### (*herdsman/grid.Grid).Cost: function 20 -/
def grid_Grid_Cost_2.f (cell : Int) : Option Int := some 0
set_option maxHeartbeats 4000000 in
theorem grid_Grid_Cost_2.c (cell : Int) (r : Int) (F : Hp) (H : grid_Grid_Cost_2.f cell = some r) :
    CallsL Try.prog 20 [(.pointer none), (.int .i64 cell)] [F] (fun _ : Unit => (.int .i64 r)) (fun _ => [F]) := by
  unfold grid_Grid_Cost_2.f at H
  refine calls_atL [(0, (.pointer none)), (1, (.int .i64 cell))] Try.func20 rfl rfl ⟨rfl, rfl, trivial⟩ (fun W => ?_)
  refine at_seq ?_
  refine at_region [0] rfl ?_
  refine at_s T rfl ?_
  refine at_end ?_
  refine at_sub [(0, (.pointer none)), (1, (.int .i64 cell))] ⟨rfl, rfl, trivial⟩ ?_
  refine at_then ?_
  refine at_seq ?_
  refine at_seq ?_
  refine at_region [0, 1, 2, 3, 4, 5, 6, 7, 8, 9, 10, 11, 12, 13, 14, 15] rfl ?_
  iterate 16 refine at_s T rfl ?_
  refine at_end ?_
  refine at_sub [(0, (.pointer none)), (1, (.int .i64 cell)), (20, (.bool true))] ⟨rfl, rfl, rfl, trivial⟩ ?_
  refine at_then ?_
  refine at_cond_t rfl ?_
  refine at_seq ?_
  refine at_region [0] rfl ?_
  refine at_s T rfl ?_
  refine at_end ?_
  refine at_sub [(4, (.int .i64 0))] ⟨rfl, trivial⟩ ?_
  refine at_then ?_
  refine at_ret ?_
  refine at_rt ?_
  obtain rfl := Option.some.inj H
  exact at_post (T := T) rfl (.tmp rfl .nil) (fun w o => ⟨(), rfl, own_to [0] rfl o⟩)

/-! ### (*herdsman/grid.Grid).Edit: function 21 -/
def grid_Grid_Edit_2.f (cell : Int) (cost : Int) : Option Int := some 4
set_option maxHeartbeats 4000000 in
theorem grid_Grid_Edit_2.c (cell : Int) (cost : Int) (r : Int) (F : Hp) (H : grid_Grid_Edit_2.f cell cost = some r) :
    CallsL Try.prog 21 [(.pointer none), (.int .i64 cell), (.int .i64 cost)] [F] (fun _ : Unit => (.int .i64 r)) (fun _ => [F]) := by
  unfold grid_Grid_Edit_2.f at H
  refine calls_atL [(0, (.pointer none)), (1, (.int .i64 cell)), (2, (.int .i64 cost))] Try.func21 rfl rfl ⟨rfl, rfl, rfl, trivial⟩ (fun W => ?_)
  refine at_seq ?_
  refine at_region [0] rfl ?_
  refine at_s T rfl ?_
  refine at_end ?_
  refine at_sub [(0, (.pointer none)), (1, (.int .i64 cell)), (2, (.int .i64 cost))] ⟨rfl, rfl, rfl, trivial⟩ ?_
  refine at_then ?_
  refine at_seq ?_
  refine at_block ?_
  refine at_seq ?_
  refine at_region [0, 1, 2] rfl ?_
  iterate 3 refine at_s T rfl ?_
  refine at_end ?_
  refine at_sub [(0, (.pointer none)), (1, (.int .i64 cell)), (2, (.int .i64 cost)), (7, (.bool true))] ⟨rfl, rfl, rfl, rfl, trivial⟩ ?_
  refine at_then ?_
  refine at_cond_t rfl ?_
  refine at_seq ?_
  refine at_region [0] rfl ?_
  refine at_s T rfl ?_
  refine at_end ?_
  refine at_sub [(6, (.int .i64 4))] ⟨rfl, trivial⟩ ?_
  refine at_then ?_
  refine at_ret ?_
  refine at_rb ?_
  refine at_rt ?_
  obtain rfl := Option.some.inj H
  exact at_post (T := T) rfl (.tmp rfl .nil) (fun w o => ⟨(), rfl, own_to [0] rfl o⟩)

/-! ### (*herdsman/grid.Grid).Epoch: function 19 -/
def grid_Grid_Epoch_2.f : Option Int := some 0
set_option maxHeartbeats 4000000 in
theorem grid_Grid_Epoch_2.c (r : Int) (F : Hp) (H : grid_Grid_Epoch_2.f = some r) :
    CallsL Try.prog 19 [(.pointer none)] [F] (fun _ : Unit => (.int .i64 r)) (fun _ => [F]) := by
  unfold grid_Grid_Epoch_2.f at H
  refine calls_atL [(0, (.pointer none))] Try.func19 rfl rfl ⟨rfl, trivial⟩ (fun W => ?_)
  refine at_seq ?_
  refine at_region [0] rfl ?_
  refine at_s T rfl ?_
  refine at_end ?_
  refine at_sub [(0, (.pointer none))] ⟨rfl, trivial⟩ ?_
  refine at_then ?_
  refine at_seq ?_
  refine at_seq ?_
  refine at_region [0, 1] rfl ?_
  iterate 2 refine at_s T rfl ?_
  refine at_end ?_
  refine at_sub [(0, (.pointer none)), (4, (.bool true))] ⟨rfl, rfl, trivial⟩ ?_
  refine at_then ?_
  refine at_cond_t rfl ?_
  refine at_seq ?_
  refine at_region [0] rfl ?_
  refine at_s T rfl ?_
  refine at_end ?_
  refine at_sub [(2, (.int .i64 0))] ⟨rfl, trivial⟩ ?_
  refine at_then ?_
  refine at_ret ?_
  refine at_rt ?_
  obtain rfl := Option.some.inj H
  exact at_post (T := T) rfl (.tmp rfl .nil) (fun w o => ⟨(), rfl, own_to [0] rfl o⟩)

/-! ### (*herdsman/grid.Grid).Version: function 18 -/
def grid_Grid_Version_2.f (sector : Int) : Option Int := some 0
set_option maxHeartbeats 4000000 in
theorem grid_Grid_Version_2.c (sector : Int) (r : Int) (F : Hp) (H : grid_Grid_Version_2.f sector = some r) :
    CallsL Try.prog 18 [(.pointer none), (.int .i64 sector)] [F] (fun _ : Unit => (.int .i64 r)) (fun _ => [F]) := by
  unfold grid_Grid_Version_2.f at H
  refine calls_atL [(0, (.pointer none)), (1, (.int .i64 sector))] Try.func18 rfl rfl ⟨rfl, rfl, trivial⟩ (fun W => ?_)
  refine at_seq ?_
  refine at_region [0] rfl ?_
  refine at_s T rfl ?_
  refine at_end ?_
  refine at_sub [(0, (.pointer none)), (1, (.int .i64 sector))] ⟨rfl, rfl, trivial⟩ ?_
  refine at_then ?_
  refine at_seq ?_
  refine at_seq ?_
  refine at_region [0, 1, 2, 3, 4, 5, 6, 7, 8, 9, 10, 11, 12, 13, 14] rfl ?_
  iterate 15 refine at_s T rfl ?_
  refine at_end ?_
  refine at_sub [(0, (.pointer none)), (1, (.int .i64 sector)), (19, (.bool true))] ⟨rfl, rfl, rfl, trivial⟩ ?_
  refine at_then ?_
  refine at_cond_t rfl ?_
  refine at_seq ?_
  refine at_region [0] rfl ?_
  refine at_s T rfl ?_
  refine at_end ?_
  refine at_sub [(4, (.int .i64 0))] ⟨rfl, trivial⟩ ?_
  refine at_then ?_
  refine at_ret ?_
  refine at_rt ?_
  obtain rfl := Option.some.inj H
  exact at_post (T := T) rfl (.tmp rfl .nil) (fun w o => ⟨(), rfl, own_to [0] rfl o⟩)
end Go.Proofs.Ytmjcmkimhkjdeaa
