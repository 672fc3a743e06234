import Derived.Test.YtnkdnecilkafhaaDoorT
import Derived.Test.YtnkdnecilkafhaaDoorFbytes
import Derived.Test.YtnkdnecilkafhaaDoorFpack
import Derived.Test.YtnkdnecilkafhaaDoorFslices
import Derived.Test.YtnkdnecilkafhaaDoorFtile
import Derived.Test.YtnkdnecilkafhaaDoorFwhere
namespace Go.Proofs.YtnkdnecilkafhaaDoor
open Go.Hx
set_option maxRecDepth 100000
set_option linter.unusedVariables false
noncomputable section
/-! ### herdsman/atlas.May: function 24 -/
def atlas_May.f (m : api_Map) : Option Bool := ((where_May.f m.W m.H).bind fun v3 => if v3 = true then (if ((List.length m.C : Int) == (w64 (m.W * m.H))) = true then ((slices_Contains_byte_byte.f m.C 0).bind fun v4 => some (!v4)) else (some false)) else (some false)).bind fun x1 => some x1
set_option maxHeartbeats 4000000 in
theorem atlas_May.c {a_m_C : Option Addr} {n_m_C : Nat} (m : api_Map) (r : Bool) (F : Hp) (H : atlas_May.f m = some r) (h_m_C : SliceR (Fl.int .u8) m.C a_m_C F) (c_m_C : List.length m.C ≤ n_m_C) :
    CallsL Tryd.prog 24 [(.agg #[(.int .i64 m.W), (.int .i64 m.H), (.slice a_m_C (List.length m.C) n_m_C)])] [F] (fun _ : Unit => (.bool r)) (fun _ => [F]) := by
  unfold atlas_May.f at H
  refine calls_atL [(0, (.agg #[(.int .i64 m.W), (.int .i64 m.H), (.slice a_m_C (List.length m.C) n_m_C)]))] Tryd.func24 rfl rfl ⟨rfl, trivial⟩ (fun W => ?_)
  refine at_seq ?_
  refine at_region [0, 1] rfl ?_
  refine at_cons (at_bx T [(.int .i64 m.W), (.int .i64 m.H), (.slice a_m_C (List.length m.C) n_m_C)] rfl rfl rfl rfl (fun b1 => ?_))
  refine at_s T rfl ?_
  refine at_end ?_
  refine at_sub [(1, (.pointer (some ⟨b1, 0, none⟩)))] ⟨rfl, trivial⟩ ?_
  refine at_then ?_
  obtain ⟨z2, Z1, H⟩ := bind_e H
  refine at_seq_mid (σ := Bool) (fun x1 => x1 = z2) (fun x1 => [(2, (.bool x1))]) (fun x1 => [F]) ?_ ?_
  · refine at_region [0, 1, 2, 3, 4, 5, 6, 7, 8, 9, 10, 11, 12, 13, 14, 15, 16, 17, 18, 19, 20, 21, 22] rfl ?_
    refine at_s T rfl ?_
    refine at_v rfl (g_load T rfl rfl rfl rfl (in_var (j := 1) rfl rfl)) ?_
    refine at_s T rfl ?_
    refine at_v rfl (g_load T rfl rfl rfl rfl (in_var (j := 1) rfl rfl)) ?_
    obtain ⟨v3, V2, Z1⟩ := bind_e Z1
    refine at_cons (at_c (B := fun _ => []) [] rfl rfl rfl rfl has44 rfl rfl (where_May.c m.W m.H v3 _ V2) (fun _ => ?_))
    refine at_s T rfl ?_
    refine at_case (s := 8) rfl (fun c3 => ?_) (fun c3 => ?_)
    · replace Z1 := if_t c3 Z1
      refine at_s T rfl ?_
      refine at_v rfl (g_load T rfl rfl rfl rfl (in_var (j := 1) rfl rfl)) ?_
      iterate 2 refine at_s T rfl ?_
      refine at_v rfl (g_load T rfl rfl rfl rfl (in_var (j := 1) rfl rfl)) ?_
      refine at_s T rfl ?_
      refine at_v rfl (g_load T rfl rfl rfl rfl (in_var (j := 1) rfl rfl)) ?_
      iterate 4 refine at_s T rfl ?_
      refine at_case (s := 19) rfl (fun c4 => ?_) (fun c4 => ?_)
      · replace Z1 := if_t c4 Z1
        refine at_s T rfl ?_
        refine at_v rfl (g_load T rfl rfl rfl rfl (in_var (j := 1) rfl rfl)) ?_
        obtain ⟨v4, V5, Z1⟩ := bind_e Z1
        refine at_cons (at_c (B := fun _ => []) [] rfl rfl rfl rfl has45 rfl rfl (slices_Contains_byte_byte.c m.C 0 v4 _ V5 (ro_of h_m_C (j := 0) rfl) c_m_C) (fun _ => ?_))
        iterate 3 refine at_s T rfl ?_
        refine at_end ?_
        refine at_to [(2, (.bool (!v4)))] [0] [F] ⟨rfl, trivial⟩ rfl ?_
        refine at_then ?_
        obtain rfl := Option.some.inj Z1
        exact at_mid (!v4) [0] rfl ⟨rfl, trivial⟩ rfl
      · replace Z1 := if_f (bf c4) Z1
        iterate 6 refine at_s T rfl ?_
        refine at_end ?_
        refine at_to [(2, (.bool false))] [0] [F] ⟨rfl, trivial⟩ rfl ?_
        refine at_then ?_
        obtain rfl := Option.some.inj Z1
        exact at_mid false [0] rfl ⟨rfl, trivial⟩ rfl
    · replace Z1 := if_f (bf c3) Z1
      iterate 17 refine at_s T rfl ?_
      refine at_end ?_
      refine at_to [(2, (.bool false))] [0] [F] ⟨rfl, trivial⟩ rfl ?_
      refine at_then ?_
      obtain rfl := Option.some.inj Z1
      exact at_mid false [0] rfl ⟨rfl, trivial⟩ rfl
  · rintro x1 rfl
    refine at_ret ?_
    obtain rfl := Option.some.inj H
    exact at_post (T := T) rfl (.tmp rfl .nil) (fun w o => ⟨(), rfl, own_to [0] rfl o⟩)

/-! ### herdsman/atlas.many: function 38 -/
def atlas_many.f (w : Int) (h : Int) : Option Int := (where_Sectors.f w h).bind fun v1 => some (w64 (v1.1 * v1.2))
set_option maxHeartbeats 4000000 in
theorem atlas_many.c (w : Int) (h : Int) (r : Int) (F : Hp) (H : atlas_many.f w h = some r) :
    CallsL Tryd.prog 38 [(.int .i64 w), (.int .i64 h)] [F] (fun _ : Unit => (.int .i64 r)) (fun _ => [F]) := by
  unfold atlas_many.f at H
  refine calls_atL [(0, (.int .i64 w)), (1, (.int .i64 h))] Tryd.func38 rfl rfl ⟨rfl, rfl, trivial⟩ (fun W => ?_)
  refine at_seq ?_
  refine at_region [0] rfl ?_
  refine at_s T rfl ?_
  refine at_end ?_
  refine at_sub [(0, (.int .i64 w)), (1, (.int .i64 h))] ⟨rfl, rfl, trivial⟩ ?_
  refine at_then ?_
  refine at_seq ?_
  refine at_region [0, 1, 2, 3, 4, 5, 6, 7] rfl ?_
  iterate 2 refine at_s T rfl ?_
  obtain ⟨v1, V1, H⟩ := bind_e H
  refine at_cons (at_c (B := fun _ => []) [] rfl rfl rfl rfl has56 rfl rfl (where_Sectors.c w h v1 _ V1) (fun _ => ?_))
  iterate 5 refine at_s T rfl ?_
  refine at_end ?_
  refine at_sub [(5, (.int .i64 v1.1)), (6, (.int .i64 v1.2))] ⟨rfl, rfl, trivial⟩ ?_
  refine at_then ?_
  refine at_seq ?_
  refine at_region [0, 1, 2, 3] rfl ?_
  iterate 4 refine at_s T rfl ?_
  refine at_end ?_
  refine at_sub [(4, (.int .i64 (w64 (v1.1 * v1.2))))] ⟨rfl, trivial⟩ ?_
  refine at_then ?_
  refine at_ret ?_
  obtain rfl := Option.some.inj H
  exact at_post (T := T) rfl (.tmp rfl .nil) (fun w o => ⟨(), rfl, own_to [0] rfl o⟩)

/-! ### herdsman/atlas.cut: function 40 -/
def atlas_cut.l0 : Nat → api_Map → (Int × Int) → Int → List Int → Int → Option api_Map
  | 0, _, _, _, _, _ => none
  | k7 + 1, m, v1, v2, x5, x6 => if x6 < v1.2 then (if (0 ≤ (w64 (v2 + (w64 (x6 * m.W)))) ∧ (w64 (v2 + (w64 (x6 * m.W)))) ≤ (w64 ((w64 (v2 + (w64 (x6 * m.W)))) + v1.1)) ∧ (w64 ((w64 (v2 + (w64 (x6 * m.W)))) + v1.1)) ≤ (List.length m.C : Int)) then (if (List.length x5 + List.length (sub' m.C (w64 (v2 + (w64 (x6 * m.W)))) (w64 ((w64 (v2 + (w64 (x6 * m.W)))) + v1.1))) ≤ 1099511627776) then (atlas_cut.l0 k7 m v1 v2 (x5 ++ (sub' m.C (w64 (v2 + (w64 (x6 * m.W)))) (w64 ((w64 (v2 + (w64 (x6 * m.W)))) + v1.1)))) (w64 (x6 + 1))) else none) else none) else (some (api_Map.mk v1.1 v1.2 x5))
def atlas_cut.f (m : api_Map) (sector : Int) : Option api_Map := (where_Size.f m.W m.H sector).bind fun v1 => (where_Global.f m.W m.H sector 0).bind fun v2 => atlas_cut.l0 fuel m v1 v2 [] 0
def atlas_cut.R (r : api_Map) (u : Value) (G : List Hp) : Prop := ∃ (a0 : Option Addr) (n0 : Nat) (H0 : Hp), SliceO (Fl.int .u8) 5 r.C a0 n0 H0 ∧ u = (.agg #[(.int .i64 r.W), (.int .i64 r.H), (.slice a0 (List.length r.C) n0)]) ∧ G = [H0]
set_option maxHeartbeats 4000000 in
theorem atlas_cut.c {a_m_C : Option Addr} {n_m_C : Nat} (m : api_Map) (sector : Int) (r : api_Map) (F : Hp) (H : atlas_cut.f m sector = some r) (h_m_C : SliceR (Fl.int .u8) m.C a_m_C F) (c_m_C : List.length m.C ≤ n_m_C) :
    CallsL Tryd.prog 40 [(.agg #[(.int .i64 m.W), (.int .i64 m.H), (.slice a_m_C (List.length m.C) n_m_C)]), (.int .i64 sector)] [F] (fun qp : { qp : Value × List Hp // atlas_cut.R r qp.1 qp.2 } => qp.1.1) (fun qp => (qp.1.2 ++ []) ++ [F]) := by
  unfold atlas_cut.f at H
  refine calls_atL [(0, (.agg #[(.int .i64 m.W), (.int .i64 m.H), (.slice a_m_C (List.length m.C) n_m_C)])), (1, (.int .i64 sector))] Tryd.func40 rfl rfl ⟨rfl, rfl, trivial⟩ (fun W => ?_)
  refine at_seq ?_
  refine at_region [0, 1] rfl ?_
  refine at_cons (at_bx T [(.int .i64 m.W), (.int .i64 m.H), (.slice a_m_C (List.length m.C) n_m_C)] rfl rfl rfl rfl (fun b1 => ?_))
  refine at_cons (at_al T [(.int .i64 0), (.int .i64 0), (.slice none 0 0)] rfl rfl rfl rfl (fun b2 => ?_))
  refine at_end ?_
  refine at_sub [(1, (.int .i64 sector)), (2, (.pointer (some ⟨b1, 0, none⟩))), (4, (.pointer (some ⟨b2, 0, none⟩)))] ⟨rfl, rfl, rfl, trivial⟩ ?_
  refine at_then ?_
  refine at_seq ?_
  refine at_region [0, 1, 2, 3, 4, 5, 6, 7, 8, 9, 10] rfl ?_
  refine at_s T rfl ?_
  refine at_v rfl (g_load T rfl rfl rfl rfl (in_var (j := 1) rfl rfl)) ?_
  refine at_s T rfl ?_
  refine at_v rfl (g_load T rfl rfl rfl rfl (in_var (j := 1) rfl rfl)) ?_
  refine at_s T rfl ?_
  obtain ⟨v1, V1, H⟩ := bind_e H
  refine at_cons (at_c (B := fun _ => []) [] rfl rfl rfl rfl has47 rfl rfl (where_Size.c m.W m.H sector v1 _ V1) (fun _ => ?_))
  iterate 5 refine at_s T rfl ?_
  refine at_end ?_
  refine at_sub [(1, (.int .i64 sector)), (2, (.pointer (some ⟨b1, 0, none⟩))), (4, (.pointer (some ⟨b2, 0, none⟩))), (5, (.int .i64 v1.1)), (6, (.int .i64 v1.2))] ⟨rfl, rfl, rfl, rfl, rfl, trivial⟩ ?_
  refine at_then ?_
  refine at_seq ?_
  refine at_region [0, 1, 2, 3, 4, 5, 6] rfl ?_
  refine at_s T rfl ?_
  refine at_v rfl (g_load T rfl rfl rfl rfl (in_var (j := 1) rfl rfl)) ?_
  refine at_s T rfl ?_
  refine at_v rfl (g_load T rfl rfl rfl rfl (in_var (j := 1) rfl rfl)) ?_
  refine at_s T rfl ?_
  obtain ⟨v2, V2, H⟩ := bind_e H
  refine at_cons (at_c (B := fun _ => []) [] rfl rfl rfl rfl has58 rfl rfl (where_Global.c m.W m.H sector 0 v2 _ V2) (fun _ => ?_))
  refine at_s T rfl ?_
  refine at_end ?_
  refine at_sub [(2, (.pointer (some ⟨b1, 0, none⟩))), (4, (.pointer (some ⟨b2, 0, none⟩))), (5, (.int .i64 v1.1)), (6, (.int .i64 v1.2)), (7, (.int .i64 v2))] ⟨rfl, rfl, rfl, rfl, rfl, trivial⟩ ?_
  refine at_then ?_
  refine at_seq ?_
  refine at_region [0, 1, 2, 3, 4] rfl ?_
  iterate 3 refine at_s T rfl ?_
  refine at_cons (at_al T [(.int .i64 0), (.int .i64 0), (.slice none 0 0)] rfl rfl rfl rfl (fun b3 => ?_))
  refine at_cons (at_st T 3 [(.int .i64 v1.1), (.int .i64 v1.2), (.slice none 0 0)] rfl rfl rfl rfl rfl rfl rfl rfl rfl rfl ?_)
  refine at_end ?_
  refine at_sub [(2, (.pointer (some ⟨b1, 0, none⟩))), (4, (.pointer (some ⟨b2, 0, none⟩))), (5, (.int .i64 v1.1)), (6, (.int .i64 v1.2)), (7, (.int .i64 v2)), (8, (.pointer (some ⟨b3, 0, none⟩)))] ⟨rfl, rfl, rfl, rfl, rfl, rfl, trivial⟩ ?_
  refine at_then ?_
  refine at_seq ?_
  refine at_seq ?_
  refine at_region [0, 1] rfl ?_
  iterate 2 refine at_s T rfl ?_
  refine at_end ?_
  refine at_sub [(2, (.pointer (some ⟨b1, 0, none⟩))), (4, (.pointer (some ⟨b2, 0, none⟩))), (5, (.int .i64 v1.1)), (7, (.int .i64 v2)), (8, (.pointer (some ⟨b3, 0, none⟩))), (28, (.int .i64 v1.2)), (29, (.int .i64 0))] ⟨rfl, rfl, rfl, rfl, rfl, rfl, rfl, trivial⟩ ?_
  refine at_then ?_
  refine at_block ?_
  refine at_addnil ?_
  refine at_loopL (σ := Nat × List Int × Int × Option Addr × Nat × Hp) (fun ⟨k7, x5, x6, a5, n5, H5⟩ => atlas_cut.l0 k7 m v1 v2 x5 x6 = some r ∧ SliceO (Fl.int .u8) 5 x5 a5 n5 H5) (fun ⟨k7, x5, x6, a5, n5, H5⟩ => [(2, (.pointer (some ⟨b1, 0, none⟩))), (4, (.pointer (some ⟨b2, 0, none⟩))), (5, (.int .i64 v1.1)), (7, (.int .i64 v2)), (8, (.pointer (some ⟨b3, 0, none⟩))), (28, (.int .i64 v1.2)), (29, (.int .i64 x6))]) (fun ⟨k7, x5, x6, a5, n5, H5⟩ => [F, [(b1, Obj.cells #[(.int .i64 m.W), (.int .i64 m.H), (.slice a_m_C (List.length m.C) n_m_C)] 26 (0, 0))], [(b2, Obj.cells #[(.int .i64 0), (.int .i64 0), (.slice none 0 0)] 41 (0, 0))], [(b3, Obj.cells #[(.int .i64 v1.1), (.int .i64 v1.2), (.slice a5 (List.length x5) n5)] 41 (0, 0))], H5]) (fun s => s.1) (fuel, [], 0, none, 0, []) [0, 0, 0, 0, 0] ⟨H, SliceO.nil⟩ ⟨rfl, rfl, rfl, rfl, rfl, rfl, rfl, trivial⟩ rfl ?_
  rintro ⟨k7, x5, x6, a5, n5, H5⟩ ⟨Z3, s5⟩
  replace Z3 : atlas_cut.l0 k7 m v1 v2 x5 x6 = some r := Z3
  rcases k7 with _ | k7
  · rw [atlas_cut.l0] at Z3; cases Z3
  · rw [atlas_cut.l0] at Z3
    refine at_seq ?_
    refine at_region [0] rfl ?_
    refine at_s T rfl ?_
    refine at_end ?_
    refine at_sub [(2, (.pointer (some ⟨b1, 0, none⟩))), (4, (.pointer (some ⟨b2, 0, none⟩))), (5, (.int .i64 v1.1)), (7, (.int .i64 v2)), (8, (.pointer (some ⟨b3, 0, none⟩))), (28, (.int .i64 v1.2)), (29, (.int .i64 x6)), (30, (.bool (decide (x6 < v1.2))))] ⟨rfl, rfl, rfl, rfl, rfl, rfl, rfl, rfl, trivial⟩ ?_
    refine at_then ?_
    refine at_seq ?_
    refine at_cond rfl (fun c4 => ?_) (fun c4 => ?_)
    · replace Z3 := if_t (of_decide_eq_true c4) Z3
      refine at_skip ?_
      refine at_then ?_
      refine at_seq ?_
      refine at_block ?_
      refine at_seq ?_
      refine at_region [0, 1] rfl ?_
      iterate 2 refine at_s T rfl ?_
      refine at_end ?_
      refine at_sub [(2, (.pointer (some ⟨b1, 0, none⟩))), (4, (.pointer (some ⟨b2, 0, none⟩))), (5, (.int .i64 v1.1)), (7, (.int .i64 v2)), (8, (.pointer (some ⟨b3, 0, none⟩))), (9, (.int .i64 x6)), (28, (.int .i64 v1.2)), (29, (.int .i64 x6))] ⟨rfl, rfl, rfl, rfl, rfl, rfl, rfl, rfl, trivial⟩ ?_
      refine at_then ?_
      refine at_region_m [[], [0], [], [2], [], [], [], [6], [5, 6, 7], [4, 5, 6, 7, 8], [], [], [], [12], [11, 12, 13], [10, 11, 12, 13, 14], [], [10, 11, 12, 13, 14, 15, 16], [2, 3, 4, 5, 6, 7, 8, 9, 10, 11, 12, 13, 14, 15, 16, 17], [0, 1, 2, 3, 4, 5, 6, 7, 8, 9, 10, 11, 12, 13, 14, 15, 16, 17, 18], [0, 1, 2, 3, 4, 5, 6, 7, 8, 9, 10, 11, 12, 13, 14, 15, 16, 17, 18, 19], [0, 1, 2, 3, 4, 5, 6, 7, 8, 9, 10, 11, 12, 13, 14, 15, 16, 17, 18, 19, 20]] [19, 21] [F, [(b1, Obj.cells #[(.int .i64 m.W), (.int .i64 m.H), (.slice a_m_C (List.length m.C) n_m_C)] 26 (0, 0))], [(b2, Obj.cells #[(.int .i64 0), (.int .i64 0), (.slice none 0 0)] 41 (0, 0))], [(b3, Obj.cells #[(.int .i64 v1.1), (.int .i64 v1.2), (.slice a5 (List.length x5) n5)] 41 (0, 0))], H5] mix (by kernel_rfl) (by repeat first | exact pf_body | refine pf_then ?_ | refine pf_block ?_) (fun hg pf => ?_)
      refine atm_s T 0 hg pf (by kernel_rfl) (still_o [0, 0, 0, 0, 0] rfl) rfl ?_
      refine atm_v 1 hg pf (by kernel_rfl) (still_o [0, 0, 0, 0, 0] rfl) rfl rfl (g_load T rfl rfl rfl rfl (in_var (j := 3) rfl rfl)) ?_
      refine atm_s T 2 hg pf (by kernel_rfl) (still_o [0, 0, 0, 0, 0] rfl) rfl ?_
      refine atm_v 3 hg pf (by kernel_rfl) (still_o [0, 0, 0, 0, 0] rfl) rfl rfl (g_load T rfl rfl rfl rfl (in_var (j := 1) rfl rfl)) ?_
      refine atm_s T 4 hg pf (by kernel_rfl) (still_o [0, 0, 0, 0, 0] rfl) rfl ?_
      refine atm_s T 5 hg pf (by kernel_rfl) (still_o [0, 0, 0, 0, 0] rfl) rfl ?_
      refine atm_s T 6 hg pf (by kernel_rfl) (still_o [0, 0, 0, 0, 0] rfl) rfl ?_
      refine atm_v 7 hg pf (by kernel_rfl) (still_o [0, 0, 0, 0, 0] rfl) rfl rfl (g_load T rfl rfl rfl rfl (in_var (j := 1) rfl rfl)) ?_
      refine atm_s T 8 hg pf (by kernel_rfl) (still_o [0, 0, 0, 0, 0] rfl) rfl ?_
      refine atm_s T 9 hg pf (by kernel_rfl) (still_o [0, 0, 0, 0, 0] rfl) rfl ?_
      refine atm_s T 10 hg pf (by kernel_rfl) (still_o [0, 0, 0, 0, 0] rfl) rfl ?_
      refine atm_s T 11 hg pf (by kernel_rfl) (still_o [0, 0, 0, 0, 0] rfl) rfl ?_
      refine atm_s T 12 hg pf (by kernel_rfl) (still_o [0, 0, 0, 0, 0] rfl) rfl ?_
      refine atm_v 13 hg pf (by kernel_rfl) (still_o [0, 0, 0, 0, 0] rfl) rfl rfl (g_load T rfl rfl rfl rfl (in_var (j := 1) rfl rfl)) ?_
      refine atm_s T 14 hg pf (by kernel_rfl) (still_o [0, 0, 0, 0, 0] rfl) rfl ?_
      refine atm_s T 15 hg pf (by kernel_rfl) (still_o [0, 0, 0, 0, 0] rfl) rfl ?_
      refine atm_s T 16 hg pf (by kernel_rfl) (still_o [0, 0, 0, 0, 0] rfl) rfl ?_
      refine atm_s T 17 hg pf (by kernel_rfl) (still_o [0, 0, 0, 0, 0] rfl) rfl ?_
      obtain ⟨c5, Z3⟩ := chk_e Z3
      refine atm_v 18 hg pf (by kernel_rfl) (still_o [0, 0, 0, 0, 0] rfl) rfl rfl (g_sub T rfl rfl rfl rfl rfl rfl c5 c_m_C) ?_
      refine atm_one 19 (by kernel_rfl) ?_
      obtain ⟨c6, Z3⟩ := chk_e Z3
      refine at_ap (k := (Fl.int .u8)) (xs := x5) T (g := 4) rfl rfl rfl rfl rfl rfl rfl rfl rfl rfl s5 (sub_r (ro_of h_m_C (j := 0) rfl) c5 c_m_C) c6 rfl (fun a6 n6 H6 s6 => ?_)
      refine atm_next (still_l (by kernel_rfl)) ?_
      refine atm_s T 20 hg pf (by kernel_rfl) (still_l (by kernel_rfl)) rfl ?_
      refine atm_one 21 (by kernel_rfl) ?_
      refine at_st T 3 [(.int .i64 v1.1), (.int .i64 v1.2), (.slice a6 (List.length (x5 ++ (sub' m.C (w64 (v2 + (w64 (x6 * m.W)))) (w64 ((w64 (v2 + (w64 (x6 * m.W)))) + v1.1))))) n6)] rfl rfl rfl rfl rfl rfl rfl rfl rfl rfl ?_
      refine atm_next (still_l (by kernel_rfl)) ?_
      refine atm_end (by kernel_rfl) ?_
      refine at_sub [(2, (.pointer (some ⟨b1, 0, none⟩))), (4, (.pointer (some ⟨b2, 0, none⟩))), (5, (.int .i64 v1.1)), (7, (.int .i64 v2)), (8, (.pointer (some ⟨b3, 0, none⟩))), (28, (.int .i64 v1.2)), (29, (.int .i64 x6))] ⟨rfl, rfl, rfl, rfl, rfl, rfl, rfl, trivial⟩ ?_
      refine at_nb ?_
      refine at_then ?_
      refine at_region [0, 1] rfl ?_
      iterate 2 refine at_s T rfl ?_
      refine at_end ?_
      refine at_sub [(2, (.pointer (some ⟨b1, 0, none⟩))), (4, (.pointer (some ⟨b2, 0, none⟩))), (5, (.int .i64 v1.1)), (7, (.int .i64 v2)), (8, (.pointer (some ⟨b3, 0, none⟩))), (28, (.int .i64 v1.2)), (29, (.int .i64 (w64 (x6 + 1))))] ⟨rfl, rfl, rfl, rfl, rfl, rfl, rfl, trivial⟩ ?_
      refine at_then ?_
      exact at_roundL (k7, (x5 ++ (sub' m.C (w64 (v2 + (w64 (x6 * m.W)))) (w64 ((w64 (v2 + (w64 (x6 * m.W)))) + v1.1)))), (w64 (x6 + 1)), a6, n6, H6) [0, 0, 0, 0, 0] ⟨Z3, s6⟩ (Nat.lt_succ_self _) ⟨rfl, rfl, rfl, rfl, rfl, rfl, rfl, trivial⟩ rfl
    · replace Z3 := if_f (of_decide_eq_false c4) Z3
      refine at_exit ?_
      refine at_xt ?_
      refine at_xt ?_
      refine at_xb ?_
      refine at_then ?_
      refine at_seq ?_
      refine at_region [0, 1] rfl ?_
      refine at_v rfl (g_loadA T (cs := [(.int .i64 v1.1), (.int .i64 v1.2), (.slice a5 (List.length x5) n5)]) rfl rfl rfl rfl rfl rfl (in_varA (j := 3) rfl rfl)) ?_
      refine at_cons (at_st T 2 [(.int .i64 v1.1), (.int .i64 v1.2), (.slice a5 (List.length x5) n5)] rfl rfl rfl rfl rfl rfl rfl rfl rfl rfl ?_)
      refine at_end ?_
      refine at_to [(4, (.pointer (some ⟨b2, 0, none⟩)))] [0, 1, 2] [F, [(b2, Obj.cells #[(.int .i64 v1.1), (.int .i64 v1.2), (.slice a5 (List.length x5) n5)] 41 (0, 0))], H5] ⟨rfl, trivial⟩ rfl ?_
      refine at_then ?_
      refine at_ret ?_
      obtain rfl := Option.some.inj Z3
      exact at_post (T := T) rfl (.aggv (j := 1) [(.int .i64 v1.1), (.int .i64 v1.2), (.slice a5 (List.length x5) n5)] rfl rfl rfl rfl rfl rfl rfl .nil) (fun w o => ⟨⟨(_, _), ⟨a5, n5, H5, s5, rfl, rfl⟩⟩, rfl, own_to [2, 0] rfl o⟩)

/-! ### herdsman/atlas.Put: function 17 -/
def atlas_Put.l0 : Nat → api_Map → Int → List Int → Int → Option ((List Int) × Int)
  | 0, _, _, _, _ => none
  | k7 + 1, m, v2, x5, x6 => if x6 < v2 then ((atlas_cut.f m x6).bind fun v8 => (pack_Put.f v8).bind fun v9 => if (List.length x5 + List.length v9.1 ≤ 1099511627776) then (atlas_Put.l0 k7 m v2 (x5 ++ v9.1) (w64 (x6 + 1))) else none) else (some (x5, 0))
def atlas_Put.f (m : api_Map) : Option ((List Int) × Int) := (atlas_May.f m).bind fun v1 => if (!v1) = true then (some ([], 1)) else ((atlas_many.f m.W m.H).bind fun v2 => atlas_Put.l0 fuel m v2 [(wu8 m.W), (wu8 (Int.fdiv m.W (2 ^ 8))), (wu8 m.H), (wu8 (Int.fdiv m.H (2 ^ 8)))] 0)
def atlas_Put.R (r : ((List Int) × Int)) (u : Value) (G : List Hp) : Prop := ∃ (a0 : Option Addr) (n0 : Nat) (H0 : Hp), SliceO (Fl.int .u8) 5 r.1 a0 n0 H0 ∧ u = (.tuple #[(.slice a0 (List.length r.1) n0), (.int .i64 r.2)]) ∧ G = [H0]
set_option maxHeartbeats 4000000 in
theorem atlas_Put.c {a_m_C : Option Addr} {n_m_C : Nat} (m : api_Map) (r : ((List Int) × Int)) (F : Hp) (H : atlas_Put.f m = some r) (h_m_C : SliceR (Fl.int .u8) m.C a_m_C F) (c_m_C : List.length m.C ≤ n_m_C) :
    CallsL Tryd.prog 17 [(.agg #[(.int .i64 m.W), (.int .i64 m.H), (.slice a_m_C (List.length m.C) n_m_C)])] [F] (fun qp : { qp : Value × List Hp // atlas_Put.R r qp.1 qp.2 } => qp.1.1) (fun qp => (qp.1.2 ++ []) ++ [F]) := by
  unfold atlas_Put.f at H
  refine calls_atL [(0, (.agg #[(.int .i64 m.W), (.int .i64 m.H), (.slice a_m_C (List.length m.C) n_m_C)]))] Tryd.func17 rfl rfl ⟨rfl, trivial⟩ (fun W => ?_)
  refine at_seq ?_
  refine at_region [0, 1, 2] rfl ?_
  refine at_cons (at_bx T [(.int .i64 m.W), (.int .i64 m.H), (.slice a_m_C (List.length m.C) n_m_C)] rfl rfl rfl rfl (fun b1 => ?_))
  iterate 2 refine at_s T rfl ?_
  refine at_end ?_
  refine at_sub [(1, (.pointer (some ⟨b1, 0, none⟩)))] ⟨rfl, trivial⟩ ?_
  refine at_then ?_
  refine at_seq ?_
  refine at_seq ?_
  refine at_region [0, 1, 2] rfl ?_
  refine at_v rfl (g_loadA T (cs := [(.int .i64 m.W), (.int .i64 m.H), (.slice a_m_C (List.length m.C) n_m_C)]) rfl rfl rfl rfl rfl rfl (in_varA (j := 1) rfl rfl)) ?_
  obtain ⟨v1, V1, H⟩ := bind_e H
  refine at_cons (at_c (B := fun _ => []) [] rfl rfl rfl rfl has24 rfl rfl (atlas_May.c m v1 _ V1 (ro_of h_m_C (j := 0) rfl) c_m_C) (fun _ => ?_))
  refine at_s T rfl ?_
  refine at_end ?_
  refine at_sub [(1, (.pointer (some ⟨b1, 0, none⟩))), (10, (.bool (!v1)))] ⟨rfl, rfl, trivial⟩ ?_
  refine at_then ?_
  refine at_cond rfl (fun c2 => ?_) (fun c2 => ?_)
  · replace H := if_t c2 H
    refine at_seq ?_
    refine at_region [0, 1] rfl ?_
    iterate 2 refine at_s T rfl ?_
    refine at_end ?_
    refine at_to [(2, (.slice none 0 0)), (3, (.int .i64 1))] [0] [F] ⟨rfl, rfl, trivial⟩ rfl ?_
    refine at_then ?_
    refine at_ret ?_
    refine at_rt ?_
    obtain rfl := Option.some.inj H
    refine at_addnil ?_
    exact at_post (T := T) rfl (.tmp rfl (.tmp rfl .nil)) (fun w o => ⟨⟨(_, _), ⟨none, 0, [], SliceO.nil, rfl, rfl⟩⟩, rfl, own_to [1, 0] rfl o⟩)
  · replace H := if_f (bf c2) H
    refine at_skip ?_
    refine at_then ?_
    refine at_seq ?_
    refine at_region [0, 1, 2, 3, 4, 5, 6, 7, 8, 9, 10, 11, 12, 13, 14, 15] rfl ?_
    refine at_s T rfl ?_
    refine at_v rfl (g_load T rfl rfl rfl rfl (in_var (j := 1) rfl rfl)) ?_
    iterate 2 refine at_s T rfl ?_
    refine at_v rfl (g_load T rfl rfl rfl rfl (in_var (j := 1) rfl rfl)) ?_
    iterate 3 refine at_s T rfl ?_
    refine at_v rfl (g_load T rfl rfl rfl rfl (in_var (j := 1) rfl rfl)) ?_
    iterate 2 refine at_s T rfl ?_
    refine at_v rfl (g_load T rfl rfl rfl rfl (in_var (j := 1) rfl rfl)) ?_
    iterate 2 refine at_s T rfl ?_
    refine at_cons (at_bs (k := (Fl.int .u8)) T [(wu8 m.W), (wu8 (Int.fdiv m.W (2 ^ 8))), (wu8 m.H), (wu8 (Int.fdiv m.H (2 ^ 8)))] rfl rfl rfl rfl rfl rfl rfl rfl rfl (fun a3 H3 s3 => ?_))
    refine at_s T rfl ?_
    refine at_end ?_
    refine at_sub [(1, (.pointer (some ⟨b1, 0, none⟩))), (4, (.slice a3 (List.length [(wu8 m.W), (wu8 (Int.fdiv m.W (2 ^ 8))), (wu8 m.H), (wu8 (Int.fdiv m.H (2 ^ 8)))]) (List.length [(wu8 m.W), (wu8 (Int.fdiv m.W (2 ^ 8))), (wu8 m.H), (wu8 (Int.fdiv m.H (2 ^ 8)))])))] ⟨rfl, rfl, trivial⟩ ?_
    refine at_then ?_
    refine at_seq ?_
    refine at_seq ?_
    refine at_region [0, 1, 2, 3, 4, 5] rfl ?_
    refine at_s T rfl ?_
    refine at_v rfl (g_load T rfl rfl rfl rfl (in_var (j := 1) rfl rfl)) ?_
    refine at_s T rfl ?_
    refine at_v rfl (g_load T rfl rfl rfl rfl (in_var (j := 1) rfl rfl)) ?_
    obtain ⟨v2, V3, H⟩ := bind_e H
    refine at_cons (at_c (B := fun _ => []) [] rfl rfl rfl rfl has38 rfl rfl (atlas_many.c m.W m.H v2 _ V3) (fun _ => ?_))
    refine at_s T rfl ?_
    refine at_end ?_
    refine at_sub [(1, (.pointer (some ⟨b1, 0, none⟩))), (4, (.slice a3 (List.length [(wu8 m.W), (wu8 (Int.fdiv m.W (2 ^ 8))), (wu8 m.H), (wu8 (Int.fdiv m.H (2 ^ 8)))]) (List.length [(wu8 m.W), (wu8 (Int.fdiv m.W (2 ^ 8))), (wu8 m.H), (wu8 (Int.fdiv m.H (2 ^ 8)))]))), (30, (.int .i64 v2)), (31, (.int .i64 0))] ⟨rfl, rfl, rfl, rfl, trivial⟩ ?_
    refine at_then ?_
    refine at_block ?_
    refine at_loopL (σ := Nat × List Int × Int × Option Addr × Nat × Hp) (fun ⟨k7, x5, x6, a5, n5, H5⟩ => atlas_Put.l0 k7 m v2 x5 x6 = some r ∧ SliceO (Fl.int .u8) 5 x5 a5 n5 H5) (fun ⟨k7, x5, x6, a5, n5, H5⟩ => [(1, (.pointer (some ⟨b1, 0, none⟩))), (4, (.slice a5 (List.length x5) n5)), (30, (.int .i64 v2)), (31, (.int .i64 x6))]) (fun ⟨k7, x5, x6, a5, n5, H5⟩ => [F, [(b1, Obj.cells #[(.int .i64 m.W), (.int .i64 m.H), (.slice a_m_C (List.length m.C) n_m_C)] 26 (0, 0))], H5]) (fun s => s.1) (fuel, [(wu8 m.W), (wu8 (Int.fdiv m.W (2 ^ 8))), (wu8 m.H), (wu8 (Int.fdiv m.H (2 ^ 8)))], 0, a3, (List.length [(wu8 m.W), (wu8 (Int.fdiv m.W (2 ^ 8))), (wu8 m.H), (wu8 (Int.fdiv m.H (2 ^ 8)))]), H3) [0, 0, 0] ⟨H, s3⟩ ⟨rfl, rfl, rfl, rfl, trivial⟩ rfl ?_
    rintro ⟨k7, x5, x6, a5, n5, H5⟩ ⟨Z4, s5⟩
    replace Z4 : atlas_Put.l0 k7 m v2 x5 x6 = some r := Z4
    rcases k7 with _ | k7
    · rw [atlas_Put.l0] at Z4; cases Z4
    · rw [atlas_Put.l0] at Z4
      refine at_seq ?_
      refine at_region [0] rfl ?_
      refine at_s T rfl ?_
      refine at_end ?_
      refine at_sub [(1, (.pointer (some ⟨b1, 0, none⟩))), (4, (.slice a5 (List.length x5) n5)), (30, (.int .i64 v2)), (31, (.int .i64 x6)), (32, (.bool (decide (x6 < v2))))] ⟨rfl, rfl, rfl, rfl, rfl, trivial⟩ ?_
      refine at_then ?_
      refine at_seq ?_
      refine at_cond rfl (fun c5 => ?_) (fun c5 => ?_)
      · replace Z4 := if_t (of_decide_eq_true c5) Z4
        refine at_skip ?_
        refine at_then ?_
        refine at_seq ?_
        refine at_block ?_
        refine at_seq ?_
        refine at_region [0, 1] rfl ?_
        iterate 2 refine at_s T rfl ?_
        refine at_end ?_
        refine at_sub [(1, (.pointer (some ⟨b1, 0, none⟩))), (4, (.slice a5 (List.length x5) n5)), (5, (.int .i64 x6)), (30, (.int .i64 v2)), (31, (.int .i64 x6))] ⟨rfl, rfl, rfl, rfl, rfl, trivial⟩ ?_
        refine at_then ?_
        refine at_seq ?_
        refine at_region [0, 1, 2, 3, 4, 5, 6, 7, 8] rfl ?_
        refine at_v rfl (g_loadA T (cs := [(.int .i64 m.W), (.int .i64 m.H), (.slice a_m_C (List.length m.C) n_m_C)]) rfl rfl rfl rfl rfl rfl (in_varA (j := 1) rfl rfl)) ?_
        refine at_s T rfl ?_
        obtain ⟨v8, V6, Z4⟩ := bind_e Z4
        refine at_cons (at_cR (atlas_cut.R v8) [] [] rfl rfl rfl rfl has40 rfl rfl (atlas_cut.c m x6 v8 _ V6 (ro_of h_m_C (j := 0) rfl) c_m_C) ?_)
        rintro _ _ ⟨a6, n6, H6, s6, rfl, rfl⟩
        obtain ⟨v9, V7, Z4⟩ := bind_e Z4
        refine at_cons (at_cR (pack_Put.R v9) [] [] rfl rfl rfl rfl has39 rfl rfl (pack_Put.c v8 v9 _ V7 (own_of s6 (j := 3) rfl) s6.cap_le) ?_)
        rintro _ _ ⟨a7, n7, H7, s7, rfl, rfl⟩
        iterate 5 refine at_s T rfl ?_
        refine at_end ?_
        refine at_to [(1, (.pointer (some ⟨b1, 0, none⟩))), (4, (.slice a5 (List.length x5) n5)), (6, (.slice a7 (List.length v9.1) n7)), (30, (.int .i64 v2)), (31, (.int .i64 x6))] [0, 0, 0, 1] [F, [(b1, Obj.cells #[(.int .i64 m.W), (.int .i64 m.H), (.slice a_m_C (List.length m.C) n_m_C)] 26 (0, 0))], H5, H7] ⟨rfl, rfl, rfl, rfl, rfl, trivial⟩ rfl ?_
        refine at_then ?_
        refine at_region [0, 1, 2, 3] rfl ?_
        iterate 2 refine at_s T rfl ?_
        obtain ⟨c8, Z4⟩ := chk_e Z4
        refine at_cons (at_ap (k := (Fl.int .u8)) (xs := x5) T (g := 2) rfl rfl rfl rfl rfl rfl rfl rfl rfl rfl s5 (own_of s7 (j := 3) rfl) c8 rfl (fun a8 n8 H8 s8 => ?_))
        refine at_s T rfl ?_
        refine at_end ?_
        refine at_to [(1, (.pointer (some ⟨b1, 0, none⟩))), (4, (.slice a8 (List.length (x5 ++ v9.1)) n8)), (30, (.int .i64 v2)), (31, (.int .i64 x6))] [0, 0, 0] [F, [(b1, Obj.cells #[(.int .i64 m.W), (.int .i64 m.H), (.slice a_m_C (List.length m.C) n_m_C)] 26 (0, 0))], H8] ⟨rfl, rfl, rfl, rfl, trivial⟩ rfl ?_
        refine at_nb ?_
        refine at_then ?_
        refine at_region [0, 1] rfl ?_
        iterate 2 refine at_s T rfl ?_
        refine at_end ?_
        refine at_sub [(1, (.pointer (some ⟨b1, 0, none⟩))), (4, (.slice a8 (List.length (x5 ++ v9.1)) n8)), (30, (.int .i64 v2)), (31, (.int .i64 (w64 (x6 + 1))))] ⟨rfl, rfl, rfl, rfl, trivial⟩ ?_
        refine at_then ?_
        exact at_roundL (k7, (x5 ++ v9.1), (w64 (x6 + 1)), a8, n8, H8) [0, 0, 0] ⟨Z4, s8⟩ (Nat.lt_succ_self _) ⟨rfl, rfl, rfl, rfl, trivial⟩ rfl
      · replace Z4 := if_f (of_decide_eq_false c5) Z4
        refine at_exit ?_
        refine at_xt ?_
        refine at_xt ?_
        refine at_xb ?_
        refine at_then ?_
        refine at_seq ?_
        refine at_region [0, 1, 2] rfl ?_
        iterate 3 refine at_s T rfl ?_
        refine at_end ?_
        refine at_to [(2, (.slice a5 (List.length x5) n5)), (3, (.int .i64 0))] [0, 1] [F, H5] ⟨rfl, rfl, trivial⟩ rfl ?_
        refine at_then ?_
        refine at_ret ?_
        obtain rfl := Option.some.inj Z4
        exact at_post (T := T) rfl (.tmp rfl (.tmp rfl .nil)) (fun w o => ⟨⟨(_, _), ⟨a5, n5, H5, s5, rfl, rfl⟩⟩, rfl, own_to [1, 0] rfl o⟩)

/-! ### herdsman/atlas.lay: function 49 -/
def atlas_lay.l0 : Nat → api_Map → api_Map → Int → List Int → Int → Option (List Int)
  | 0, _, _, _, _, _ => none
  | k6 + 1, m, t, v1, x4, x5 => if x5 < t.H then (if (0 ≤ (w64 (v1 + (w64 (x5 * m.W)))) ∧ (w64 (v1 + (w64 (x5 * m.W)))) ≤ (List.length x4 : Int) ∧ (List.length x4 : Int) ≤ (List.length x4 : Int)) then (if (0 ≤ (w64 (x5 * t.W)) ∧ (w64 (x5 * t.W)) ≤ (w64 ((w64 (x5 + 1)) * t.W)) ∧ (w64 ((w64 (x5 + 1)) * t.W)) ≤ (List.length t.C : Int)) then (atlas_lay.l0 k6 m t v1 (cpy x4 (Int.toNat (w64 (v1 + (w64 (x5 * m.W))))) (min (List.length (sub' t.C (w64 (x5 * t.W)) (w64 ((w64 (x5 + 1)) * t.W)))) (List.length (sub' x4 (w64 (v1 + (w64 (x5 * m.W)))) (List.length x4 : Int)))) (sub' t.C (w64 (x5 * t.W)) (w64 ((w64 (x5 + 1)) * t.W)))) (w64 (x5 + 1))) else none) else none) else (some x4)
def atlas_lay.f (m : api_Map) (sector : Int) (t : api_Map) : Option (List Int) := (where_Global.f m.W m.H sector 0).bind fun v1 => atlas_lay.l0 fuel m t v1 m.C 0
def atlas_lay.R (wa_m_C : Option Addr) (wn_m_C : Nat) (wla_m_C : Nat) (r : (List Int)) (u : Value) (G : List Hp) : Prop := ∃ (H0 : Hp), SliceO (Fl.int .u8) 5 r wa_m_C wn_m_C H0 ∧ List.length r = wla_m_C ∧ u = (.tuple #[]) ∧ G = [H0]
set_option maxHeartbeats 4000000 in
theorem atlas_lay.c {a_m_C : Option Addr} {n_m_C : Nat} {H_m_C : Hp} {a_t_C : Option Addr} {n_t_C : Nat} (m : api_Map) (sector : Int) (t : api_Map) (r : (List Int)) (F : Hp) (H : atlas_lay.f m sector t = some r) (s_m_C : SliceO (Fl.int .u8) 5 m.C a_m_C n_m_C H_m_C) (h_t_C : SliceR (Fl.int .u8) t.C a_t_C F) (c_t_C : List.length t.C ≤ n_t_C) :
    CallsL Tryd.prog 49 [(.agg #[(.int .i64 m.W), (.int .i64 m.H), (.slice a_m_C (List.length m.C) n_m_C)]), (.int .i64 sector), (.agg #[(.int .i64 t.W), (.int .i64 t.H), (.slice a_t_C (List.length t.C) n_t_C)])] [H_m_C, F] (fun qp : { qp : Value × List Hp // atlas_lay.R a_m_C n_m_C (List.length m.C) r qp.1 qp.2 } => qp.1.1) (fun qp => (qp.1.2 ++ []) ++ [F]) := by
  unfold atlas_lay.f at H
  refine calls_atL [(0, (.agg #[(.int .i64 m.W), (.int .i64 m.H), (.slice a_m_C (List.length m.C) n_m_C)])), (1, (.int .i64 sector)), (2, (.agg #[(.int .i64 t.W), (.int .i64 t.H), (.slice a_t_C (List.length t.C) n_t_C)]))] Tryd.func49 rfl rfl ⟨rfl, rfl, rfl, trivial⟩ (fun W => ?_)
  refine at_seq ?_
  refine at_region [0, 1] rfl ?_
  refine at_cons (at_bx T [(.int .i64 m.W), (.int .i64 m.H), (.slice a_m_C (List.length m.C) n_m_C)] rfl rfl rfl rfl (fun b2 => ?_))
  refine at_cons (at_bx T [(.int .i64 t.W), (.int .i64 t.H), (.slice a_t_C (List.length t.C) n_t_C)] rfl rfl rfl rfl (fun b3 => ?_))
  refine at_end ?_
  refine at_sub [(1, (.int .i64 sector)), (3, (.pointer (some ⟨b2, 0, none⟩))), (5, (.pointer (some ⟨b3, 0, none⟩)))] ⟨rfl, rfl, rfl, trivial⟩ ?_
  refine at_then ?_
  refine at_seq ?_
  refine at_region [0, 1, 2, 3, 4, 5, 6] rfl ?_
  refine at_s T rfl ?_
  refine at_v rfl (g_load T rfl rfl rfl rfl (in_var (j := 2) rfl rfl)) ?_
  refine at_s T rfl ?_
  refine at_v rfl (g_load T rfl rfl rfl rfl (in_var (j := 2) rfl rfl)) ?_
  refine at_s T rfl ?_
  obtain ⟨v1, V1, H⟩ := bind_e H
  refine at_cons (at_c (B := fun _ => []) [] rfl rfl rfl rfl has58 rfl rfl (where_Global.c m.W m.H sector 0 v1 _ V1) (fun _ => ?_))
  refine at_s T rfl ?_
  refine at_end ?_
  refine at_sub [(3, (.pointer (some ⟨b2, 0, none⟩))), (5, (.pointer (some ⟨b3, 0, none⟩))), (6, (.int .i64 v1))] ⟨rfl, rfl, rfl, trivial⟩ ?_
  refine at_then ?_
  refine at_seq ?_
  refine at_region [0, 1, 2] rfl ?_
  refine at_s T rfl ?_
  refine at_v rfl (g_load T rfl rfl rfl rfl (in_var (j := 3) rfl rfl)) ?_
  refine at_s T rfl ?_
  refine at_end ?_
  refine at_sub [(3, (.pointer (some ⟨b2, 0, none⟩))), (5, (.pointer (some ⟨b3, 0, none⟩))), (6, (.int .i64 v1)), (15, (.int .i64 t.H)), (16, (.int .i64 0))] ⟨rfl, rfl, rfl, rfl, rfl, trivial⟩ ?_
  refine at_then ?_
  refine at_block ?_
  refine at_loopL (σ := Nat × List Int × Int × Hp) (fun ⟨k6, x4, x5, H5⟩ => atlas_lay.l0 k6 m t v1 x4 x5 = some r ∧ SliceO (Fl.int .u8) 5 x4 a_m_C n_m_C H5 ∧ List.length x4 = List.length m.C) (fun ⟨k6, x4, x5, H5⟩ => [(3, (.pointer (some ⟨b2, 0, none⟩))), (5, (.pointer (some ⟨b3, 0, none⟩))), (6, (.int .i64 v1)), (15, (.int .i64 t.H)), (16, (.int .i64 x5))]) (fun ⟨k6, x4, x5, H5⟩ => [F, [(b2, Obj.cells #[(.int .i64 m.W), (.int .i64 m.H), (.slice a_m_C (List.length x4) n_m_C)] 26 (0, 0))], H5, [(b3, Obj.cells #[(.int .i64 t.W), (.int .i64 t.H), (.slice a_t_C (List.length t.C) n_t_C)] 41 (0, 0))]]) (fun s => s.1) (fuel, m.C, 0, H_m_C) [1, 1, 0, 0] ⟨H, s_m_C, rfl⟩ ⟨rfl, rfl, rfl, rfl, rfl, trivial⟩ rfl ?_
  rintro ⟨k6, x4, x5, H5⟩ ⟨Z2, s5, l5⟩
  replace Z2 : atlas_lay.l0 k6 m t v1 x4 x5 = some r := Z2
  rcases k6 with _ | k6
  · rw [atlas_lay.l0] at Z2; cases Z2
  · rw [atlas_lay.l0] at Z2
    refine at_seq ?_
    refine at_region [0] rfl ?_
    refine at_s T rfl ?_
    refine at_end ?_
    refine at_sub [(3, (.pointer (some ⟨b2, 0, none⟩))), (5, (.pointer (some ⟨b3, 0, none⟩))), (6, (.int .i64 v1)), (15, (.int .i64 t.H)), (16, (.int .i64 x5)), (17, (.bool (decide (x5 < t.H))))] ⟨rfl, rfl, rfl, rfl, rfl, rfl, trivial⟩ ?_
    refine at_then ?_
    refine at_seq ?_
    refine at_cond rfl (fun c3 => ?_) (fun c3 => ?_)
    · replace Z2 := if_t (of_decide_eq_true c3) Z2
      refine at_skip ?_
      refine at_then ?_
      refine at_seq ?_
      refine at_block ?_
      refine at_seq ?_
      refine at_region [0, 1] rfl ?_
      iterate 2 refine at_s T rfl ?_
      refine at_end ?_
      refine at_sub [(3, (.pointer (some ⟨b2, 0, none⟩))), (5, (.pointer (some ⟨b3, 0, none⟩))), (6, (.int .i64 v1)), (7, (.int .i64 x5)), (15, (.int .i64 t.H)), (16, (.int .i64 x5))] ⟨rfl, rfl, rfl, rfl, rfl, rfl, trivial⟩ ?_
      refine at_then ?_
      refine at_region_m [[], [0], [], [], [], [4], [3, 4, 5], [2, 3, 4, 5, 6], [0, 1, 2, 3, 4, 5, 6, 7], [], [9], [], [], [12], [11, 12, 13], [], [15], [], [17], [15, 16, 17, 18], [9, 10, 11, 12, 13, 14, 15, 16, 17, 18, 19], [0, 1, 2, 3, 4, 5, 6, 7, 8, 9, 10, 11, 12, 13, 14, 15, 16, 17, 18, 19, 20]] [21] [F, [(b2, Obj.cells #[(.int .i64 m.W), (.int .i64 m.H), (.slice a_m_C (List.length x4) n_m_C)] 26 (0, 0))], H5, [(b3, Obj.cells #[(.int .i64 t.W), (.int .i64 t.H), (.slice a_t_C (List.length t.C) n_t_C)] 41 (0, 0))]] mix (by kernel_rfl) (by repeat first | exact pf_body | refine pf_then ?_ | refine pf_block ?_) (fun hg pf => ?_)
      refine atm_s T 0 hg pf (by kernel_rfl) (still_o [0, 0, 0, 0] rfl) rfl ?_
      refine atm_v 1 hg pf (by kernel_rfl) (still_o [0, 0, 0, 0] rfl) rfl rfl (g_load T rfl rfl rfl rfl (in_var (j := 1) rfl rfl)) ?_
      refine atm_s T 2 hg pf (by kernel_rfl) (still_o [0, 0, 0, 0] rfl) rfl ?_
      refine atm_s T 3 hg pf (by kernel_rfl) (still_o [0, 0, 0, 0] rfl) rfl ?_
      refine atm_s T 4 hg pf (by kernel_rfl) (still_o [0, 0, 0, 0] rfl) rfl ?_
      refine atm_v 5 hg pf (by kernel_rfl) (still_o [0, 0, 0, 0] rfl) rfl rfl (g_load T rfl rfl rfl rfl (in_var (j := 1) rfl rfl)) ?_
      refine atm_s T 6 hg pf (by kernel_rfl) (still_o [0, 0, 0, 0] rfl) rfl ?_
      refine atm_s T 7 hg pf (by kernel_rfl) (still_o [0, 0, 0, 0] rfl) rfl ?_
      obtain ⟨c4, Z2⟩ := chk_e Z2
      refine atm_v 8 hg pf (by kernel_rfl) (still_o [0, 0, 0, 0] rfl) rfl rfl (g_sub T rfl rfl rfl rfl rfl rfl c4 s5.cap_le) ?_
      refine atm_s T 9 hg pf (by kernel_rfl) (still_o [0, 0, 0, 0] rfl) rfl ?_
      refine atm_v 10 hg pf (by kernel_rfl) (still_o [0, 0, 0, 0] rfl) rfl rfl (g_load T rfl rfl rfl rfl (in_var (j := 3) rfl rfl)) ?_
      refine atm_s T 11 hg pf (by kernel_rfl) (still_o [0, 0, 0, 0] rfl) rfl ?_
      refine atm_s T 12 hg pf (by kernel_rfl) (still_o [0, 0, 0, 0] rfl) rfl ?_
      refine atm_v 13 hg pf (by kernel_rfl) (still_o [0, 0, 0, 0] rfl) rfl rfl (g_load T rfl rfl rfl rfl (in_var (j := 3) rfl rfl)) ?_
      refine atm_s T 14 hg pf (by kernel_rfl) (still_o [0, 0, 0, 0] rfl) rfl ?_
      refine atm_s T 15 hg pf (by kernel_rfl) (still_o [0, 0, 0, 0] rfl) rfl ?_
      refine atm_s T 16 hg pf (by kernel_rfl) (still_o [0, 0, 0, 0] rfl) rfl ?_
      refine atm_s T 17 hg pf (by kernel_rfl) (still_o [0, 0, 0, 0] rfl) rfl ?_
      refine atm_v 18 hg pf (by kernel_rfl) (still_o [0, 0, 0, 0] rfl) rfl rfl (g_load T rfl rfl rfl rfl (in_var (j := 3) rfl rfl)) ?_
      refine atm_s T 19 hg pf (by kernel_rfl) (still_o [0, 0, 0, 0] rfl) rfl ?_
      obtain ⟨c5, Z2⟩ := chk_e Z2
      refine atm_v 20 hg pf (by kernel_rfl) (still_o [0, 0, 0, 0] rfl) rfl rfl (g_sub T rfl rfl rfl rfl rfl rfl c5 c_t_C) ?_
      refine atm_one 21 (by kernel_rfl) ?_
      have L6 : (Int.toNat (w64 (v1 + (w64 (x5 * m.W))))) + (List.length (sub' x4 (w64 (v1 + (w64 (x5 * m.W)))) (List.length x4 : Int))) ≤ List.length x4 := (sub_fit c4)
      refine at_cp (k := (Fl.int .u8)) (xs := x4) (ys := (sub' t.C (w64 (x5 * t.W)) (w64 ((w64 (x5 + 1)) * t.W)))) (lo := (Int.toNat (w64 (v1 + (w64 (x5 * m.W)))))) (g := 2) T rfl rfl rfl rfl rfl rfl rfl rfl s5 (sub_r (ro_of h_t_C (j := 0) rfl) c5 c_t_C) (.inr rfl) L6 (fun H6 s6 => ?_)
      refine at_to [(3, (.pointer (some ⟨b2, 0, none⟩))), (5, (.pointer (some ⟨b3, 0, none⟩))), (6, (.int .i64 v1)), (7, (.int .i64 x5)), (15, (.int .i64 t.H)), (16, (.int .i64 x5)), (19, (.pointer (some ⟨b2, 2, none⟩))), (20, (.slice a_m_C (List.length (cpy x4 (Int.toNat (w64 (v1 + (w64 (x5 * m.W))))) (min (List.length (sub' t.C (w64 (x5 * t.W)) (w64 ((w64 (x5 + 1)) * t.W)))) (List.length (sub' x4 (w64 (v1 + (w64 (x5 * m.W)))) (List.length x4 : Int)))) (sub' t.C (w64 (x5 * t.W)) (w64 ((w64 (x5 + 1)) * t.W))))) n_m_C)), (21, (.int .i64 v1)), (22, (.int .i64 x5)), (23, (.pointer (some ⟨b2, 0, none⟩))), (24, (.int .i64 m.W)), (25, (.int .i64 (w64 (x5 * m.W)))), (26, (.int .i64 (w64 (v1 + (w64 (x5 * m.W)))))), (27, (.slice (subA a_m_C n_m_C (Int.toNat (w64 (v1 + (w64 (x5 * m.W))))) 1) (List.length (sub' x4 (w64 (v1 + (w64 (x5 * m.W)))) (List.length x4 : Int))) (n_m_C - Int.toNat (w64 (v1 + (w64 (x5 * m.W))))))), (28, (.pointer (some ⟨b3, 2, none⟩))), (29, (.slice a_t_C (List.length t.C) n_t_C)), (30, (.int .i64 x5)), (31, (.pointer (some ⟨b3, 0, none⟩))), (32, (.int .i64 t.W)), (33, (.int .i64 (w64 (x5 * t.W)))), (34, (.int .i64 x5)), (35, (.int .i64 (w64 (x5 + 1)))), (36, (.pointer (some ⟨b3, 0, none⟩))), (37, (.int .i64 t.W)), (38, (.int .i64 (w64 ((w64 (x5 + 1)) * t.W)))), (39, (.slice (subA a_t_C n_t_C (Int.toNat (w64 (x5 * t.W))) 1) (List.length (sub' t.C (w64 (x5 * t.W)) (w64 ((w64 (x5 + 1)) * t.W)))) (n_t_C - Int.toNat (w64 (x5 * t.W))))), (40, (.int .i64 (((min (List.length (sub' t.C (w64 (x5 * t.W)) (w64 ((w64 (x5 + 1)) * t.W)))) (List.length (sub' x4 (w64 (v1 + (w64 (x5 * m.W)))) (List.length x4 : Int)))) : Nat) : Int)))] [0, 0, 0, 0] [F, [(b2, Obj.cells #[(.int .i64 m.W), (.int .i64 m.H), (.slice a_m_C (List.length (cpy x4 (Int.toNat (w64 (v1 + (w64 (x5 * m.W))))) (min (List.length (sub' t.C (w64 (x5 * t.W)) (w64 ((w64 (x5 + 1)) * t.W)))) (List.length (sub' x4 (w64 (v1 + (w64 (x5 * m.W)))) (List.length x4 : Int)))) (sub' t.C (w64 (x5 * t.W)) (w64 ((w64 (x5 + 1)) * t.W))))) n_m_C)] 26 (0, 0))], H6, [(b3, Obj.cells #[(.int .i64 t.W), (.int .i64 t.H), (.slice a_t_C (List.length t.C) n_t_C)] 41 (0, 0))]] ⟨rfl, rfl, rfl, rfl, rfl, rfl, rfl, (by first | rfl | (simp only [cpy_len L6]; rfl)), rfl, rfl, rfl, rfl, rfl, rfl, rfl, rfl, rfl, rfl, rfl, rfl, rfl, rfl, rfl, rfl, rfl, rfl, rfl, rfl, trivial⟩ (by first | rfl | (simp only [cpy_len L6]; rfl)) ?_
      refine atm_next (still_l (by kernel_rfl)) ?_
      refine atm_end (by kernel_rfl) ?_
      refine at_sub [(3, (.pointer (some ⟨b2, 0, none⟩))), (5, (.pointer (some ⟨b3, 0, none⟩))), (6, (.int .i64 v1)), (15, (.int .i64 t.H)), (16, (.int .i64 x5))] ⟨rfl, rfl, rfl, rfl, rfl, trivial⟩ ?_
      refine at_nb ?_
      refine at_then ?_
      refine at_region [0, 1] rfl ?_
      iterate 2 refine at_s T rfl ?_
      refine at_end ?_
      refine at_sub [(3, (.pointer (some ⟨b2, 0, none⟩))), (5, (.pointer (some ⟨b3, 0, none⟩))), (6, (.int .i64 v1)), (15, (.int .i64 t.H)), (16, (.int .i64 (w64 (x5 + 1))))] ⟨rfl, rfl, rfl, rfl, rfl, trivial⟩ ?_
      refine at_then ?_
      exact at_roundL (k6, (cpy x4 (Int.toNat (w64 (v1 + (w64 (x5 * m.W))))) (min (List.length (sub' t.C (w64 (x5 * t.W)) (w64 ((w64 (x5 + 1)) * t.W)))) (List.length (sub' x4 (w64 (v1 + (w64 (x5 * m.W)))) (List.length x4 : Int)))) (sub' t.C (w64 (x5 * t.W)) (w64 ((w64 (x5 + 1)) * t.W)))), (w64 (x5 + 1)), H6) [0, 0, 0, 0] ⟨Z2, s6, (Eq.trans (cpy_len L6) l5)⟩ (Nat.lt_succ_self _) ⟨rfl, rfl, rfl, rfl, rfl, trivial⟩ rfl
    · replace Z2 := if_f (of_decide_eq_false c3) Z2
      refine at_exit ?_
      refine at_xt ?_
      refine at_xt ?_
      refine at_xb ?_
      refine at_post_n ?_
      obtain rfl := Option.some.inj Z2
      exact at_post (T := T) rfl .nil (fun w o => ⟨⟨(_, _), ⟨H5, s5, l5, rfl, rfl⟩⟩, rfl, own_to [2, 0] rfl o⟩)

/-! ### herdsman/atlas.read: function 32 -/
def atlas_read.l0 : Nat → (List Int) → Int → List Int → List Int → Int → Option (api_Map × Er)
  | 0, _, _, _, _, _ => none
  | k9 + 1, b, v2, x6, x7, x8 => if x8 < v2 then ((where_Size.f (w64 (BitVec.toNat (BitVec.ofInt (IntKind.bits .i64) (w64 (rd b 0)) ||| BitVec.ofInt (IntKind.bits .i64) (w64 ((w64 (rd b 1)) * 2 ^ 8))))) (w64 (BitVec.toNat (BitVec.ofInt (IntKind.bits .i64) (w64 (rd b 2)) ||| BitVec.ofInt (IntKind.bits .i64) (w64 ((w64 (rd b 3)) * 2 ^ 8))))) x8).bind fun v10 => (pack_Get.f x6 v10.1 v10.2).bind fun v11 => if (v11.2.2 != 0) = true then (some ((api_Map.mk 0 0 []), (Er.wrap 79 [x8] (Er.num 62 v11.2.2)))) else ((atlas_lay.f (api_Map.mk (w64 (BitVec.toNat (BitVec.ofInt (IntKind.bits .i64) (w64 (rd b 0)) ||| BitVec.ofInt (IntKind.bits .i64) (w64 ((w64 (rd b 1)) * 2 ^ 8))))) (w64 (BitVec.toNat (BitVec.ofInt (IntKind.bits .i64) (w64 (rd b 2)) ||| BitVec.ofInt (IntKind.bits .i64) (w64 ((w64 (rd b 3)) * 2 ^ 8))))) x7) x8 v11.1).bind fun v12 => if (0 ≤ v11.2.1 ∧ v11.2.1 ≤ (List.length x6 : Int) ∧ (List.length x6 : Int) ≤ (List.length x6 : Int)) then (atlas_read.l0 k9 b v2 (sub' x6 v11.2.1 (List.length x6 : Int)) v12 (w64 (x8 + 1))) else none)) else (if (List.length x6 : Int) > 0 then (some ((api_Map.mk 0 0 []), (Er.num 62 3))) else (some ((api_Map.mk (w64 (BitVec.toNat (BitVec.ofInt (IntKind.bits .i64) (w64 (rd b 0)) ||| BitVec.ofInt (IntKind.bits .i64) (w64 ((w64 (rd b 1)) * 2 ^ 8))))) (w64 (BitVec.toNat (BitVec.ofInt (IntKind.bits .i64) (w64 (rd b 2)) ||| BitVec.ofInt (IntKind.bits .i64) (w64 ((w64 (rd b 3)) * 2 ^ 8))))) x7), Er.nil)))
def atlas_read.f (b : (List Int)) : Option (api_Map × Er) := if (List.length b : Int) < 4 then (some ((api_Map.mk 0 0 []), (Er.num 62 2))) else (if (0 ≤ (0 : Int) ∧ (0 : Int) < (List.length b : Int)) then (if (0 ≤ (1 : Int) ∧ (1 : Int) < (List.length b : Int)) then (if (0 ≤ (2 : Int) ∧ (2 : Int) < (List.length b : Int)) then (if (0 ≤ (3 : Int) ∧ (3 : Int) < (List.length b : Int)) then ((where_May.f (w64 (BitVec.toNat (BitVec.ofInt (IntKind.bits .i64) (w64 (rd b 0)) ||| BitVec.ofInt (IntKind.bits .i64) (w64 ((w64 (rd b 1)) * 2 ^ 8))))) (w64 (BitVec.toNat (BitVec.ofInt (IntKind.bits .i64) (w64 (rd b 2)) ||| BitVec.ofInt (IntKind.bits .i64) (w64 ((w64 (rd b 3)) * 2 ^ 8)))))).bind fun v1 => if (!v1) = true then (some ((api_Map.mk 0 0 []), (Er.num 62 3))) else (if (0 ≤ (4 : Int) ∧ (4 : Int) ≤ (List.length b : Int) ∧ (List.length b : Int) ≤ (List.length b : Int)) then (if (0 ≤ (w64 ((w64 (BitVec.toNat (BitVec.ofInt (IntKind.bits .i64) (w64 (rd b 0)) ||| BitVec.ofInt (IntKind.bits .i64) (w64 ((w64 (rd b 1)) * 2 ^ 8))))) * (w64 (BitVec.toNat (BitVec.ofInt (IntKind.bits .i64) (w64 (rd b 2)) ||| BitVec.ofInt (IntKind.bits .i64) (w64 ((w64 (rd b 3)) * 2 ^ 8))))))) ∧ (w64 ((w64 (BitVec.toNat (BitVec.ofInt (IntKind.bits .i64) (w64 (rd b 0)) ||| BitVec.ofInt (IntKind.bits .i64) (w64 ((w64 (rd b 1)) * 2 ^ 8))))) * (w64 (BitVec.toNat (BitVec.ofInt (IntKind.bits .i64) (w64 (rd b 2)) ||| BitVec.ofInt (IntKind.bits .i64) (w64 ((w64 (rd b 3)) * 2 ^ 8))))))) ≤ 1099511627776) then ((atlas_many.f (w64 (BitVec.toNat (BitVec.ofInt (IntKind.bits .i64) (w64 (rd b 0)) ||| BitVec.ofInt (IntKind.bits .i64) (w64 ((w64 (rd b 1)) * 2 ^ 8))))) (w64 (BitVec.toNat (BitVec.ofInt (IntKind.bits .i64) (w64 (rd b 2)) ||| BitVec.ofInt (IntKind.bits .i64) (w64 ((w64 (rd b 3)) * 2 ^ 8)))))).bind fun v2 => atlas_read.l0 fuel b v2 (sub' b 4 (List.length b : Int)) (List.replicate (Int.toNat (w64 ((w64 (BitVec.toNat (BitVec.ofInt (IntKind.bits .i64) (w64 (rd b 0)) ||| BitVec.ofInt (IntKind.bits .i64) (w64 ((w64 (rd b 1)) * 2 ^ 8))))) * (w64 (BitVec.toNat (BitVec.ofInt (IntKind.bits .i64) (w64 (rd b 2)) ||| BitVec.ofInt (IntKind.bits .i64) (w64 ((w64 (rd b 3)) * 2 ^ 8)))))))) (0 : Int)) 0) else none) else none)) else none) else none) else none) else none)
def atlas_read.R (el : Nat → Addr) (r : (api_Map × Er)) (u : Value) (G : List Hp) : Prop := ∃ (a0 : Option Addr) (n0 : Nat) (H0 : Hp) (v1 : Value) (H1 : Hp), SliceO (Fl.int .u8) 5 r.1.C a0 n0 H0 ∧ ErO 142 el r.2 v1 H1 ∧ u = (.tuple #[(.agg #[(.int .i64 r.1.W), (.int .i64 r.1.H), (.slice a0 (List.length r.1.C) n0)]), v1]) ∧ G = [H0, H1]
set_option maxHeartbeats 4000000 in
theorem atlas_read.c {el : Nat → Addr} {a_b : Option Addr} {n_b : Nat} (b : (List Int)) (r : (api_Map × Er)) (F : Hp) (H : atlas_read.f b = some r) (hG : Glb 142 gs_ lits_ el F) (h_b : SliceR (Fl.int .u8) b a_b F) (c_b : List.length b ≤ n_b) :
    CallsL Tryd.prog 32 [(.slice a_b (List.length b) n_b)] [F] (fun qp : { qp : Value × List Hp // atlas_read.R el r qp.1 qp.2 } => qp.1.1) (fun qp => (qp.1.2 ++ []) ++ [F]) := by
  unfold atlas_read.f at H
  refine calls_atL [(0, (.slice a_b (List.length b) n_b))] Tryd.func32 rfl rfl ⟨rfl, trivial⟩ (fun W => ?_)
  refine at_seq ?_
  refine at_region [0, 1] rfl ?_
  refine at_cons (at_al T [(.int .i64 0), (.int .i64 0), (.slice none 0 0)] rfl rfl rfl rfl (fun b1 => ?_))
  refine at_s T rfl ?_
  refine at_end ?_
  refine at_sub [(0, (.slice a_b (List.length b) n_b)), (2, (.pointer (some ⟨b1, 0, none⟩)))] ⟨rfl, rfl, trivial⟩ ?_
  refine at_then ?_
  refine at_seq ?_
  refine at_seq ?_
  refine at_region [0, 1, 2] rfl ?_
  iterate 3 refine at_s T rfl ?_
  refine at_end ?_
  refine at_sub [(0, (.slice a_b (List.length b) n_b)), (2, (.pointer (some ⟨b1, 0, none⟩))), (13, (.bool (decide ((List.length b : Int) < 4))))] ⟨rfl, rfl, rfl, trivial⟩ ?_
  refine at_then ?_
  refine at_cond rfl (fun c1 => ?_) (fun c1 => ?_)
  · replace H := if_t (of_decide_eq_true c1) H
    refine at_seq ?_
    refine at_region [0, 1, 2, 3] rfl ?_
    refine at_s T rfl ?_
    refine at_v rfl (g_mkif T rfl rfl rfl rfl) ?_
    refine at_cons (at_st T 1 [(.int .i64 0), (.int .i64 0), (.slice none 0 0)] rfl rfl rfl rfl rfl rfl rfl rfl rfl rfl ?_)
    refine at_s T rfl ?_
    refine at_end ?_
    refine at_sub [(2, (.pointer (some ⟨b1, 0, none⟩))), (3, (.iface 62 (.int .i64 2)))] ⟨rfl, rfl, trivial⟩ ?_
    refine at_then ?_
    refine at_ret ?_
    refine at_rt ?_
    obtain rfl := Option.some.inj H
    refine at_addnil ?_
    refine at_addnil ?_
    exact at_post (T := T) rfl (.aggv (j := 1) [(.int .i64 0), (.int .i64 0), (.slice none 0 0)] rfl rfl rfl rfl rfl rfl rfl (.tmp rfl .nil)) (fun w o => ⟨⟨(_, _), ⟨none, 0, [], (.iface 62 (.int .i64 2)), [], SliceO.nil, ero_num, rfl, rfl⟩⟩, rfl, own_to [2, 2, 0] rfl o⟩)
  · replace H := if_f (of_decide_eq_false c1) H
    refine at_skip ?_
    refine at_then ?_
    refine at_seq ?_
    refine at_region_m [[], [0], [0, 1], [0, 1, 2], [], [4], [4, 5], [4, 5, 6], [4, 5, 6, 7], [0, 1, 2, 3, 4, 5, 6, 7, 8], [], [10], [10, 11], [10, 11, 12], [], [14], [14, 15], [14, 15, 16], [14, 15, 16, 17], [10, 11, 12, 13, 14, 15, 16, 17, 18], [0, 1, 2, 3, 4, 5, 6, 7, 8, 9, 10, 11, 12, 13, 14, 15, 16, 17, 18, 19], [], [0, 1, 2, 3, 4, 5, 6, 7, 8, 9, 10, 11, 12, 13, 14, 15, 16, 17, 18, 19, 20, 21]] [] [F, [(b1, Obj.cells #[(.int .i64 0), (.int .i64 0), (.slice none 0 0)] 26 (0, 0))]] mix (by kernel_rfl) (by repeat first | exact pf_body | refine pf_then ?_ | refine pf_block ?_) (fun hg pf => ?_)
    refine atm_s T 0 hg pf (by kernel_rfl) (still_o [0, 0] rfl) rfl ?_
    obtain ⟨c2, H⟩ := chk_e H
    obtain ⟨q4, o4, e4⟩ := h_b.addr c2.1 c2.2
    refine atm_v 1 hg pf (by kernel_rfl) (still_o [0, 0] rfl) rfl rfl (g_index T rfl rfl rfl rfl rfl e4 c2.1 c2.2) ?_
    refine atm_v 2 hg pf (by kernel_rfl) (still_o [0, 0] rfl) rfl rfl (g_load T rfl rfl rfl rfl (in_elem1 (k := (Fl.int .u8)) (ro_of h_b (j := 0) rfl) e4 c2 0 rfl)) ?_
    refine atm_s T 3 hg pf (by kernel_rfl) (still_o [0, 0] rfl) rfl ?_
    refine atm_s T 4 hg pf (by kernel_rfl) (still_o [0, 0] rfl) rfl ?_
    obtain ⟨c3, H⟩ := chk_e H
    refine atm_v 5 hg pf (by kernel_rfl) (still_o [0, 0] rfl) rfl rfl (g_index T rfl rfl rfl rfl rfl e4 c3.1 c3.2) ?_
    refine atm_v 6 hg pf (by kernel_rfl) (still_o [0, 0] rfl) rfl rfl (g_load T rfl rfl rfl rfl (in_elem1 (k := (Fl.int .u8)) (ro_of h_b (j := 0) rfl) e4 c3 0 rfl)) ?_
    refine atm_s T 7 hg pf (by kernel_rfl) (still_o [0, 0] rfl) rfl ?_
    refine atm_s T 8 hg pf (by kernel_rfl) (still_o [0, 0] rfl) rfl ?_
    refine atm_s T 9 hg pf (by kernel_rfl) (still_o [0, 0] rfl) rfl ?_
    refine atm_s T 10 hg pf (by kernel_rfl) (still_o [0, 0] rfl) rfl ?_
    obtain ⟨c4, H⟩ := chk_e H
    refine atm_v 11 hg pf (by kernel_rfl) (still_o [0, 0] rfl) rfl rfl (g_index T rfl rfl rfl rfl rfl e4 c4.1 c4.2) ?_
    refine atm_v 12 hg pf (by kernel_rfl) (still_o [0, 0] rfl) rfl rfl (g_load T rfl rfl rfl rfl (in_elem1 (k := (Fl.int .u8)) (ro_of h_b (j := 0) rfl) e4 c4 0 rfl)) ?_
    refine atm_s T 13 hg pf (by kernel_rfl) (still_o [0, 0] rfl) rfl ?_
    refine atm_s T 14 hg pf (by kernel_rfl) (still_o [0, 0] rfl) rfl ?_
    obtain ⟨c5, H⟩ := chk_e H
    refine atm_v 15 hg pf (by kernel_rfl) (still_o [0, 0] rfl) rfl rfl (g_index T rfl rfl rfl rfl rfl e4 c5.1 c5.2) ?_
    refine atm_v 16 hg pf (by kernel_rfl) (still_o [0, 0] rfl) rfl rfl (g_load T rfl rfl rfl rfl (in_elem1 (k := (Fl.int .u8)) (ro_of h_b (j := 0) rfl) e4 c5 0 rfl)) ?_
    refine atm_s T 17 hg pf (by kernel_rfl) (still_o [0, 0] rfl) rfl ?_
    refine atm_s T 18 hg pf (by kernel_rfl) (still_o [0, 0] rfl) rfl ?_
    refine atm_s T 19 hg pf (by kernel_rfl) (still_o [0, 0] rfl) rfl ?_
    refine atm_s T 20 hg pf (by kernel_rfl) (still_o [0, 0] rfl) rfl ?_
    refine atm_one 21 (by kernel_rfl) ?_
    refine at_al T [(.int .i64 0), (.int .i64 0), (.slice none 0 0)] rfl rfl rfl rfl (fun b5 => ?_)
    refine atm_next (still_o [0, 0] rfl) ?_
    refine atm_one 22 (by kernel_rfl) ?_
    refine at_st T 2 [(.int .i64 (w64 (BitVec.toNat (BitVec.ofInt (IntKind.bits .i64) (w64 (rd b 0)) ||| BitVec.ofInt (IntKind.bits .i64) (w64 ((w64 (rd b 1)) * 2 ^ 8)))))), (.int .i64 (w64 (BitVec.toNat (BitVec.ofInt (IntKind.bits .i64) (w64 (rd b 2)) ||| BitVec.ofInt (IntKind.bits .i64) (w64 ((w64 (rd b 3)) * 2 ^ 8)))))), (.slice none 0 0)] rfl rfl rfl rfl rfl rfl rfl rfl rfl rfl ?_
    refine atm_next (still_o [0, 0] rfl) ?_
    refine atm_end (by kernel_rfl) ?_
    refine at_sub [(0, (.slice a_b (List.length b) n_b)), (2, (.pointer (some ⟨b1, 0, none⟩))), (4, (.pointer (some ⟨b5, 0, none⟩)))] ⟨rfl, rfl, rfl, trivial⟩ ?_
    refine at_then ?_
    refine at_seq ?_
    refine at_seq ?_
    refine at_region [0, 1, 2, 3, 4, 5] rfl ?_
    refine at_s T rfl ?_
    refine at_v rfl (g_load T rfl rfl rfl rfl (in_var (j := 2) rfl rfl)) ?_
    refine at_s T rfl ?_
    refine at_v rfl (g_load T rfl rfl rfl rfl (in_var (j := 2) rfl rfl)) ?_
    obtain ⟨v1, V6, H⟩ := bind_e H
    refine at_cons (at_c (B := fun _ => []) [] rfl rfl rfl rfl has44 rfl rfl (where_May.c (w64 (BitVec.toNat (BitVec.ofInt (IntKind.bits .i64) (w64 (rd b 0)) ||| BitVec.ofInt (IntKind.bits .i64) (w64 ((w64 (rd b 1)) * 2 ^ 8))))) (w64 (BitVec.toNat (BitVec.ofInt (IntKind.bits .i64) (w64 (rd b 2)) ||| BitVec.ofInt (IntKind.bits .i64) (w64 ((w64 (rd b 3)) * 2 ^ 8))))) v1 _ V6) (fun _ => ?_))
    refine at_s T rfl ?_
    refine at_end ?_
    refine at_sub [(0, (.slice a_b (List.length b) n_b)), (2, (.pointer (some ⟨b1, 0, none⟩))), (4, (.pointer (some ⟨b5, 0, none⟩))), (42, (.bool (!v1)))] ⟨rfl, rfl, rfl, rfl, trivial⟩ ?_
    refine at_then ?_
    refine at_cond rfl (fun c7 => ?_) (fun c7 => ?_)
    · replace H := if_t c7 H
      refine at_seq ?_
      refine at_region [0, 1, 2, 3] rfl ?_
      refine at_s T rfl ?_
      refine at_v rfl (g_mkif T rfl rfl rfl rfl) ?_
      refine at_cons (at_st T 1 [(.int .i64 0), (.int .i64 0), (.slice none 0 0)] rfl rfl rfl rfl rfl rfl rfl rfl rfl rfl ?_)
      refine at_s T rfl ?_
      refine at_end ?_
      refine at_to [(2, (.pointer (some ⟨b1, 0, none⟩))), (3, (.iface 62 (.int .i64 3)))] [0, 0] [F, [(b1, Obj.cells #[(.int .i64 0), (.int .i64 0), (.slice none 0 0)] 26 (0, 0))]] ⟨rfl, rfl, trivial⟩ rfl ?_
      refine at_then ?_
      refine at_ret ?_
      refine at_rt ?_
      obtain rfl := Option.some.inj H
      refine at_addnil ?_
      refine at_addnil ?_
      exact at_post (T := T) rfl (.aggv (j := 1) [(.int .i64 0), (.int .i64 0), (.slice none 0 0)] rfl rfl rfl rfl rfl rfl rfl (.tmp rfl .nil)) (fun w o => ⟨⟨(_, _), ⟨none, 0, [], (.iface 62 (.int .i64 3)), [], SliceO.nil, ero_num, rfl, rfl⟩⟩, rfl, own_to [2, 2, 0] rfl o⟩)
    · replace H := if_f (bf c7) H
      refine at_skip ?_
      refine at_then ?_
      refine at_seq ?_
      refine at_region [0, 1, 2] rfl ?_
      refine at_s T rfl ?_
      obtain ⟨c8, H⟩ := chk_e H
      refine at_v rfl (g_sub T rfl rfl rfl rfl rfl rfl c8 c_b) ?_
      refine at_s T rfl ?_
      refine at_end ?_
      refine at_sub [(0, (.slice (subA a_b n_b (Int.toNat 4) 1) (List.length (sub' b 4 (List.length b : Int))) (n_b - Int.toNat 4))), (2, (.pointer (some ⟨b1, 0, none⟩))), (4, (.pointer (some ⟨b5, 0, none⟩)))] ⟨rfl, rfl, rfl, trivial⟩ ?_
      refine at_then ?_
      refine at_seq ?_
      refine at_region [0, 1, 2, 3, 4, 5, 6, 7] rfl ?_
      refine at_s T rfl ?_
      refine at_v rfl (g_load T rfl rfl rfl rfl (in_var (j := 2) rfl rfl)) ?_
      refine at_s T rfl ?_
      refine at_v rfl (g_load T rfl rfl rfl rfl (in_var (j := 2) rfl rfl)) ?_
      refine at_s T rfl ?_
      obtain ⟨c9, H⟩ := chk_e H
      refine at_cons (at_mk (k := (Fl.int .u8)) T (0 : Int) rfl rfl rfl rfl rfl rfl rfl rfl c9 rfl (fun a8 n8 H8 s8 => ?_))
      refine at_s T rfl ?_
      refine at_cons (at_st T 2 [(.int .i64 (w64 (BitVec.toNat (BitVec.ofInt (IntKind.bits .i64) (w64 (rd b 0)) ||| BitVec.ofInt (IntKind.bits .i64) (w64 ((w64 (rd b 1)) * 2 ^ 8)))))), (.int .i64 (w64 (BitVec.toNat (BitVec.ofInt (IntKind.bits .i64) (w64 (rd b 2)) ||| BitVec.ofInt (IntKind.bits .i64) (w64 ((w64 (rd b 3)) * 2 ^ 8)))))), (.slice a8 (List.length (List.replicate (Int.toNat (w64 ((w64 (BitVec.toNat (BitVec.ofInt (IntKind.bits .i64) (w64 (rd b 0)) ||| BitVec.ofInt (IntKind.bits .i64) (w64 ((w64 (rd b 1)) * 2 ^ 8))))) * (w64 (BitVec.toNat (BitVec.ofInt (IntKind.bits .i64) (w64 (rd b 2)) ||| BitVec.ofInt (IntKind.bits .i64) (w64 ((w64 (rd b 3)) * 2 ^ 8)))))))) (0 : Int))) n8)] rfl rfl rfl rfl rfl rfl rfl rfl rfl rfl ?_)
      refine at_end ?_
      refine at_sub [(0, (.slice (subA a_b n_b (Int.toNat 4) 1) (List.length (sub' b 4 (List.length b : Int))) (n_b - Int.toNat 4))), (2, (.pointer (some ⟨b1, 0, none⟩))), (4, (.pointer (some ⟨b5, 0, none⟩)))] ⟨rfl, rfl, rfl, trivial⟩ ?_
      refine at_then ?_
      refine at_seq ?_
      refine at_seq ?_
      refine at_region [0, 1, 2, 3, 4, 5] rfl ?_
      refine at_s T rfl ?_
      refine at_v rfl (g_load T rfl rfl rfl rfl (in_var (j := 2) rfl rfl)) ?_
      refine at_s T rfl ?_
      refine at_v rfl (g_load T rfl rfl rfl rfl (in_var (j := 2) rfl rfl)) ?_
      obtain ⟨v2, V10, H⟩ := bind_e H
      refine at_cons (at_c (B := fun _ => []) [] rfl rfl rfl rfl has38 rfl rfl (atlas_many.c (w64 (BitVec.toNat (BitVec.ofInt (IntKind.bits .i64) (w64 (rd b 0)) ||| BitVec.ofInt (IntKind.bits .i64) (w64 ((w64 (rd b 1)) * 2 ^ 8))))) (w64 (BitVec.toNat (BitVec.ofInt (IntKind.bits .i64) (w64 (rd b 2)) ||| BitVec.ofInt (IntKind.bits .i64) (w64 ((w64 (rd b 3)) * 2 ^ 8))))) v2 _ V10) (fun _ => ?_))
      refine at_s T rfl ?_
      refine at_end ?_
      refine at_sub [(0, (.slice (subA a_b n_b (Int.toNat 4) 1) (List.length (sub' b 4 (List.length b : Int))) (n_b - Int.toNat 4))), (2, (.pointer (some ⟨b1, 0, none⟩))), (4, (.pointer (some ⟨b5, 0, none⟩))), (58, (.int .i64 v2)), (59, (.int .i64 0))] ⟨rfl, rfl, rfl, rfl, rfl, trivial⟩ ?_
      refine at_then ?_
      refine at_block ?_
      refine at_loopL (σ := Nat × List Int × List Int × Int × Option Addr × Nat × Option Addr × Nat × Hp) (fun ⟨k9, x6, x7, x8, a11, n11, a12, n12, H12⟩ => atlas_read.l0 k9 b v2 x6 x7 x8 = some r ∧ Bor (Fl.int .u8) b a_b n_b x6 a11 n11 ∧ List.length x6 ≤ n11 ∧ SliceO (Fl.int .u8) 5 x7 a12 n12 H12) (fun ⟨k9, x6, x7, x8, a11, n11, a12, n12, H12⟩ => [(0, (.slice a11 (List.length x6) n11)), (2, (.pointer (some ⟨b1, 0, none⟩))), (4, (.pointer (some ⟨b5, 0, none⟩))), (58, (.int .i64 v2)), (59, (.int .i64 x8))]) (fun ⟨k9, x6, x7, x8, a11, n11, a12, n12, H12⟩ => [F, [(b1, Obj.cells #[(.int .i64 0), (.int .i64 0), (.slice none 0 0)] 26 (0, 0))], [(b5, Obj.cells #[(.int .i64 (w64 (BitVec.toNat (BitVec.ofInt (IntKind.bits .i64) (w64 (rd b 0)) ||| BitVec.ofInt (IntKind.bits .i64) (w64 ((w64 (rd b 1)) * 2 ^ 8)))))), (.int .i64 (w64 (BitVec.toNat (BitVec.ofInt (IntKind.bits .i64) (w64 (rd b 2)) ||| BitVec.ofInt (IntKind.bits .i64) (w64 ((w64 (rd b 3)) * 2 ^ 8)))))), (.slice a12 (List.length x7) n12)] 26 (0, 0))], H12]) (fun s => s.1) (fuel, (sub' b 4 (List.length b : Int)), (List.replicate (Int.toNat (w64 ((w64 (BitVec.toNat (BitVec.ofInt (IntKind.bits .i64) (w64 (rd b 0)) ||| BitVec.ofInt (IntKind.bits .i64) (w64 ((w64 (rd b 1)) * 2 ^ 8))))) * (w64 (BitVec.toNat (BitVec.ofInt (IntKind.bits .i64) (w64 (rd b 2)) ||| BitVec.ofInt (IntKind.bits .i64) (w64 ((w64 (rd b 3)) * 2 ^ 8)))))))) (0 : Int)), 0, (subA a_b n_b (Int.toNat 4) 1), (n_b - Int.toNat 4), a8, n8, H8) [0, 0, 0, 0] ⟨H, (Bor.sub Bor.self c_b c8), (sub_cap c8 c_b), s8⟩ ⟨rfl, rfl, rfl, rfl, rfl, trivial⟩ rfl ?_
      rintro ⟨k9, x6, x7, x8, a11, n11, a12, n12, H12⟩ ⟨Z11, b11_, c11_, s12⟩
      replace Z11 : atlas_read.l0 k9 b v2 x6 x7 x8 = some r := Z11
      rcases k9 with _ | k9
      · rw [atlas_read.l0] at Z11; cases Z11
      · rw [atlas_read.l0] at Z11
        refine at_seq ?_
        refine at_region [0] rfl ?_
        refine at_s T rfl ?_
        refine at_end ?_
        refine at_sub [(0, (.slice a11 (List.length x6) n11)), (2, (.pointer (some ⟨b1, 0, none⟩))), (4, (.pointer (some ⟨b5, 0, none⟩))), (58, (.int .i64 v2)), (59, (.int .i64 x8)), (60, (.bool (decide (x8 < v2))))] ⟨rfl, rfl, rfl, rfl, rfl, rfl, trivial⟩ ?_
        refine at_then ?_
        refine at_seq ?_
        refine at_cond rfl (fun c12 => ?_) (fun c12 => ?_)
        · replace Z11 := if_t (of_decide_eq_true c12) Z11
          refine at_skip ?_
          refine at_then ?_
          refine at_seq ?_
          refine at_block ?_
          refine at_seq ?_
          refine at_region [0, 1] rfl ?_
          iterate 2 refine at_s T rfl ?_
          refine at_end ?_
          refine at_sub [(0, (.slice a11 (List.length x6) n11)), (2, (.pointer (some ⟨b1, 0, none⟩))), (4, (.pointer (some ⟨b5, 0, none⟩))), (5, (.int .i64 x8)), (58, (.int .i64 v2)), (59, (.int .i64 x8))] ⟨rfl, rfl, rfl, rfl, rfl, rfl, trivial⟩ ?_
          refine at_then ?_
          refine at_seq ?_
          refine at_region [0, 1, 2, 3, 4, 5, 6, 7, 8, 9, 10] rfl ?_
          refine at_s T rfl ?_
          refine at_v rfl (g_load T rfl rfl rfl rfl (in_var (j := 2) rfl rfl)) ?_
          refine at_s T rfl ?_
          refine at_v rfl (g_load T rfl rfl rfl rfl (in_var (j := 2) rfl rfl)) ?_
          refine at_s T rfl ?_
          obtain ⟨v10, V13, Z11⟩ := bind_e Z11
          refine at_cons (at_c (B := fun _ => []) [] rfl rfl rfl rfl has47 rfl rfl (where_Size.c (w64 (BitVec.toNat (BitVec.ofInt (IntKind.bits .i64) (w64 (rd b 0)) ||| BitVec.ofInt (IntKind.bits .i64) (w64 ((w64 (rd b 1)) * 2 ^ 8))))) (w64 (BitVec.toNat (BitVec.ofInt (IntKind.bits .i64) (w64 (rd b 2)) ||| BitVec.ofInt (IntKind.bits .i64) (w64 ((w64 (rd b 3)) * 2 ^ 8))))) x8 v10 _ V13) (fun _ => ?_))
          iterate 5 refine at_s T rfl ?_
          refine at_end ?_
          refine at_sub [(0, (.slice a11 (List.length x6) n11)), (2, (.pointer (some ⟨b1, 0, none⟩))), (4, (.pointer (some ⟨b5, 0, none⟩))), (5, (.int .i64 x8)), (6, (.int .i64 v10.1)), (7, (.int .i64 v10.2)), (58, (.int .i64 v2)), (59, (.int .i64 x8))] ⟨rfl, rfl, rfl, rfl, rfl, rfl, rfl, rfl, trivial⟩ ?_
          refine at_then ?_
          refine at_seq ?_
          refine at_region [0, 1, 2, 3, 4, 5, 6, 7, 8, 9, 10, 11] rfl ?_
          iterate 3 refine at_s T rfl ?_
          obtain ⟨v11, V14, Z11⟩ := bind_e Z11
          refine at_cons (at_cR (pack_Get.R el v11) [] [] rfl rfl rfl rfl has51 rfl rfl (pack_Get.c x6 v10.1 v10.2 v11 _ V14 (glb_of hG (j := 0) rfl) (bor_of b11_ (ro_of h_b (j := 0) rfl) c_b) c11_) ?_)
          rintro _ _ ⟨a13, n13, H13, s13, rfl, rfl⟩
          iterate 4 refine at_s T rfl ?_
          refine at_cons (at_al T [(.int .i64 0), (.int .i64 0), (.slice none 0 0)] rfl rfl rfl rfl (fun b14 => ?_))
          refine at_cons (at_st T 5 [(.int .i64 v11.1.W), (.int .i64 v11.1.H), (.slice a13 (List.length v11.1.C) n13)] rfl rfl rfl rfl rfl rfl rfl rfl rfl rfl ?_)
          iterate 2 refine at_s T rfl ?_
          refine at_end ?_
          refine at_sub [(0, (.slice a11 (List.length x6) n11)), (2, (.pointer (some ⟨b1, 0, none⟩))), (4, (.pointer (some ⟨b5, 0, none⟩))), (5, (.int .i64 x8)), (8, (.pointer (some ⟨b14, 0, none⟩))), (9, (.int .i64 v11.2.1)), (10, (.int .i64 v11.2.2)), (58, (.int .i64 v2)), (59, (.int .i64 x8))] ⟨rfl, rfl, rfl, rfl, rfl, rfl, rfl, rfl, rfl, trivial⟩ ?_
          refine at_then ?_
          refine at_seq ?_
          refine at_seq ?_
          refine at_region [0, 1] rfl ?_
          iterate 2 refine at_s T rfl ?_
          refine at_end ?_
          refine at_sub [(0, (.slice a11 (List.length x6) n11)), (2, (.pointer (some ⟨b1, 0, none⟩))), (4, (.pointer (some ⟨b5, 0, none⟩))), (5, (.int .i64 x8)), (8, (.pointer (some ⟨b14, 0, none⟩))), (9, (.int .i64 v11.2.1)), (10, (.int .i64 v11.2.2)), (58, (.int .i64 v2)), (59, (.int .i64 x8)), (80, (.bool (v11.2.2 != 0)))] ⟨rfl, rfl, rfl, rfl, rfl, rfl, rfl, rfl, rfl, rfl, trivial⟩ ?_
          refine at_then ?_
          refine at_cond rfl (fun c15 => ?_) (fun c15 => ?_)
          · replace Z11 := if_t c15 Z11
            refine at_seq ?_
            refine at_region [0, 1, 2, 3, 4, 5, 6, 7, 8] rfl ?_
            iterate 3 refine at_s T rfl ?_
            refine at_v rfl (g_mkif T rfl rfl rfl rfl) ?_
            refine at_s T rfl ?_
            refine at_cons (at_bx T [(.int .i64 x8), (.iface 62 (.int .i64 v11.2.2))] rfl rfl rfl rfl (fun b15 => ?_))
            refine at_addnil ?_
            refine at_gather [6, 6] rfl ?_
            refine at_v rfl (g_mkif T rfl rfl rfl rfl) ?_
            refine at_cons (at_st T 1 [(.int .i64 0), (.int .i64 0), (.slice none 0 0)] rfl rfl rfl rfl rfl rfl rfl rfl rfl rfl ?_)
            refine at_s T rfl ?_
            refine at_end ?_
            refine at_to [(2, (.pointer (some ⟨b1, 0, none⟩))), (3, (.iface 79 (.pointer (some ⟨b15, 0, none⟩))))] [0, 0, 4] [F, [(b1, Obj.cells #[(.int .i64 0), (.int .i64 0), (.slice none 0 0)] 26 (0, 0))], (List.flatten [[(b15, Obj.cells #[(.int .i64 x8), (.iface 62 (.int .i64 v11.2.2))] 81 (0, 0))], []])] ⟨rfl, rfl, trivial⟩ rfl ?_
            refine at_then ?_
            refine at_ret ?_
            refine at_rt ?_
            refine at_rb ?_
            refine at_rt ?_
            refine at_rt ?_
            refine at_rb ?_
            refine at_rt ?_
            obtain rfl := Option.some.inj Z11
            refine at_addnil ?_
            exact at_post (T := T) rfl (.aggv (j := 1) [(.int .i64 0), (.int .i64 0), (.slice none 0 0)] rfl rfl rfl rfl rfl rfl rfl (.tmp rfl .nil)) (fun w o => ⟨⟨(_, _), ⟨none, 0, [], (.iface 79 (.pointer (some ⟨b15, 0, none⟩))), (List.flatten [[(b15, Obj.cells #[(.int .i64 x8), (.iface 62 (.int .i64 v11.2.2))] 81 (0, 0))], []]), SliceO.nil, (ero_wrap ero_num), rfl, rfl⟩⟩, rfl, own_to [3, 2, 0] rfl o⟩)
          · replace Z11 := if_f (bf c15) Z11
            refine at_skip ?_
            refine at_then ?_
            refine at_seq ?_
            refine at_region [0, 1, 2, 3] rfl ?_
            refine at_v rfl (g_loadA T (cs := [(.int .i64 (w64 (BitVec.toNat (BitVec.ofInt (IntKind.bits .i64) (w64 (rd b 0)) ||| BitVec.ofInt (IntKind.bits .i64) (w64 ((w64 (rd b 1)) * 2 ^ 8)))))), (.int .i64 (w64 (BitVec.toNat (BitVec.ofInt (IntKind.bits .i64) (w64 (rd b 2)) ||| BitVec.ofInt (IntKind.bits .i64) (w64 ((w64 (rd b 3)) * 2 ^ 8)))))), (.slice a12 (List.length x7) n12)]) rfl rfl rfl rfl rfl rfl (in_varA (j := 2) rfl rfl)) ?_
            refine at_s T rfl ?_
            refine at_v rfl (g_loadA T (cs := [(.int .i64 v11.1.W), (.int .i64 v11.1.H), (.slice a13 (List.length v11.1.C) n13)]) rfl rfl rfl rfl rfl rfl (in_varA (j := 5) rfl rfl)) ?_
            obtain ⟨v12, V16, Z11⟩ := bind_e Z11
            refine at_cons (at_cR (As := [H12]) (R := [F, [(b1, Obj.cells #[(.int .i64 0), (.int .i64 0), (.slice none 0 0)] 26 (0, 0))], [(b5, Obj.cells #[(.int .i64 (w64 (BitVec.toNat (BitVec.ofInt (IntKind.bits .i64) (w64 (rd b 0)) ||| BitVec.ofInt (IntKind.bits .i64) (w64 ((w64 (rd b 1)) * 2 ^ 8)))))), (.int .i64 (w64 (BitVec.toNat (BitVec.ofInt (IntKind.bits .i64) (w64 (rd b 2)) ||| BitVec.ofInt (IntKind.bits .i64) (w64 ((w64 (rd b 3)) * 2 ^ 8)))))), (.slice a12 (List.length x7) n12)] 26 (0, 0))], H13, [(b14, Obj.cells #[(.int .i64 v11.1.W), (.int .i64 v11.1.H), (.slice a13 (List.length v11.1.C) n13)] 41 (0, 0))]]) (atlas_lay.R a12 n12 (List.length x7) v12) [] [3] rfl rfl rfl rfl has49 rfl rfl (atlas_lay.c (api_Map.mk (w64 (BitVec.toNat (BitVec.ofInt (IntKind.bits .i64) (w64 (rd b 0)) ||| BitVec.ofInt (IntKind.bits .i64) (w64 ((w64 (rd b 1)) * 2 ^ 8))))) (w64 (BitVec.toNat (BitVec.ofInt (IntKind.bits .i64) (w64 (rd b 2)) ||| BitVec.ofInt (IntKind.bits .i64) (w64 ((w64 (rd b 3)) * 2 ^ 8))))) x7) x8 v11.1 v12 _ V16 s12 (own_of s13 (j := 3) rfl) s13.cap_le) ?_)
            rintro _ _ ⟨H19, s19, l19, rfl, rfl⟩
            refine at_to [(0, (.slice a11 (List.length x6) n11)), (2, (.pointer (some ⟨b1, 0, none⟩))), (4, (.pointer (some ⟨b5, 0, none⟩))), (9, (.int .i64 v11.2.1)), (58, (.int .i64 v2)), (59, (.int .i64 x8))] [0, 0, 0, 2] [F, [(b1, Obj.cells #[(.int .i64 0), (.int .i64 0), (.slice none 0 0)] 26 (0, 0))], [(b5, Obj.cells #[(.int .i64 (w64 (BitVec.toNat (BitVec.ofInt (IntKind.bits .i64) (w64 (rd b 0)) ||| BitVec.ofInt (IntKind.bits .i64) (w64 ((w64 (rd b 1)) * 2 ^ 8)))))), (.int .i64 (w64 (BitVec.toNat (BitVec.ofInt (IntKind.bits .i64) (w64 (rd b 2)) ||| BitVec.ofInt (IntKind.bits .i64) (w64 ((w64 (rd b 3)) * 2 ^ 8)))))), (.slice a12 (List.length v12) n12)] 26 (0, 0))], H19] ⟨rfl, rfl, rfl, rfl, rfl, rfl, trivial⟩ (by first | rfl | (simp only [l19]; rfl)) ?_
            refine at_end ?_
            refine at_sub [(0, (.slice a11 (List.length x6) n11)), (2, (.pointer (some ⟨b1, 0, none⟩))), (4, (.pointer (some ⟨b5, 0, none⟩))), (9, (.int .i64 v11.2.1)), (58, (.int .i64 v2)), (59, (.int .i64 x8))] ⟨rfl, rfl, rfl, rfl, rfl, rfl, trivial⟩ ?_
            refine at_then ?_
            refine at_region [0, 1, 2, 3] rfl ?_
            iterate 2 refine at_s T rfl ?_
            obtain ⟨c17, Z11⟩ := chk_e Z11
            refine at_v rfl (g_sub T rfl rfl rfl rfl rfl rfl c17 c11_) ?_
            refine at_s T rfl ?_
            refine at_end ?_
            refine at_sub [(0, (.slice (subA a11 n11 (Int.toNat v11.2.1) 1) (List.length (sub' x6 v11.2.1 (List.length x6 : Int))) (n11 - Int.toNat v11.2.1))), (2, (.pointer (some ⟨b1, 0, none⟩))), (4, (.pointer (some ⟨b5, 0, none⟩))), (58, (.int .i64 v2)), (59, (.int .i64 x8))] ⟨rfl, rfl, rfl, rfl, rfl, trivial⟩ ?_
            refine at_nb ?_
            refine at_then ?_
            refine at_region [0, 1] rfl ?_
            iterate 2 refine at_s T rfl ?_
            refine at_end ?_
            refine at_sub [(0, (.slice (subA a11 n11 (Int.toNat v11.2.1) 1) (List.length (sub' x6 v11.2.1 (List.length x6 : Int))) (n11 - Int.toNat v11.2.1))), (2, (.pointer (some ⟨b1, 0, none⟩))), (4, (.pointer (some ⟨b5, 0, none⟩))), (58, (.int .i64 v2)), (59, (.int .i64 (w64 (x8 + 1))))] ⟨rfl, rfl, rfl, rfl, rfl, trivial⟩ ?_
            refine at_then ?_
            exact at_roundL (k9, (sub' x6 v11.2.1 (List.length x6 : Int)), v12, (w64 (x8 + 1)), (subA a11 n11 (Int.toNat v11.2.1) 1), (n11 - Int.toNat v11.2.1), a12, n12, H19) [0, 0, 0, 0] ⟨Z11, (Bor.sub b11_ c_b c17), (sub_cap c17 c11_), s19⟩ (Nat.lt_succ_self _) ⟨rfl, rfl, rfl, rfl, rfl, trivial⟩ rfl
        · replace Z11 := if_f (of_decide_eq_false c12) Z11
          refine at_exit ?_
          refine at_xt ?_
          refine at_xt ?_
          refine at_xb ?_
          refine at_then ?_
          refine at_seq ?_
          refine at_seq ?_
          refine at_region [0, 1, 2] rfl ?_
          iterate 3 refine at_s T rfl ?_
          refine at_end ?_
          refine at_sub [(2, (.pointer (some ⟨b1, 0, none⟩))), (4, (.pointer (some ⟨b5, 0, none⟩))), (98, (.bool (decide ((List.length x6 : Int) > 0))))] ⟨rfl, rfl, rfl, trivial⟩ ?_
          refine at_then ?_
          refine at_cond rfl (fun c18 => ?_) (fun c18 => ?_)
          · replace Z11 := if_t (of_decide_eq_true c18) Z11
            refine at_seq ?_
            refine at_region [0, 1, 2, 3] rfl ?_
            refine at_s T rfl ?_
            refine at_v rfl (g_mkif T rfl rfl rfl rfl) ?_
            refine at_cons (at_st T 1 [(.int .i64 0), (.int .i64 0), (.slice none 0 0)] rfl rfl rfl rfl rfl rfl rfl rfl rfl rfl ?_)
            refine at_s T rfl ?_
            refine at_end ?_
            refine at_to [(2, (.pointer (some ⟨b1, 0, none⟩))), (3, (.iface 62 (.int .i64 3)))] [0, 0] [F, [(b1, Obj.cells #[(.int .i64 0), (.int .i64 0), (.slice none 0 0)] 26 (0, 0))]] ⟨rfl, rfl, trivial⟩ rfl ?_
            refine at_then ?_
            refine at_ret ?_
            refine at_rt ?_
            obtain rfl := Option.some.inj Z11
            refine at_addnil ?_
            refine at_addnil ?_
            exact at_post (T := T) rfl (.aggv (j := 1) [(.int .i64 0), (.int .i64 0), (.slice none 0 0)] rfl rfl rfl rfl rfl rfl rfl (.tmp rfl .nil)) (fun w o => ⟨⟨(_, _), ⟨none, 0, [], (.iface 62 (.int .i64 3)), [], SliceO.nil, ero_num, rfl, rfl⟩⟩, rfl, own_to [2, 2, 0] rfl o⟩)
          · replace Z11 := if_f (of_decide_eq_false c18) Z11
            refine at_skip ?_
            refine at_then ?_
            refine at_seq ?_
            refine at_region [0, 1, 2] rfl ?_
            refine at_v rfl (g_loadA T (cs := [(.int .i64 (w64 (BitVec.toNat (BitVec.ofInt (IntKind.bits .i64) (w64 (rd b 0)) ||| BitVec.ofInt (IntKind.bits .i64) (w64 ((w64 (rd b 1)) * 2 ^ 8)))))), (.int .i64 (w64 (BitVec.toNat (BitVec.ofInt (IntKind.bits .i64) (w64 (rd b 2)) ||| BitVec.ofInt (IntKind.bits .i64) (w64 ((w64 (rd b 3)) * 2 ^ 8)))))), (.slice a12 (List.length x7) n12)]) rfl rfl rfl rfl rfl rfl (in_varA (j := 2) rfl rfl)) ?_
            refine at_cons (at_st T 1 [(.int .i64 (w64 (BitVec.toNat (BitVec.ofInt (IntKind.bits .i64) (w64 (rd b 0)) ||| BitVec.ofInt (IntKind.bits .i64) (w64 ((w64 (rd b 1)) * 2 ^ 8)))))), (.int .i64 (w64 (BitVec.toNat (BitVec.ofInt (IntKind.bits .i64) (w64 (rd b 2)) ||| BitVec.ofInt (IntKind.bits .i64) (w64 ((w64 (rd b 3)) * 2 ^ 8)))))), (.slice a12 (List.length x7) n12)] rfl rfl rfl rfl rfl rfl rfl rfl rfl rfl ?_)
            refine at_s T rfl ?_
            refine at_end ?_
            refine at_to [(2, (.pointer (some ⟨b1, 0, none⟩))), (3, .nilIface)] [0, 0, 1] [F, [(b1, Obj.cells #[(.int .i64 (w64 (BitVec.toNat (BitVec.ofInt (IntKind.bits .i64) (w64 (rd b 0)) ||| BitVec.ofInt (IntKind.bits .i64) (w64 ((w64 (rd b 1)) * 2 ^ 8)))))), (.int .i64 (w64 (BitVec.toNat (BitVec.ofInt (IntKind.bits .i64) (w64 (rd b 2)) ||| BitVec.ofInt (IntKind.bits .i64) (w64 ((w64 (rd b 3)) * 2 ^ 8)))))), (.slice a12 (List.length x7) n12)] 26 (0, 0))], H12] ⟨rfl, rfl, trivial⟩ rfl ?_
            refine at_then ?_
            refine at_ret ?_
            obtain rfl := Option.some.inj Z11
            refine at_addnil ?_
            exact at_post (T := T) rfl (.aggv (j := 1) [(.int .i64 (w64 (BitVec.toNat (BitVec.ofInt (IntKind.bits .i64) (w64 (rd b 0)) ||| BitVec.ofInt (IntKind.bits .i64) (w64 ((w64 (rd b 1)) * 2 ^ 8)))))), (.int .i64 (w64 (BitVec.toNat (BitVec.ofInt (IntKind.bits .i64) (w64 (rd b 2)) ||| BitVec.ofInt (IntKind.bits .i64) (w64 ((w64 (rd b 3)) * 2 ^ 8)))))), (.slice a12 (List.length x7) n12)] rfl rfl rfl rfl rfl rfl rfl (.tmp rfl .nil)) (fun w o => ⟨⟨(_, _), ⟨a12, n12, H12, .nilIface, [], s12, ero_nil, rfl, rfl⟩⟩, rfl, own_to [2, 2, 0] rfl o⟩)

/-! ### herdsman/atlas.Get: function 13 -/
def atlas_Get.f (b : (List Int)) : Option (api_Map × Int) := (atlas_read.f b).bind fun v1 => (errors_AsN62.f v1.2).bind fun v2 => if (Option.isSome v2) = true then (some ((api_Map.mk 0 0 []), (Option.getD v2 0))) else (some (v1.1, 0))
def atlas_Get.R (el : Nat → Addr) (r : (api_Map × Int)) (u : Value) (G : List Hp) : Prop := ∃ (a0 : Option Addr) (n0 : Nat) (H0 : Hp), SliceO (Fl.int .u8) 5 r.1.C a0 n0 H0 ∧ u = (.tuple #[(.agg #[(.int .i64 r.1.W), (.int .i64 r.1.H), (.slice a0 (List.length r.1.C) n0)]), (.int .i64 r.2)]) ∧ G = [H0]
set_option maxHeartbeats 4000000 in
theorem atlas_Get.c {el : Nat → Addr} {a_b : Option Addr} {n_b : Nat} (b : (List Int)) (r : (api_Map × Int)) (F : Hp) (H : atlas_Get.f b = some r) (hG : Glb 142 gs_ lits_ el F) (h_b : SliceR (Fl.int .u8) b a_b F) (c_b : List.length b ≤ n_b) :
    CallsL Tryd.prog 13 [(.slice a_b (List.length b) n_b)] [F] (fun qp : { qp : Value × List Hp // atlas_Get.R el r qp.1 qp.2 } => qp.1.1) (fun qp => (qp.1.2 ++ []) ++ [F]) := by
  unfold atlas_Get.f at H
  refine calls_atL [(0, (.slice a_b (List.length b) n_b))] Tryd.func13 rfl rfl ⟨rfl, trivial⟩ (fun W => ?_)
  refine at_seq ?_
  refine at_region [0, 1] rfl ?_
  refine at_cons (at_al T [(.int .i64 0), (.int .i64 0), (.slice none 0 0)] rfl rfl rfl rfl (fun b1 => ?_))
  refine at_s T rfl ?_
  refine at_end ?_
  refine at_sub [(0, (.slice a_b (List.length b) n_b)), (2, (.pointer (some ⟨b1, 0, none⟩)))] ⟨rfl, rfl, trivial⟩ ?_
  refine at_then ?_
  refine at_seq ?_
  refine at_region [0, 1, 2, 3, 4, 5, 6, 7] rfl ?_
  refine at_s T rfl ?_
  obtain ⟨v1, V1, H⟩ := bind_e H
  refine at_cons (at_cR (atlas_read.R el v1) [] [] rfl rfl rfl rfl has32 rfl rfl (atlas_read.c b v1 _ V1 (glb_of hG (j := 0) rfl) (ro_of h_b (j := 0) rfl) c_b) ?_)
  rintro _ _ ⟨a2, n2, H2, v3, H3, s2, s3, rfl, rfl⟩
  iterate 3 refine at_s T rfl ?_
  refine at_cons (at_al T [(.int .i64 0), (.int .i64 0), (.slice none 0 0)] rfl rfl rfl rfl (fun b4 => ?_))
  refine at_cons (at_st T 4 [(.int .i64 v1.1.W), (.int .i64 v1.1.H), (.slice a2 (List.length v1.1.C) n2)] rfl rfl rfl rfl rfl rfl rfl rfl rfl rfl ?_)
  refine at_s T rfl ?_
  refine at_end ?_
  refine at_sub [(2, (.pointer (some ⟨b1, 0, none⟩))), (4, (.pointer (some ⟨b4, 0, none⟩))), (5, v3)] ⟨rfl, rfl, rfl, trivial⟩ ?_
  refine at_then ?_
  refine at_seq ?_
  refine at_seq ?_
  refine at_region [0, 1] rfl ?_
  refine at_cons (at_al T [(.int .i64 0)] rfl rfl rfl rfl (fun b5 => ?_))
  refine at_cons (at_st T 5 [(.int .i64 0)] rfl rfl rfl rfl rfl rfl rfl rfl rfl rfl ?_)
  refine at_end ?_
  refine at_sub [(2, (.pointer (some ⟨b1, 0, none⟩))), (4, (.pointer (some ⟨b4, 0, none⟩))), (5, v3), (6, (.pointer (some ⟨b5, 0, none⟩)))] ⟨rfl, rfl, rfl, rfl, trivial⟩ ?_
  refine at_then ?_
  refine at_seq ?_
  refine at_region [0, 1, 2] rfl ?_
  refine at_s T rfl ?_
  refine at_v rfl (g_mkif T rfl rfl rfl rfl) ?_
  obtain ⟨v2, V2, H⟩ := bind_e H
  refine at_cons (at_c (As := [[(b5, Obj.cells #[(.int .i64 0)] 62 (0, 0))]]) (R := [F, [(b1, Obj.cells #[(.int .i64 0), (.int .i64 0), (.slice none 0 0)] 26 (0, 0))], H2, H3, [(b4, Obj.cells #[(.int .i64 v1.1.W), (.int .i64 v1.1.H), (.slice a2 (List.length v1.1.C) n2)] 26 (0, 0))]]) (B := fun _ => [[(b5, Obj.cells #[(.int .i64 (Option.getD v2 0))] 62 (0, 0))]]) [5] rfl rfl rfl rfl has33 rfl rfl (errors_AsN62.c v1.2 v2 _ V2 (glb_of hG (j := 0) rfl) (err_of s3 (j := 3) rfl)) (fun _ => ?_))
  refine at_end ?_
  refine at_to [(2, (.pointer (some ⟨b1, 0, none⟩))), (4, (.pointer (some ⟨b4, 0, none⟩))), (6, (.pointer (some ⟨b5, 0, none⟩))), (14, (.bool (Option.isSome v2)))] [0, 0, 0, 1, 1] [F, [(b1, Obj.cells #[(.int .i64 0), (.int .i64 0), (.slice none 0 0)] 26 (0, 0))], H2, [(b4, Obj.cells #[(.int .i64 v1.1.W), (.int .i64 v1.1.H), (.slice a2 (List.length v1.1.C) n2)] 26 (0, 0))], [(b5, Obj.cells #[(.int .i64 (Option.getD v2 0))] 62 (0, 0))]] ⟨rfl, rfl, rfl, rfl, trivial⟩ rfl ?_
  refine at_then ?_
  refine at_cond rfl (fun c3 => ?_) (fun c3 => ?_)
  · replace H := if_t c3 H
    refine at_seq ?_
    refine at_region_m [[], [], [0], [0, 1, 2]] [] [F, [(b1, Obj.cells #[(.int .i64 0), (.int .i64 0), (.slice none 0 0)] 26 (0, 0))], H2, [(b4, Obj.cells #[(.int .i64 v1.1.W), (.int .i64 v1.1.H), (.slice a2 (List.length v1.1.C) n2)] 26 (0, 0))], [(b5, Obj.cells #[(.int .i64 (Option.getD v2 0))] 62 (0, 0))]] mix (by kernel_rfl) (by repeat first | exact pf_body | refine pf_then ?_ | refine pf_block ?_) (fun hg pf => ?_)
    refine atm_s T 0 hg pf (by kernel_rfl) (still_o [0, 0, 0, 0, 0] rfl) rfl ?_
    refine atm_v 1 hg pf (by kernel_rfl) (still_o [0, 0, 0, 0, 0] rfl) rfl rfl (g_load T rfl rfl rfl rfl (in_var (j := 4) rfl rfl)) ?_
    refine atm_one 2 (by kernel_rfl) ?_
    refine at_st T 1 [(.int .i64 0), (.int .i64 0), (.slice none 0 0)] rfl rfl rfl rfl rfl rfl rfl rfl rfl rfl ?_
    refine atm_next (still_o [0, 0, 0, 0, 0] rfl) ?_
    refine atm_s T 3 hg pf (by kernel_rfl) (still_o [0, 0, 0, 0, 0] rfl) rfl ?_
    refine atm_end (by kernel_rfl) ?_
    refine at_to [(2, (.pointer (some ⟨b1, 0, none⟩))), (3, (.int .i64 (Option.getD v2 0)))] [0, 0] [F, [(b1, Obj.cells #[(.int .i64 0), (.int .i64 0), (.slice none 0 0)] 26 (0, 0))]] ⟨rfl, rfl, trivial⟩ rfl ?_
    refine at_then ?_
    refine at_ret ?_
    refine at_rt ?_
    obtain rfl := Option.some.inj H
    refine at_addnil ?_
    exact at_post (T := T) rfl (.aggv (j := 1) [(.int .i64 0), (.int .i64 0), (.slice none 0 0)] rfl rfl rfl rfl rfl rfl rfl (.tmp rfl .nil)) (fun w o => ⟨⟨(_, _), ⟨none, 0, [], SliceO.nil, rfl, rfl⟩⟩, rfl, own_to [2, 0] rfl o⟩)
  · replace H := if_f (bf c3) H
    refine at_skip ?_
    refine at_then ?_
    refine at_seq ?_
    refine at_region [0, 1, 2] rfl ?_
    refine at_v rfl (g_loadA T (cs := [(.int .i64 v1.1.W), (.int .i64 v1.1.H), (.slice a2 (List.length v1.1.C) n2)]) rfl rfl rfl rfl rfl rfl (in_varA (j := 3) rfl rfl)) ?_
    refine at_cons (at_st T 1 [(.int .i64 v1.1.W), (.int .i64 v1.1.H), (.slice a2 (List.length v1.1.C) n2)] rfl rfl rfl rfl rfl rfl rfl rfl rfl rfl ?_)
    refine at_s T rfl ?_
    refine at_end ?_
    refine at_to [(2, (.pointer (some ⟨b1, 0, none⟩))), (3, (.int .i64 0))] [0, 0, 0] [F, [(b1, Obj.cells #[(.int .i64 v1.1.W), (.int .i64 v1.1.H), (.slice a2 (List.length v1.1.C) n2)] 26 (0, 0))], H2] ⟨rfl, rfl, trivial⟩ rfl ?_
    refine at_then ?_
    refine at_ret ?_
    obtain rfl := Option.some.inj H
    exact at_post (T := T) rfl (.aggv (j := 1) [(.int .i64 v1.1.W), (.int .i64 v1.1.H), (.slice a2 (List.length v1.1.C) n2)] rfl rfl rfl rfl rfl rfl rfl (.tmp rfl .nil)) (fun w o => ⟨⟨(_, _), ⟨a2, n2, H2, s2, rfl, rfl⟩⟩, rfl, own_to [2, 0] rfl o⟩)

/-! ### herdsman/atlas.Same: function 19 -/
def atlas_Same.f (a : api_Map) (b : api_Map) : Option Bool := (if (a.W == b.W) = true then (if (a.H == b.H) = true then ((bytes_Equal.f a.C b.C).bind fun v3 => some v3) else (some false)) else (some false)).bind fun x1 => some x1
set_option maxHeartbeats 4000000 in
theorem atlas_Same.c {a_a_C : Option Addr} {n_a_C : Nat} {a_b_C : Option Addr} {n_b_C : Nat} (a : api_Map) (b : api_Map) (r : Bool) (F : Hp) (H : atlas_Same.f a b = some r) (h_a_C : SliceR (Fl.int .u8) a.C a_a_C F) (c_a_C : List.length a.C ≤ n_a_C) (h_b_C : SliceR (Fl.int .u8) b.C a_b_C F) (c_b_C : List.length b.C ≤ n_b_C) :
    CallsL Tryd.prog 19 [(.agg #[(.int .i64 a.W), (.int .i64 a.H), (.slice a_a_C (List.length a.C) n_a_C)]), (.agg #[(.int .i64 b.W), (.int .i64 b.H), (.slice a_b_C (List.length b.C) n_b_C)])] [F] (fun _ : Unit => (.bool r)) (fun _ => [F]) := by
  unfold atlas_Same.f at H
  refine calls_atL [(0, (.agg #[(.int .i64 a.W), (.int .i64 a.H), (.slice a_a_C (List.length a.C) n_a_C)])), (1, (.agg #[(.int .i64 b.W), (.int .i64 b.H), (.slice a_b_C (List.length b.C) n_b_C)]))] Tryd.func19 rfl rfl ⟨rfl, rfl, trivial⟩ (fun W => ?_)
  refine at_seq ?_
  refine at_region [0, 1, 2] rfl ?_
  refine at_cons (at_bx T [(.int .i64 a.W), (.int .i64 a.H), (.slice a_a_C (List.length a.C) n_a_C)] rfl rfl rfl rfl (fun b1 => ?_))
  refine at_cons (at_bx T [(.int .i64 b.W), (.int .i64 b.H), (.slice a_b_C (List.length b.C) n_b_C)] rfl rfl rfl rfl (fun b2 => ?_))
  refine at_s T rfl ?_
  refine at_end ?_
  refine at_sub [(2, (.pointer (some ⟨b1, 0, none⟩))), (3, (.pointer (some ⟨b2, 0, none⟩)))] ⟨rfl, rfl, trivial⟩ ?_
  refine at_then ?_
  obtain ⟨z2, Z1, H⟩ := bind_e H
  refine at_seq_mid (σ := Bool) (fun x1 => x1 = z2) (fun x1 => [(4, (.bool x1))]) (fun x1 => [F]) ?_ ?_
  · refine at_region [0, 1, 2, 3, 4, 5, 6, 7, 8, 9, 10, 11, 12, 13, 14, 15, 16, 17, 18, 19] rfl ?_
    refine at_s T rfl ?_
    refine at_v rfl (g_load T rfl rfl rfl rfl (in_var (j := 1) rfl rfl)) ?_
    refine at_s T rfl ?_
    refine at_v rfl (g_load T rfl rfl rfl rfl (in_var (j := 2) rfl rfl)) ?_
    iterate 2 refine at_s T rfl ?_
    refine at_case (s := 10) rfl (fun c2 => ?_) (fun c2 => ?_)
    · replace Z1 := if_t c2 Z1
      refine at_s T rfl ?_
      refine at_v rfl (g_load T rfl rfl rfl rfl (in_var (j := 1) rfl rfl)) ?_
      refine at_s T rfl ?_
      refine at_v rfl (g_load T rfl rfl rfl rfl (in_var (j := 2) rfl rfl)) ?_
      iterate 3 refine at_s T rfl ?_
      refine at_case (s := 17) rfl (fun c3 => ?_) (fun c3 => ?_)
      · replace Z1 := if_t c3 Z1
        refine at_s T rfl ?_
        refine at_v rfl (g_load T rfl rfl rfl rfl (in_var (j := 1) rfl rfl)) ?_
        refine at_s T rfl ?_
        refine at_v rfl (g_load T rfl rfl rfl rfl (in_var (j := 2) rfl rfl)) ?_
        obtain ⟨v3, V4, Z1⟩ := bind_e Z1
        refine at_cons (at_c (B := fun _ => []) [] rfl rfl rfl rfl has41 rfl rfl (bytes_Equal.c a.C b.C v3 _ V4 (ro_of h_a_C (j := 0) rfl) c_a_C (ro_of h_b_C (j := 0) rfl) c_b_C) (fun _ => ?_))
        iterate 2 refine at_s T rfl ?_
        refine at_end ?_
        refine at_to [(4, (.bool v3))] [0] [F] ⟨rfl, trivial⟩ rfl ?_
        refine at_then ?_
        obtain rfl := Option.some.inj Z1
        exact at_mid v3 [0] rfl ⟨rfl, trivial⟩ rfl
      · replace Z1 := if_f (bf c3) Z1
        iterate 7 refine at_s T rfl ?_
        refine at_end ?_
        refine at_to [(4, (.bool false))] [0] [F] ⟨rfl, trivial⟩ rfl ?_
        refine at_then ?_
        obtain rfl := Option.some.inj Z1
        exact at_mid false [0] rfl ⟨rfl, trivial⟩ rfl
    · replace Z1 := if_f (bf c2) Z1
      iterate 14 refine at_s T rfl ?_
      refine at_end ?_
      refine at_to [(4, (.bool false))] [0] [F] ⟨rfl, trivial⟩ rfl ?_
      refine at_then ?_
      obtain rfl := Option.some.inj Z1
      exact at_mid false [0] rfl ⟨rfl, trivial⟩ rfl
  · rintro x1 rfl
    refine at_ret ?_
    obtain rfl := Option.some.inj H
    exact at_post (T := T) rfl (.tmp rfl .nil) (fun w o => ⟨(), rfl, own_to [0] rfl o⟩)

/-! ### herdsman/atlas.Tile: function 22 -/
def atlas_Tile.f (m : api_Map) (sector : Int) : Option (api_Map × Bool) := ((atlas_May.f m).bind fun v3 => if ((!v3) || (decide (sector < 0))) = true then (some true) else ((atlas_many.f m.W m.H).bind fun v4 => some (decide (sector ≥ v4)))).bind fun x1 => if x1 = true then (some ((api_Map.mk 0 0 []), false)) else ((atlas_cut.f m sector).bind fun v5 => some (v5, true))
def atlas_Tile.R (r : (api_Map × Bool)) (u : Value) (G : List Hp) : Prop := ∃ (a0 : Option Addr) (n0 : Nat) (H0 : Hp), SliceO (Fl.int .u8) 5 r.1.C a0 n0 H0 ∧ u = (.tuple #[(.agg #[(.int .i64 r.1.W), (.int .i64 r.1.H), (.slice a0 (List.length r.1.C) n0)]), (.bool r.2)]) ∧ G = [H0]
set_option maxHeartbeats 4000000 in
theorem atlas_Tile.c {a_m_C : Option Addr} {n_m_C : Nat} (m : api_Map) (sector : Int) (r : (api_Map × Bool)) (F : Hp) (H : atlas_Tile.f m sector = some r) (h_m_C : SliceR (Fl.int .u8) m.C a_m_C F) (c_m_C : List.length m.C ≤ n_m_C) :
    CallsL Tryd.prog 22 [(.agg #[(.int .i64 m.W), (.int .i64 m.H), (.slice a_m_C (List.length m.C) n_m_C)]), (.int .i64 sector)] [F] (fun qp : { qp : Value × List Hp // atlas_Tile.R r qp.1 qp.2 } => qp.1.1) (fun qp => (qp.1.2 ++ []) ++ [F]) := by
  unfold atlas_Tile.f at H
  refine calls_atL [(0, (.agg #[(.int .i64 m.W), (.int .i64 m.H), (.slice a_m_C (List.length m.C) n_m_C)])), (1, (.int .i64 sector))] Tryd.func22 rfl rfl ⟨rfl, rfl, trivial⟩ (fun W => ?_)
  refine at_seq ?_
  refine at_region [0, 1, 2] rfl ?_
  refine at_cons (at_bx T [(.int .i64 m.W), (.int .i64 m.H), (.slice a_m_C (List.length m.C) n_m_C)] rfl rfl rfl rfl (fun b1 => ?_))
  refine at_cons (at_al T [(.int .i64 0), (.int .i64 0), (.slice none 0 0)] rfl rfl rfl rfl (fun b2 => ?_))
  refine at_s T rfl ?_
  refine at_end ?_
  refine at_sub [(1, (.int .i64 sector)), (2, (.pointer (some ⟨b1, 0, none⟩))), (4, (.pointer (some ⟨b2, 0, none⟩)))] ⟨rfl, rfl, rfl, trivial⟩ ?_
  refine at_then ?_
  refine at_seq ?_
  obtain ⟨z2, Z1, H⟩ := bind_e H
  refine at_seq_mid (σ := Bool) (fun x1 => x1 = z2) (fun x1 => [(1, (.int .i64 sector)), (2, (.pointer (some ⟨b1, 0, none⟩))), (4, (.pointer (some ⟨b2, 0, none⟩))), (21, (.bool x1))]) (fun x1 => [F, [(b1, Obj.cells #[(.int .i64 m.W), (.int .i64 m.H), (.slice a_m_C (List.length m.C) n_m_C)] 26 (0, 0))], [(b2, Obj.cells #[(.int .i64 0), (.int .i64 0), (.slice none 0 0)] 41 (0, 0))]]) ?_ ?_
  · refine at_region [0, 1, 2, 3, 4, 5, 6, 7, 8, 9, 10, 11, 12, 13, 14, 15] rfl ?_
    refine at_v rfl (g_loadA T (cs := [(.int .i64 m.W), (.int .i64 m.H), (.slice a_m_C (List.length m.C) n_m_C)]) rfl rfl rfl rfl rfl rfl (in_varA (j := 1) rfl rfl)) ?_
    obtain ⟨v3, V2, Z1⟩ := bind_e Z1
    refine at_cons (at_c (B := fun _ => []) [] rfl rfl rfl rfl has24 rfl rfl (atlas_May.c m v3 _ V2 (ro_of h_m_C (j := 0) rfl) c_m_C) (fun _ => ?_))
    iterate 2 refine at_s T rfl ?_
    refine at_grp T [4, 5, 6] (s := 9) (c := (!v3)) [(1, (.int .i64 sector)), (2, (.pointer (some ⟨b1, 0, none⟩))), (4, (.pointer (some ⟨b2, 0, none⟩))), (12, (.bool ((!v3) || (decide (sector < 0)))))] rfl rfl rfl (fun c3 => ⟨rfl, rfl, rfl, (by rw [c3]; rfl), trivial⟩) (fun c3 => ⟨rfl, rfl, rfl, (by rw [c3]; rfl), trivial⟩) ?_
    refine at_s T rfl ?_
    refine at_case (s := 13) rfl (fun c4 => ?_) (fun c4 => ?_)
    · replace Z1 := if_t c4 Z1
      iterate 8 refine at_s T rfl ?_
      refine at_end ?_
      refine at_sub [(1, (.int .i64 sector)), (2, (.pointer (some ⟨b1, 0, none⟩))), (4, (.pointer (some ⟨b2, 0, none⟩))), (21, (.bool true))] ⟨rfl, rfl, rfl, rfl, trivial⟩ ?_
      refine at_then ?_
      obtain rfl := Option.some.inj Z1
      exact at_mid true [0, 0, 0] rfl ⟨rfl, rfl, rfl, rfl, trivial⟩ rfl
    · replace Z1 := if_f (bf c4) Z1
      iterate 2 refine at_s T rfl ?_
      refine at_v rfl (g_load T rfl rfl rfl rfl (in_var (j := 1) rfl rfl)) ?_
      refine at_s T rfl ?_
      refine at_v rfl (g_load T rfl rfl rfl rfl (in_var (j := 1) rfl rfl)) ?_
      obtain ⟨v4, V5, Z1⟩ := bind_e Z1
      refine at_cons (at_c (B := fun _ => []) [] rfl rfl rfl rfl has38 rfl rfl (atlas_many.c m.W m.H v4 _ V5) (fun _ => ?_))
      iterate 2 refine at_s T rfl ?_
      refine at_end ?_
      refine at_sub [(1, (.int .i64 sector)), (2, (.pointer (some ⟨b1, 0, none⟩))), (4, (.pointer (some ⟨b2, 0, none⟩))), (21, (.bool (decide (sector ≥ v4))))] ⟨rfl, rfl, rfl, rfl, trivial⟩ ?_
      refine at_then ?_
      obtain rfl := Option.some.inj Z1
      exact at_mid (decide (sector ≥ v4)) [0, 0, 0] rfl ⟨rfl, rfl, rfl, rfl, trivial⟩ rfl
  · rintro x1 rfl
    refine at_cond rfl (fun c6 => ?_) (fun c6 => ?_)
    · replace H := if_t c6 H
      refine at_seq ?_
      refine at_region [0, 1, 2] rfl ?_
      refine at_s T rfl ?_
      refine at_cons (at_st T 2 [(.int .i64 0), (.int .i64 0), (.slice none 0 0)] rfl rfl rfl rfl rfl rfl rfl rfl rfl rfl ?_)
      refine at_s T rfl ?_
      refine at_end ?_
      refine at_to [(4, (.pointer (some ⟨b2, 0, none⟩))), (5, (.bool false))] [0, 1] [F, [(b2, Obj.cells #[(.int .i64 0), (.int .i64 0), (.slice none 0 0)] 41 (0, 0))]] ⟨rfl, rfl, trivial⟩ rfl ?_
      refine at_then ?_
      refine at_ret ?_
      refine at_rt ?_
      obtain rfl := Option.some.inj H
      refine at_addnil ?_
      exact at_post (T := T) rfl (.aggv (j := 1) [(.int .i64 0), (.int .i64 0), (.slice none 0 0)] rfl rfl rfl rfl rfl rfl rfl (.tmp rfl .nil)) (fun w o => ⟨⟨(_, _), ⟨none, 0, [], SliceO.nil, rfl, rfl⟩⟩, rfl, own_to [2, 0] rfl o⟩)
    · replace H := if_f (bf c6) H
      refine at_skip ?_
      refine at_then ?_
      refine at_seq ?_
      refine at_region [0, 1, 2, 3, 4] rfl ?_
      refine at_v rfl (g_loadA T (cs := [(.int .i64 m.W), (.int .i64 m.H), (.slice a_m_C (List.length m.C) n_m_C)]) rfl rfl rfl rfl rfl rfl (in_varA (j := 1) rfl rfl)) ?_
      refine at_s T rfl ?_
      obtain ⟨v5, V7, H⟩ := bind_e H
      refine at_cons (at_cR (atlas_cut.R v5) [] [] rfl rfl rfl rfl has40 rfl rfl (atlas_cut.c m sector v5 _ V7 (ro_of h_m_C (j := 0) rfl) c_m_C) ?_)
      rintro _ _ ⟨a4, n4, H4, s4, rfl, rfl⟩
      refine at_cons (at_st T 2 [(.int .i64 v5.W), (.int .i64 v5.H), (.slice a4 (List.length v5.C) n4)] rfl rfl rfl rfl rfl rfl rfl rfl rfl rfl ?_)
      refine at_s T rfl ?_
      refine at_end ?_
      refine at_to [(4, (.pointer (some ⟨b2, 0, none⟩))), (5, (.bool true))] [0, 1, 1] [F, [(b2, Obj.cells #[(.int .i64 v5.W), (.int .i64 v5.H), (.slice a4 (List.length v5.C) n4)] 41 (0, 0))], H4] ⟨rfl, rfl, trivial⟩ rfl ?_
      refine at_then ?_
      refine at_ret ?_
      obtain rfl := Option.some.inj H
      exact at_post (T := T) rfl (.aggv (j := 1) [(.int .i64 v5.W), (.int .i64 v5.H), (.slice a4 (List.length v5.C) n4)] rfl rfl rfl rfl rfl rfl rfl (.tmp rfl .nil)) (fun w o => ⟨⟨(_, _), ⟨a4, n4, H4, s4, rfl, rfl⟩⟩, rfl, own_to [2, 0] rfl o⟩)

/-! ### herdsman/atlas.Join: function 28 -/
def atlas_Join.l0 : Nat → Int → Int → (List api_Map) → List Int → Int → Option (api_Map × Bool)
  | 0, _, _, _, _, _ => none
  | k9 + 1, w, h, l, x7, x8 => if x8 < (List.length l : Int) then (if (0 ≤ x8 ∧ x8 < (List.length l : Int)) then ((where_Size.f w h x8).bind fun v10 => ((tile_May.f (rd l x8)).bind fun v13 => if (!v13) = true then (some true) else (if ((rd l x8).W != v10.1) = true then (some true) else (some ((rd l x8).H != v10.2)))).bind fun x11 => if x11 = true then (some ((api_Map.mk 0 0 []), false)) else ((atlas_lay.f (api_Map.mk w h x7) x8 (rd l x8)).bind fun v14 => atlas_Join.l0 k9 w h l v14 (w64 (x8 + 1)))) else none) else (some ((api_Map.mk w h x7), true))
def atlas_Join.f (w : Int) (h : Int) (l : (List api_Map)) : Option (api_Map × Bool) := ((where_May.f w h).bind fun v3 => if (!v3) = true then (some true) else ((atlas_many.f w h).bind fun v4 => some ((List.length l : Int) != v4))).bind fun x1 => if x1 = true then (some ((api_Map.mk 0 0 []), false)) else (if (0 ≤ (w64 (w * h)) ∧ (w64 (w * h)) ≤ 1099511627776) then (atlas_Join.l0 fuel w h l (List.replicate (Int.toNat (w64 (w * h))) (0 : Int)) 0) else none)
def atlas_Join.R (r : (api_Map × Bool)) (u : Value) (G : List Hp) : Prop := ∃ (a0 : Option Addr) (n0 : Nat) (H0 : Hp), SliceO (Fl.int .u8) 5 r.1.C a0 n0 H0 ∧ u = (.tuple #[(.agg #[(.int .i64 r.1.W), (.int .i64 r.1.H), (.slice a0 (List.length r.1.C) n0)]), (.bool r.2)]) ∧ G = [H0]
set_option maxHeartbeats 4000000 in
theorem atlas_Join.c {a_l : Option Addr} {n_l : Nat} (w : Int) (h : Int) (l : (List api_Map)) (r : (api_Map × Bool)) (F : Hp) (H : atlas_Join.f w h l = some r) (h_l : SliceDR q_api_Map l a_l F) (c_l : List.length l ≤ n_l) :
    CallsL Tryd.prog 28 [(.int .i64 w), (.int .i64 h), (.slice a_l (List.length l) n_l)] [F] (fun qp : { qp : Value × List Hp // atlas_Join.R r qp.1 qp.2 } => qp.1.1) (fun qp => (qp.1.2 ++ []) ++ [F]) := by
  unfold atlas_Join.f at H
  refine calls_atL [(0, (.int .i64 w)), (1, (.int .i64 h)), (2, (.slice a_l (List.length l) n_l))] Tryd.func28 rfl rfl ⟨rfl, rfl, rfl, trivial⟩ (fun W => ?_)
  refine at_seq ?_
  refine at_region [0, 1] rfl ?_
  refine at_cons (at_al T [(.int .i64 0), (.int .i64 0), (.slice none 0 0)] rfl rfl rfl rfl (fun b1 => ?_))
  refine at_s T rfl ?_
  refine at_end ?_
  refine at_sub [(0, (.int .i64 w)), (1, (.int .i64 h)), (2, (.slice a_l (List.length l) n_l)), (6, (.pointer (some ⟨b1, 0, none⟩)))] ⟨rfl, rfl, rfl, rfl, trivial⟩ ?_
  refine at_then ?_
  refine at_seq ?_
  obtain ⟨z2, Z1, H⟩ := bind_e H
  refine at_seq_mid (σ := Bool) (fun x1 => x1 = z2) (fun x1 => [(0, (.int .i64 w)), (1, (.int .i64 h)), (2, (.slice a_l (List.length l) n_l)), (6, (.pointer (some ⟨b1, 0, none⟩))), (24, (.bool x1))]) (fun x1 => [F, [(b1, Obj.cells #[(.int .i64 0), (.int .i64 0), (.slice none 0 0)] 26 (0, 0))]]) ?_ ?_
  · refine at_region [0, 1, 2, 3, 4, 5, 6, 7, 8, 9, 10, 11] rfl ?_
    iterate 2 refine at_s T rfl ?_
    obtain ⟨v3, V2, Z1⟩ := bind_e Z1
    refine at_cons (at_c (B := fun _ => []) [] rfl rfl rfl rfl has44 rfl rfl (where_May.c w h v3 _ V2) (fun _ => ?_))
    iterate 2 refine at_s T rfl ?_
    refine at_case (s := 17) rfl (fun c3 => ?_) (fun c3 => ?_)
    · replace Z1 := if_t c3 Z1
      iterate 7 refine at_s T rfl ?_
      refine at_end ?_
      refine at_sub [(0, (.int .i64 w)), (1, (.int .i64 h)), (2, (.slice a_l (List.length l) n_l)), (6, (.pointer (some ⟨b1, 0, none⟩))), (24, (.bool true))] ⟨rfl, rfl, rfl, rfl, rfl, trivial⟩ ?_
      refine at_then ?_
      obtain rfl := Option.some.inj Z1
      exact at_mid true [0, 0] rfl ⟨rfl, rfl, rfl, rfl, rfl, trivial⟩ rfl
    · replace Z1 := if_f (bf c3) Z1
      iterate 4 refine at_s T rfl ?_
      obtain ⟨v4, V4, Z1⟩ := bind_e Z1
      refine at_cons (at_c (B := fun _ => []) [] rfl rfl rfl rfl has38 rfl rfl (atlas_many.c w h v4 _ V4) (fun _ => ?_))
      iterate 2 refine at_s T rfl ?_
      refine at_end ?_
      refine at_sub [(0, (.int .i64 w)), (1, (.int .i64 h)), (2, (.slice a_l (List.length l) n_l)), (6, (.pointer (some ⟨b1, 0, none⟩))), (24, (.bool ((List.length l : Int) != v4)))] ⟨rfl, rfl, rfl, rfl, rfl, trivial⟩ ?_
      refine at_then ?_
      obtain rfl := Option.some.inj Z1
      exact at_mid ((List.length l : Int) != v4) [0, 0] rfl ⟨rfl, rfl, rfl, rfl, rfl, trivial⟩ rfl
  · rintro x1 rfl
    refine at_cond rfl (fun c5 => ?_) (fun c5 => ?_)
    · replace H := if_t c5 H
      refine at_seq ?_
      refine at_region [0, 1, 2] rfl ?_
      refine at_s T rfl ?_
      refine at_cons (at_st T 1 [(.int .i64 0), (.int .i64 0), (.slice none 0 0)] rfl rfl rfl rfl rfl rfl rfl rfl rfl rfl ?_)
      refine at_s T rfl ?_
      refine at_end ?_
      refine at_sub [(6, (.pointer (some ⟨b1, 0, none⟩))), (7, (.bool false))] ⟨rfl, rfl, trivial⟩ ?_
      refine at_then ?_
      refine at_ret ?_
      refine at_rt ?_
      obtain rfl := Option.some.inj H
      refine at_addnil ?_
      exact at_post (T := T) rfl (.aggv (j := 1) [(.int .i64 0), (.int .i64 0), (.slice none 0 0)] rfl rfl rfl rfl rfl rfl rfl (.tmp rfl .nil)) (fun w o => ⟨⟨(_, _), ⟨none, 0, [], SliceO.nil, rfl, rfl⟩⟩, rfl, own_to [2, 0] rfl o⟩)
    · replace H := if_f (bf c5) H
      refine at_skip ?_
      refine at_then ?_
      refine at_seq ?_
      refine at_region [0, 1, 2, 3, 4, 5, 6, 7, 8] rfl ?_
      iterate 5 refine at_s T rfl ?_
      obtain ⟨c6, H⟩ := chk_e H
      refine at_cons (at_mk (k := (Fl.int .u8)) T (0 : Int) rfl rfl rfl rfl rfl rfl rfl rfl c6 rfl (fun a3 n3 H3 s3 => ?_))
      refine at_s T rfl ?_
      refine at_cons (at_al T [(.int .i64 0), (.int .i64 0), (.slice none 0 0)] rfl rfl rfl rfl (fun b4 => ?_))
      refine at_cons (at_st T 3 [(.int .i64 w), (.int .i64 h), (.slice a3 (List.length (List.replicate (Int.toNat (w64 (w * h))) (0 : Int))) n3)] rfl rfl rfl rfl rfl rfl rfl rfl rfl rfl ?_)
      refine at_end ?_
      refine at_sub [(0, (.int .i64 w)), (1, (.int .i64 h)), (2, (.slice a_l (List.length l) n_l)), (6, (.pointer (some ⟨b1, 0, none⟩))), (8, (.pointer (some ⟨b4, 0, none⟩)))] ⟨rfl, rfl, rfl, rfl, rfl, trivial⟩ ?_
      refine at_then ?_
      refine at_seq ?_
      refine at_seq ?_
      refine at_region [0, 1, 2] rfl ?_
      iterate 3 refine at_s T rfl ?_
      refine at_end ?_
      refine at_sub [(0, (.int .i64 w)), (1, (.int .i64 h)), (6, (.pointer (some ⟨b1, 0, none⟩))), (8, (.pointer (some ⟨b4, 0, none⟩))), (33, (.slice a_l (List.length l) n_l)), (34, (.int .i64 (List.length l : Int))), (35, (.int .i64 0))] ⟨rfl, rfl, rfl, rfl, rfl, rfl, rfl, trivial⟩ ?_
      refine at_then ?_
      refine at_block ?_
      refine at_loopL (σ := Nat × List Int × Int × Option Addr × Nat × Hp) (fun ⟨k9, x7, x8, a6, n6, H6⟩ => atlas_Join.l0 k9 w h l x7 x8 = some r ∧ SliceO (Fl.int .u8) 5 x7 a6 n6 H6) (fun ⟨k9, x7, x8, a6, n6, H6⟩ => [(0, (.int .i64 w)), (1, (.int .i64 h)), (6, (.pointer (some ⟨b1, 0, none⟩))), (8, (.pointer (some ⟨b4, 0, none⟩))), (33, (.slice a_l (List.length l) n_l)), (34, (.int .i64 (List.length l : Int))), (35, (.int .i64 x8))]) (fun ⟨k9, x7, x8, a6, n6, H6⟩ => [F, [(b1, Obj.cells #[(.int .i64 0), (.int .i64 0), (.slice none 0 0)] 26 (0, 0))], [(b4, Obj.cells #[(.int .i64 w), (.int .i64 h), (.slice a6 (List.length x7) n6)] 26 (0, 0))], H6]) (fun s => s.1) (fuel, (List.replicate (Int.toNat (w64 (w * h))) (0 : Int)), 0, a3, n3, H3) [0, 0, 1, 0] ⟨H, s3⟩ ⟨rfl, rfl, rfl, rfl, rfl, rfl, rfl, trivial⟩ rfl ?_
      rintro ⟨k9, x7, x8, a6, n6, H6⟩ ⟨Z7, s6⟩
      replace Z7 : atlas_Join.l0 k9 w h l x7 x8 = some r := Z7
      rcases k9 with _ | k9
      · rw [atlas_Join.l0] at Z7; cases Z7
      · rw [atlas_Join.l0] at Z7
        refine at_seq ?_
        refine at_region [0] rfl ?_
        refine at_s T rfl ?_
        refine at_end ?_
        refine at_sub [(0, (.int .i64 w)), (1, (.int .i64 h)), (6, (.pointer (some ⟨b1, 0, none⟩))), (8, (.pointer (some ⟨b4, 0, none⟩))), (33, (.slice a_l (List.length l) n_l)), (34, (.int .i64 (List.length l : Int))), (35, (.int .i64 x8)), (36, (.bool (decide (x8 < (List.length l : Int)))))] ⟨rfl, rfl, rfl, rfl, rfl, rfl, rfl, rfl, trivial⟩ ?_
        refine at_then ?_
        refine at_seq ?_
        refine at_cond rfl (fun c8 => ?_) (fun c8 => ?_)
        · replace Z7 := if_t (of_decide_eq_true c8) Z7
          refine at_skip ?_
          refine at_then ?_
          refine at_seq ?_
          refine at_block ?_
          refine at_seq ?_
          refine at_region [0, 1, 2, 3, 4, 5] rfl ?_
          refine at_s T rfl ?_
          obtain ⟨c9, Z7⟩ := chk_e Z7
          obtain ⟨q7, o7, e7⟩ := h_l.addr c9.1 c9.2
          refine at_v rfl (g_index T rfl rfl rfl rfl rfl e7 c9.1 c9.2) ?_
          obtain ⟨_, w9, ⟨a8, n8, ⟨r8, m8⟩, rfl⟩⟩ := SliceDR.view h_l c9
          refine at_v rfl (g_loadA T (cs := [(.int .i64 (rd l x8).W), (.int .i64 (rd l x8).H), (.slice a8 (List.length (rd l x8).C) n8)]) rfl rfl rfl rfl rfl rfl (in_viewA (j := 0) rfl w9 e7 0 rfl)) ?_
          refine at_cons (at_al T [(.int .i64 0), (.int .i64 0), (.slice none 0 0)] rfl rfl rfl rfl (fun b10 => ?_))
          refine at_s T rfl ?_
          refine at_cons (at_st T 4 [(.int .i64 (rd l x8).W), (.int .i64 (rd l x8).H), (.slice a8 (List.length (rd l x8).C) n8)] rfl rfl rfl rfl rfl rfl rfl rfl rfl rfl ?_)
          refine at_end ?_
          refine at_sub [(0, (.int .i64 w)), (1, (.int .i64 h)), (6, (.pointer (some ⟨b1, 0, none⟩))), (8, (.pointer (some ⟨b4, 0, none⟩))), (9, (.int .i64 x8)), (10, (.pointer (some ⟨b10, 0, none⟩))), (33, (.slice a_l (List.length l) n_l)), (34, (.int .i64 (List.length l : Int))), (35, (.int .i64 x8))] ⟨rfl, rfl, rfl, rfl, rfl, rfl, rfl, rfl, rfl, trivial⟩ ?_
          refine at_then ?_
          refine at_seq ?_
          refine at_seq ?_
          refine at_region [0, 1, 2, 3, 4, 5, 6, 7, 8] rfl ?_
          iterate 3 refine at_s T rfl ?_
          obtain ⟨v10, V10, Z7⟩ := bind_e Z7
          refine at_cons (at_c (B := fun _ => []) [] rfl rfl rfl rfl has47 rfl rfl (where_Size.c w h x8 v10 _ V10) (fun _ => ?_))
          iterate 5 refine at_s T rfl ?_
          refine at_end ?_
          refine at_sub [(0, (.int .i64 w)), (1, (.int .i64 h)), (6, (.pointer (some ⟨b1, 0, none⟩))), (8, (.pointer (some ⟨b4, 0, none⟩))), (9, (.int .i64 x8)), (10, (.pointer (some ⟨b10, 0, none⟩))), (11, (.int .i64 v10.1)), (12, (.int .i64 v10.2)), (33, (.slice a_l (List.length l) n_l)), (34, (.int .i64 (List.length l : Int))), (35, (.int .i64 x8))] ⟨rfl, rfl, rfl, rfl, rfl, rfl, rfl, rfl, rfl, rfl, rfl, trivial⟩ ?_
          refine at_then ?_
          obtain ⟨z12, Z11, Z7⟩ := bind_e Z7
          refine at_seq_mid (σ := Bool) (fun x11 => x11 = z12) (fun x11 => [(0, (.int .i64 w)), (1, (.int .i64 h)), (6, (.pointer (some ⟨b1, 0, none⟩))), (8, (.pointer (some ⟨b4, 0, none⟩))), (9, (.int .i64 x8)), (10, (.pointer (some ⟨b10, 0, none⟩))), (33, (.slice a_l (List.length l) n_l)), (34, (.int .i64 (List.length l : Int))), (35, (.int .i64 x8)), (61, (.bool x11))]) (fun x11 => [F, [(b1, Obj.cells #[(.int .i64 0), (.int .i64 0), (.slice none 0 0)] 26 (0, 0))], [(b4, Obj.cells #[(.int .i64 w), (.int .i64 h), (.slice a6 (List.length x7) n6)] 26 (0, 0))], H6, [(b10, Obj.cells #[(.int .i64 (rd l x8).W), (.int .i64 (rd l x8).H), (.slice a8 (List.length (rd l x8).C) n8)] 41 (0, 0))]]) ?_ ?_
          · refine at_region [0, 1, 2, 3, 4, 5, 6, 7, 8, 9, 10, 11, 12, 13, 14] rfl ?_
            refine at_v rfl (g_loadA T (cs := [(.int .i64 (rd l x8).W), (.int .i64 (rd l x8).H), (.slice a8 (List.length (rd l x8).C) n8)]) rfl rfl rfl rfl rfl rfl (in_varA (j := 4) rfl rfl)) ?_
            obtain ⟨v13, V12, Z11⟩ := bind_e Z11
            refine at_cons (at_c (B := fun _ => []) [] rfl rfl rfl rfl has48 rfl rfl (tile_May.c (rd l x8) v13 _ V12 (ro_of r8 (j := 0) rfl) m8) (fun _ => ?_))
            iterate 2 refine at_s T rfl ?_
            refine at_case (s := 50) rfl (fun c13 => ?_) (fun c13 => ?_)
            · replace Z11 := if_t c13 Z11
              iterate 11 refine at_s T rfl ?_
              refine at_end ?_
              refine at_sub [(0, (.int .i64 w)), (1, (.int .i64 h)), (6, (.pointer (some ⟨b1, 0, none⟩))), (8, (.pointer (some ⟨b4, 0, none⟩))), (9, (.int .i64 x8)), (10, (.pointer (some ⟨b10, 0, none⟩))), (33, (.slice a_l (List.length l) n_l)), (34, (.int .i64 (List.length l : Int))), (35, (.int .i64 x8)), (61, (.bool true))] ⟨rfl, rfl, rfl, rfl, rfl, rfl, rfl, rfl, rfl, rfl, trivial⟩ ?_
              refine at_then ?_
              obtain rfl := Option.some.inj Z11
              exact at_mid true [0, 0, 0, 0, 0] rfl ⟨rfl, rfl, rfl, rfl, rfl, rfl, rfl, rfl, rfl, rfl, trivial⟩ rfl
            · replace Z11 := if_f (bf c13) Z11
              refine at_s T rfl ?_
              refine at_v rfl (g_load T rfl rfl rfl rfl (in_var (j := 4) rfl rfl)) ?_
              iterate 4 refine at_s T rfl ?_
              refine at_case (s := 56) rfl (fun c14 => ?_) (fun c14 => ?_)
              · replace Z11 := if_t c14 Z11
                iterate 5 refine at_s T rfl ?_
                refine at_end ?_
                refine at_sub [(0, (.int .i64 w)), (1, (.int .i64 h)), (6, (.pointer (some ⟨b1, 0, none⟩))), (8, (.pointer (some ⟨b4, 0, none⟩))), (9, (.int .i64 x8)), (10, (.pointer (some ⟨b10, 0, none⟩))), (33, (.slice a_l (List.length l) n_l)), (34, (.int .i64 (List.length l : Int))), (35, (.int .i64 x8)), (61, (.bool true))] ⟨rfl, rfl, rfl, rfl, rfl, rfl, rfl, rfl, rfl, rfl, trivial⟩ ?_
                refine at_then ?_
                obtain rfl := Option.some.inj Z11
                exact at_mid true [0, 0, 0, 0, 0] rfl ⟨rfl, rfl, rfl, rfl, rfl, rfl, rfl, rfl, rfl, rfl, trivial⟩ rfl
              · replace Z11 := if_f (bf c14) Z11
                refine at_s T rfl ?_
                refine at_v rfl (g_load T rfl rfl rfl rfl (in_var (j := 4) rfl rfl)) ?_
                iterate 3 refine at_s T rfl ?_
                refine at_end ?_
                refine at_sub [(0, (.int .i64 w)), (1, (.int .i64 h)), (6, (.pointer (some ⟨b1, 0, none⟩))), (8, (.pointer (some ⟨b4, 0, none⟩))), (9, (.int .i64 x8)), (10, (.pointer (some ⟨b10, 0, none⟩))), (33, (.slice a_l (List.length l) n_l)), (34, (.int .i64 (List.length l : Int))), (35, (.int .i64 x8)), (61, (.bool ((rd l x8).H != v10.2)))] ⟨rfl, rfl, rfl, rfl, rfl, rfl, rfl, rfl, rfl, rfl, trivial⟩ ?_
                refine at_then ?_
                obtain rfl := Option.some.inj Z11
                exact at_mid ((rd l x8).H != v10.2) [0, 0, 0, 0, 0] rfl ⟨rfl, rfl, rfl, rfl, rfl, rfl, rfl, rfl, rfl, rfl, trivial⟩ rfl
          · rintro x11 rfl
            refine at_cond rfl (fun c15 => ?_) (fun c15 => ?_)
            · replace Z7 := if_t c15 Z7
              refine at_seq ?_
              refine at_region [0, 1, 2] rfl ?_
              refine at_s T rfl ?_
              refine at_cons (at_st T 1 [(.int .i64 0), (.int .i64 0), (.slice none 0 0)] rfl rfl rfl rfl rfl rfl rfl rfl rfl rfl ?_)
              refine at_s T rfl ?_
              refine at_end ?_
              refine at_to [(6, (.pointer (some ⟨b1, 0, none⟩))), (7, (.bool false))] [0, 0] [F, [(b1, Obj.cells #[(.int .i64 0), (.int .i64 0), (.slice none 0 0)] 26 (0, 0))]] ⟨rfl, rfl, trivial⟩ rfl ?_
              refine at_then ?_
              refine at_ret ?_
              refine at_rt ?_
              refine at_rb ?_
              refine at_rt ?_
              refine at_rt ?_
              refine at_rb ?_
              refine at_rt ?_
              obtain rfl := Option.some.inj Z7
              refine at_addnil ?_
              exact at_post (T := T) rfl (.aggv (j := 1) [(.int .i64 0), (.int .i64 0), (.slice none 0 0)] rfl rfl rfl rfl rfl rfl rfl (.tmp rfl .nil)) (fun w o => ⟨⟨(_, _), ⟨none, 0, [], SliceO.nil, rfl, rfl⟩⟩, rfl, own_to [2, 0] rfl o⟩)
            · replace Z7 := if_f (bf c15) Z7
              refine at_skip ?_
              refine at_then ?_
              refine at_region [0, 1, 2, 3] rfl ?_
              refine at_v rfl (g_loadA T (cs := [(.int .i64 w), (.int .i64 h), (.slice a6 (List.length x7) n6)]) rfl rfl rfl rfl rfl rfl (in_varA (j := 2) rfl rfl)) ?_
              refine at_s T rfl ?_
              refine at_v rfl (g_loadA T (cs := [(.int .i64 (rd l x8).W), (.int .i64 (rd l x8).H), (.slice a8 (List.length (rd l x8).C) n8)]) rfl rfl rfl rfl rfl rfl (in_varA (j := 4) rfl rfl)) ?_
              obtain ⟨v14, V16, Z7⟩ := bind_e Z7
              refine at_cons (at_cR (As := [H6]) (R := [F, [(b1, Obj.cells #[(.int .i64 0), (.int .i64 0), (.slice none 0 0)] 26 (0, 0))], [(b4, Obj.cells #[(.int .i64 w), (.int .i64 h), (.slice a6 (List.length x7) n6)] 26 (0, 0))], [(b10, Obj.cells #[(.int .i64 (rd l x8).W), (.int .i64 (rd l x8).H), (.slice a8 (List.length (rd l x8).C) n8)] 41 (0, 0))]]) (atlas_lay.R a6 n6 (List.length x7) v14) [] [3] rfl rfl rfl rfl has49 rfl rfl (atlas_lay.c (api_Map.mk w h x7) x8 (rd l x8) v14 _ V16 s6 (ro_of r8 (j := 0) rfl) m8) ?_)
              rintro _ _ ⟨H12, s12, l12, rfl, rfl⟩
              refine at_to [(0, (.int .i64 w)), (1, (.int .i64 h)), (6, (.pointer (some ⟨b1, 0, none⟩))), (8, (.pointer (some ⟨b4, 0, none⟩))), (33, (.slice a_l (List.length l) n_l)), (34, (.int .i64 (List.length l : Int))), (35, (.int .i64 x8))] [0, 0, 0, 1] [F, [(b1, Obj.cells #[(.int .i64 0), (.int .i64 0), (.slice none 0 0)] 26 (0, 0))], [(b4, Obj.cells #[(.int .i64 w), (.int .i64 h), (.slice a6 (List.length v14) n6)] 26 (0, 0))], H12] ⟨rfl, rfl, rfl, rfl, rfl, rfl, rfl, trivial⟩ (by first | rfl | (simp only [l12]; rfl)) ?_
              refine at_end ?_
              refine at_sub [(0, (.int .i64 w)), (1, (.int .i64 h)), (6, (.pointer (some ⟨b1, 0, none⟩))), (8, (.pointer (some ⟨b4, 0, none⟩))), (33, (.slice a_l (List.length l) n_l)), (34, (.int .i64 (List.length l : Int))), (35, (.int .i64 x8))] ⟨rfl, rfl, rfl, rfl, rfl, rfl, rfl, trivial⟩ ?_
              refine at_nb ?_
              refine at_then ?_
              refine at_region [0, 1] rfl ?_
              iterate 2 refine at_s T rfl ?_
              refine at_end ?_
              refine at_sub [(0, (.int .i64 w)), (1, (.int .i64 h)), (6, (.pointer (some ⟨b1, 0, none⟩))), (8, (.pointer (some ⟨b4, 0, none⟩))), (33, (.slice a_l (List.length l) n_l)), (34, (.int .i64 (List.length l : Int))), (35, (.int .i64 (w64 (x8 + 1))))] ⟨rfl, rfl, rfl, rfl, rfl, rfl, rfl, trivial⟩ ?_
              refine at_then ?_
              exact at_roundL (k9, v14, (w64 (x8 + 1)), a6, n6, H12) [0, 0, 0, 0] ⟨Z7, s12⟩ (Nat.lt_succ_self _) ⟨rfl, rfl, rfl, rfl, rfl, rfl, rfl, trivial⟩ rfl
        · replace Z7 := if_f (of_decide_eq_false c8) Z7
          refine at_exit ?_
          refine at_xt ?_
          refine at_xt ?_
          refine at_xb ?_
          refine at_then ?_
          refine at_seq ?_
          refine at_region [0, 1, 2] rfl ?_
          refine at_v rfl (g_loadA T (cs := [(.int .i64 w), (.int .i64 h), (.slice a6 (List.length x7) n6)]) rfl rfl rfl rfl rfl rfl (in_varA (j := 2) rfl rfl)) ?_
          refine at_cons (at_st T 1 [(.int .i64 w), (.int .i64 h), (.slice a6 (List.length x7) n6)] rfl rfl rfl rfl rfl rfl rfl rfl rfl rfl ?_)
          refine at_s T rfl ?_
          refine at_end ?_
          refine at_to [(6, (.pointer (some ⟨b1, 0, none⟩))), (7, (.bool true))] [0, 0, 1] [F, [(b1, Obj.cells #[(.int .i64 w), (.int .i64 h), (.slice a6 (List.length x7) n6)] 26 (0, 0))], H6] ⟨rfl, rfl, trivial⟩ rfl ?_
          refine at_then ?_
          refine at_ret ?_
          obtain rfl := Option.some.inj Z7
          exact at_post (T := T) rfl (.aggv (j := 1) [(.int .i64 w), (.int .i64 h), (.slice a6 (List.length x7) n6)] rfl rfl rfl rfl rfl rfl rfl (.tmp rfl .nil)) (fun w o => ⟨⟨(_, _), ⟨a6, n6, H6, s6, rfl, rfl⟩⟩, rfl, own_to [2, 0] rfl o⟩)
end

end Go.Proofs.YtnkdnecilkafhaaDoor
