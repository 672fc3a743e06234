import Derived.Test.YtonjonpepfepfaaDoorT
import Derived.Test.YtonjonpepfepfaaDoorFpack
import Derived.Test.YtonjonpepfepfaaDoorFref1
namespace Go.Proofs.YtonjonpepfepfaaDoor
open Go.Hx
set_option maxRecDepth 100000
set_option linter.unusedVariables false
noncomputable section
/-! ### herdsman/herdsmanlaw3.told: function 7 -/
def law3_told.f : Option Bool := (pack_Put.f (api_Tile.mk 2 2 [7, 7, 7, 7])).bind fun v1 => (pack_Put.f (api_Tile.mk 2 2 [7, 7, 7, 9])).bind fun v2 => (if ((v1.2 == 0) && (v2.2 == 0)) = true then ((ref1_Bytes.f v1.1 [0, 7]).bind fun v5 => if v5 = true then ((ref1_Bytes.f v2.1 [1, 7, 7, 7, 9]).bind fun v6 => some v6) else (some false)) else (some false)).bind fun x3 => some x3
set_option maxHeartbeats 4000000 in
theorem law3_told.c (r : Bool) (F : Hp) (H : law3_told.f = some r) :
    CallsL Tryd.prog 7 [] [F] (fun _ : Unit => (.bool r)) (fun _ => [F]) := by
  unfold law3_told.f at H
  refine calls_atL [] Tryd.func7 rfl rfl trivial (fun W => ?_)
  refine at_seq ?_
  refine at_region [0] rfl ?_
  refine at_s T rfl ?_
  refine at_end ?_
  refine at_sub [] trivial ?_
  refine at_then ?_
  refine at_seq ?_
  refine at_region [0, 1, 2, 3, 4, 5, 6, 7] rfl ?_
  refine at_cons (at_bs (k := (Fl.int .u8)) T [7, 7, 7, 7] rfl rfl rfl rfl rfl rfl rfl rfl rfl (fun a1 H1 s1 => ?_))
  refine at_s T rfl ?_
  obtain ⟨v1, V1, H⟩ := bind_e H
  refine at_cons (at_cR (pack_Put.R v1) [] [] rfl rfl rfl rfl has14 rfl rfl (pack_Put.c (api_Tile.mk 2 2 [7, 7, 7, 7]) v1 _ V1 (own_of s1 (j := 1) rfl) s1.cap_le) ?_)
  rintro _ _ ⟨a2, n2, H2, s2, rfl, rfl⟩
  iterate 5 refine at_s T rfl ?_
  refine at_end ?_
  refine at_to [(1, (.slice a2 (List.length v1.1) n2)), (2, (.int .i64 v1.2))] [0, 1] [F, H2] ⟨rfl, rfl, trivial⟩ rfl ?_
  refine at_then ?_
  refine at_seq ?_
  refine at_region [0, 1, 2, 3, 4, 5, 6, 7] rfl ?_
  refine at_cons (at_bs (k := (Fl.int .u8)) T [7, 7, 7, 9] rfl rfl rfl rfl rfl rfl rfl rfl rfl (fun a3 H3 s3 => ?_))
  refine at_s T rfl ?_
  obtain ⟨v2, V2, H⟩ := bind_e H
  refine at_cons (at_cR (pack_Put.R v2) [] [] rfl rfl rfl rfl has14 rfl rfl (pack_Put.c (api_Tile.mk 2 2 [7, 7, 7, 9]) v2 _ V2 (own_of s3 (j := 2) rfl) s3.cap_le) ?_)
  rintro _ _ ⟨a4, n4, H4, s4, rfl, rfl⟩
  iterate 5 refine at_s T rfl ?_
  refine at_end ?_
  refine at_to [(1, (.slice a2 (List.length v1.1) n2)), (2, (.int .i64 v1.2)), (3, (.slice a4 (List.length v2.1) n4)), (4, (.int .i64 v2.2))] [0, 0, 1] [F, H2, H4] ⟨rfl, rfl, rfl, rfl, trivial⟩ rfl ?_
  refine at_then ?_
  obtain ⟨z4, Z3, H⟩ := bind_e H
  refine at_seq_mid (σ := Bool) (fun x3 => x3 = z4) (fun x3 => [(0, (.bool x3))]) (fun x3 => [F]) ?_ ?_
  · refine at_region [0, 1, 2, 3, 4, 5, 6, 7, 8, 9, 10, 11, 12, 13, 14, 15, 16] rfl ?_
    iterate 3 refine at_s T rfl ?_
    refine at_grp T [3, 4, 5] (s := 19) (c := (v1.2 == 0)) [(1, (.slice a2 (List.length v1.1) n2)), (3, (.slice a4 (List.length v2.1) n4)), (22, (.bool ((v1.2 == 0) && (v2.2 == 0))))] rfl rfl rfl (fun c4 => ⟨rfl, rfl, (by rw [c4]; rfl), trivial⟩) (fun c4 => ⟨rfl, rfl, (by rw [c4]; rfl), trivial⟩) ?_
    refine at_s T rfl ?_
    refine at_case (s := 23) rfl (fun c5 => ?_) (fun c5 => ?_)
    · replace Z3 := if_t c5 Z3
      refine at_s T rfl ?_
      refine at_cons (at_bs (k := (Fl.int .u8)) T [0, 7] rfl rfl rfl rfl rfl rfl rfl rfl rfl (fun a5 H5 s5 => ?_))
      obtain ⟨v5, V6, Z3⟩ := bind_e Z3
      refine at_cons (at_c (B := fun _ => []) [] rfl rfl rfl rfl has12 rfl rfl (ref1_Bytes.c v1.1 [0, 7] v5 _ V6 (own_of s2 (j := 1) rfl) s2.cap_le (own_of s5 (j := 3) rfl) s5.cap_le) (fun _ => ?_))
      iterate 2 refine at_s T rfl ?_
      refine at_case (s := 28) rfl (fun c7 => ?_) (fun c7 => ?_)
      · replace Z3 := if_t c7 Z3
        refine at_s T rfl ?_
        refine at_cons (at_bs (k := (Fl.int .u8)) T [1, 7, 7, 7, 9] rfl rfl rfl rfl rfl rfl rfl rfl rfl (fun a6 H6 s6 => ?_))
        obtain ⟨v6, V8, Z3⟩ := bind_e Z3
        refine at_cons (at_c (B := fun _ => []) [] rfl rfl rfl rfl has12 rfl rfl (ref1_Bytes.c v2.1 [1, 7, 7, 7, 9] v6 _ V8 (own_of s4 (j := 2) rfl) s4.cap_le (own_of s6 (j := 4) rfl) s6.cap_le) (fun _ => ?_))
        iterate 2 refine at_s T rfl ?_
        refine at_end ?_
        refine at_to [(0, (.bool v6))] [0] [F] ⟨rfl, trivial⟩ rfl ?_
        refine at_then ?_
        obtain rfl := Option.some.inj Z3
        exact at_mid v6 [0] rfl ⟨rfl, trivial⟩ rfl
      · replace Z3 := if_f (bf c7) Z3
        iterate 5 refine at_s T rfl ?_
        refine at_end ?_
        refine at_to [(0, (.bool false))] [0] [F] ⟨rfl, trivial⟩ rfl ?_
        refine at_then ?_
        obtain rfl := Option.some.inj Z3
        exact at_mid false [0] rfl ⟨rfl, trivial⟩ rfl
    · replace Z3 := if_f (bf c5) Z3
      iterate 10 refine at_s T rfl ?_
      refine at_end ?_
      refine at_to [(0, (.bool false))] [0] [F] ⟨rfl, trivial⟩ rfl ?_
      refine at_then ?_
      obtain rfl := Option.some.inj Z3
      exact at_mid false [0] rfl ⟨rfl, trivial⟩ rfl
  · rintro x3 rfl
    refine at_ret ?_
    obtain rfl := Option.some.inj H
    exact at_post (T := T) rfl (.tmp rfl .nil) (fun w o => ⟨(), rfl, own_to [0] rfl o⟩)

/-! ### herdsman/herdsmanlaw3.near: function 13 -/
def law3_near.l0 : Nat → Int → api_Tile → List Int → Int → Option api_Tile
  | 0, _, _, _, _ => none
  | k7 + 1, few, v2, x5, x6 => if x6 < (List.length x5 : Int) then ((ref1_Within.f few 0 2).bind fun v8 => if (v8 == 0) = true then (if (0 ≤ (0 : Int) ∧ (0 : Int) < (List.length x5 : Int)) then (if (0 ≤ x6 ∧ x6 < (List.length x5 : Int)) then (law3_near.l0 k7 few v2 (List.set x5 (Int.toNat x6) (rd x5 0)) (w64 (x6 + 1))) else none) else none) else (if (v8 == 1) = true then (if (0 ≤ (w64 ((w64 (Int.tdiv x6 5)) * 5)) ∧ (w64 ((w64 (Int.tdiv x6 5)) * 5)) < (List.length x5 : Int)) then (if (0 ≤ x6 ∧ x6 < (List.length x5 : Int)) then (law3_near.l0 k7 few v2 (List.set x5 (Int.toNat x6) (rd x5 (w64 ((w64 (Int.tdiv x6 5)) * 5)))) (w64 (x6 + 1))) else none) else none) else (law3_near.l0 k7 few v2 x5 (w64 (x6 + 1))))) else (some (api_Tile.mk v2.W v2.H x5))
def law3_near.f (t : api_Tile) (w : Int) (h : Int) (few : Int) (raw : Bool) : Option api_Tile := if raw = true then ((ref1_OwnTile.f t).bind fun v1 => some v1) else ((ref1_MadeTile.f w h t.C).bind fun v2 => law3_near.l0 fuel few v2 v2.C 0)
def law3_near.R (r : api_Tile) (u : Value) (G : List Hp) : Prop := ∃ (a0 : Option Addr) (n0 : Nat) (H0 : Hp), SliceO (Fl.int .u8) 5 r.C a0 n0 H0 ∧ u = (.agg #[(.int .i64 r.W), (.int .i64 r.H), (.slice a0 (List.length r.C) n0)]) ∧ G = [H0]
set_option maxHeartbeats 4000000 in
theorem law3_near.c {a_t_C : Option Addr} {n_t_C : Nat} (t : api_Tile) (w : Int) (h : Int) (few : Int) (raw : Bool) (r : api_Tile) (F : Hp) (H : law3_near.f t w h few raw = some r) (h_t_C : SliceR (Fl.int .u8) t.C a_t_C F) (c_t_C : List.length t.C ≤ n_t_C) :
    CallsL Tryd.prog 13 [(.agg #[(.int .i64 t.W), (.int .i64 t.H), (.slice a_t_C (List.length t.C) n_t_C)]), (.int .i64 w), (.int .i64 h), (.int .i64 few), (.bool raw)] [F] (fun qp : { qp : Value × List Hp // law3_near.R r qp.1 qp.2 } => qp.1.1) (fun qp => (qp.1.2 ++ []) ++ [F]) := by
  unfold law3_near.f at H
  refine calls_atL [(0, (.agg #[(.int .i64 t.W), (.int .i64 t.H), (.slice a_t_C (List.length t.C) n_t_C)])), (1, (.int .i64 w)), (2, (.int .i64 h)), (3, (.int .i64 few)), (4, (.bool raw))] Tryd.func13 rfl rfl ⟨rfl, rfl, rfl, rfl, rfl, trivial⟩ (fun W => ?_)
  refine at_seq ?_
  refine at_region [0, 1] rfl ?_
  refine at_cons (at_bx T [(.int .i64 t.W), (.int .i64 t.H), (.slice a_t_C (List.length t.C) n_t_C)] rfl rfl rfl rfl (fun b1 => ?_))
  refine at_cons (at_al T [(.int .i64 0), (.int .i64 0), (.slice none 0 0)] rfl rfl rfl rfl (fun b2 => ?_))
  refine at_end ?_
  refine at_sub [(1, (.int .i64 w)), (2, (.int .i64 h)), (3, (.int .i64 few)), (4, (.bool raw)), (5, (.pointer (some ⟨b1, 0, none⟩))), (10, (.pointer (some ⟨b2, 0, none⟩)))] ⟨rfl, rfl, rfl, rfl, rfl, rfl, trivial⟩ ?_
  refine at_then ?_
  refine at_seq ?_
  refine at_seq ?_
  refine at_region [0] rfl ?_
  refine at_s T rfl ?_
  refine at_end ?_
  refine at_sub [(1, (.int .i64 w)), (2, (.int .i64 h)), (3, (.int .i64 few)), (5, (.pointer (some ⟨b1, 0, none⟩))), (10, (.pointer (some ⟨b2, 0, none⟩))), (13, (.bool raw))] ⟨rfl, rfl, rfl, rfl, rfl, rfl, trivial⟩ ?_
  refine at_then ?_
  refine at_cond rfl (fun c1 => ?_) (fun c1 => ?_)
  · replace H := if_t c1 H
    refine at_seq ?_
    refine at_region [0, 1, 2] rfl ?_
    refine at_v rfl (g_loadA T (cs := [(.int .i64 t.W), (.int .i64 t.H), (.slice a_t_C (List.length t.C) n_t_C)]) rfl rfl rfl rfl rfl rfl (in_varA (j := 1) rfl rfl)) ?_
    obtain ⟨v1, V2, H⟩ := bind_e H
    refine at_cons (at_cR (ref1_OwnTile.R v1) [] [] rfl rfl rfl rfl has20 rfl rfl (ref1_OwnTile.c t v1 _ V2 (ro_of h_t_C (j := 0) rfl) c_t_C) ?_)
    rintro _ _ ⟨a3, n3, H3, s3, rfl, rfl⟩
    refine at_cons (at_st T 2 [(.int .i64 v1.W), (.int .i64 v1.H), (.slice a3 (List.length v1.C) n3)] rfl rfl rfl rfl rfl rfl rfl rfl rfl rfl ?_)
    refine at_end ?_
    refine at_to [(10, (.pointer (some ⟨b2, 0, none⟩)))] [0, 1, 1] [F, [(b2, Obj.cells #[(.int .i64 v1.W), (.int .i64 v1.H), (.slice a3 (List.length v1.C) n3)] 26 (0, 0))], H3] ⟨rfl, trivial⟩ rfl ?_
    refine at_then ?_
    refine at_ret ?_
    refine at_rt ?_
    obtain rfl := Option.some.inj H
    exact at_post (T := T) rfl (.aggv (j := 1) [(.int .i64 v1.W), (.int .i64 v1.H), (.slice a3 (List.length v1.C) n3)] rfl rfl rfl rfl rfl rfl rfl .nil) (fun w o => ⟨⟨(_, _), ⟨a3, n3, H3, s3, rfl, rfl⟩⟩, rfl, own_to [2, 0] rfl o⟩)
  · replace H := if_f (bf c1) H
    refine at_skip ?_
    refine at_then ?_
    refine at_seq ?_
    refine at_region [0, 1, 2, 3, 4, 5, 6] rfl ?_
    iterate 3 refine at_s T rfl ?_
    refine at_v rfl (g_load T rfl rfl rfl rfl (in_var (j := 1) rfl rfl)) ?_
    obtain ⟨v2, V3, H⟩ := bind_e H
    refine at_cons (at_cR (ref1_MadeTile.R v2) [] [] rfl rfl rfl rfl has21 rfl rfl (ref1_MadeTile.c w h t.C v2 _ V3 (ro_of h_t_C (j := 0) rfl) c_t_C) ?_)
    rintro _ _ ⟨a4, n4, H4, s4, rfl, rfl⟩
    refine at_cons (at_al T [(.int .i64 0), (.int .i64 0), (.slice none 0 0)] rfl rfl rfl rfl (fun b5 => ?_))
    refine at_cons (at_st T 4 [(.int .i64 v2.W), (.int .i64 v2.H), (.slice a4 (List.length v2.C) n4)] rfl rfl rfl rfl rfl rfl rfl rfl rfl rfl ?_)
    refine at_end ?_
    refine at_to [(3, (.int .i64 few)), (10, (.pointer (some ⟨b2, 0, none⟩))), (11, (.pointer (some ⟨b5, 0, none⟩)))] [0, 1, 1, 1] [F, [(b2, Obj.cells #[(.int .i64 0), (.int .i64 0), (.slice none 0 0)] 26 (0, 0))], H4, [(b5, Obj.cells #[(.int .i64 v2.W), (.int .i64 v2.H), (.slice a4 (List.length v2.C) n4)] 26 (0, 0))]] ⟨rfl, rfl, rfl, trivial⟩ rfl ?_
    refine at_then ?_
    refine at_seq ?_
    refine at_seq ?_
    refine at_region [0] rfl ?_
    refine at_s T rfl ?_
    refine at_end ?_
    refine at_sub [(3, (.int .i64 few)), (10, (.pointer (some ⟨b2, 0, none⟩))), (11, (.pointer (some ⟨b5, 0, none⟩))), (12, (.int .i64 0))] ⟨rfl, rfl, rfl, rfl, trivial⟩ ?_
    refine at_then ?_
    refine at_block ?_
    refine at_loopL (σ := Nat × List Int × Int × Option Addr × Nat × Hp) (fun ⟨k7, x5, x6, a7, n7, H7⟩ => law3_near.l0 k7 few v2 x5 x6 = some r ∧ SliceO (Fl.int .u8) 5 x5 a7 n7 H7) (fun ⟨k7, x5, x6, a7, n7, H7⟩ => [(3, (.int .i64 few)), (10, (.pointer (some ⟨b2, 0, none⟩))), (11, (.pointer (some ⟨b5, 0, none⟩))), (12, (.int .i64 x6))]) (fun ⟨k7, x5, x6, a7, n7, H7⟩ => [F, [(b2, Obj.cells #[(.int .i64 0), (.int .i64 0), (.slice none 0 0)] 26 (0, 0))], [(b5, Obj.cells #[(.int .i64 v2.W), (.int .i64 v2.H), (.slice a7 (List.length x5) n7)] 26 (0, 0))], H7]) (fun s => s.1) (fuel, v2.C, 0, a4, n4, H4) [0, 0, 1, 0] ⟨H, s4⟩ ⟨rfl, rfl, rfl, rfl, trivial⟩ rfl ?_
    rintro ⟨k7, x5, x6, a7, n7, H7⟩ ⟨Z4, s7⟩
    replace Z4 : law3_near.l0 k7 few v2 x5 x6 = some r := Z4
    rcases k7 with _ | k7
    · rw [law3_near.l0] at Z4; cases Z4
    · rw [law3_near.l0] at Z4
      refine at_seq ?_
      refine at_seq ?_
      refine at_region [0, 1, 2, 3, 4] rfl ?_
      iterate 2 refine at_s T rfl ?_
      refine at_v rfl (g_load T rfl rfl rfl rfl (in_var (j := 2) rfl rfl)) ?_
      iterate 2 refine at_s T rfl ?_
      refine at_end ?_
      refine at_sub [(3, (.int .i64 few)), (10, (.pointer (some ⟨b2, 0, none⟩))), (11, (.pointer (some ⟨b5, 0, none⟩))), (12, (.int .i64 x6)), (25, (.bool (decide (x6 < (List.length x5 : Int)))))] ⟨rfl, rfl, rfl, rfl, rfl, trivial⟩ ?_
      refine at_then ?_
      refine at_cond rfl (fun c5 => ?_) (fun c5 => ?_)
      · replace Z4 := if_t (of_decide_eq_true c5) Z4
        refine at_skip ?_
        refine at_then ?_
        refine at_seq ?_
        refine at_block ?_
        refine at_seq ?_
        refine at_region [0, 1] rfl ?_
        refine at_s T rfl ?_
        obtain ⟨v8, V6, Z4⟩ := bind_e Z4
        refine at_cons (at_c (B := fun _ => []) [] rfl rfl rfl rfl has8 rfl rfl (ref1_Within.c few 0 2 v8 _ V6) (fun _ => ?_))
        refine at_end ?_
        refine at_sub [(3, (.int .i64 few)), (10, (.pointer (some ⟨b2, 0, none⟩))), (11, (.pointer (some ⟨b5, 0, none⟩))), (12, (.int .i64 x6)), (29, (.int .i64 v8))] ⟨rfl, rfl, rfl, rfl, rfl, trivial⟩ ?_
        refine at_then ?_
        refine at_block ?_
        refine at_seq ?_
        refine at_region [0, 1] rfl ?_
        iterate 2 refine at_s T rfl ?_
        refine at_end ?_
        refine at_sub [(3, (.int .i64 few)), (10, (.pointer (some ⟨b2, 0, none⟩))), (11, (.pointer (some ⟨b5, 0, none⟩))), (12, (.int .i64 x6)), (29, (.int .i64 v8)), (30, (.bool (v8 == 0)))] ⟨rfl, rfl, rfl, rfl, rfl, rfl, trivial⟩ ?_
        refine at_then ?_
        refine at_cond rfl (fun c7 => ?_) (fun c7 => ?_)
        · replace Z4 := if_t c7 Z4
          refine at_region_m [[], [0], [], [], [3], [3, 4], [3, 4, 5], [0, 1, 2, 3, 4, 5, 6], [0, 1, 2, 3, 4, 5, 6, 7]] [8] [F, [(b2, Obj.cells #[(.int .i64 0), (.int .i64 0), (.slice none 0 0)] 26 (0, 0))], [(b5, Obj.cells #[(.int .i64 v2.W), (.int .i64 v2.H), (.slice a7 (List.length x5) n7)] 26 (0, 0))], H7] mix (by kernel_rfl) (by repeat first | exact pf_body | refine pf_then ?_ | refine pf_block ?_) (fun hg pf => ?_)
          refine atm_s T 0 hg pf (by kernel_rfl) (still_o [0, 0, 0, 0] rfl) rfl ?_
          refine atm_v 1 hg pf (by kernel_rfl) (still_o [0, 0, 0, 0] rfl) rfl rfl (g_load T rfl rfl rfl rfl (in_var (j := 2) rfl rfl)) ?_
          refine atm_s T 2 hg pf (by kernel_rfl) (still_o [0, 0, 0, 0] rfl) rfl ?_
          refine atm_s T 3 hg pf (by kernel_rfl) (still_o [0, 0, 0, 0] rfl) rfl ?_
          refine atm_v 4 hg pf (by kernel_rfl) (still_o [0, 0, 0, 0] rfl) rfl rfl (g_load T rfl rfl rfl rfl (in_var (j := 2) rfl rfl)) ?_
          obtain ⟨c8, Z4⟩ := chk_e Z4
          obtain ⟨q8, o8, e8⟩ := s7.r.addr c8.1 c8.2
          refine atm_v 5 hg pf (by kernel_rfl) (still_o [0, 0, 0, 0] rfl) rfl rfl (g_index T rfl rfl rfl rfl rfl e8 c8.1 c8.2) ?_
          refine atm_v 6 hg pf (by kernel_rfl) (still_o [0, 0, 0, 0] rfl) rfl rfl (g_load T rfl rfl rfl rfl (in_elem1 (k := (Fl.int .u8)) (own_of s7 (j := 3) rfl) e8 c8 0 rfl)) ?_
          obtain ⟨c9, Z4⟩ := chk_e Z4
          refine atm_v 7 hg pf (by kernel_rfl) (still_o [0, 0, 0, 0] rfl) rfl rfl (g_index T rfl rfl rfl rfl rfl e8 c9.1 c9.2) ?_
          refine atm_one 8 (by kernel_rfl) ?_
          refine at_se (k := (Fl.int .u8)) T 3 0 (rd x5 0) rfl rfl rfl rfl rfl rfl s7 e8 c9 rfl rfl rfl (fun H9 s9 => ?_)
          refine at_to [(3, (.int .i64 few)), (10, (.pointer (some ⟨b2, 0, none⟩))), (11, (.pointer (some ⟨b5, 0, none⟩))), (12, (.int .i64 x6)), (29, (.int .i64 v8)), (30, (.bool (v8 == 0))), (32, (.pointer (some ⟨b5, 2, none⟩))), (33, (.slice a7 (List.length (List.set x5 (Int.toNat x6) (rd x5 0))) n7)), (34, (.int .i64 x6)), (35, (.pointer (some ⟨b5, 2, none⟩))), (36, (.slice a7 (List.length (List.set x5 (Int.toNat x6) (rd x5 0))) n7)), (37, (.pointer (some ⟨q8, o8 + Int.toNat 0 * 1, none⟩))), (38, (.int .u8 (rd x5 0))), (39, (.pointer (some ⟨q8, o8 + Int.toNat x6 * 1, none⟩)))] [0, 0, 0, 0] [F, [(b2, Obj.cells #[(.int .i64 0), (.int .i64 0), (.slice none 0 0)] 26 (0, 0))], [(b5, Obj.cells #[(.int .i64 v2.W), (.int .i64 v2.H), (.slice a7 (List.length (List.set x5 (Int.toNat x6) (rd x5 0))) n7)] 26 (0, 0))], H9] ⟨rfl, rfl, rfl, rfl, rfl, rfl, rfl, (by first | rfl | (simp only [List.length_set]; rfl)), rfl, rfl, (by first | rfl | (simp only [List.length_set]; rfl)), rfl, rfl, rfl, trivial⟩ (by first | rfl | (simp only [List.length_set]; rfl)) ?_
          refine atm_next (still_l (by kernel_rfl)) ?_
          refine atm_end (by kernel_rfl) ?_
          refine at_sub [(3, (.int .i64 few)), (10, (.pointer (some ⟨b2, 0, none⟩))), (11, (.pointer (some ⟨b5, 0, none⟩))), (12, (.int .i64 x6))] ⟨rfl, rfl, rfl, rfl, trivial⟩ ?_
          refine at_nb ?_
          refine at_nb ?_
          refine at_then ?_
          refine at_region [0, 1, 2] rfl ?_
          iterate 3 refine at_s T rfl ?_
          refine at_end ?_
          refine at_sub [(3, (.int .i64 few)), (10, (.pointer (some ⟨b2, 0, none⟩))), (11, (.pointer (some ⟨b5, 0, none⟩))), (12, (.int .i64 (w64 (x6 + 1))))] ⟨rfl, rfl, rfl, rfl, trivial⟩ ?_
          refine at_then ?_
          exact at_roundL (k7, (List.set x5 (Int.toNat x6) (rd x5 0)), (w64 (x6 + 1)), a7, n7, H9) [0, 0, 0, 0] ⟨Z4, s9⟩ (Nat.lt_succ_self _) ⟨rfl, rfl, rfl, rfl, trivial⟩ rfl
        · replace Z4 := if_f (bf c7) Z4
          refine at_seq ?_
          refine at_region [0, 1] rfl ?_
          iterate 2 refine at_s T rfl ?_
          refine at_end ?_
          refine at_sub [(3, (.int .i64 few)), (10, (.pointer (some ⟨b2, 0, none⟩))), (11, (.pointer (some ⟨b5, 0, none⟩))), (12, (.int .i64 x6)), (40, (.bool (v8 == 1)))] ⟨rfl, rfl, rfl, rfl, rfl, trivial⟩ ?_
          refine at_then ?_
          refine at_cond rfl (fun c10 => ?_) (fun c10 => ?_)
          · replace Z4 := if_t c10 Z4
            refine at_region_m [[], [0], [], [], [3], [], [5], [5, 6], [3, 4, 5, 6, 7], [3, 4, 5, 6, 7, 8], [0, 1, 2, 3, 4, 5, 6, 7, 8, 9], [0, 1, 2, 3, 4, 5, 6, 7, 8, 9, 10]] [11] [F, [(b2, Obj.cells #[(.int .i64 0), (.int .i64 0), (.slice none 0 0)] 26 (0, 0))], [(b5, Obj.cells #[(.int .i64 v2.W), (.int .i64 v2.H), (.slice a7 (List.length x5) n7)] 26 (0, 0))], H7] mix (by kernel_rfl) (by repeat first | exact pf_body | refine pf_then ?_ | refine pf_block ?_) (fun hg pf => ?_)
            refine atm_s T 0 hg pf (by kernel_rfl) (still_o [0, 0, 0, 0] rfl) rfl ?_
            refine atm_v 1 hg pf (by kernel_rfl) (still_o [0, 0, 0, 0] rfl) rfl rfl (g_load T rfl rfl rfl rfl (in_var (j := 2) rfl rfl)) ?_
            refine atm_s T 2 hg pf (by kernel_rfl) (still_o [0, 0, 0, 0] rfl) rfl ?_
            refine atm_s T 3 hg pf (by kernel_rfl) (still_o [0, 0, 0, 0] rfl) rfl ?_
            refine atm_v 4 hg pf (by kernel_rfl) (still_o [0, 0, 0, 0] rfl) rfl rfl (g_load T rfl rfl rfl rfl (in_var (j := 2) rfl rfl)) ?_
            refine atm_s T 5 hg pf (by kernel_rfl) (still_o [0, 0, 0, 0] rfl) rfl ?_
            refine atm_s T 6 hg pf (by kernel_rfl) (still_o [0, 0, 0, 0] rfl) rfl ?_
            refine atm_s T 7 hg pf (by kernel_rfl) (still_o [0, 0, 0, 0] rfl) rfl ?_
            obtain ⟨c11, Z4⟩ := chk_e Z4
            obtain ⟨q10, o10, e10⟩ := s7.r.addr c11.1 c11.2
            refine atm_v 8 hg pf (by kernel_rfl) (still_o [0, 0, 0, 0] rfl) rfl rfl (g_index T rfl rfl rfl rfl rfl e10 c11.1 c11.2) ?_
            refine atm_v 9 hg pf (by kernel_rfl) (still_o [0, 0, 0, 0] rfl) rfl rfl (g_load T rfl rfl rfl rfl (in_elem1 (k := (Fl.int .u8)) (own_of s7 (j := 3) rfl) e10 c11 0 rfl)) ?_
            obtain ⟨c12, Z4⟩ := chk_e Z4
            refine atm_v 10 hg pf (by kernel_rfl) (still_o [0, 0, 0, 0] rfl) rfl rfl (g_index T rfl rfl rfl rfl rfl e10 c12.1 c12.2) ?_
            refine atm_one 11 (by kernel_rfl) ?_
            refine at_se (k := (Fl.int .u8)) T 3 0 (rd x5 (w64 ((w64 (Int.tdiv x6 5)) * 5))) rfl rfl rfl rfl rfl rfl s7 e10 c12 rfl rfl rfl (fun H11 s11 => ?_)
            refine at_to [(3, (.int .i64 few)), (10, (.pointer (some ⟨b2, 0, none⟩))), (11, (.pointer (some ⟨b5, 0, none⟩))), (12, (.int .i64 x6)), (40, (.bool (v8 == 1))), (42, (.pointer (some ⟨b5, 2, none⟩))), (43, (.slice a7 (List.length (List.set x5 (Int.toNat x6) (rd x5 (w64 ((w64 (Int.tdiv x6 5)) * 5))))) n7)), (44, (.int .i64 x6)), (45, (.pointer (some ⟨b5, 2, none⟩))), (46, (.slice a7 (List.length (List.set x5 (Int.toNat x6) (rd x5 (w64 ((w64 (Int.tdiv x6 5)) * 5))))) n7)), (47, (.int .i64 x6)), (48, (.int .i64 (w64 (Int.tdiv x6 5)))), (49, (.int .i64 (w64 ((w64 (Int.tdiv x6 5)) * 5)))), (50, (.pointer (some ⟨q10, o10 + Int.toNat (w64 ((w64 (Int.tdiv x6 5)) * 5)) * 1, none⟩))), (51, (.int .u8 (rd x5 (w64 ((w64 (Int.tdiv x6 5)) * 5))))), (52, (.pointer (some ⟨q10, o10 + Int.toNat x6 * 1, none⟩)))] [0, 0, 0, 0] [F, [(b2, Obj.cells #[(.int .i64 0), (.int .i64 0), (.slice none 0 0)] 26 (0, 0))], [(b5, Obj.cells #[(.int .i64 v2.W), (.int .i64 v2.H), (.slice a7 (List.length (List.set x5 (Int.toNat x6) (rd x5 (w64 ((w64 (Int.tdiv x6 5)) * 5))))) n7)] 26 (0, 0))], H11] ⟨rfl, rfl, rfl, rfl, rfl, rfl, (by first | rfl | (simp only [List.length_set]; rfl)), rfl, rfl, (by first | rfl | (simp only [List.length_set]; rfl)), rfl, rfl, rfl, rfl, rfl, rfl, trivial⟩ (by first | rfl | (simp only [List.length_set]; rfl)) ?_
            refine atm_next (still_l (by kernel_rfl)) ?_
            refine atm_end (by kernel_rfl) ?_
            refine at_sub [(3, (.int .i64 few)), (10, (.pointer (some ⟨b2, 0, none⟩))), (11, (.pointer (some ⟨b5, 0, none⟩))), (12, (.int .i64 x6))] ⟨rfl, rfl, rfl, rfl, trivial⟩ ?_
            refine at_nb ?_
            refine at_nb ?_
            refine at_then ?_
            refine at_region [0, 1, 2] rfl ?_
            iterate 3 refine at_s T rfl ?_
            refine at_end ?_
            refine at_sub [(3, (.int .i64 few)), (10, (.pointer (some ⟨b2, 0, none⟩))), (11, (.pointer (some ⟨b5, 0, none⟩))), (12, (.int .i64 (w64 (x6 + 1))))] ⟨rfl, rfl, rfl, rfl, trivial⟩ ?_
            refine at_then ?_
            exact at_roundL (k7, (List.set x5 (Int.toNat x6) (rd x5 (w64 ((w64 (Int.tdiv x6 5)) * 5)))), (w64 (x6 + 1)), a7, n7, H11) [0, 0, 0, 0] ⟨Z4, s11⟩ (Nat.lt_succ_self _) ⟨rfl, rfl, rfl, rfl, trivial⟩ rfl
          · replace Z4 := if_f (bf c10) Z4
            refine at_skip ?_
            refine at_nb ?_
            refine at_nb ?_
            refine at_then ?_
            refine at_region [0, 1, 2] rfl ?_
            iterate 3 refine at_s T rfl ?_
            refine at_end ?_
            refine at_sub [(3, (.int .i64 few)), (10, (.pointer (some ⟨b2, 0, none⟩))), (11, (.pointer (some ⟨b5, 0, none⟩))), (12, (.int .i64 (w64 (x6 + 1))))] ⟨rfl, rfl, rfl, rfl, trivial⟩ ?_
            refine at_then ?_
            exact at_roundL (k7, x5, (w64 (x6 + 1)), a7, n7, H7) [0, 0, 0, 0] ⟨Z4, s7⟩ (Nat.lt_succ_self _) ⟨rfl, rfl, rfl, rfl, trivial⟩ rfl
      · replace Z4 := if_f (of_decide_eq_false c5) Z4
        refine at_exit ?_
        refine at_xt ?_
        refine at_xt ?_
        refine at_xb ?_
        refine at_then ?_
        refine at_seq ?_
        refine at_region [0, 1] rfl ?_
        refine at_v rfl (g_loadA T (cs := [(.int .i64 v2.W), (.int .i64 v2.H), (.slice a7 (List.length x5) n7)]) rfl rfl rfl rfl rfl rfl (in_varA (j := 2) rfl rfl)) ?_
        refine at_cons (at_st T 1 [(.int .i64 v2.W), (.int .i64 v2.H), (.slice a7 (List.length x5) n7)] rfl rfl rfl rfl rfl rfl rfl rfl rfl rfl ?_)
        refine at_end ?_
        refine at_to [(10, (.pointer (some ⟨b2, 0, none⟩)))] [0, 0, 1] [F, [(b2, Obj.cells #[(.int .i64 v2.W), (.int .i64 v2.H), (.slice a7 (List.length x5) n7)] 26 (0, 0))], H7] ⟨rfl, trivial⟩ rfl ?_
        refine at_then ?_
        refine at_ret ?_
        obtain rfl := Option.some.inj Z4
        exact at_post (T := T) rfl (.aggv (j := 1) [(.int .i64 v2.W), (.int .i64 v2.H), (.slice a7 (List.length x5) n7)] rfl rfl rfl rfl rfl rfl rfl .nil) (fun w o => ⟨⟨(_, _), ⟨a7, n7, H7, s7, rfl, rfl⟩⟩, rfl, own_to [2, 0] rfl o⟩)
end

end Go.Proofs.YtonjonpepfepfaaDoor
