import Derived.Test.YtfgenmohgfifaaaT
import Derived.Test.YtfgenmohgfifaaaFlaw3
import Derived.Test.YtfgenmohgfifaaaFpack
import Derived.Test.YtfgenmohgfifaaaFref1
namespace Go.Proofs.Ytfgenmohgfifaaa
open Go.Hx
set_option maxRecDepth 100000
set_option linter.unusedVariables false
/-! ### herdsman/herdsmanlaw3.PackLeast: function 4 -/
def law3_PackLeast.l0 : Nat → api_Tile → ((List Int) × Int) → Int → api_Tile → List Int → Int → Option Bool
  | 0, _, _, _, _, _, _ => none
  | k9 + 1, v1, v2, v3, v4, x7, x8 => if x8 < (List.length x7 : Int) then (if (0 ≤ x8 ∧ x8 < (List.length x7 : Int)) then (law3_PackLeast.l0 k9 v1 v2 v3 v4 (List.set x7 (Int.toNat x8) (rd v1.C v3)) (w64 (x8 + 1))) else none) else ((pack_Put.f (api_Tile.mk v4.W v4.H x7)).bind fun v10 => ((law3_told.f).bind fun v13 => if v13 = true then (if (v2.2 == 0) = true then (if (v10.2 == 0) = true then (if (List.length v2.1 : Int) ≤ (w64 (1 + (List.length v1.C : Int))) then (if (List.length v2.1 : Int) ≥ 2 then ((ref1_Bytes.f v10.1 [0, (rd v1.C v3)]).bind fun v14 => if v14 = true then ((pack_Form.f (api_Tile.mk v4.W v4.H x7)).bind fun v15 => if (v15 == 0) = true then (if (List.length v2.1 : Int) > 0 then (if (0 ≤ (0 : Int) ∧ (0 : Int) < (List.length v2.1 : Int)) then ((pack_Form.f v1).bind fun v16 => some ((w64 (rd v2.1 0)) == v16)) else none) else (some false)) else (some false)) else (some false)) else (some false)) else (some false)) else (some false)) else (some false)) else (some false)).bind fun x11 => some x11)
def law3_PackLeast.f (c : (List Int)) (w : Int) (h : Int) (few : Int) (p4 : Int) : Option Bool := (law3_near.f (api_Tile.mk 0 0 c) w h few false).bind fun v1 => (pack_Put.f v1).bind fun v2 => (ref1_Within.f p4 0 (w64 ((List.length v1.C : Int) - 1))).bind fun v3 => if (0 ≤ v3 ∧ v3 < (List.length v1.C : Int)) then ((ref1_OwnTile.f v1).bind fun v4 => law3_PackLeast.l0 fuel v1 v2 v3 v4 v4.C 0) else none
set_option maxHeartbeats 4000000 in
theorem law3_PackLeast.c {a_c : Option Addr} {n_c : Nat} (c : (List Int)) (w : Int) (h : Int) (few : Int) (p4 : Int) (r : Bool) (F : Hp) (H : law3_PackLeast.f c w h few p4 = some r) (h_c : SliceR (Fl.int .u8) c a_c F) (c_c : List.length c ≤ n_c) :
    CallsL Try.prog 4 [(.slice a_c (List.length c) n_c), (.int .i64 w), (.int .i64 h), (.int .i64 few), (.int .i64 p4)] [F] (fun _ : Unit => (.bool r)) (fun _ => [F]) := by
  unfold law3_PackLeast.f at H
  refine calls_atL [(0, (.slice a_c (List.length c) n_c)), (1, (.int .i64 w)), (2, (.int .i64 h)), (3, (.int .i64 few)), (4, (.int .i64 p4))] Try.func4 rfl rfl ⟨rfl, rfl, rfl, rfl, rfl, trivial⟩ (fun W => ?_)
  refine at_seq ?_
  refine at_region [0] rfl ?_
  refine at_s T rfl ?_
  refine at_end ?_
  refine at_sub [(0, (.slice a_c (List.length c) n_c)), (1, (.int .i64 w)), (2, (.int .i64 h)), (3, (.int .i64 few)), (4, (.int .i64 p4))] ⟨rfl, rfl, rfl, rfl, rfl, trivial⟩ ?_
  refine at_then ?_
  refine at_seq ?_
  refine at_region [0, 1, 2, 3, 4, 5, 6, 7] rfl ?_
  iterate 5 refine at_s T rfl ?_
  obtain ⟨v1, V1, H⟩ := bind_e H
  refine at_cons (at_cR (law3_near.R v1) [] [] rfl rfl rfl rfl has11 rfl rfl (law3_near.c (api_Tile.mk 0 0 c) w h few false v1 _ V1 (ro_of h_c (j := 0) rfl) c_c) ?_)
  rintro _ _ ⟨a1, n1, H1, s1, rfl, rfl⟩
  refine at_cons (at_al T [(.int .i64 0), (.int .i64 0), (.slice none 0 0)] rfl rfl rfl rfl (fun b2 => ?_))
  refine at_cons (at_st T 2 [(.int .i64 v1.W), (.int .i64 v1.H), (.slice a1 (List.length v1.C) n1)] rfl rfl rfl rfl rfl rfl rfl rfl rfl rfl ?_)
  refine at_end ?_
  refine at_sub [(4, (.int .i64 p4)), (11, (.pointer (some ⟨b2, 0, none⟩)))] ⟨rfl, rfl, trivial⟩ ?_
  refine at_then ?_
  refine at_seq ?_
  refine at_region [0, 1, 2, 3, 4, 5, 6] rfl ?_
  refine at_v rfl (g_loadA T (cs := [(.int .i64 v1.W), (.int .i64 v1.H), (.slice a1 (List.length v1.C) n1)]) rfl rfl rfl rfl rfl rfl (in_varA (j := 2) rfl rfl)) ?_
  obtain ⟨v2, V2, H⟩ := bind_e H
  refine at_cons (at_cR (pack_Put.R v2) [] [] rfl rfl rfl rfl has12 rfl rfl (pack_Put.c v1 v2 _ V2 (own_of s1 (j := 1) rfl) s1.cap_le) ?_)
  rintro _ _ ⟨a3, n3, H3, s3, rfl, rfl⟩
  iterate 5 refine at_s T rfl ?_
  refine at_end ?_
  refine at_sub [(4, (.int .i64 p4)), (11, (.pointer (some ⟨b2, 0, none⟩))), (12, (.slice a3 (List.length v2.1) n3)), (13, (.int .i64 v2.2))] ⟨rfl, rfl, rfl, rfl, trivial⟩ ?_
  refine at_then ?_
  refine at_seq ?_
  refine at_region_q mix (by kernel_rfl) ?_
  refine atq_s T rfl ?_
  refine atq_v rfl rfl rfl (g_load T rfl rfl rfl rfl (in_var (j := 2) rfl rfl)) ?_
  iterate 2 refine atq_s T rfl ?_
  refine atq_v rfl rfl rfl (g_load T rfl rfl rfl rfl (in_var (j := 2) rfl rfl)) ?_
  iterate 2 refine atq_s T rfl ?_
  obtain ⟨v3, V3, H⟩ := bind_e H
  refine atq_c rfl rfl rfl rfl rfl rfl has17 rfl (ref1_Within.c p4 0 (w64 ((List.length v1.C : Int) - 1)) v3 _ V3) ?_
  obtain ⟨c4, H⟩ := chk_e H
  obtain ⟨q4, o4, e4⟩ := s1.r.addr c4.1 c4.2
  refine atq_v rfl rfl rfl (g_index T rfl rfl rfl rfl rfl e4 c4.1 c4.2) ?_
  refine atq_v rfl rfl rfl (g_load T rfl rfl rfl rfl (in_elem1 (k := (Fl.int .u8)) (own_of s1 (j := 1) rfl) e4 c4 0 rfl)) ?_
  refine atq_s T rfl ?_
  refine atq_end ?_
  refine at_sub [(11, (.pointer (some ⟨b2, 0, none⟩))), (12, (.slice a3 (List.length v2.1) n3)), (13, (.int .i64 v2.2)), (14, (.int .u8 (rd v1.C v3)))] ⟨rfl, rfl, rfl, rfl, trivial⟩ ?_
  refine at_then ?_
  refine at_seq ?_
  refine at_region [0, 1, 2, 3] rfl ?_
  refine at_v rfl (g_loadA T (cs := [(.int .i64 v1.W), (.int .i64 v1.H), (.slice a1 (List.length v1.C) n1)]) rfl rfl rfl rfl rfl rfl (in_varA (j := 2) rfl rfl)) ?_
  obtain ⟨v4, V5, H⟩ := bind_e H
  refine at_cons (at_cR (ref1_OwnTile.R v4) [] [] rfl rfl rfl rfl has18 rfl rfl (ref1_OwnTile.c v1 v4 _ V5 (own_of s1 (j := 1) rfl) s1.cap_le) ?_)
  rintro _ _ ⟨a5, n5, H5, s5, rfl, rfl⟩
  refine at_cons (at_al T [(.int .i64 0), (.int .i64 0), (.slice none 0 0)] rfl rfl rfl rfl (fun b6 => ?_))
  refine at_cons (at_st T 5 [(.int .i64 v4.W), (.int .i64 v4.H), (.slice a5 (List.length v4.C) n5)] rfl rfl rfl rfl rfl rfl rfl rfl rfl rfl ?_)
  refine at_end ?_
  refine at_sub [(11, (.pointer (some ⟨b2, 0, none⟩))), (12, (.slice a3 (List.length v2.1) n3)), (13, (.int .i64 v2.2)), (14, (.int .u8 (rd v1.C v3))), (15, (.pointer (some ⟨b6, 0, none⟩)))] ⟨rfl, rfl, rfl, rfl, rfl, trivial⟩ ?_
  refine at_then ?_
  refine at_seq ?_
  refine at_seq ?_
  refine at_region [0] rfl ?_
  refine at_s T rfl ?_
  refine at_end ?_
  refine at_sub [(11, (.pointer (some ⟨b2, 0, none⟩))), (12, (.slice a3 (List.length v2.1) n3)), (13, (.int .i64 v2.2)), (14, (.int .u8 (rd v1.C v3))), (15, (.pointer (some ⟨b6, 0, none⟩))), (16, (.int .i64 0))] ⟨rfl, rfl, rfl, rfl, rfl, rfl, trivial⟩ ?_
  refine at_then ?_
  refine at_block ?_
  refine at_loopL (σ := Nat × List Int × Int × Option Addr × Nat × Hp) (fun ⟨k9, x7, x8, a8, n8, H8⟩ => law3_PackLeast.l0 k9 v1 v2 v3 v4 x7 x8 = some r ∧ SliceO (Fl.int .u8) 5 x7 a8 n8 H8) (fun ⟨k9, x7, x8, a8, n8, H8⟩ => [(11, (.pointer (some ⟨b2, 0, none⟩))), (12, (.slice a3 (List.length v2.1) n3)), (13, (.int .i64 v2.2)), (14, (.int .u8 (rd v1.C v3))), (15, (.pointer (some ⟨b6, 0, none⟩))), (16, (.int .i64 x8))]) (fun ⟨k9, x7, x8, a8, n8, H8⟩ => [F, [(b2, Obj.cells #[(.int .i64 v1.W), (.int .i64 v1.H), (.slice a1 (List.length v1.C) n1)] 24 (0, 0))], H1, H3, [(b6, Obj.cells #[(.int .i64 v4.W), (.int .i64 v4.H), (.slice a8 (List.length x7) n8)] 24 (0, 0))], H8]) (fun s => s.1) (fuel, v4.C, 0, a5, n5, H5) [0, 1, 0, 0, 1, 0] ⟨H, s5⟩ ⟨rfl, rfl, rfl, rfl, rfl, rfl, trivial⟩ rfl ?_
  rintro ⟨k9, x7, x8, a8, n8, H8⟩ ⟨Z6, s8⟩
  replace Z6 : law3_PackLeast.l0 k9 v1 v2 v3 v4 x7 x8 = some r := Z6
  rcases k9 with _ | k9
  · rw [law3_PackLeast.l0] at Z6; cases Z6
  · rw [law3_PackLeast.l0] at Z6
    refine at_seq ?_
    refine at_seq ?_
    refine at_region [0, 1, 2, 3, 4] rfl ?_
    iterate 2 refine at_s T rfl ?_
    refine at_v rfl (g_load T rfl rfl rfl rfl (in_var (j := 4) rfl rfl)) ?_
    iterate 2 refine at_s T rfl ?_
    refine at_end ?_
    refine at_sub [(11, (.pointer (some ⟨b2, 0, none⟩))), (12, (.slice a3 (List.length v2.1) n3)), (13, (.int .i64 v2.2)), (14, (.int .u8 (rd v1.C v3))), (15, (.pointer (some ⟨b6, 0, none⟩))), (16, (.int .i64 x8)), (46, (.bool (decide (x8 < (List.length x7 : Int)))))] ⟨rfl, rfl, rfl, rfl, rfl, rfl, rfl, trivial⟩ ?_
    refine at_then ?_
    refine at_cond rfl (fun c7 => ?_) (fun c7 => ?_)
    · replace Z6 := if_t (of_decide_eq_true c7) Z6
      refine at_skip ?_
      refine at_then ?_
      refine at_seq ?_
      refine at_block ?_
      refine at_region [0, 1, 2, 3, 4, 5] rfl ?_
      refine at_s T rfl ?_
      refine at_v rfl (g_load T rfl rfl rfl rfl (in_var (j := 4) rfl rfl)) ?_
      iterate 2 refine at_s T rfl ?_
      obtain ⟨c8, Z6⟩ := chk_e Z6
      obtain ⟨q9, o9, e9⟩ := s8.r.addr c8.1 c8.2
      refine at_v rfl (g_index T rfl rfl rfl rfl rfl e9 c8.1 c8.2) ?_
      refine at_cons (at_se (k := (Fl.int .u8)) T 5 0 (rd v1.C v3) rfl rfl rfl rfl rfl rfl s8 e9 c8 rfl rfl rfl (fun H10 s10 => ?_))
      refine at_to [(11, (.pointer (some ⟨b2, 0, none⟩))), (12, (.slice a3 (List.length v2.1) n3)), (13, (.int .i64 v2.2)), (14, (.int .u8 (rd v1.C v3))), (15, (.pointer (some ⟨b6, 0, none⟩))), (16, (.int .i64 x8))] [0, 0, 0, 0, 0, 0] [F, [(b2, Obj.cells #[(.int .i64 v1.W), (.int .i64 v1.H), (.slice a1 (List.length v1.C) n1)] 24 (0, 0))], H1, H3, [(b6, Obj.cells #[(.int .i64 v4.W), (.int .i64 v4.H), (.slice a8 (List.length (List.set x7 (Int.toNat x8) (rd v1.C v3))) n8)] 24 (0, 0))], H10] ⟨rfl, rfl, rfl, rfl, rfl, rfl, trivial⟩ (by first | rfl | (simp only [List.length_set]; rfl)) ?_
      refine at_end ?_
      refine at_sub [(11, (.pointer (some ⟨b2, 0, none⟩))), (12, (.slice a3 (List.length v2.1) n3)), (13, (.int .i64 v2.2)), (14, (.int .u8 (rd v1.C v3))), (15, (.pointer (some ⟨b6, 0, none⟩))), (16, (.int .i64 x8))] ⟨rfl, rfl, rfl, rfl, rfl, rfl, trivial⟩ ?_
      refine at_nb ?_
      refine at_then ?_
      refine at_region [0, 1, 2] rfl ?_
      iterate 3 refine at_s T rfl ?_
      refine at_end ?_
      refine at_sub [(11, (.pointer (some ⟨b2, 0, none⟩))), (12, (.slice a3 (List.length v2.1) n3)), (13, (.int .i64 v2.2)), (14, (.int .u8 (rd v1.C v3))), (15, (.pointer (some ⟨b6, 0, none⟩))), (16, (.int .i64 (w64 (x8 + 1))))] ⟨rfl, rfl, rfl, rfl, rfl, rfl, trivial⟩ ?_
      refine at_then ?_
      exact at_roundL (k9, (List.set x7 (Int.toNat x8) (rd v1.C v3)), (w64 (x8 + 1)), a8, n8, H10) [0, 0, 0, 0, 0, 0] ⟨Z6, s10⟩ (Nat.lt_succ_self _) ⟨rfl, rfl, rfl, rfl, rfl, rfl, trivial⟩ rfl
    · replace Z6 := if_f (of_decide_eq_false c7) Z6
      refine at_exit ?_
      refine at_xt ?_
      refine at_xt ?_
      refine at_xb ?_
      refine at_then ?_
      refine at_seq ?_
      refine at_region [0, 1, 2, 3, 4, 5, 6] rfl ?_
      refine at_v rfl (g_loadA T (cs := [(.int .i64 v4.W), (.int .i64 v4.H), (.slice a8 (List.length x7) n8)]) rfl rfl rfl rfl rfl rfl (in_varA (j := 4) rfl rfl)) ?_
      obtain ⟨v10, V9, Z6⟩ := bind_e Z6
      refine at_cons (at_cR (pack_Put.R v10) [] [] rfl rfl rfl rfl has12 rfl rfl (pack_Put.c (api_Tile.mk v4.W v4.H x7) v10 _ V9 (own_of s8 (j := 5) rfl) s8.cap_le) ?_)
      rintro _ _ ⟨a11, n11, H11, s11, rfl, rfl⟩
      iterate 5 refine at_s T rfl ?_
      refine at_end ?_
      refine at_sub [(11, (.pointer (some ⟨b2, 0, none⟩))), (12, (.slice a3 (List.length v2.1) n3)), (13, (.int .i64 v2.2)), (14, (.int .u8 (rd v1.C v3))), (15, (.pointer (some ⟨b6, 0, none⟩))), (17, (.slice a11 (List.length v10.1) n11)), (18, (.int .i64 v10.2))] ⟨rfl, rfl, rfl, rfl, rfl, rfl, rfl, trivial⟩ ?_
      refine at_then ?_
      obtain ⟨z12, Z10, Z6⟩ := bind_e Z6
      refine at_seq_mid (σ := Bool) (fun x11 => x11 = z12) (fun x11 => [(10, (.bool x11))]) (fun x11 => [F]) ?_ ?_
      · refine at_region_m [[], [0], [0, 1], [0, 1, 2], [0, 1, 2, 3], [0, 1, 2, 3, 4], [0, 1, 2, 3, 4, 5], [0, 1, 2, 3, 4, 5, 6], [0, 1, 2, 3, 4, 5, 6, 7], [0, 1, 2, 3, 4, 5, 6, 7, 8], [0, 1, 2, 3, 4, 5, 6, 7, 8, 9], [0, 1, 2, 3, 4, 5, 6, 7, 8, 9, 10], [0, 1, 2, 3, 4, 5, 6, 7, 8, 9], [0, 1, 2, 3, 4, 5, 6, 7, 8, 9, 12], [0, 1, 2, 3, 4, 5, 6, 7, 8, 9, 12, 13], [0, 1, 2, 3, 4, 5, 6, 7, 8, 9, 12, 13, 14], [0, 1, 2, 3, 4, 5, 6, 7, 8, 9, 10, 11, 12, 13, 14, 15], [0, 1, 2, 3, 4, 5, 6, 7, 8, 9, 10, 11, 12, 13, 14, 15, 16], [0, 1, 2, 3, 4, 5, 6, 7, 8, 9, 10, 11, 12, 13, 14, 15, 16, 17], [0, 1, 2, 3, 4, 5, 6, 7, 8, 9, 10, 11, 12, 13, 14, 15, 16, 17, 18], [0, 1, 2, 3, 4, 5, 6, 7, 8, 9, 10, 11, 12, 13, 14, 15, 16, 17, 18, 19], [0, 1, 2, 3, 4, 5, 6, 7, 8, 9, 10, 11, 12, 13, 14, 15, 16, 17, 18, 19, 20], [0, 1, 2, 3, 4, 5, 6, 7, 8, 9, 10, 11, 12, 13, 14, 15, 16, 17, 18, 19, 20, 21], [0, 1, 2, 3, 4, 5, 6, 7, 8, 9, 10, 11, 12, 13, 14, 15, 16, 17, 18, 19, 20, 21, 22], [0, 1, 2, 3, 4, 5, 6, 7, 8, 9, 10, 11, 12, 13, 14, 15, 16, 17, 18, 19, 20, 21, 22, 23], [0, 1, 2, 3, 4, 5, 6, 7, 8, 9, 10, 11, 12, 13, 14, 15, 16, 17, 18, 19, 20, 21, 22, 23], [0, 1, 2, 3, 4, 5, 6, 7, 8, 9, 10, 11, 12, 13, 14, 15, 16, 17, 18, 19, 20, 21, 22, 23, 25], [0, 1, 2, 3, 4, 5, 6, 7, 8, 9, 10, 11, 12, 13, 14, 15, 16, 17, 18, 19, 20, 21, 22, 23, 24, 25, 26], [0, 1, 2, 3, 4, 5, 6, 7, 8, 9, 10, 11, 12, 13, 14, 15, 16, 17, 18, 19, 20, 21, 22, 23, 24, 25, 26, 27], [0, 1, 2, 3, 4, 5, 6, 7, 8, 9, 10, 11, 12, 13, 14, 15, 16, 17, 18, 19, 20, 21, 22, 23, 24, 25, 26, 27, 28], [0, 1, 2, 3, 4, 5, 6, 7, 8, 9, 10, 11, 12, 13, 14, 15, 16, 17, 18, 19, 20, 21, 22, 23, 24, 25, 26, 27, 28, 29], [0, 1, 2, 3, 4, 5, 6, 7, 8, 9, 10, 11, 12, 13, 14, 15, 16, 17, 18, 19, 20, 21, 22, 23, 24, 25, 26, 27, 28, 29, 30], [0, 1, 2, 3, 4, 5, 6, 7, 8, 9, 10, 11, 12, 13, 14, 15, 16, 17, 18, 19, 20, 21, 22, 23, 24, 25, 26, 27, 28, 29, 30, 31], [0, 1, 2, 3, 4, 5, 6, 7, 8, 9, 10, 11, 12, 13, 14, 15, 16, 17, 18, 19, 20, 21, 22, 23, 24, 25, 26, 27, 28, 29, 30, 31, 32], [0, 1, 2, 3, 4, 5, 6, 7, 8, 9, 10, 11, 12, 13, 14, 15, 16, 17, 18, 19, 20, 21, 22, 23, 24, 25, 26, 27, 28, 29, 30, 31, 32, 33], [0, 1, 2, 3, 4, 5, 6, 7, 8, 9, 10, 11, 12, 13, 14, 15, 16, 17, 18, 19, 20, 21, 22, 23, 24, 25, 26, 27, 28, 29, 30, 31, 32, 33, 34], [0, 1, 2, 3, 4, 5, 6, 7, 8, 9, 10, 11, 12, 13, 14, 15, 16, 17, 18, 19, 20, 21, 22, 23, 24, 25, 26, 27, 28, 29, 30, 31, 32, 33, 34, 35], [0, 1, 2, 3, 4, 5, 6, 7, 8, 9, 10, 11, 12, 13, 14, 15, 16, 17, 18, 19, 20, 21, 22, 23, 24, 25, 26, 27, 28, 29, 30, 31, 32, 33, 34, 35, 36], [0, 1, 2, 3, 4, 5, 6, 7, 8, 9, 10, 11, 12, 13, 14, 15, 16, 17, 18, 19, 20, 21, 22, 23, 24, 25, 26, 27, 28, 29, 30, 31, 32, 33, 34, 35, 36, 37], [0, 1, 2, 3, 4, 5, 6, 7, 8, 9, 10, 11, 12, 13, 14, 15, 16, 17, 18, 19, 20, 21, 22, 23, 24, 25, 26, 27, 28, 29, 30, 31, 32, 33, 34, 35, 36, 37, 38], [0, 1, 2, 3, 4, 5, 6, 7, 8, 9, 10, 11, 12, 13, 14, 15, 16, 17, 18, 19, 20, 21, 22, 23, 24, 25, 26, 27, 28, 29, 30, 31, 32, 33, 34, 35, 36, 37, 38, 39], [0, 1, 2, 3, 4, 5, 6, 7, 8, 9, 10, 11, 12, 13, 14, 15, 16, 17, 18, 19, 20, 21, 22, 23, 24, 25, 26, 27, 28, 29, 30, 31, 32, 33, 34, 35, 36, 37, 38, 39, 40], [0, 1, 2, 3, 4, 5, 6, 7, 8, 9, 10, 11, 12, 13, 14, 15, 16, 17, 18, 19, 20, 21, 22, 23, 24, 25, 26, 27, 28, 29, 30, 31, 32, 33, 34, 35, 36, 37, 38, 39, 40, 41], [0, 1, 2, 3, 4, 5, 6, 7, 8, 9, 10, 11, 12, 13, 14, 15, 16, 17, 18, 19, 20, 21, 22, 23, 24, 25, 26, 27, 28, 29, 30, 31, 32, 33, 34, 35, 36, 37, 38, 39, 40, 41, 42], [0, 1, 2, 3, 4, 5, 6, 7, 8, 9, 10, 11, 12, 13, 14, 15, 16, 17, 18, 19, 20, 21, 22, 23, 24, 25, 26, 27, 28, 29, 30, 31, 32, 33, 34, 35, 36, 37, 38, 39], [0, 1, 2, 3, 4, 5, 6, 7, 8, 9, 10, 11, 12, 13, 14, 15, 16, 17, 18, 19, 20, 21, 22, 23, 24, 25, 26, 27, 28, 29, 30, 31, 32, 33, 34, 35, 36, 37, 38, 39, 44], [0, 1, 2, 3, 4, 5, 6, 7, 8, 9, 10, 11, 12, 13, 14, 15, 16, 17, 18, 19, 20, 21, 22, 23, 24, 25, 26, 27, 28, 29, 30, 31, 32, 33, 34, 35, 36, 37, 38, 39, 40, 41, 42, 43, 44, 45], [0, 1, 2, 3, 4, 5, 6, 7, 8, 9, 10, 11, 12, 13, 14, 15, 16, 17, 18, 19, 20, 21, 22, 23, 24, 25, 26, 27, 28, 29, 30, 31, 32, 33, 34, 35, 36, 37, 38, 39, 40, 41, 42, 43, 44, 45, 46], [0, 1, 2, 3, 4, 5, 6, 7, 8, 9, 10, 11, 12, 13, 14, 15, 16, 17, 18, 19, 20, 21, 22, 23, 24, 25, 26, 27, 28, 29, 30, 31, 32, 33, 34, 35, 36, 37, 38, 39, 40, 41, 42, 43, 44, 45, 46, 47]] [] [F, [(b2, Obj.cells #[(.int .i64 v1.W), (.int .i64 v1.H), (.slice a1 (List.length v1.C) n1)] 24 (0, 0))], H1, H3, [(b6, Obj.cells #[(.int .i64 v4.W), (.int .i64 v4.H), (.slice a8 (List.length x7) n8)] 24 (0, 0))], H8, H11] mix (by kernel_rfl) (by repeat first | exact pf_body | refine pf_then ?_ | refine pf_block ?_) (fun hg pf => ?_)
        refine atm_one 0 (by kernel_rfl) ?_
        obtain ⟨v13, V11, Z10⟩ := bind_e Z10
        refine at_c (B := fun _ => []) [] rfl rfl rfl rfl has10 rfl rfl (law3_told.c  v13 _ V11) (fun _ => ?_)
        refine atm_next (still_o [0, 0, 0, 0, 0, 0, 0] rfl) ?_
        refine atm_s T 1 hg pf (by kernel_rfl) (still_o [0, 0, 0, 0, 0, 0, 0] rfl) rfl ?_
        refine at_case (s := 60) rfl (fun c12 => ?_) (fun c12 => ?_)
        · replace Z10 := if_t c12 Z10
          refine atm_s T 2 hg pf (by kernel_rfl) (still_o [0, 0, 0, 0, 0, 0, 0] rfl) rfl ?_
          refine atm_s T 3 hg pf (by kernel_rfl) (still_o [0, 0, 0, 0, 0, 0, 0] rfl) rfl ?_
          refine atm_s T 4 hg pf (by kernel_rfl) (still_o [0, 0, 0, 0, 0, 0, 0] rfl) rfl ?_
          refine atm_s T 5 hg pf (by kernel_rfl) (still_o [0, 0, 0, 0, 0, 0, 0] rfl) rfl ?_
          refine at_case (s := 64) rfl (fun c13 => ?_) (fun c13 => ?_)
          · replace Z10 := if_t c13 Z10
            refine atm_s T 6 hg pf (by kernel_rfl) (still_o [0, 0, 0, 0, 0, 0, 0] rfl) rfl ?_
            refine atm_s T 7 hg pf (by kernel_rfl) (still_o [0, 0, 0, 0, 0, 0, 0] rfl) rfl ?_
            refine atm_s T 8 hg pf (by kernel_rfl) (still_o [0, 0, 0, 0, 0, 0, 0] rfl) rfl ?_
            refine atm_s T 9 hg pf (by kernel_rfl) (still_o [0, 0, 0, 0, 0, 0, 0] rfl) rfl ?_
            refine at_case (s := 68) rfl (fun c14 => ?_) (fun c14 => ?_)
            · replace Z10 := if_t c14 Z10
              refine atm_s T 10 hg pf (by kernel_rfl) (still_o [0, 0, 0, 0, 0, 0, 0] rfl) rfl ?_
              refine atm_s T 11 hg pf (by kernel_rfl) (still_o [0, 0, 0, 0, 0, 0, 0] rfl) rfl ?_
              refine atm_s T 12 hg pf (by kernel_rfl) (still_o [0, 0, 0, 0, 0, 0, 0] rfl) rfl ?_
              refine atm_v 13 hg pf (by kernel_rfl) (still_o [0, 0, 0, 0, 0, 0, 0] rfl) rfl rfl (g_load T rfl rfl rfl rfl (in_var (j := 1) rfl rfl)) ?_
              refine atm_s T 14 hg pf (by kernel_rfl) (still_o [0, 0, 0, 0, 0, 0, 0] rfl) rfl ?_
              refine atm_s T 15 hg pf (by kernel_rfl) (still_o [0, 0, 0, 0, 0, 0, 0] rfl) rfl ?_
              refine atm_s T 16 hg pf (by kernel_rfl) (still_o [0, 0, 0, 0, 0, 0, 0] rfl) rfl ?_
              refine atm_s T 17 hg pf (by kernel_rfl) (still_o [0, 0, 0, 0, 0, 0, 0] rfl) rfl ?_
              refine atm_s T 18 hg pf (by kernel_rfl) (still_o [0, 0, 0, 0, 0, 0, 0] rfl) rfl ?_
              refine at_case (s := 77) rfl (fun c15 => ?_) (fun c15 => ?_)
              · replace Z10 := if_t (of_decide_eq_true c15) Z10
                refine atm_s T 19 hg pf (by kernel_rfl) (still_o [0, 0, 0, 0, 0, 0, 0] rfl) rfl ?_
                refine atm_s T 20 hg pf (by kernel_rfl) (still_o [0, 0, 0, 0, 0, 0, 0] rfl) rfl ?_
                refine atm_s T 21 hg pf (by kernel_rfl) (still_o [0, 0, 0, 0, 0, 0, 0] rfl) rfl ?_
                refine atm_s T 22 hg pf (by kernel_rfl) (still_o [0, 0, 0, 0, 0, 0, 0] rfl) rfl ?_
                refine atm_s T 23 hg pf (by kernel_rfl) (still_o [0, 0, 0, 0, 0, 0, 0] rfl) rfl ?_
                refine at_case (s := 82) rfl (fun c16 => ?_) (fun c16 => ?_)
                · replace Z10 := if_t (of_decide_eq_true c16) Z10
                  refine atm_s T 24 hg pf (by kernel_rfl) (still_o [0, 0, 0, 0, 0, 0, 0] rfl) rfl ?_
                  refine atm_s T 25 hg pf (by kernel_rfl) (still_o [0, 0, 0, 0, 0, 0, 0] rfl) rfl ?_
                  refine atm_one 26 (by kernel_rfl) ?_
                  refine at_bs (k := (Fl.int .u8)) T [0, (rd v1.C v3)] rfl rfl rfl rfl rfl rfl rfl rfl rfl (fun a12 H12 s12 => ?_)
                  refine atm_next (still_o [0, 0, 0, 0, 0, 0, 0] rfl) ?_
                  refine atm_one 27 (by kernel_rfl) ?_
                  obtain ⟨v14, V17, Z10⟩ := bind_e Z10
                  refine at_c (B := fun _ => []) [] rfl rfl rfl rfl has16 rfl rfl (ref1_Bytes.c v10.1 [0, (rd v1.C v3)] v14 _ V17 (own_of s11 (j := 6) rfl) s11.cap_le (own_of s12 (j := 7) rfl) s12.cap_le) (fun _ => ?_)
                  refine atm_next (still_o [0, 0, 0, 0, 0, 0, 0] rfl) ?_
                  refine atm_s T 28 hg pf (by kernel_rfl) (still_o [0, 0, 0, 0, 0, 0, 0] rfl) rfl ?_
                  refine atm_s T 29 hg pf (by kernel_rfl) (still_o [0, 0, 0, 0, 0, 0, 0] rfl) rfl ?_
                  refine at_case (s := 88) rfl (fun c18 => ?_) (fun c18 => ?_)
                  · replace Z10 := if_t c18 Z10
                    refine atm_v 30 hg pf (by kernel_rfl) (still_o [0, 0, 0, 0, 0, 0, 0] rfl) rfl rfl (g_loadA T (cs := [(.int .i64 v4.W), (.int .i64 v4.H), (.slice a8 (List.length x7) n8)]) rfl rfl rfl rfl rfl rfl (in_varA (j := 4) rfl rfl)) ?_
                    refine atm_one 31 (by kernel_rfl) ?_
                    obtain ⟨v15, V19, Z10⟩ := bind_e Z10
                    refine at_c (B := fun _ => []) [] rfl rfl rfl rfl has14 rfl rfl (pack_Form.c (api_Tile.mk v4.W v4.H x7) v15 _ V19 (own_of s8 (j := 5) rfl) s8.cap_le) (fun _ => ?_)
                    refine atm_next (still_o [0, 0, 0, 0, 0, 0, 0] rfl) ?_
                    refine atm_s T 32 hg pf (by kernel_rfl) (still_o [0, 0, 0, 0, 0, 0, 0] rfl) rfl ?_
                    refine atm_s T 33 hg pf (by kernel_rfl) (still_o [0, 0, 0, 0, 0, 0, 0] rfl) rfl ?_
                    refine atm_s T 34 hg pf (by kernel_rfl) (still_o [0, 0, 0, 0, 0, 0, 0] rfl) rfl ?_
                    refine at_case (s := 93) rfl (fun c20 => ?_) (fun c20 => ?_)
                    · replace Z10 := if_t c20 Z10
                      refine atm_s T 35 hg pf (by kernel_rfl) (still_o [0, 0, 0, 0, 0, 0, 0] rfl) rfl ?_
                      refine atm_s T 36 hg pf (by kernel_rfl) (still_o [0, 0, 0, 0, 0, 0, 0] rfl) rfl ?_
                      refine atm_s T 37 hg pf (by kernel_rfl) (still_o [0, 0, 0, 0, 0, 0, 0] rfl) rfl ?_
                      refine atm_s T 38 hg pf (by kernel_rfl) (still_o [0, 0, 0, 0, 0, 0, 0] rfl) rfl ?_
                      refine atm_s T 39 hg pf (by kernel_rfl) (still_o [0, 0, 0, 0, 0, 0, 0] rfl) rfl ?_
                      refine at_case (s := 98) rfl (fun c21 => ?_) (fun c21 => ?_)
                      · replace Z10 := if_t (of_decide_eq_true c21) Z10
                        refine atm_s T 40 hg pf (by kernel_rfl) (still_o [0, 0, 0, 0, 0, 0, 0] rfl) rfl ?_
                        obtain ⟨c22, Z10⟩ := chk_e Z10
                        obtain ⟨q13, o13, e13⟩ := s3.r.addr c22.1 c22.2
                        refine atm_v 41 hg pf (by kernel_rfl) (still_o [0, 0, 0, 0, 0, 0, 0] rfl) rfl rfl (g_index T rfl rfl rfl rfl rfl e13 c22.1 c22.2) ?_
                        refine atm_v 42 hg pf (by kernel_rfl) (still_o [0, 0, 0, 0, 0, 0, 0] rfl) rfl rfl (g_load T rfl rfl rfl rfl (in_elem1 (k := (Fl.int .u8)) (own_of s3 (j := 3) rfl) e13 c22 0 rfl)) ?_
                        refine atm_s T 43 hg pf (by kernel_rfl) (still_o [0, 0, 0, 0, 0, 0, 0] rfl) rfl ?_
                        refine atm_v 44 hg pf (by kernel_rfl) (still_o [0, 0, 0, 0, 0, 0, 0] rfl) rfl rfl (g_loadA T (cs := [(.int .i64 v1.W), (.int .i64 v1.H), (.slice a1 (List.length v1.C) n1)]) rfl rfl rfl rfl rfl rfl (in_varA (j := 1) rfl rfl)) ?_
                        refine atm_one 45 (by kernel_rfl) ?_
                        obtain ⟨v16, V23, Z10⟩ := bind_e Z10
                        refine at_c (B := fun _ => []) [] rfl rfl rfl rfl has14 rfl rfl (pack_Form.c v1 v16 _ V23 (own_of s1 (j := 2) rfl) s1.cap_le) (fun _ => ?_)
                        refine atm_next (still_o [0, 0, 0, 0, 0, 0, 0] rfl) ?_
                        refine atm_s T 46 hg pf (by kernel_rfl) (still_o [0, 0, 0, 0, 0, 0, 0] rfl) rfl ?_
                        refine atm_s T 47 hg pf (by kernel_rfl) (still_o [0, 0, 0, 0, 0, 0, 0] rfl) rfl ?_
                        refine atm_s T 48 hg pf (by kernel_rfl) (still_o [0, 0, 0, 0, 0, 0, 0] rfl) rfl ?_
                        refine atm_end (by kernel_rfl) ?_
                        refine at_to [(10, (.bool ((w64 (rd v2.1 0)) == v16)))] [0] [F] ⟨rfl, trivial⟩ rfl ?_
                        refine at_then ?_
                        obtain rfl := Option.some.inj Z10
                        exact at_mid ((w64 (rd v2.1 0)) == v16) [0] rfl ⟨rfl, trivial⟩ rfl
                      · replace Z10 := if_f (of_decide_eq_false c21) Z10
                        refine atm_s T 40 hg pf (by kernel_rfl) (still_o [0, 0, 0, 0, 0, 0, 0] rfl) rfl ?_
                        refine atm_s T 41 hg pf (by kernel_rfl) (still_o [0, 0, 0, 0, 0, 0, 0] rfl) rfl ?_
                        refine atm_s T 42 hg pf (by kernel_rfl) (still_o [0, 0, 0, 0, 0, 0, 0] rfl) rfl ?_
                        refine atm_s T 43 hg pf (by kernel_rfl) (still_o [0, 0, 0, 0, 0, 0, 0] rfl) rfl ?_
                        refine atm_s T 44 hg pf (by kernel_rfl) (still_o [0, 0, 0, 0, 0, 0, 0] rfl) rfl ?_
                        refine atm_s T 45 hg pf (by kernel_rfl) (still_o [0, 0, 0, 0, 0, 0, 0] rfl) rfl ?_
                        refine atm_s T 46 hg pf (by kernel_rfl) (still_o [0, 0, 0, 0, 0, 0, 0] rfl) rfl ?_
                        refine atm_s T 47 hg pf (by kernel_rfl) (still_o [0, 0, 0, 0, 0, 0, 0] rfl) rfl ?_
                        refine atm_s T 48 hg pf (by kernel_rfl) (still_o [0, 0, 0, 0, 0, 0, 0] rfl) rfl ?_
                        refine atm_end (by kernel_rfl) ?_
                        refine at_to [(10, (.bool false))] [0] [F] ⟨rfl, trivial⟩ rfl ?_
                        refine at_then ?_
                        obtain rfl := Option.some.inj Z10
                        exact at_mid false [0] rfl ⟨rfl, trivial⟩ rfl
                    · replace Z10 := if_f (bf c20) Z10
                      refine atm_s T 35 hg pf (by kernel_rfl) (still_o [0, 0, 0, 0, 0, 0, 0] rfl) rfl ?_
                      refine atm_s T 36 hg pf (by kernel_rfl) (still_o [0, 0, 0, 0, 0, 0, 0] rfl) rfl ?_
                      refine atm_s T 37 hg pf (by kernel_rfl) (still_o [0, 0, 0, 0, 0, 0, 0] rfl) rfl ?_
                      refine atm_s T 38 hg pf (by kernel_rfl) (still_o [0, 0, 0, 0, 0, 0, 0] rfl) rfl ?_
                      refine atm_s T 39 hg pf (by kernel_rfl) (still_o [0, 0, 0, 0, 0, 0, 0] rfl) rfl ?_
                      refine atm_s T 40 hg pf (by kernel_rfl) (still_o [0, 0, 0, 0, 0, 0, 0] rfl) rfl ?_
                      refine atm_s T 41 hg pf (by kernel_rfl) (still_o [0, 0, 0, 0, 0, 0, 0] rfl) rfl ?_
                      refine atm_s T 42 hg pf (by kernel_rfl) (still_o [0, 0, 0, 0, 0, 0, 0] rfl) rfl ?_
                      refine atm_s T 43 hg pf (by kernel_rfl) (still_o [0, 0, 0, 0, 0, 0, 0] rfl) rfl ?_
                      refine atm_s T 44 hg pf (by kernel_rfl) (still_o [0, 0, 0, 0, 0, 0, 0] rfl) rfl ?_
                      refine atm_s T 45 hg pf (by kernel_rfl) (still_o [0, 0, 0, 0, 0, 0, 0] rfl) rfl ?_
                      refine atm_s T 46 hg pf (by kernel_rfl) (still_o [0, 0, 0, 0, 0, 0, 0] rfl) rfl ?_
                      refine atm_s T 47 hg pf (by kernel_rfl) (still_o [0, 0, 0, 0, 0, 0, 0] rfl) rfl ?_
                      refine atm_s T 48 hg pf (by kernel_rfl) (still_o [0, 0, 0, 0, 0, 0, 0] rfl) rfl ?_
                      refine atm_end (by kernel_rfl) ?_
                      refine at_to [(10, (.bool false))] [0] [F] ⟨rfl, trivial⟩ rfl ?_
                      refine at_then ?_
                      obtain rfl := Option.some.inj Z10
                      exact at_mid false [0] rfl ⟨rfl, trivial⟩ rfl
                  · replace Z10 := if_f (bf c18) Z10
                    refine atm_s T 30 hg pf (by kernel_rfl) (still_o [0, 0, 0, 0, 0, 0, 0] rfl) rfl ?_
                    refine atm_s T 31 hg pf (by kernel_rfl) (still_o [0, 0, 0, 0, 0, 0, 0] rfl) rfl ?_
                    refine atm_s T 32 hg pf (by kernel_rfl) (still_o [0, 0, 0, 0, 0, 0, 0] rfl) rfl ?_
                    refine atm_s T 33 hg pf (by kernel_rfl) (still_o [0, 0, 0, 0, 0, 0, 0] rfl) rfl ?_
                    refine atm_s T 34 hg pf (by kernel_rfl) (still_o [0, 0, 0, 0, 0, 0, 0] rfl) rfl ?_
                    refine atm_s T 35 hg pf (by kernel_rfl) (still_o [0, 0, 0, 0, 0, 0, 0] rfl) rfl ?_
                    refine atm_s T 36 hg pf (by kernel_rfl) (still_o [0, 0, 0, 0, 0, 0, 0] rfl) rfl ?_
                    refine atm_s T 37 hg pf (by kernel_rfl) (still_o [0, 0, 0, 0, 0, 0, 0] rfl) rfl ?_
                    refine atm_s T 38 hg pf (by kernel_rfl) (still_o [0, 0, 0, 0, 0, 0, 0] rfl) rfl ?_
                    refine atm_s T 39 hg pf (by kernel_rfl) (still_o [0, 0, 0, 0, 0, 0, 0] rfl) rfl ?_
                    refine atm_s T 40 hg pf (by kernel_rfl) (still_o [0, 0, 0, 0, 0, 0, 0] rfl) rfl ?_
                    refine atm_s T 41 hg pf (by kernel_rfl) (still_o [0, 0, 0, 0, 0, 0, 0] rfl) rfl ?_
                    refine atm_s T 42 hg pf (by kernel_rfl) (still_o [0, 0, 0, 0, 0, 0, 0] rfl) rfl ?_
                    refine atm_s T 43 hg pf (by kernel_rfl) (still_o [0, 0, 0, 0, 0, 0, 0] rfl) rfl ?_
                    refine atm_s T 44 hg pf (by kernel_rfl) (still_o [0, 0, 0, 0, 0, 0, 0] rfl) rfl ?_
                    refine atm_s T 45 hg pf (by kernel_rfl) (still_o [0, 0, 0, 0, 0, 0, 0] rfl) rfl ?_
                    refine atm_s T 46 hg pf (by kernel_rfl) (still_o [0, 0, 0, 0, 0, 0, 0] rfl) rfl ?_
                    refine atm_s T 47 hg pf (by kernel_rfl) (still_o [0, 0, 0, 0, 0, 0, 0] rfl) rfl ?_
                    refine atm_s T 48 hg pf (by kernel_rfl) (still_o [0, 0, 0, 0, 0, 0, 0] rfl) rfl ?_
                    refine atm_end (by kernel_rfl) ?_
                    refine at_to [(10, (.bool false))] [0] [F] ⟨rfl, trivial⟩ rfl ?_
                    refine at_then ?_
                    obtain rfl := Option.some.inj Z10
                    exact at_mid false [0] rfl ⟨rfl, trivial⟩ rfl
                · replace Z10 := if_f (of_decide_eq_false c16) Z10
                  refine atm_s T 24 hg pf (by kernel_rfl) (still_o [0, 0, 0, 0, 0, 0, 0] rfl) rfl ?_
                  refine atm_s T 25 hg pf (by kernel_rfl) (still_o [0, 0, 0, 0, 0, 0, 0] rfl) rfl ?_
                  refine atm_s T 26 hg pf (by kernel_rfl) (still_o [0, 0, 0, 0, 0, 0, 0] rfl) rfl ?_
                  refine atm_s T 27 hg pf (by kernel_rfl) (still_o [0, 0, 0, 0, 0, 0, 0] rfl) rfl ?_
                  refine atm_s T 28 hg pf (by kernel_rfl) (still_o [0, 0, 0, 0, 0, 0, 0] rfl) rfl ?_
                  refine atm_s T 29 hg pf (by kernel_rfl) (still_o [0, 0, 0, 0, 0, 0, 0] rfl) rfl ?_
                  refine atm_s T 30 hg pf (by kernel_rfl) (still_o [0, 0, 0, 0, 0, 0, 0] rfl) rfl ?_
                  refine atm_s T 31 hg pf (by kernel_rfl) (still_o [0, 0, 0, 0, 0, 0, 0] rfl) rfl ?_
                  refine atm_s T 32 hg pf (by kernel_rfl) (still_o [0, 0, 0, 0, 0, 0, 0] rfl) rfl ?_
                  refine atm_s T 33 hg pf (by kernel_rfl) (still_o [0, 0, 0, 0, 0, 0, 0] rfl) rfl ?_
                  refine atm_s T 34 hg pf (by kernel_rfl) (still_o [0, 0, 0, 0, 0, 0, 0] rfl) rfl ?_
                  refine atm_s T 35 hg pf (by kernel_rfl) (still_o [0, 0, 0, 0, 0, 0, 0] rfl) rfl ?_
                  refine atm_s T 36 hg pf (by kernel_rfl) (still_o [0, 0, 0, 0, 0, 0, 0] rfl) rfl ?_
                  refine atm_s T 37 hg pf (by kernel_rfl) (still_o [0, 0, 0, 0, 0, 0, 0] rfl) rfl ?_
                  refine atm_s T 38 hg pf (by kernel_rfl) (still_o [0, 0, 0, 0, 0, 0, 0] rfl) rfl ?_
                  refine atm_s T 39 hg pf (by kernel_rfl) (still_o [0, 0, 0, 0, 0, 0, 0] rfl) rfl ?_
                  refine atm_s T 40 hg pf (by kernel_rfl) (still_o [0, 0, 0, 0, 0, 0, 0] rfl) rfl ?_
                  refine atm_s T 41 hg pf (by kernel_rfl) (still_o [0, 0, 0, 0, 0, 0, 0] rfl) rfl ?_
                  refine atm_s T 42 hg pf (by kernel_rfl) (still_o [0, 0, 0, 0, 0, 0, 0] rfl) rfl ?_
                  refine atm_s T 43 hg pf (by kernel_rfl) (still_o [0, 0, 0, 0, 0, 0, 0] rfl) rfl ?_
                  refine atm_s T 44 hg pf (by kernel_rfl) (still_o [0, 0, 0, 0, 0, 0, 0] rfl) rfl ?_
                  refine atm_s T 45 hg pf (by kernel_rfl) (still_o [0, 0, 0, 0, 0, 0, 0] rfl) rfl ?_
                  refine atm_s T 46 hg pf (by kernel_rfl) (still_o [0, 0, 0, 0, 0, 0, 0] rfl) rfl ?_
                  refine atm_s T 47 hg pf (by kernel_rfl) (still_o [0, 0, 0, 0, 0, 0, 0] rfl) rfl ?_
                  refine atm_s T 48 hg pf (by kernel_rfl) (still_o [0, 0, 0, 0, 0, 0, 0] rfl) rfl ?_
                  refine atm_end (by kernel_rfl) ?_
                  refine at_to [(10, (.bool false))] [0] [F] ⟨rfl, trivial⟩ rfl ?_
                  refine at_then ?_
                  obtain rfl := Option.some.inj Z10
                  exact at_mid false [0] rfl ⟨rfl, trivial⟩ rfl
              · replace Z10 := if_f (of_decide_eq_false c15) Z10
                refine atm_s T 19 hg pf (by kernel_rfl) (still_o [0, 0, 0, 0, 0, 0, 0] rfl) rfl ?_
                refine atm_s T 20 hg pf (by kernel_rfl) (still_o [0, 0, 0, 0, 0, 0, 0] rfl) rfl ?_
                refine atm_s T 21 hg pf (by kernel_rfl) (still_o [0, 0, 0, 0, 0, 0, 0] rfl) rfl ?_
                refine atm_s T 22 hg pf (by kernel_rfl) (still_o [0, 0, 0, 0, 0, 0, 0] rfl) rfl ?_
                refine atm_s T 23 hg pf (by kernel_rfl) (still_o [0, 0, 0, 0, 0, 0, 0] rfl) rfl ?_
                refine atm_s T 24 hg pf (by kernel_rfl) (still_o [0, 0, 0, 0, 0, 0, 0] rfl) rfl ?_
                refine atm_s T 25 hg pf (by kernel_rfl) (still_o [0, 0, 0, 0, 0, 0, 0] rfl) rfl ?_
                refine atm_s T 26 hg pf (by kernel_rfl) (still_o [0, 0, 0, 0, 0, 0, 0] rfl) rfl ?_
                refine atm_s T 27 hg pf (by kernel_rfl) (still_o [0, 0, 0, 0, 0, 0, 0] rfl) rfl ?_
                refine atm_s T 28 hg pf (by kernel_rfl) (still_o [0, 0, 0, 0, 0, 0, 0] rfl) rfl ?_
                refine atm_s T 29 hg pf (by kernel_rfl) (still_o [0, 0, 0, 0, 0, 0, 0] rfl) rfl ?_
                refine atm_s T 30 hg pf (by kernel_rfl) (still_o [0, 0, 0, 0, 0, 0, 0] rfl) rfl ?_
                refine atm_s T 31 hg pf (by kernel_rfl) (still_o [0, 0, 0, 0, 0, 0, 0] rfl) rfl ?_
                refine atm_s T 32 hg pf (by kernel_rfl) (still_o [0, 0, 0, 0, 0, 0, 0] rfl) rfl ?_
                refine atm_s T 33 hg pf (by kernel_rfl) (still_o [0, 0, 0, 0, 0, 0, 0] rfl) rfl ?_
                refine atm_s T 34 hg pf (by kernel_rfl) (still_o [0, 0, 0, 0, 0, 0, 0] rfl) rfl ?_
                refine atm_s T 35 hg pf (by kernel_rfl) (still_o [0, 0, 0, 0, 0, 0, 0] rfl) rfl ?_
                refine atm_s T 36 hg pf (by kernel_rfl) (still_o [0, 0, 0, 0, 0, 0, 0] rfl) rfl ?_
                refine atm_s T 37 hg pf (by kernel_rfl) (still_o [0, 0, 0, 0, 0, 0, 0] rfl) rfl ?_
                refine atm_s T 38 hg pf (by kernel_rfl) (still_o [0, 0, 0, 0, 0, 0, 0] rfl) rfl ?_
                refine atm_s T 39 hg pf (by kernel_rfl) (still_o [0, 0, 0, 0, 0, 0, 0] rfl) rfl ?_
                refine atm_s T 40 hg pf (by kernel_rfl) (still_o [0, 0, 0, 0, 0, 0, 0] rfl) rfl ?_
                refine atm_s T 41 hg pf (by kernel_rfl) (still_o [0, 0, 0, 0, 0, 0, 0] rfl) rfl ?_
                refine atm_s T 42 hg pf (by kernel_rfl) (still_o [0, 0, 0, 0, 0, 0, 0] rfl) rfl ?_
                refine atm_s T 43 hg pf (by kernel_rfl) (still_o [0, 0, 0, 0, 0, 0, 0] rfl) rfl ?_
                refine atm_s T 44 hg pf (by kernel_rfl) (still_o [0, 0, 0, 0, 0, 0, 0] rfl) rfl ?_
                refine atm_s T 45 hg pf (by kernel_rfl) (still_o [0, 0, 0, 0, 0, 0, 0] rfl) rfl ?_
                refine atm_s T 46 hg pf (by kernel_rfl) (still_o [0, 0, 0, 0, 0, 0, 0] rfl) rfl ?_
                refine atm_s T 47 hg pf (by kernel_rfl) (still_o [0, 0, 0, 0, 0, 0, 0] rfl) rfl ?_
                refine atm_s T 48 hg pf (by kernel_rfl) (still_o [0, 0, 0, 0, 0, 0, 0] rfl) rfl ?_
                refine atm_end (by kernel_rfl) ?_
                refine at_to [(10, (.bool false))] [0] [F] ⟨rfl, trivial⟩ rfl ?_
                refine at_then ?_
                obtain rfl := Option.some.inj Z10
                exact at_mid false [0] rfl ⟨rfl, trivial⟩ rfl
            · replace Z10 := if_f (bf c14) Z10
              refine atm_s T 10 hg pf (by kernel_rfl) (still_o [0, 0, 0, 0, 0, 0, 0] rfl) rfl ?_
              refine atm_s T 11 hg pf (by kernel_rfl) (still_o [0, 0, 0, 0, 0, 0, 0] rfl) rfl ?_
              refine atm_s T 12 hg pf (by kernel_rfl) (still_o [0, 0, 0, 0, 0, 0, 0] rfl) rfl ?_
              refine atm_s T 13 hg pf (by kernel_rfl) (still_o [0, 0, 0, 0, 0, 0, 0] rfl) rfl ?_
              refine atm_s T 14 hg pf (by kernel_rfl) (still_o [0, 0, 0, 0, 0, 0, 0] rfl) rfl ?_
              refine atm_s T 15 hg pf (by kernel_rfl) (still_o [0, 0, 0, 0, 0, 0, 0] rfl) rfl ?_
              refine atm_s T 16 hg pf (by kernel_rfl) (still_o [0, 0, 0, 0, 0, 0, 0] rfl) rfl ?_
              refine atm_s T 17 hg pf (by kernel_rfl) (still_o [0, 0, 0, 0, 0, 0, 0] rfl) rfl ?_
              refine atm_s T 18 hg pf (by kernel_rfl) (still_o [0, 0, 0, 0, 0, 0, 0] rfl) rfl ?_
              refine atm_s T 19 hg pf (by kernel_rfl) (still_o [0, 0, 0, 0, 0, 0, 0] rfl) rfl ?_
              refine atm_s T 20 hg pf (by kernel_rfl) (still_o [0, 0, 0, 0, 0, 0, 0] rfl) rfl ?_
              refine atm_s T 21 hg pf (by kernel_rfl) (still_o [0, 0, 0, 0, 0, 0, 0] rfl) rfl ?_
              refine atm_s T 22 hg pf (by kernel_rfl) (still_o [0, 0, 0, 0, 0, 0, 0] rfl) rfl ?_
              refine atm_s T 23 hg pf (by kernel_rfl) (still_o [0, 0, 0, 0, 0, 0, 0] rfl) rfl ?_
              refine atm_s T 24 hg pf (by kernel_rfl) (still_o [0, 0, 0, 0, 0, 0, 0] rfl) rfl ?_
              refine atm_s T 25 hg pf (by kernel_rfl) (still_o [0, 0, 0, 0, 0, 0, 0] rfl) rfl ?_
              refine atm_s T 26 hg pf (by kernel_rfl) (still_o [0, 0, 0, 0, 0, 0, 0] rfl) rfl ?_
              refine atm_s T 27 hg pf (by kernel_rfl) (still_o [0, 0, 0, 0, 0, 0, 0] rfl) rfl ?_
              refine atm_s T 28 hg pf (by kernel_rfl) (still_o [0, 0, 0, 0, 0, 0, 0] rfl) rfl ?_
              refine atm_s T 29 hg pf (by kernel_rfl) (still_o [0, 0, 0, 0, 0, 0, 0] rfl) rfl ?_
              refine atm_s T 30 hg pf (by kernel_rfl) (still_o [0, 0, 0, 0, 0, 0, 0] rfl) rfl ?_
              refine atm_s T 31 hg pf (by kernel_rfl) (still_o [0, 0, 0, 0, 0, 0, 0] rfl) rfl ?_
              refine atm_s T 32 hg pf (by kernel_rfl) (still_o [0, 0, 0, 0, 0, 0, 0] rfl) rfl ?_
              refine atm_s T 33 hg pf (by kernel_rfl) (still_o [0, 0, 0, 0, 0, 0, 0] rfl) rfl ?_
              refine atm_s T 34 hg pf (by kernel_rfl) (still_o [0, 0, 0, 0, 0, 0, 0] rfl) rfl ?_
              refine atm_s T 35 hg pf (by kernel_rfl) (still_o [0, 0, 0, 0, 0, 0, 0] rfl) rfl ?_
              refine atm_s T 36 hg pf (by kernel_rfl) (still_o [0, 0, 0, 0, 0, 0, 0] rfl) rfl ?_
              refine atm_s T 37 hg pf (by kernel_rfl) (still_o [0, 0, 0, 0, 0, 0, 0] rfl) rfl ?_
              refine atm_s T 38 hg pf (by kernel_rfl) (still_o [0, 0, 0, 0, 0, 0, 0] rfl) rfl ?_
              refine atm_s T 39 hg pf (by kernel_rfl) (still_o [0, 0, 0, 0, 0, 0, 0] rfl) rfl ?_
              refine atm_s T 40 hg pf (by kernel_rfl) (still_o [0, 0, 0, 0, 0, 0, 0] rfl) rfl ?_
              refine atm_s T 41 hg pf (by kernel_rfl) (still_o [0, 0, 0, 0, 0, 0, 0] rfl) rfl ?_
              refine atm_s T 42 hg pf (by kernel_rfl) (still_o [0, 0, 0, 0, 0, 0, 0] rfl) rfl ?_
              refine atm_s T 43 hg pf (by kernel_rfl) (still_o [0, 0, 0, 0, 0, 0, 0] rfl) rfl ?_
              refine atm_s T 44 hg pf (by kernel_rfl) (still_o [0, 0, 0, 0, 0, 0, 0] rfl) rfl ?_
              refine atm_s T 45 hg pf (by kernel_rfl) (still_o [0, 0, 0, 0, 0, 0, 0] rfl) rfl ?_
              refine atm_s T 46 hg pf (by kernel_rfl) (still_o [0, 0, 0, 0, 0, 0, 0] rfl) rfl ?_
              refine atm_s T 47 hg pf (by kernel_rfl) (still_o [0, 0, 0, 0, 0, 0, 0] rfl) rfl ?_
              refine atm_s T 48 hg pf (by kernel_rfl) (still_o [0, 0, 0, 0, 0, 0, 0] rfl) rfl ?_
              refine atm_end (by kernel_rfl) ?_
              refine at_to [(10, (.bool false))] [0] [F] ⟨rfl, trivial⟩ rfl ?_
              refine at_then ?_
              obtain rfl := Option.some.inj Z10
              exact at_mid false [0] rfl ⟨rfl, trivial⟩ rfl
          · replace Z10 := if_f (bf c13) Z10
            refine atm_s T 6 hg pf (by kernel_rfl) (still_o [0, 0, 0, 0, 0, 0, 0] rfl) rfl ?_
            refine atm_s T 7 hg pf (by kernel_rfl) (still_o [0, 0, 0, 0, 0, 0, 0] rfl) rfl ?_
            refine atm_s T 8 hg pf (by kernel_rfl) (still_o [0, 0, 0, 0, 0, 0, 0] rfl) rfl ?_
            refine atm_s T 9 hg pf (by kernel_rfl) (still_o [0, 0, 0, 0, 0, 0, 0] rfl) rfl ?_
            refine atm_s T 10 hg pf (by kernel_rfl) (still_o [0, 0, 0, 0, 0, 0, 0] rfl) rfl ?_
            refine atm_s T 11 hg pf (by kernel_rfl) (still_o [0, 0, 0, 0, 0, 0, 0] rfl) rfl ?_
            refine atm_s T 12 hg pf (by kernel_rfl) (still_o [0, 0, 0, 0, 0, 0, 0] rfl) rfl ?_
            refine atm_s T 13 hg pf (by kernel_rfl) (still_o [0, 0, 0, 0, 0, 0, 0] rfl) rfl ?_
            refine atm_s T 14 hg pf (by kernel_rfl) (still_o [0, 0, 0, 0, 0, 0, 0] rfl) rfl ?_
            refine atm_s T 15 hg pf (by kernel_rfl) (still_o [0, 0, 0, 0, 0, 0, 0] rfl) rfl ?_
            refine atm_s T 16 hg pf (by kernel_rfl) (still_o [0, 0, 0, 0, 0, 0, 0] rfl) rfl ?_
            refine atm_s T 17 hg pf (by kernel_rfl) (still_o [0, 0, 0, 0, 0, 0, 0] rfl) rfl ?_
            refine atm_s T 18 hg pf (by kernel_rfl) (still_o [0, 0, 0, 0, 0, 0, 0] rfl) rfl ?_
            refine atm_s T 19 hg pf (by kernel_rfl) (still_o [0, 0, 0, 0, 0, 0, 0] rfl) rfl ?_
            refine atm_s T 20 hg pf (by kernel_rfl) (still_o [0, 0, 0, 0, 0, 0, 0] rfl) rfl ?_
            refine atm_s T 21 hg pf (by kernel_rfl) (still_o [0, 0, 0, 0, 0, 0, 0] rfl) rfl ?_
            refine atm_s T 22 hg pf (by kernel_rfl) (still_o [0, 0, 0, 0, 0, 0, 0] rfl) rfl ?_
            refine atm_s T 23 hg pf (by kernel_rfl) (still_o [0, 0, 0, 0, 0, 0, 0] rfl) rfl ?_
            refine atm_s T 24 hg pf (by kernel_rfl) (still_o [0, 0, 0, 0, 0, 0, 0] rfl) rfl ?_
            refine atm_s T 25 hg pf (by kernel_rfl) (still_o [0, 0, 0, 0, 0, 0, 0] rfl) rfl ?_
            refine atm_s T 26 hg pf (by kernel_rfl) (still_o [0, 0, 0, 0, 0, 0, 0] rfl) rfl ?_
            refine atm_s T 27 hg pf (by kernel_rfl) (still_o [0, 0, 0, 0, 0, 0, 0] rfl) rfl ?_
            refine atm_s T 28 hg pf (by kernel_rfl) (still_o [0, 0, 0, 0, 0, 0, 0] rfl) rfl ?_
            refine atm_s T 29 hg pf (by kernel_rfl) (still_o [0, 0, 0, 0, 0, 0, 0] rfl) rfl ?_
            refine atm_s T 30 hg pf (by kernel_rfl) (still_o [0, 0, 0, 0, 0, 0, 0] rfl) rfl ?_
            refine atm_s T 31 hg pf (by kernel_rfl) (still_o [0, 0, 0, 0, 0, 0, 0] rfl) rfl ?_
            refine atm_s T 32 hg pf (by kernel_rfl) (still_o [0, 0, 0, 0, 0, 0, 0] rfl) rfl ?_
            refine atm_s T 33 hg pf (by kernel_rfl) (still_o [0, 0, 0, 0, 0, 0, 0] rfl) rfl ?_
            refine atm_s T 34 hg pf (by kernel_rfl) (still_o [0, 0, 0, 0, 0, 0, 0] rfl) rfl ?_
            refine atm_s T 35 hg pf (by kernel_rfl) (still_o [0, 0, 0, 0, 0, 0, 0] rfl) rfl ?_
            refine atm_s T 36 hg pf (by kernel_rfl) (still_o [0, 0, 0, 0, 0, 0, 0] rfl) rfl ?_
            refine atm_s T 37 hg pf (by kernel_rfl) (still_o [0, 0, 0, 0, 0, 0, 0] rfl) rfl ?_
            refine atm_s T 38 hg pf (by kernel_rfl) (still_o [0, 0, 0, 0, 0, 0, 0] rfl) rfl ?_
            refine atm_s T 39 hg pf (by kernel_rfl) (still_o [0, 0, 0, 0, 0, 0, 0] rfl) rfl ?_
            refine atm_s T 40 hg pf (by kernel_rfl) (still_o [0, 0, 0, 0, 0, 0, 0] rfl) rfl ?_
            refine atm_s T 41 hg pf (by kernel_rfl) (still_o [0, 0, 0, 0, 0, 0, 0] rfl) rfl ?_
            refine atm_s T 42 hg pf (by kernel_rfl) (still_o [0, 0, 0, 0, 0, 0, 0] rfl) rfl ?_
            refine atm_s T 43 hg pf (by kernel_rfl) (still_o [0, 0, 0, 0, 0, 0, 0] rfl) rfl ?_
            refine atm_s T 44 hg pf (by kernel_rfl) (still_o [0, 0, 0, 0, 0, 0, 0] rfl) rfl ?_
            refine atm_s T 45 hg pf (by kernel_rfl) (still_o [0, 0, 0, 0, 0, 0, 0] rfl) rfl ?_
            refine atm_s T 46 hg pf (by kernel_rfl) (still_o [0, 0, 0, 0, 0, 0, 0] rfl) rfl ?_
            refine atm_s T 47 hg pf (by kernel_rfl) (still_o [0, 0, 0, 0, 0, 0, 0] rfl) rfl ?_
            refine atm_s T 48 hg pf (by kernel_rfl) (still_o [0, 0, 0, 0, 0, 0, 0] rfl) rfl ?_
            refine atm_end (by kernel_rfl) ?_
            refine at_to [(10, (.bool false))] [0] [F] ⟨rfl, trivial⟩ rfl ?_
            refine at_then ?_
            obtain rfl := Option.some.inj Z10
            exact at_mid false [0] rfl ⟨rfl, trivial⟩ rfl
        · replace Z10 := if_f (bf c12) Z10
          refine atm_s T 2 hg pf (by kernel_rfl) (still_o [0, 0, 0, 0, 0, 0, 0] rfl) rfl ?_
          refine atm_s T 3 hg pf (by kernel_rfl) (still_o [0, 0, 0, 0, 0, 0, 0] rfl) rfl ?_
          refine atm_s T 4 hg pf (by kernel_rfl) (still_o [0, 0, 0, 0, 0, 0, 0] rfl) rfl ?_
          refine atm_s T 5 hg pf (by kernel_rfl) (still_o [0, 0, 0, 0, 0, 0, 0] rfl) rfl ?_
          refine atm_s T 6 hg pf (by kernel_rfl) (still_o [0, 0, 0, 0, 0, 0, 0] rfl) rfl ?_
          refine atm_s T 7 hg pf (by kernel_rfl) (still_o [0, 0, 0, 0, 0, 0, 0] rfl) rfl ?_
          refine atm_s T 8 hg pf (by kernel_rfl) (still_o [0, 0, 0, 0, 0, 0, 0] rfl) rfl ?_
          refine atm_s T 9 hg pf (by kernel_rfl) (still_o [0, 0, 0, 0, 0, 0, 0] rfl) rfl ?_
          refine atm_s T 10 hg pf (by kernel_rfl) (still_o [0, 0, 0, 0, 0, 0, 0] rfl) rfl ?_
          refine atm_s T 11 hg pf (by kernel_rfl) (still_o [0, 0, 0, 0, 0, 0, 0] rfl) rfl ?_
          refine atm_s T 12 hg pf (by kernel_rfl) (still_o [0, 0, 0, 0, 0, 0, 0] rfl) rfl ?_
          refine atm_s T 13 hg pf (by kernel_rfl) (still_o [0, 0, 0, 0, 0, 0, 0] rfl) rfl ?_
          refine atm_s T 14 hg pf (by kernel_rfl) (still_o [0, 0, 0, 0, 0, 0, 0] rfl) rfl ?_
          refine atm_s T 15 hg pf (by kernel_rfl) (still_o [0, 0, 0, 0, 0, 0, 0] rfl) rfl ?_
          refine atm_s T 16 hg pf (by kernel_rfl) (still_o [0, 0, 0, 0, 0, 0, 0] rfl) rfl ?_
          refine atm_s T 17 hg pf (by kernel_rfl) (still_o [0, 0, 0, 0, 0, 0, 0] rfl) rfl ?_
          refine atm_s T 18 hg pf (by kernel_rfl) (still_o [0, 0, 0, 0, 0, 0, 0] rfl) rfl ?_
          refine atm_s T 19 hg pf (by kernel_rfl) (still_o [0, 0, 0, 0, 0, 0, 0] rfl) rfl ?_
          refine atm_s T 20 hg pf (by kernel_rfl) (still_o [0, 0, 0, 0, 0, 0, 0] rfl) rfl ?_
          refine atm_s T 21 hg pf (by kernel_rfl) (still_o [0, 0, 0, 0, 0, 0, 0] rfl) rfl ?_
          refine atm_s T 22 hg pf (by kernel_rfl) (still_o [0, 0, 0, 0, 0, 0, 0] rfl) rfl ?_
          refine atm_s T 23 hg pf (by kernel_rfl) (still_o [0, 0, 0, 0, 0, 0, 0] rfl) rfl ?_
          refine atm_s T 24 hg pf (by kernel_rfl) (still_o [0, 0, 0, 0, 0, 0, 0] rfl) rfl ?_
          refine atm_s T 25 hg pf (by kernel_rfl) (still_o [0, 0, 0, 0, 0, 0, 0] rfl) rfl ?_
          refine atm_s T 26 hg pf (by kernel_rfl) (still_o [0, 0, 0, 0, 0, 0, 0] rfl) rfl ?_
          refine atm_s T 27 hg pf (by kernel_rfl) (still_o [0, 0, 0, 0, 0, 0, 0] rfl) rfl ?_
          refine atm_s T 28 hg pf (by kernel_rfl) (still_o [0, 0, 0, 0, 0, 0, 0] rfl) rfl ?_
          refine atm_s T 29 hg pf (by kernel_rfl) (still_o [0, 0, 0, 0, 0, 0, 0] rfl) rfl ?_
          refine atm_s T 30 hg pf (by kernel_rfl) (still_o [0, 0, 0, 0, 0, 0, 0] rfl) rfl ?_
          refine atm_s T 31 hg pf (by kernel_rfl) (still_o [0, 0, 0, 0, 0, 0, 0] rfl) rfl ?_
          refine atm_s T 32 hg pf (by kernel_rfl) (still_o [0, 0, 0, 0, 0, 0, 0] rfl) rfl ?_
          refine atm_s T 33 hg pf (by kernel_rfl) (still_o [0, 0, 0, 0, 0, 0, 0] rfl) rfl ?_
          refine atm_s T 34 hg pf (by kernel_rfl) (still_o [0, 0, 0, 0, 0, 0, 0] rfl) rfl ?_
          refine atm_s T 35 hg pf (by kernel_rfl) (still_o [0, 0, 0, 0, 0, 0, 0] rfl) rfl ?_
          refine atm_s T 36 hg pf (by kernel_rfl) (still_o [0, 0, 0, 0, 0, 0, 0] rfl) rfl ?_
          refine atm_s T 37 hg pf (by kernel_rfl) (still_o [0, 0, 0, 0, 0, 0, 0] rfl) rfl ?_
          refine atm_s T 38 hg pf (by kernel_rfl) (still_o [0, 0, 0, 0, 0, 0, 0] rfl) rfl ?_
          refine atm_s T 39 hg pf (by kernel_rfl) (still_o [0, 0, 0, 0, 0, 0, 0] rfl) rfl ?_
          refine atm_s T 40 hg pf (by kernel_rfl) (still_o [0, 0, 0, 0, 0, 0, 0] rfl) rfl ?_
          refine atm_s T 41 hg pf (by kernel_rfl) (still_o [0, 0, 0, 0, 0, 0, 0] rfl) rfl ?_
          refine atm_s T 42 hg pf (by kernel_rfl) (still_o [0, 0, 0, 0, 0, 0, 0] rfl) rfl ?_
          refine atm_s T 43 hg pf (by kernel_rfl) (still_o [0, 0, 0, 0, 0, 0, 0] rfl) rfl ?_
          refine atm_s T 44 hg pf (by kernel_rfl) (still_o [0, 0, 0, 0, 0, 0, 0] rfl) rfl ?_
          refine atm_s T 45 hg pf (by kernel_rfl) (still_o [0, 0, 0, 0, 0, 0, 0] rfl) rfl ?_
          refine atm_s T 46 hg pf (by kernel_rfl) (still_o [0, 0, 0, 0, 0, 0, 0] rfl) rfl ?_
          refine atm_s T 47 hg pf (by kernel_rfl) (still_o [0, 0, 0, 0, 0, 0, 0] rfl) rfl ?_
          refine atm_s T 48 hg pf (by kernel_rfl) (still_o [0, 0, 0, 0, 0, 0, 0] rfl) rfl ?_
          refine atm_end (by kernel_rfl) ?_
          refine at_to [(10, (.bool false))] [0] [F] ⟨rfl, trivial⟩ rfl ?_
          refine at_then ?_
          obtain rfl := Option.some.inj Z10
          exact at_mid false [0] rfl ⟨rfl, trivial⟩ rfl
      · rintro x11 rfl
        refine at_ret ?_
        obtain rfl := Option.some.inj Z6
        exact at_post (T := T) rfl (.tmp rfl .nil) (fun w o => ⟨(), rfl, own_to [0] rfl o⟩)
def law3_PackLeast.Pure : Prop := ∀ (c : (List Int)) (w : Int) (h : Int) (few : Int) (p4 : Int), (∀ y ∈ c, inU8 y) → inI64 w → inI64 h → inI64 few → inI64 p4 → List.length c ≤ 9223372036854775807 → law3_PackLeast.f c w h few p4 = some true
end Go.Proofs.Ytfgenmohgfifaaa
