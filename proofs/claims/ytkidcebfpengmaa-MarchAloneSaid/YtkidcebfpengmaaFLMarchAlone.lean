import Derived.Test.YtkidcebfpengmaaT
import Derived.Test.YtkidcebfpengmaaFlaw24
import Derived.Test.YtkidcebfpengmaaFmarch
import Derived.Test.YtkidcebfpengmaaFref1
import Derived.Test.YtkidcebfpengmaaFref21
import Derived.Test.YtkidcebfpengmaaFwhere
namespace Go.Proofs.Ytkidcebfpengmaa
open Go.Hx
set_option maxRecDepth 100000
set_option linter.unusedVariables false
/-! ### herdsman/herdsmanlaw24.MarchAlone: function 6 -/
def law24_MarchAlone.l0 : Nat → Int → Int → Int → Int → Int → ((List api_Unit) × (List api_Move) × (List Int) × Int) → (List api_Unit) → List Int → Int → Option Bool
  | 0, _, _, _, _, _, _, _, _, _ => none
  | k12 + 1, v1, v2, v3, v4, v5, v6, v7, x10, x11 => if x11 < (List.length v7 : Int) then (if (0 ≤ x11 ∧ x11 < (List.length x10 : Int)) then (law24_MarchAlone.l0 k12 v1 v2 v3 v4 v5 v6 v7 (List.set x10 (Int.toNat x11) (w64 (4 + (w64 (BitVec.toNat (BitVec.ofInt (IntKind.bits .i64) x11 &&& BitVec.ofInt (IntKind.bits .i64) 1)))))) (w64 (x11 + 1))) else none) else ((march_Go.f v1 v2 v7 x10).bind fun v13 => (if ((v6.2.2.2 != 0) || (v13.2.2.2 != 0)) = true then (some true) else ((ref21_Same.f v13.1 v7).bind fun v16 => some (((!v16) || ((List.length v13.2.1 : Int) != 0)) || ((List.length v13.2.2.1 : Int) != 0)))).bind fun x14 => if x14 = true then (some false) else ((if v5 ≤ 3 then ((where_Step.f v1 v2 v3 v5).bind fun v19 => some v19) else (some (-1))).bind fun x17 => if x17 < 0 then (((law24_told.f).bind fun v22 => if v22 = true then (if ((List.length v6.1 : Int) == 1) = true then (if (0 ≤ (0 : Int) ∧ (0 : Int) < (List.length v6.1 : Int)) then (if (((rd v6.1 0).Id == 3) && (((rd v6.1 0).Cell == v3) && (((rd v6.1 0).Goal == v4) && true))) = true then (if ((List.length v6.2.1 : Int) == 0) = true then (some ((List.length v6.2.2.1 : Int) == 0)) else (some false)) else (some false)) else none) else (some false)) else (some false)).bind fun x20 => some x20) else ((if ((List.length v6.2.1 : Int) != 1) = true then (some true) else (if (0 ≤ (0 : Int) ∧ (0 : Int) < (List.length v6.2.1 : Int)) then (some (!(((rd v6.2.1 0).Id == 3) && (((rd v6.2.1 0).To == x17) && true)))) else none)).bind fun x23 => if x23 = true then (some false) else (if (x17 == v4) = true then (((law24_told.f).bind fun v27 => if (v27 && ((List.length v6.1 : Int) == 0)) = true then ((ref1_Ints.f v6.2.2.1 [3]).bind fun v28 => some v28) else (some false)).bind fun x25 => some x25) else (((law24_told.f).bind fun v31 => if v31 = true then (if ((List.length v6.2.2.1 : Int) == 0) = true then (if ((List.length v6.1 : Int) == 1) = true then (if (0 ≤ (0 : Int) ∧ (0 : Int) < (List.length v6.1 : Int)) then (some (((rd v6.1 0).Id == 3) && (((rd v6.1 0).Cell == x17) && (((rd v6.1 0).Goal == v4) && true)))) else none) else (some false)) else (some false)) else (some false)).bind fun x29 => some x29)))))
def law24_MarchAlone.f (w : Int) (h : Int) (cell : Int) (goal : Int) (dir : Int) (k : (List Int)) : Option Bool := (ref1_Within.f w 1 8).bind fun v1 => (ref1_Within.f h 1 8).bind fun v2 => (ref1_Within.f cell 0 (w64 ((w64 (v1 * v2)) - 1))).bind fun v3 => (ref1_Within.f goal 0 (w64 ((w64 (v1 * v2)) - 1))).bind fun v4 => (ref1_Within.f dir 0 5).bind fun v5 => (march_Go.f v1 v2 [(api_Unit.mk 3 v3 v4)] [v5]).bind fun v6 => (ref21_Made.f v1 v2 k).bind fun v7 => if (0 ≤ (List.length v7 : Int) ∧ (List.length v7 : Int) ≤ 1099511627776) then (law24_MarchAlone.l0 fuel v1 v2 v3 v4 v5 v6 v7 (List.replicate (Int.toNat (List.length v7 : Int)) (0 : Int)) 0) else none
set_option maxHeartbeats 4000000 in
theorem law24_MarchAlone.c {a_k : Option Addr} {n_k : Nat} (w : Int) (h : Int) (cell : Int) (goal : Int) (dir : Int) (k : (List Int)) (r : Bool) (F : Hp) (H : law24_MarchAlone.f w h cell goal dir k = some r) (h_k : SliceR (Fl.int .i64) k a_k F) (c_k : List.length k ≤ n_k) :
    CallsL Try.prog 6 [(.int .i64 w), (.int .i64 h), (.int .i64 cell), (.int .i64 goal), (.int .i64 dir), (.slice a_k (List.length k) n_k)] [F] (fun _ : Unit => (.bool r)) (fun _ => [F]) := by
  unfold law24_MarchAlone.f at H
  refine calls_atL [(0, (.int .i64 w)), (1, (.int .i64 h)), (2, (.int .i64 cell)), (3, (.int .i64 goal)), (4, (.int .i64 dir)), (5, (.slice a_k (List.length k) n_k))] Try.func6 rfl rfl ⟨rfl, rfl, rfl, rfl, rfl, rfl, trivial⟩ (fun W => ?_)
  refine at_seq ?_
  refine at_region [0] rfl ?_
  refine at_s T rfl ?_
  refine at_end ?_
  refine at_sub [(0, (.int .i64 w)), (1, (.int .i64 h)), (2, (.int .i64 cell)), (3, (.int .i64 goal)), (4, (.int .i64 dir)), (5, (.slice a_k (List.length k) n_k))] ⟨rfl, rfl, rfl, rfl, rfl, rfl, trivial⟩ ?_
  refine at_then ?_
  refine at_seq ?_
  refine at_region [0, 1, 2, 3, 4, 5] rfl ?_
  refine at_s T rfl ?_
  obtain ⟨v1, V1, H⟩ := bind_e H
  refine at_cons (at_c (B := fun _ => []) [] rfl rfl rfl rfl has12 rfl rfl (ref1_Within.c w 1 8 v1 _ V1) (fun _ => ?_))
  refine at_s T rfl ?_
  obtain ⟨v2, V2, H⟩ := bind_e H
  refine at_cons (at_c (B := fun _ => []) [] rfl rfl rfl rfl has12 rfl rfl (ref1_Within.c h 1 8 v2 _ V2) (fun _ => ?_))
  iterate 2 refine at_s T rfl ?_
  refine at_end ?_
  refine at_sub [(0, (.int .i64 v1)), (1, (.int .i64 v2)), (2, (.int .i64 cell)), (3, (.int .i64 goal)), (4, (.int .i64 dir)), (5, (.slice a_k (List.length k) n_k))] ⟨rfl, rfl, rfl, rfl, rfl, rfl, trivial⟩ ?_
  refine at_then ?_
  refine at_seq ?_
  refine at_region [0, 1, 2, 3, 4, 5, 6, 7, 8, 9, 10, 11, 12, 13, 14] rfl ?_
  iterate 5 refine at_s T rfl ?_
  obtain ⟨v3, V3, H⟩ := bind_e H
  refine at_cons (at_c (B := fun _ => []) [] rfl rfl rfl rfl has12 rfl rfl (ref1_Within.c cell 0 (w64 ((w64 (v1 * v2)) - 1)) v3 _ V3) (fun _ => ?_))
  iterate 5 refine at_s T rfl ?_
  obtain ⟨v4, V4, H⟩ := bind_e H
  refine at_cons (at_c (B := fun _ => []) [] rfl rfl rfl rfl has12 rfl rfl (ref1_Within.c goal 0 (w64 ((w64 (v1 * v2)) - 1)) v4 _ V4) (fun _ => ?_))
  refine at_s T rfl ?_
  refine at_cons (at_al T [(.int .i64 0), (.int .i64 0), (.int .i64 0)] rfl rfl rfl rfl (fun b1 => ?_))
  refine at_cons (at_st T 1 [(.int .i64 3), (.int .i64 v3), (.int .i64 v4)] rfl rfl rfl rfl rfl rfl rfl rfl rfl rfl ?_)
  refine at_end ?_
  refine at_sub [(0, (.int .i64 v1)), (1, (.int .i64 v2)), (4, (.int .i64 dir)), (5, (.slice a_k (List.length k) n_k)), (13, (.pointer (some ⟨b1, 0, none⟩)))] ⟨rfl, rfl, rfl, rfl, rfl, trivial⟩ ?_
  refine at_then ?_
  refine at_seq ?_
  refine at_region [0, 1, 2] rfl ?_
  refine at_s T rfl ?_
  obtain ⟨v5, V5, H⟩ := bind_e H
  refine at_cons (at_c (B := fun _ => []) [] rfl rfl rfl rfl has12 rfl rfl (ref1_Within.c dir 0 5 v5 _ V5) (fun _ => ?_))
  refine at_s T rfl ?_
  refine at_end ?_
  refine at_sub [(0, (.int .i64 v1)), (1, (.int .i64 v2)), (5, (.slice a_k (List.length k) n_k)), (13, (.pointer (some ⟨b1, 0, none⟩))), (14, (.int .i64 v5))] ⟨rfl, rfl, rfl, rfl, rfl, trivial⟩ ?_
  refine at_then ?_
  refine at_seq ?_
  refine at_region [0, 1, 2, 3, 4, 5, 6, 7, 8, 9, 10, 11, 12, 13, 14, 15] rfl ?_
  iterate 2 refine at_s T rfl ?_
  refine at_v rfl (g_loadA T (cs := [(.int .i64 3), (.int .i64 v3), (.int .i64 v4)]) rfl rfl rfl rfl rfl rfl (in_varA (j := 1) rfl rfl)) ?_
  refine at_cons (at_bs (k := k_api_Unit) T [(api_Unit.mk 3 v3 v4)] rfl rfl rfl rfl rfl rfl rfl rfl rfl (fun a2 H2 s2 => ?_))
  refine at_s T rfl ?_
  refine at_cons (at_bs (k := (Fl.int .i64)) T [v5] rfl rfl rfl rfl rfl rfl rfl rfl rfl (fun a3 H3 s3 => ?_))
  obtain ⟨v6, V6, H⟩ := bind_e H
  refine at_cons (at_cR (march_Go.R v6) [] [] rfl rfl rfl rfl has15 rfl rfl (march_Go.c v1 v2 [(api_Unit.mk 3 v3 v4)] [v5] v6 _ V6 (own_of s2 (j := 2) rfl) s2.cap_le (own_of s3 (j := 3) rfl) s3.cap_le) ?_)
  rintro _ _ ⟨a4, n4, H4, a5, n5, H5, a6, n6, H6, s4, s5, s6, rfl, rfl⟩
  iterate 9 refine at_s T rfl ?_
  refine at_end ?_
  refine at_to [(0, (.int .i64 v1)), (1, (.int .i64 v2)), (5, (.slice a_k (List.length k) n_k)), (13, (.pointer (some ⟨b1, 0, none⟩))), (14, (.int .i64 v5)), (15, (.slice a4 (List.length v6.1) n4)), (16, (.slice a5 (List.length v6.2.1) n5)), (17, (.slice a6 (List.length v6.2.2.1) n6)), (18, (.int .i64 v6.2.2.2))] [0, 0, 2, 2, 2] [F, [(b1, Obj.cells #[(.int .i64 3), (.int .i64 v3), (.int .i64 v4)] 40 (0, 0))], H4, H5, H6] ⟨rfl, rfl, rfl, rfl, rfl, rfl, rfl, rfl, rfl, trivial⟩ rfl ?_
  refine at_then ?_
  refine at_seq ?_
  refine at_region [0, 1, 2, 3, 4] rfl ?_
  iterate 3 refine at_s T rfl ?_
  obtain ⟨v7, V7, H⟩ := bind_e H
  refine at_cons (at_cR (ref21_Made.R v7) [] [] rfl rfl rfl rfl has13 rfl rfl (ref21_Made.c v1 v2 k v7 _ V7 (ro_of h_k (j := 0) rfl) c_k) ?_)
  rintro _ _ ⟨a7, n7, H7, s7, rfl, rfl⟩
  refine at_s T rfl ?_
  refine at_end ?_
  refine at_sub [(0, (.int .i64 v1)), (1, (.int .i64 v2)), (13, (.pointer (some ⟨b1, 0, none⟩))), (14, (.int .i64 v5)), (15, (.slice a4 (List.length v6.1) n4)), (16, (.slice a5 (List.length v6.2.1) n5)), (17, (.slice a6 (List.length v6.2.2.1) n6)), (18, (.int .i64 v6.2.2.2)), (19, (.slice a7 (List.length v7) n7))] ⟨rfl, rfl, rfl, rfl, rfl, rfl, rfl, rfl, rfl, trivial⟩ ?_
  refine at_then ?_
  refine at_seq ?_
  refine at_region [0, 1, 2, 3] rfl ?_
  iterate 2 refine at_s T rfl ?_
  obtain ⟨c8, H⟩ := chk_e H
  refine at_cons (at_mk (k := (Fl.int .i64)) T (0 : Int) rfl rfl rfl rfl rfl rfl rfl rfl c8 rfl (fun a8 n8 H8 s8 => ?_))
  refine at_s T rfl ?_
  refine at_end ?_
  refine at_sub [(0, (.int .i64 v1)), (1, (.int .i64 v2)), (13, (.pointer (some ⟨b1, 0, none⟩))), (14, (.int .i64 v5)), (15, (.slice a4 (List.length v6.1) n4)), (16, (.slice a5 (List.length v6.2.1) n5)), (17, (.slice a6 (List.length v6.2.2.1) n6)), (18, (.int .i64 v6.2.2.2)), (19, (.slice a7 (List.length v7) n7)), (20, (.slice a8 (List.length (List.replicate (Int.toNat (List.length v7 : Int)) (0 : Int))) n8))] ⟨rfl, rfl, rfl, rfl, rfl, rfl, rfl, rfl, rfl, rfl, trivial⟩ ?_
  refine at_then ?_
  refine at_seq ?_
  refine at_seq ?_
  refine at_region [0] rfl ?_
  refine at_s T rfl ?_
  refine at_end ?_
  refine at_sub [(0, (.int .i64 v1)), (1, (.int .i64 v2)), (13, (.pointer (some ⟨b1, 0, none⟩))), (14, (.int .i64 v5)), (15, (.slice a4 (List.length v6.1) n4)), (16, (.slice a5 (List.length v6.2.1) n5)), (17, (.slice a6 (List.length v6.2.2.1) n6)), (18, (.int .i64 v6.2.2.2)), (19, (.slice a7 (List.length v7) n7)), (20, (.slice a8 (List.length (List.replicate (Int.toNat (List.length v7 : Int)) (0 : Int))) n8)), (21, (.int .i64 0))] ⟨rfl, rfl, rfl, rfl, rfl, rfl, rfl, rfl, rfl, rfl, rfl, trivial⟩ ?_
  refine at_then ?_
  refine at_block ?_
  refine at_loopL (σ := Nat × List Int × Int × Option Addr × Nat × Hp) (fun ⟨k12, x10, x11, a10, n10, H10⟩ => law24_MarchAlone.l0 k12 v1 v2 v3 v4 v5 v6 v7 x10 x11 = some r ∧ SliceO (Fl.int .i64) 3 x10 a10 n10 H10) (fun ⟨k12, x10, x11, a10, n10, H10⟩ => [(0, (.int .i64 v1)), (1, (.int .i64 v2)), (13, (.pointer (some ⟨b1, 0, none⟩))), (14, (.int .i64 v5)), (15, (.slice a4 (List.length v6.1) n4)), (16, (.slice a5 (List.length v6.2.1) n5)), (17, (.slice a6 (List.length v6.2.2.1) n6)), (18, (.int .i64 v6.2.2.2)), (19, (.slice a7 (List.length v7) n7)), (20, (.slice a10 (List.length x10) n10)), (21, (.int .i64 x11))]) (fun ⟨k12, x10, x11, a10, n10, H10⟩ => [F, [(b1, Obj.cells #[(.int .i64 3), (.int .i64 v3), (.int .i64 v4)] 40 (0, 0))], H4, H5, H6, H7, H10]) (fun s => s.1) (fuel, (List.replicate (Int.toNat (List.length v7 : Int)) (0 : Int)), 0, a8, n8, H8) [0, 0, 0, 0, 0, 0, 0] ⟨H, s8⟩ ⟨rfl, rfl, rfl, rfl, rfl, rfl, rfl, rfl, rfl, rfl, rfl, trivial⟩ rfl ?_
  rintro ⟨k12, x10, x11, a10, n10, H10⟩ ⟨Z9, s10⟩
  replace Z9 : law24_MarchAlone.l0 k12 v1 v2 v3 v4 v5 v6 v7 x10 x11 = some r := Z9
  rcases k12 with _ | k12
  · rw [law24_MarchAlone.l0] at Z9; cases Z9
  · rw [law24_MarchAlone.l0] at Z9
    refine at_seq ?_
    refine at_seq ?_
    refine at_region [0, 1, 2, 3] rfl ?_
    iterate 4 refine at_s T rfl ?_
    refine at_end ?_
    refine at_sub [(0, (.int .i64 v1)), (1, (.int .i64 v2)), (13, (.pointer (some ⟨b1, 0, none⟩))), (14, (.int .i64 v5)), (15, (.slice a4 (List.length v6.1) n4)), (16, (.slice a5 (List.length v6.2.1) n5)), (17, (.slice a6 (List.length v6.2.2.1) n6)), (18, (.int .i64 v6.2.2.2)), (19, (.slice a7 (List.length v7) n7)), (20, (.slice a10 (List.length x10) n10)), (21, (.int .i64 x11)), (68, (.bool (decide (x11 < (List.length v7 : Int)))))] ⟨rfl, rfl, rfl, rfl, rfl, rfl, rfl, rfl, rfl, rfl, rfl, rfl, trivial⟩ ?_
    refine at_then ?_
    refine at_cond rfl (fun c10 => ?_) (fun c10 => ?_)
    · replace Z9 := if_t (of_decide_eq_true c10) Z9
      refine at_skip ?_
      refine at_then ?_
      refine at_seq ?_
      refine at_block ?_
      refine at_region [0, 1, 2, 3, 4, 5, 6] rfl ?_
      iterate 5 refine at_s T rfl ?_
      obtain ⟨c11, Z9⟩ := chk_e Z9
      obtain ⟨q11, o11, e11⟩ := s10.r.addr c11.1 c11.2
      refine at_v rfl (g_index T rfl rfl rfl rfl rfl e11 c11.1 c11.2) ?_
      refine at_cons (at_se (k := (Fl.int .i64)) T 6 0 (w64 (4 + (w64 (BitVec.toNat (BitVec.ofInt (IntKind.bits .i64) x11 &&& BitVec.ofInt (IntKind.bits .i64) 1))))) rfl rfl rfl rfl rfl rfl s10 e11 c11 rfl rfl rfl (fun H12 s12 => ?_))
      refine at_to [(0, (.int .i64 v1)), (1, (.int .i64 v2)), (13, (.pointer (some ⟨b1, 0, none⟩))), (14, (.int .i64 v5)), (15, (.slice a4 (List.length v6.1) n4)), (16, (.slice a5 (List.length v6.2.1) n5)), (17, (.slice a6 (List.length v6.2.2.1) n6)), (18, (.int .i64 v6.2.2.2)), (19, (.slice a7 (List.length v7) n7)), (20, (.slice a10 (List.length (List.set x10 (Int.toNat x11) (w64 (4 + (w64 (BitVec.toNat (BitVec.ofInt (IntKind.bits .i64) x11 &&& BitVec.ofInt (IntKind.bits .i64) 1))))))) n10)), (21, (.int .i64 x11))] [0, 0, 0, 0, 0, 0, 0] [F, [(b1, Obj.cells #[(.int .i64 3), (.int .i64 v3), (.int .i64 v4)] 40 (0, 0))], H4, H5, H6, H7, H12] ⟨rfl, rfl, rfl, rfl, rfl, rfl, rfl, rfl, rfl, (by first | rfl | (simp only [List.length_set]; rfl)), rfl, trivial⟩ rfl ?_
      refine at_end ?_
      refine at_sub [(0, (.int .i64 v1)), (1, (.int .i64 v2)), (13, (.pointer (some ⟨b1, 0, none⟩))), (14, (.int .i64 v5)), (15, (.slice a4 (List.length v6.1) n4)), (16, (.slice a5 (List.length v6.2.1) n5)), (17, (.slice a6 (List.length v6.2.2.1) n6)), (18, (.int .i64 v6.2.2.2)), (19, (.slice a7 (List.length v7) n7)), (20, (.slice a10 (List.length (List.set x10 (Int.toNat x11) (w64 (4 + (w64 (BitVec.toNat (BitVec.ofInt (IntKind.bits .i64) x11 &&& BitVec.ofInt (IntKind.bits .i64) 1))))))) n10)), (21, (.int .i64 x11))] ⟨rfl, rfl, rfl, rfl, rfl, rfl, rfl, rfl, rfl, rfl, rfl, trivial⟩ ?_
      refine at_nb ?_
      refine at_then ?_
      refine at_region [0, 1, 2] rfl ?_
      iterate 3 refine at_s T rfl ?_
      refine at_end ?_
      refine at_sub [(0, (.int .i64 v1)), (1, (.int .i64 v2)), (13, (.pointer (some ⟨b1, 0, none⟩))), (14, (.int .i64 v5)), (15, (.slice a4 (List.length v6.1) n4)), (16, (.slice a5 (List.length v6.2.1) n5)), (17, (.slice a6 (List.length v6.2.2.1) n6)), (18, (.int .i64 v6.2.2.2)), (19, (.slice a7 (List.length v7) n7)), (20, (.slice a10 (List.length (List.set x10 (Int.toNat x11) (w64 (4 + (w64 (BitVec.toNat (BitVec.ofInt (IntKind.bits .i64) x11 &&& BitVec.ofInt (IntKind.bits .i64) 1))))))) n10)), (21, (.int .i64 (w64 (x11 + 1))))] ⟨rfl, rfl, rfl, rfl, rfl, rfl, rfl, rfl, rfl, rfl, rfl, trivial⟩ ?_
      refine at_then ?_
      exact at_roundL (k12, (List.set x10 (Int.toNat x11) (w64 (4 + (w64 (BitVec.toNat (BitVec.ofInt (IntKind.bits .i64) x11 &&& BitVec.ofInt (IntKind.bits .i64) 1)))))), (w64 (x11 + 1)), a10, n10, H12) [0, 0, 0, 0, 0, 0, 0] ⟨Z9, s12⟩ (Nat.lt_succ_self _) ⟨rfl, rfl, rfl, rfl, rfl, rfl, rfl, rfl, rfl, rfl, rfl, trivial⟩ rfl
    · replace Z9 := if_f (of_decide_eq_false c10) Z9
      refine at_exit ?_
      refine at_xt ?_
      refine at_xt ?_
      refine at_xb ?_
      refine at_then ?_
      refine at_seq ?_
      refine at_region [0, 1, 2, 3, 4, 5, 6, 7, 8, 9, 10, 11, 12, 13] rfl ?_
      iterate 4 refine at_s T rfl ?_
      obtain ⟨v13, V12, Z9⟩ := bind_e Z9
      refine at_cons (at_cR (march_Go.R v13) [] [] rfl rfl rfl rfl has15 rfl rfl (march_Go.c v1 v2 v7 x10 v13 _ V12 (own_of s7 (j := 5) rfl) s7.cap_le (own_of s10 (j := 6) rfl) s10.cap_le) ?_)
      rintro _ _ ⟨a13, n13, H13, a14, n14, H14, a15, n15, H15, s13, s14, s15, rfl, rfl⟩
      iterate 9 refine at_s T rfl ?_
      refine at_end ?_
      refine at_to [(0, (.int .i64 v1)), (1, (.int .i64 v2)), (13, (.pointer (some ⟨b1, 0, none⟩))), (14, (.int .i64 v5)), (15, (.slice a4 (List.length v6.1) n4)), (16, (.slice a5 (List.length v6.2.1) n5)), (17, (.slice a6 (List.length v6.2.2.1) n6)), (18, (.int .i64 v6.2.2.2)), (19, (.slice a7 (List.length v7) n7)), (22, (.slice a13 (List.length v13.1) n13)), (23, (.slice a14 (List.length v13.2.1) n14)), (24, (.slice a15 (List.length v13.2.2.1) n15)), (25, (.int .i64 v13.2.2.2))] [0, 0, 0, 0, 0, 0, 1, 1, 1] [F, [(b1, Obj.cells #[(.int .i64 3), (.int .i64 v3), (.int .i64 v4)] 40 (0, 0))], H4, H5, H6, H7, H13, H14, H15] ⟨rfl, rfl, rfl, rfl, rfl, rfl, rfl, rfl, rfl, rfl, rfl, rfl, rfl, trivial⟩ rfl ?_
      refine at_then ?_
      refine at_seq ?_
      obtain ⟨z15, Z13, Z9⟩ := bind_e Z9
      refine at_seq_mid (σ := Bool) (fun x14 => x14 = z15) (fun x14 => [(0, (.int .i64 v1)), (1, (.int .i64 v2)), (13, (.pointer (some ⟨b1, 0, none⟩))), (14, (.int .i64 v5)), (15, (.slice a4 (List.length v6.1) n4)), (16, (.slice a5 (List.length v6.2.1) n5)), (17, (.slice a6 (List.length v6.2.2.1) n6)), (108, (.bool x14))]) (fun x14 => [F, [(b1, Obj.cells #[(.int .i64 3), (.int .i64 v3), (.int .i64 v4)] 40 (0, 0))], H4, H5, H6]) ?_ ?_
      · refine at_region [0, 1, 2, 3, 4, 5, 6, 7, 8, 9, 10, 11, 12, 13, 14, 15, 16, 17, 18, 19, 20, 21] rfl ?_
        iterate 3 refine at_s T rfl ?_
        refine at_grp T [3, 4, 5] (s := 89) (c := (v6.2.2.2 != 0)) [(0, (.int .i64 v1)), (1, (.int .i64 v2)), (13, (.pointer (some ⟨b1, 0, none⟩))), (14, (.int .i64 v5)), (15, (.slice a4 (List.length v6.1) n4)), (16, (.slice a5 (List.length v6.2.1) n5)), (17, (.slice a6 (List.length v6.2.2.1) n6)), (19, (.slice a7 (List.length v7) n7)), (22, (.slice a13 (List.length v13.1) n13)), (23, (.slice a14 (List.length v13.2.1) n14)), (24, (.slice a15 (List.length v13.2.2.1) n15)), (92, (.bool ((v6.2.2.2 != 0) || (v13.2.2.2 != 0))))] rfl rfl rfl (fun c14 => ⟨rfl, rfl, rfl, rfl, rfl, rfl, rfl, rfl, rfl, rfl, rfl, (by rw [c14]; rfl), trivial⟩) (fun c14 => ⟨rfl, rfl, rfl, rfl, rfl, rfl, rfl, rfl, rfl, rfl, rfl, (by rw [c14]; rfl), trivial⟩) ?_
        refine at_s T rfl ?_
        refine at_case (s := 93) rfl (fun c15 => ?_) (fun c15 => ?_)
        · replace Z13 := if_t c15 Z13
          iterate 15 refine at_s T rfl ?_
          refine at_end ?_
          refine at_to [(0, (.int .i64 v1)), (1, (.int .i64 v2)), (13, (.pointer (some ⟨b1, 0, none⟩))), (14, (.int .i64 v5)), (15, (.slice a4 (List.length v6.1) n4)), (16, (.slice a5 (List.length v6.2.1) n5)), (17, (.slice a6 (List.length v6.2.2.1) n6)), (108, (.bool true))] [0, 0, 0, 0, 0] [F, [(b1, Obj.cells #[(.int .i64 3), (.int .i64 v3), (.int .i64 v4)] 40 (0, 0))], H4, H5, H6] ⟨rfl, rfl, rfl, rfl, rfl, rfl, rfl, rfl, trivial⟩ rfl ?_
          refine at_then ?_
          obtain rfl := Option.some.inj Z13
          exact at_mid true [0, 0, 0, 0, 0] rfl ⟨rfl, rfl, rfl, rfl, rfl, rfl, rfl, rfl, trivial⟩ rfl
        · replace Z13 := if_f (bf c15) Z13
          iterate 2 refine at_s T rfl ?_
          obtain ⟨v16, V16, Z13⟩ := bind_e Z13
          refine at_cons (at_c (B := fun _ => []) [] rfl rfl rfl rfl has16 rfl rfl (ref21_Same.c v13.1 v7 v16 _ V16 (own_of s13 (j := 6) rfl) s13.cap_le (own_of s7 (j := 5) rfl) s7.cap_le) (fun _ => ?_))
          iterate 3 refine at_s T rfl ?_
          refine at_grp T [13, 14, 15, 16] (s := 99) (c := (!v16)) [(0, (.int .i64 v1)), (1, (.int .i64 v2)), (13, (.pointer (some ⟨b1, 0, none⟩))), (14, (.int .i64 v5)), (15, (.slice a4 (List.length v6.1) n4)), (16, (.slice a5 (List.length v6.2.1) n5)), (17, (.slice a6 (List.length v6.2.2.1) n6)), (24, (.slice a15 (List.length v13.2.2.1) n15)), (103, (.bool ((!v16) || ((List.length v13.2.1 : Int) != 0))))] rfl rfl rfl (fun c17 => ⟨rfl, rfl, rfl, rfl, rfl, rfl, rfl, rfl, (by rw [c17]; rfl), trivial⟩) (fun c17 => ⟨rfl, rfl, rfl, rfl, rfl, rfl, rfl, rfl, (by rw [c17]; rfl), trivial⟩) ?_
          refine at_s T rfl ?_
          refine at_grp T [18, 19, 20, 21] (s := 104) (c := ((!v16) || ((List.length v13.2.1 : Int) != 0))) [(0, (.int .i64 v1)), (1, (.int .i64 v2)), (13, (.pointer (some ⟨b1, 0, none⟩))), (14, (.int .i64 v5)), (15, (.slice a4 (List.length v6.1) n4)), (16, (.slice a5 (List.length v6.2.1) n5)), (17, (.slice a6 (List.length v6.2.2.1) n6)), (108, (.bool (((!v16) || ((List.length v13.2.1 : Int) != 0)) || ((List.length v13.2.2.1 : Int) != 0))))] rfl rfl rfl (fun c18 => ⟨rfl, rfl, rfl, rfl, rfl, rfl, rfl, (by rw [c18]; rfl), trivial⟩) (fun c18 => ⟨rfl, rfl, rfl, rfl, rfl, rfl, rfl, (by rw [c18]; rfl), trivial⟩) ?_
          refine at_end ?_
          refine at_to [(0, (.int .i64 v1)), (1, (.int .i64 v2)), (13, (.pointer (some ⟨b1, 0, none⟩))), (14, (.int .i64 v5)), (15, (.slice a4 (List.length v6.1) n4)), (16, (.slice a5 (List.length v6.2.1) n5)), (17, (.slice a6 (List.length v6.2.2.1) n6)), (108, (.bool (((!v16) || ((List.length v13.2.1 : Int) != 0)) || ((List.length v13.2.2.1 : Int) != 0))))] [0, 0, 0, 0, 0] [F, [(b1, Obj.cells #[(.int .i64 3), (.int .i64 v3), (.int .i64 v4)] 40 (0, 0))], H4, H5, H6] ⟨rfl, rfl, rfl, rfl, rfl, rfl, rfl, rfl, trivial⟩ rfl ?_
          refine at_then ?_
          obtain rfl := Option.some.inj Z13
          exact at_mid (((!v16) || ((List.length v13.2.1 : Int) != 0)) || ((List.length v13.2.2.1 : Int) != 0)) [0, 0, 0, 0, 0] rfl ⟨rfl, rfl, rfl, rfl, rfl, rfl, rfl, rfl, trivial⟩ rfl
      · rintro x14 rfl
        refine at_cond rfl (fun c19 => ?_) (fun c19 => ?_)
        · replace Z9 := if_t c19 Z9
          refine at_seq ?_
          refine at_region [0] rfl ?_
          refine at_s T rfl ?_
          refine at_end ?_
          refine at_to [(12, (.bool false))] [0] [F] ⟨rfl, trivial⟩ rfl ?_
          refine at_then ?_
          refine at_ret ?_
          refine at_rt ?_
          obtain rfl := Option.some.inj Z9
          exact at_post (T := T) rfl (.tmp rfl .nil) (fun w o => ⟨(), rfl, own_to [0] rfl o⟩)
        · replace Z9 := if_f (bf c19) Z9
          refine at_skip ?_
          refine at_then ?_
          refine at_seq ?_
          refine at_region [0] rfl ?_
          refine at_s T rfl ?_
          refine at_end ?_
          refine at_sub [(0, (.int .i64 v1)), (1, (.int .i64 v2)), (13, (.pointer (some ⟨b1, 0, none⟩))), (14, (.int .i64 v5)), (15, (.slice a4 (List.length v6.1) n4)), (16, (.slice a5 (List.length v6.2.1) n5)), (17, (.slice a6 (List.length v6.2.2.1) n6)), (26, (.int .i64 (-1)))] ⟨rfl, rfl, rfl, rfl, rfl, rfl, rfl, rfl, trivial⟩ ?_
          refine at_then ?_
          obtain ⟨z18, Z20, Z9⟩ := bind_e Z9
          refine at_seq_mid (σ := Int) (fun x17 => x17 = z18) (fun x17 => [(13, (.pointer (some ⟨b1, 0, none⟩))), (15, (.slice a4 (List.length v6.1) n4)), (16, (.slice a5 (List.length v6.2.1) n5)), (17, (.slice a6 (List.length v6.2.2.1) n6)), (26, (.int .i64 x17))]) (fun x17 => [F, [(b1, Obj.cells #[(.int .i64 3), (.int .i64 v3), (.int .i64 v4)] 40 (0, 0))], H4, H5, H6]) ?_ ?_
          · refine at_seq ?_
            refine at_region [0, 1] rfl ?_
            iterate 2 refine at_s T rfl ?_
            refine at_end ?_
            refine at_sub [(0, (.int .i64 v1)), (1, (.int .i64 v2)), (13, (.pointer (some ⟨b1, 0, none⟩))), (14, (.int .i64 v5)), (15, (.slice a4 (List.length v6.1) n4)), (16, (.slice a5 (List.length v6.2.1) n5)), (17, (.slice a6 (List.length v6.2.2.1) n6)), (26, (.int .i64 (-1))), (110, (.bool (decide (v5 ≤ 3))))] ⟨rfl, rfl, rfl, rfl, rfl, rfl, rfl, rfl, rfl, trivial⟩ ?_
            refine at_then ?_
            refine at_cond rfl (fun c21 => ?_) (fun c21 => ?_)
            · replace Z20 := if_t (of_decide_eq_true c21) Z20
              refine at_region [0, 1, 2, 3, 4, 5, 6] rfl ?_
              iterate 3 refine at_s T rfl ?_
              refine at_v rfl (g_load T rfl rfl rfl rfl (in_var (j := 1) rfl rfl)) ?_
              refine at_s T rfl ?_
              obtain ⟨v19, V22, Z20⟩ := bind_e Z20
              refine at_cons (at_c (B := fun _ => []) [] rfl rfl rfl rfl has23 rfl rfl (where_Step.c v1 v2 v3 v5 v19 _ V22) (fun _ => ?_))
              refine at_s T rfl ?_
              refine at_end ?_
              refine at_sub [(13, (.pointer (some ⟨b1, 0, none⟩))), (15, (.slice a4 (List.length v6.1) n4)), (16, (.slice a5 (List.length v6.2.1) n5)), (17, (.slice a6 (List.length v6.2.2.1) n6)), (26, (.int .i64 v19))] ⟨rfl, rfl, rfl, rfl, rfl, trivial⟩ ?_
              refine at_then ?_
              obtain rfl := Option.some.inj Z20
              exact at_mid v19 [0, 0, 0, 0, 0] rfl ⟨rfl, rfl, rfl, rfl, rfl, trivial⟩ rfl
            · replace Z20 := if_f (of_decide_eq_false c21) Z20
              refine at_skip ?_
              refine at_then ?_
              obtain rfl := Option.some.inj Z20
              exact at_mid (-1) [0, 0, 0, 0, 0] rfl ⟨rfl, rfl, rfl, rfl, rfl, trivial⟩ rfl
          · rintro x17 rfl
            refine at_seq ?_
            refine at_seq ?_
            refine at_region [0, 1] rfl ?_
            iterate 2 refine at_s T rfl ?_
            refine at_end ?_
            refine at_sub [(13, (.pointer (some ⟨b1, 0, none⟩))), (15, (.slice a4 (List.length v6.1) n4)), (16, (.slice a5 (List.length v6.2.1) n5)), (17, (.slice a6 (List.length v6.2.2.1) n6)), (26, (.int .i64 x17)), (118, (.bool (decide (x17 < 0))))] ⟨rfl, rfl, rfl, rfl, rfl, rfl, trivial⟩ ?_
            refine at_then ?_
            refine at_cond rfl (fun c23 => ?_) (fun c23 => ?_)
            · replace Z9 := if_t (of_decide_eq_true c23) Z9
              obtain ⟨z21, Z24, Z9⟩ := bind_e Z9
              refine at_seq_mid (σ := Bool) (fun x20 => x20 = z21) (fun x20 => [(12, (.bool x20))]) (fun x20 => [F]) ?_ ?_
              · refine at_region_q mix (by kernel_rfl) ?_
                obtain ⟨v22, V25, Z24⟩ := bind_e Z24
                refine atq_c rfl rfl rfl rfl rfl rfl has20 rfl (law24_told.c  v22 _ V25) ?_
                refine atq_s T rfl ?_
                refine atq_case (s := 120) rfl (fun c26 => ?_) (fun c26 => ?_)
                · replace Z24 := if_t c26 Z24
                  iterate 5 refine atq_s T rfl ?_
                  refine atq_case (s := 125) rfl (fun c27 => ?_) (fun c27 => ?_)
                  · replace Z24 := if_t c27 Z24
                    refine atq_s T rfl ?_
                    obtain ⟨c28, Z24⟩ := chk_e Z24
                    obtain ⟨q16, o16, e16⟩ := s4.r.addr c28.1 c28.2
                    refine atq_v rfl rfl rfl (g_index T rfl rfl rfl rfl rfl e16 c28.1 c28.2) ?_
                    refine atq_v rfl rfl rfl (g_loadA T (cs := [(.int .i64 (rd v6.1 0).Id), (.int .i64 (rd v6.1 0).Cell), (.int .i64 (rd v6.1 0).Goal)]) rfl rfl rfl rfl rfl rfl (in_elemA (k := k_api_Unit) (own_of s4 (j := 2) rfl) e16 c28 rfl)) ?_
                    refine atq_v rfl rfl rfl (g_loadA T (cs := [(.int .i64 3), (.int .i64 v3), (.int .i64 v4)]) rfl rfl rfl rfl rfl rfl (in_varA (j := 1) rfl rfl)) ?_
                    refine atq_v rfl rfl rfl (g_aeq T (((rd v6.1 0).Id == 3) && (((rd v6.1 0).Cell == v3) && (((rd v6.1 0).Goal == v4) && true))) rfl rfl rfl rfl sq40 (by kernel_rfl) rfl) ?_
                    iterate 2 refine atq_s T rfl ?_
                    refine atq_case (s := 132) rfl (fun c29 => ?_) (fun c29 => ?_)
                    · replace Z24 := if_t c29 Z24
                      iterate 5 refine atq_s T rfl ?_
                      refine atq_case (s := 137) rfl (fun c30 => ?_) (fun c30 => ?_)
                      · replace Z24 := if_t c30 Z24
                        iterate 5 refine atq_s T rfl ?_
                        refine atq_end ?_
                        refine at_to [(12, (.bool ((List.length v6.2.2.1 : Int) == 0)))] [0] [F] ⟨rfl, trivial⟩ rfl ?_
                        refine at_then ?_
                        obtain rfl := Option.some.inj Z24
                        exact at_mid ((List.length v6.2.2.1 : Int) == 0) [0] rfl ⟨rfl, trivial⟩ rfl
                      · replace Z24 := if_f (bf c30) Z24
                        iterate 5 refine atq_s T rfl ?_
                        refine atq_end ?_
                        refine at_to [(12, (.bool false))] [0] [F] ⟨rfl, trivial⟩ rfl ?_
                        refine at_then ?_
                        obtain rfl := Option.some.inj Z24
                        exact at_mid false [0] rfl ⟨rfl, trivial⟩ rfl
                    · replace Z24 := if_f (bf c29) Z24
                      iterate 10 refine atq_s T rfl ?_
                      refine atq_end ?_
                      refine at_to [(12, (.bool false))] [0] [F] ⟨rfl, trivial⟩ rfl ?_
                      refine at_then ?_
                      obtain rfl := Option.some.inj Z24
                      exact at_mid false [0] rfl ⟨rfl, trivial⟩ rfl
                  · replace Z24 := if_f (bf c27) Z24
                    iterate 17 refine atq_s T rfl ?_
                    refine atq_end ?_
                    refine at_to [(12, (.bool false))] [0] [F] ⟨rfl, trivial⟩ rfl ?_
                    refine at_then ?_
                    obtain rfl := Option.some.inj Z24
                    exact at_mid false [0] rfl ⟨rfl, trivial⟩ rfl
                · replace Z24 := if_f (bf c26) Z24
                  iterate 22 refine atq_s T rfl ?_
                  refine atq_end ?_
                  refine at_to [(12, (.bool false))] [0] [F] ⟨rfl, trivial⟩ rfl ?_
                  refine at_then ?_
                  obtain rfl := Option.some.inj Z24
                  exact at_mid false [0] rfl ⟨rfl, trivial⟩ rfl
              · rintro x20 rfl
                refine at_ret ?_
                refine at_rt ?_
                obtain rfl := Option.some.inj Z9
                exact at_post (T := T) rfl (.tmp rfl .nil) (fun w o => ⟨(), rfl, own_to [0] rfl o⟩)
            · replace Z9 := if_f (of_decide_eq_false c23) Z9
              refine at_skip ?_
              refine at_then ?_
              refine at_seq ?_
              obtain ⟨z24, Z31, Z9⟩ := bind_e Z9
              refine at_seq_mid (σ := Bool) (fun x23 => x23 = z24) (fun x23 => [(13, (.pointer (some ⟨b1, 0, none⟩))), (15, (.slice a4 (List.length v6.1) n4)), (17, (.slice a6 (List.length v6.2.2.1) n6)), (26, (.int .i64 x17)), (152, (.bool x23))]) (fun x23 => [F, [(b1, Obj.cells #[(.int .i64 3), (.int .i64 v3), (.int .i64 v4)] 40 (0, 0))], H4, H6]) ?_ ?_
              · refine at_region [0, 1, 2, 3, 4, 5, 6, 7, 8, 9, 10] rfl ?_
                iterate 4 refine at_s T rfl ?_
                refine at_case (s := 145) rfl (fun c32 => ?_) (fun c32 => ?_)
                · replace Z31 := if_t c32 Z31
                  iterate 7 refine at_s T rfl ?_
                  refine at_end ?_
                  refine at_to [(13, (.pointer (some ⟨b1, 0, none⟩))), (15, (.slice a4 (List.length v6.1) n4)), (17, (.slice a6 (List.length v6.2.2.1) n6)), (26, (.int .i64 x17)), (152, (.bool true))] [0, 0, 0, 1] [F, [(b1, Obj.cells #[(.int .i64 3), (.int .i64 v3), (.int .i64 v4)] 40 (0, 0))], H4, H6] ⟨rfl, rfl, rfl, rfl, rfl, trivial⟩ rfl ?_
                  refine at_then ?_
                  obtain rfl := Option.some.inj Z31
                  exact at_mid true [0, 0, 0, 0] rfl ⟨rfl, rfl, rfl, rfl, rfl, trivial⟩ rfl
                · replace Z31 := if_f (bf c32) Z31
                  refine at_s T rfl ?_
                  obtain ⟨c33, Z31⟩ := chk_e Z31
                  obtain ⟨q17, o17, e17⟩ := s5.r.addr c33.1 c33.2
                  refine at_v rfl (g_index T rfl rfl rfl rfl rfl e17 c33.1 c33.2) ?_
                  refine at_v rfl (g_loadA T (cs := [(.int .i64 (rd v6.2.1 0).Id), (.int .i64 (rd v6.2.1 0).To)]) rfl rfl rfl rfl rfl rfl (in_elemA (k := k_api_Move) (own_of s5 (j := 3) rfl) e17 c33 rfl)) ?_
                  iterate 2 refine at_s T rfl ?_
                  refine at_v rfl (g_aeqn T (((rd v6.2.1 0).Id == 3) && (((rd v6.2.1 0).To == x17) && true)) rfl rfl rfl rfl sq42 (by kernel_rfl) rfl) ?_
                  refine at_s T rfl ?_
                  refine at_end ?_
                  refine at_to [(13, (.pointer (some ⟨b1, 0, none⟩))), (15, (.slice a4 (List.length v6.1) n4)), (17, (.slice a6 (List.length v6.2.2.1) n6)), (26, (.int .i64 x17)), (152, (.bool (!(((rd v6.2.1 0).Id == 3) && (((rd v6.2.1 0).To == x17) && true)))))] [0, 0, 0, 1] [F, [(b1, Obj.cells #[(.int .i64 3), (.int .i64 v3), (.int .i64 v4)] 40 (0, 0))], H4, H6] ⟨rfl, rfl, rfl, rfl, rfl, trivial⟩ rfl ?_
                  refine at_then ?_
                  obtain rfl := Option.some.inj Z31
                  exact at_mid (!(((rd v6.2.1 0).Id == 3) && (((rd v6.2.1 0).To == x17) && true))) [0, 0, 0, 0] rfl ⟨rfl, rfl, rfl, rfl, rfl, trivial⟩ rfl
              · rintro x23 rfl
                refine at_cond rfl (fun c34 => ?_) (fun c34 => ?_)
                · replace Z9 := if_t c34 Z9
                  refine at_seq ?_
                  refine at_region [0] rfl ?_
                  refine at_s T rfl ?_
                  refine at_end ?_
                  refine at_to [(12, (.bool false))] [0] [F] ⟨rfl, trivial⟩ rfl ?_
                  refine at_then ?_
                  refine at_ret ?_
                  refine at_rt ?_
                  obtain rfl := Option.some.inj Z9
                  exact at_post (T := T) rfl (.tmp rfl .nil) (fun w o => ⟨(), rfl, own_to [0] rfl o⟩)
                · replace Z9 := if_f (bf c34) Z9
                  refine at_skip ?_
                  refine at_then ?_
                  refine at_seq ?_
                  refine at_seq ?_
                  refine at_region [0, 1, 2, 3] rfl ?_
                  iterate 2 refine at_s T rfl ?_
                  refine at_v rfl (g_load T rfl rfl rfl rfl (in_var (j := 1) rfl rfl)) ?_
                  refine at_s T rfl ?_
                  refine at_end ?_
                  refine at_sub [(13, (.pointer (some ⟨b1, 0, none⟩))), (15, (.slice a4 (List.length v6.1) n4)), (17, (.slice a6 (List.length v6.2.2.1) n6)), (26, (.int .i64 x17)), (156, (.bool (x17 == v4)))] ⟨rfl, rfl, rfl, rfl, rfl, trivial⟩ ?_
                  refine at_then ?_
                  refine at_cond rfl (fun c35 => ?_) (fun c35 => ?_)
                  · replace Z9 := if_t c35 Z9
                    obtain ⟨z26, Z36, Z9⟩ := bind_e Z9
                    refine at_seq_mid (σ := Bool) (fun x25 => x25 = z26) (fun x25 => [(12, (.bool x25))]) (fun x25 => [F]) ?_ ?_
                    · refine at_region [0, 1, 2, 3, 4, 5, 6, 7, 8, 9, 10, 11] rfl ?_
                      obtain ⟨v27, V37, Z36⟩ := bind_e Z36
                      refine at_cons (at_c (B := fun _ => []) [] rfl rfl rfl rfl has20 rfl rfl (law24_told.c  v27 _ V37) (fun _ => ?_))
                      refine at_s T rfl ?_
                      refine at_grp T [2, 3, 4, 5] (s := 158) (c := v27) [(17, (.slice a6 (List.length v6.2.2.1) n6)), (162, (.bool (v27 && ((List.length v6.1 : Int) == 0))))] rfl rfl rfl (fun c38 => ⟨rfl, (by rw [c38]; rfl), trivial⟩) (fun c38 => ⟨rfl, (by rw [c38]; rfl), trivial⟩) ?_
                      refine at_s T rfl ?_
                      refine at_case (s := 163) rfl (fun c39 => ?_) (fun c39 => ?_)
                      · replace Z36 := if_t c39 Z36
                        refine at_s T rfl ?_
                        refine at_cons (at_bs (k := (Fl.int .i64)) T [3] rfl rfl rfl rfl rfl rfl rfl rfl rfl (fun a18 H18 s18 => ?_))
                        obtain ⟨v28, V40, Z36⟩ := bind_e Z36
                        refine at_cons (at_c (B := fun _ => []) [] rfl rfl rfl rfl has17 rfl rfl (ref1_Ints.c v6.2.2.1 [3] v28 _ V40 (own_of s6 (j := 3) rfl) s6.cap_le (own_of s18 (j := 4) rfl) s18.cap_le) (fun _ => ?_))
                        iterate 2 refine at_s T rfl ?_
                        refine at_end ?_
                        refine at_to [(12, (.bool v28))] [0] [F] ⟨rfl, trivial⟩ rfl ?_
                        refine at_then ?_
                        obtain rfl := Option.some.inj Z36
                        exact at_mid v28 [0] rfl ⟨rfl, trivial⟩ rfl
                      · replace Z36 := if_f (bf c39) Z36
                        iterate 5 refine at_s T rfl ?_
                        refine at_end ?_
                        refine at_to [(12, (.bool false))] [0] [F] ⟨rfl, trivial⟩ rfl ?_
                        refine at_then ?_
                        obtain rfl := Option.some.inj Z36
                        exact at_mid false [0] rfl ⟨rfl, trivial⟩ rfl
                    · rintro x25 rfl
                      refine at_ret ?_
                      refine at_rt ?_
                      obtain rfl := Option.some.inj Z9
                      exact at_post (T := T) rfl (.tmp rfl .nil) (fun w o => ⟨(), rfl, own_to [0] rfl o⟩)
                  · replace Z9 := if_f (bf c35) Z9
                    refine at_skip ?_
                    refine at_then ?_
                    obtain ⟨z30, Z41, Z9⟩ := bind_e Z9
                    refine at_seq_mid (σ := Bool) (fun x29 => x29 = z30) (fun x29 => [(12, (.bool x29))]) (fun x29 => [F]) ?_ ?_
                    · refine at_region_q mix (by kernel_rfl) ?_
                      obtain ⟨v31, V42, Z41⟩ := bind_e Z41
                      refine atq_c rfl rfl rfl rfl rfl rfl has20 rfl (law24_told.c  v31 _ V42) ?_
                      refine atq_s T rfl ?_
                      refine atq_case (s := 169) rfl (fun c43 => ?_) (fun c43 => ?_)
                      · replace Z41 := if_t c43 Z41
                        iterate 5 refine atq_s T rfl ?_
                        refine atq_case (s := 174) rfl (fun c44 => ?_) (fun c44 => ?_)
                        · replace Z41 := if_t c44 Z41
                          iterate 5 refine atq_s T rfl ?_
                          refine atq_case (s := 179) rfl (fun c45 => ?_) (fun c45 => ?_)
                          · replace Z41 := if_t c45 Z41
                            refine atq_s T rfl ?_
                            obtain ⟨c46, Z41⟩ := chk_e Z41
                            obtain ⟨q19, o19, e19⟩ := s4.r.addr c46.1 c46.2
                            refine atq_v rfl rfl rfl (g_index T rfl rfl rfl rfl rfl e19 c46.1 c46.2) ?_
                            refine atq_v rfl rfl rfl (g_loadA T (cs := [(.int .i64 (rd v6.1 0).Id), (.int .i64 (rd v6.1 0).Cell), (.int .i64 (rd v6.1 0).Goal)]) rfl rfl rfl rfl rfl rfl (in_elemA (k := k_api_Unit) (own_of s4 (j := 2) rfl) e19 c46 rfl)) ?_
                            iterate 2 refine atq_s T rfl ?_
                            refine atq_v rfl rfl rfl (g_load T rfl rfl rfl rfl (in_var (j := 1) rfl rfl)) ?_
                            refine atq_s T rfl ?_
                            refine atq_v rfl rfl rfl (g_aeq T (((rd v6.1 0).Id == 3) && (((rd v6.1 0).Cell == x17) && (((rd v6.1 0).Goal == v4) && true))) rfl rfl rfl rfl sq40 (by kernel_rfl) rfl) ?_
                            iterate 2 refine atq_s T rfl ?_
                            refine atq_end ?_
                            refine at_to [(12, (.bool (((rd v6.1 0).Id == 3) && (((rd v6.1 0).Cell == x17) && (((rd v6.1 0).Goal == v4) && true)))))] [0] [F] ⟨rfl, trivial⟩ rfl ?_
                            refine at_then ?_
                            obtain rfl := Option.some.inj Z41
                            exact at_mid (((rd v6.1 0).Id == 3) && (((rd v6.1 0).Cell == x17) && (((rd v6.1 0).Goal == v4) && true))) [0] rfl ⟨rfl, trivial⟩ rfl
                          · replace Z41 := if_f (bf c45) Z41
                            iterate 10 refine atq_s T rfl ?_
                            refine atq_end ?_
                            refine at_to [(12, (.bool false))] [0] [F] ⟨rfl, trivial⟩ rfl ?_
                            refine at_then ?_
                            obtain rfl := Option.some.inj Z41
                            exact at_mid false [0] rfl ⟨rfl, trivial⟩ rfl
                        · replace Z41 := if_f (bf c44) Z41
                          iterate 15 refine atq_s T rfl ?_
                          refine atq_end ?_
                          refine at_to [(12, (.bool false))] [0] [F] ⟨rfl, trivial⟩ rfl ?_
                          refine at_then ?_
                          obtain rfl := Option.some.inj Z41
                          exact at_mid false [0] rfl ⟨rfl, trivial⟩ rfl
                      · replace Z41 := if_f (bf c43) Z41
                        iterate 20 refine atq_s T rfl ?_
                        refine atq_end ?_
                        refine at_to [(12, (.bool false))] [0] [F] ⟨rfl, trivial⟩ rfl ?_
                        refine at_then ?_
                        obtain rfl := Option.some.inj Z41
                        exact at_mid false [0] rfl ⟨rfl, trivial⟩ rfl
                    · rintro x29 rfl
                      refine at_ret ?_
                      obtain rfl := Option.some.inj Z9
                      exact at_post (T := T) rfl (.tmp rfl .nil) (fun w o => ⟨(), rfl, own_to [0] rfl o⟩)
def law24_MarchAlone.Pure : Prop := ∀ (w : Int) (h : Int) (cell : Int) (goal : Int) (dir : Int) (k : (List Int)), inI64 w → inI64 h → inI64 cell → inI64 goal → inI64 dir → (∀ y ∈ k, inI64 y) → List.length k ≤ 9223372036854775807 → law24_MarchAlone.f w h cell goal dir k = some true
end Go.Proofs.Ytkidcebfpengmaa
