import Derived.Test.YtkidcebfpengmaaT
import Derived.Test.YtkidcebfpengmaaFref1
namespace Go.Proofs.Ytkidcebfpengmaa
open Go.Hx
set_option maxRecDepth 100000
set_option linter.unusedVariables false
/-! ### herdsman/herdsmanref21.Made: function 13 -/
def ref21_Made.l1 : Nat → Int → Int → (List Int) → List api_Unit → Int → Int → Bool → Int → Option (List api_Unit)
  | 0, _, _, _, _, _, _, _, _ => none
  | k13 + 1, w, h, l, x3, x4, v8, x11, x12 => if x12 < (List.length x3 : Int) then (if x11 = true then (if (0 ≤ x12 ∧ x12 < (List.length x3 : Int)) then (ref21_Made.l1 k13 w h l x3 x4 v8 ((rd x3 x12).Cell != v8) (w64 (x12 + 1))) else none) else (ref21_Made.l1 k13 w h l x3 x4 v8 false (w64 (x12 + 1)))) else (if x11 = true then (if (0 ≤ x4 ∧ x4 < (List.length l : Int)) then ((ref1_Within.f (w64 (Int.tdiv (rd l x4) 5)) 0 (w64 ((w64 (w * h)) - 1))).bind fun v14 => if (List.length x3 + 1 ≤ 1099511627776) then (some (x3 ++ [(api_Unit.mk (w64 ((w64 ((List.length x3 : Int) * 2)) + (w64 (BitVec.toNat (BitVec.ofInt (IntKind.bits .i64) (rd l x4) &&& BitVec.ofInt (IntKind.bits .i64) 1))))) v8 v14)])) else none) else none) else (some x3))
def ref21_Made.l0 : Nat → Int → Int → (List Int) → List api_Unit → Int → Option (List api_Unit)
  | 0, _, _, _, _, _ => none
  | k5 + 1, w, h, l, x3, x4 => if ((decide (x4 < (List.length l : Int))) && (decide ((List.length x3 : Int) < 12))) = true then ((if (0 ≤ x4 ∧ x4 < (List.length l : Int)) then ((ref1_Within.f (rd l x4) 0 (w64 ((w64 (w * h)) - 1))).bind fun v8 => ref21_Made.l1 fuel w h l x3 x4 v8 true 0) else none).bind fun x6 => ref21_Made.l0 k5 w h l x6 (w64 (x4 + 1))) else (some x3)
def ref21_Made.f (w : Int) (h : Int) (l : (List Int)) : Option (List api_Unit) := ref21_Made.l0 fuel w h l [] 0
def ref21_Made.R (r : (List api_Unit)) (u : Value) (G : List Hp) : Prop := ∃ (a0 : Option Addr) (n0 : Nat) (H0 : Hp), SliceO k_api_Unit 40 r a0 n0 H0 ∧ u = (.slice a0 (List.length r) n0) ∧ G = [H0]
set_option maxHeartbeats 4000000 in
theorem ref21_Made.c {a_l : Option Addr} {n_l : Nat} (w : Int) (h : Int) (l : (List Int)) (r : (List api_Unit)) (F : Hp) (H : ref21_Made.f w h l = some r) (h_l : SliceR (Fl.int .i64) l a_l F) (c_l : List.length l ≤ n_l) :
    CallsL Try.prog 13 [(.int .i64 w), (.int .i64 h), (.slice a_l (List.length l) n_l)] [F] (fun p : { p : Value × List Hp // ref21_Made.R r p.1 p.2 } => p.1.1) (fun p => (p.1.2 ++ []) ++ [F]) := by
  unfold ref21_Made.f at H
  refine calls_atL [(0, (.int .i64 w)), (1, (.int .i64 h)), (2, (.slice a_l (List.length l) n_l))] Try.func13 rfl rfl ⟨rfl, rfl, rfl, trivial⟩ (fun W => ?_)
  refine at_seq ?_
  refine at_region [0] rfl ?_
  refine at_s T rfl ?_
  refine at_end ?_
  refine at_sub [(0, (.int .i64 w)), (1, (.int .i64 h)), (2, (.slice a_l (List.length l) n_l))] ⟨rfl, rfl, rfl, trivial⟩ ?_
  refine at_then ?_
  refine at_seq ?_
  refine at_region [0] rfl ?_
  refine at_s T rfl ?_
  refine at_end ?_
  refine at_sub [(0, (.int .i64 w)), (1, (.int .i64 h)), (2, (.slice a_l (List.length l) n_l)), (7, (.slice none 0 0))] ⟨rfl, rfl, rfl, rfl, trivial⟩ ?_
  refine at_then ?_
  refine at_seq ?_
  refine at_seq ?_
  refine at_region [0] rfl ?_
  refine at_s T rfl ?_
  refine at_end ?_
  refine at_sub [(0, (.int .i64 w)), (1, (.int .i64 h)), (2, (.slice a_l (List.length l) n_l)), (7, (.slice none 0 0)), (8, (.int .i64 0))] ⟨rfl, rfl, rfl, rfl, rfl, trivial⟩ ?_
  refine at_then ?_
  refine at_block ?_
  refine at_addnil ?_
  refine at_loopL (σ := Nat × List api_Unit × Int × Option Addr × Nat × Hp) (fun ⟨k5, x3, x4, a2, n2, H2⟩ => ref21_Made.l0 k5 w h l x3 x4 = some r ∧ SliceO k_api_Unit 40 x3 a2 n2 H2) (fun ⟨k5, x3, x4, a2, n2, H2⟩ => [(0, (.int .i64 w)), (1, (.int .i64 h)), (2, (.slice a_l (List.length l) n_l)), (7, (.slice a2 (List.length x3) n2)), (8, (.int .i64 x4))]) (fun ⟨k5, x3, x4, a2, n2, H2⟩ => [F, H2]) (fun s => s.1) (fuel, [], 0, none, 0, []) [0, 0] ⟨H, SliceO.nil⟩ ⟨rfl, rfl, rfl, rfl, rfl, trivial⟩ rfl ?_
  rintro ⟨k5, x3, x4, a2, n2, H2⟩ ⟨Z1, s2⟩
  replace Z1 : ref21_Made.l0 k5 w h l x3 x4 = some r := Z1
  rcases k5 with _ | k5
  · rw [ref21_Made.l0] at Z1; cases Z1
  · rw [ref21_Made.l0] at Z1
    refine at_seq ?_
    refine at_seq ?_
    refine at_region [0, 1, 2, 3, 4, 5, 6, 7, 8] rfl ?_
    iterate 5 refine at_s T rfl ?_
    refine at_grp T [5, 6, 7, 8] (s := 16) (c := (decide (x4 < (List.length l : Int)))) [(0, (.int .i64 w)), (1, (.int .i64 h)), (2, (.slice a_l (List.length l) n_l)), (7, (.slice a2 (List.length x3) n2)), (8, (.int .i64 x4)), (20, (.bool ((decide (x4 < (List.length l : Int))) && (decide ((List.length x3 : Int) < 12)))))] rfl rfl rfl (fun c2 => ⟨rfl, rfl, rfl, rfl, rfl, (by rw [c2]; rfl), trivial⟩) (fun c2 => ⟨rfl, rfl, rfl, rfl, rfl, (by rw [c2]; rfl), trivial⟩) ?_
    refine at_end ?_
    refine at_sub [(0, (.int .i64 w)), (1, (.int .i64 h)), (2, (.slice a_l (List.length l) n_l)), (7, (.slice a2 (List.length x3) n2)), (8, (.int .i64 x4)), (20, (.bool ((decide (x4 < (List.length l : Int))) && (decide ((List.length x3 : Int) < 12)))))] ⟨rfl, rfl, rfl, rfl, rfl, rfl, trivial⟩ ?_
    refine at_then ?_
    refine at_cond rfl (fun c3 => ?_) (fun c3 => ?_)
    · replace Z1 := if_t c3 Z1
      refine at_skip ?_
      refine at_then ?_
      obtain ⟨z7, Z4, Z1⟩ := bind_e Z1
      refine at_seq_mid (σ := List api_Unit × Option Addr × Nat × Hp) (fun ⟨x6, a3, n3, H3⟩ => x6 = z7 ∧ SliceO k_api_Unit 40 x6 a3 n3 H3) (fun ⟨x6, a3, n3, H3⟩ => [(0, (.int .i64 w)), (1, (.int .i64 h)), (2, (.slice a_l (List.length l) n_l)), (7, (.slice a3 (List.length x6) n3)), (8, (.int .i64 x4))]) (fun ⟨x6, a3, n3, H3⟩ => [F, H3]) ?_ ?_
      · refine at_block ?_
        refine at_seq ?_
        refine at_region [0, 1, 2, 3, 4, 5, 6, 7, 8, 9] rfl ?_
        iterate 2 refine at_s T rfl ?_
        obtain ⟨c5, Z4⟩ := chk_e Z4
        obtain ⟨q4, o4, e4⟩ := h_l.addr c5.1 c5.2
        refine at_v rfl (g_index T rfl rfl rfl rfl rfl e4 c5.1 c5.2) ?_
        refine at_v rfl (g_load T rfl rfl rfl rfl (in_elem1 (k := (Fl.int .i64)) (ro_of h_l (j := 0) rfl) e4 c5 0 rfl)) ?_
        iterate 4 refine at_s T rfl ?_
        obtain ⟨v8, V6, Z4⟩ := bind_e Z4
        refine at_cons (at_c (B := fun _ => []) [] rfl rfl rfl rfl has12 rfl rfl (ref1_Within.c (rd l x4) 0 (w64 ((w64 (w * h)) - 1)) v8 _ V6) (fun _ => ?_))
        refine at_s T rfl ?_
        refine at_end ?_
        refine at_sub [(0, (.int .i64 w)), (1, (.int .i64 h)), (2, (.slice a_l (List.length l) n_l)), (7, (.slice a2 (List.length x3) n2)), (8, (.int .i64 x4)), (9, (.int .i64 v8))] ⟨rfl, rfl, rfl, rfl, rfl, rfl, trivial⟩ ?_
        refine at_then ?_
        refine at_seq ?_
        refine at_region [0] rfl ?_
        refine at_s T rfl ?_
        refine at_end ?_
        refine at_sub [(0, (.int .i64 w)), (1, (.int .i64 h)), (2, (.slice a_l (List.length l) n_l)), (7, (.slice a2 (List.length x3) n2)), (8, (.int .i64 x4)), (9, (.int .i64 v8)), (10, (.bool true))] ⟨rfl, rfl, rfl, rfl, rfl, rfl, rfl, trivial⟩ ?_
        refine at_then ?_
        refine at_seq ?_
        refine at_seq ?_
        refine at_region [0] rfl ?_
        refine at_s T rfl ?_
        refine at_end ?_
        refine at_sub [(0, (.int .i64 w)), (1, (.int .i64 h)), (2, (.slice a_l (List.length l) n_l)), (7, (.slice a2 (List.length x3) n2)), (8, (.int .i64 x4)), (9, (.int .i64 v8)), (10, (.bool true)), (11, (.int .i64 0))] ⟨rfl, rfl, rfl, rfl, rfl, rfl, rfl, rfl, trivial⟩ ?_
        refine at_then ?_
        refine at_block ?_
        refine at_loopL (σ := Nat × Bool × Int) (fun ⟨k13, x11, x12⟩ => ref21_Made.l1 k13 w h l x3 x4 v8 x11 x12 = some z7) (fun ⟨k13, x11, x12⟩ => [(0, (.int .i64 w)), (1, (.int .i64 h)), (2, (.slice a_l (List.length l) n_l)), (7, (.slice a2 (List.length x3) n2)), (8, (.int .i64 x4)), (9, (.int .i64 v8)), (10, (.bool x11)), (11, (.int .i64 x12))]) (fun ⟨k13, x11, x12⟩ => [F, H2]) (fun s => s.1) (fuel, true, 0) [0, 0] Z4 ⟨rfl, rfl, rfl, rfl, rfl, rfl, rfl, rfl, trivial⟩ rfl ?_
        rintro ⟨k13, x11, x12⟩ Z7
        replace Z7 : ref21_Made.l1 k13 w h l x3 x4 v8 x11 x12 = some z7 := Z7
        rcases k13 with _ | k13
        · rw [ref21_Made.l1] at Z7; cases Z7
        · rw [ref21_Made.l1] at Z7
          refine at_seq ?_
          refine at_seq ?_
          refine at_region [0, 1, 2, 3] rfl ?_
          iterate 4 refine at_s T rfl ?_
          refine at_end ?_
          refine at_sub [(0, (.int .i64 w)), (1, (.int .i64 h)), (2, (.slice a_l (List.length l) n_l)), (7, (.slice a2 (List.length x3) n2)), (8, (.int .i64 x4)), (9, (.int .i64 v8)), (10, (.bool x11)), (11, (.int .i64 x12)), (35, (.bool (decide (x12 < (List.length x3 : Int)))))] ⟨rfl, rfl, rfl, rfl, rfl, rfl, rfl, rfl, rfl, trivial⟩ ?_
          refine at_then ?_
          refine at_cond rfl (fun c8 => ?_) (fun c8 => ?_)
          · replace Z7 := if_t (of_decide_eq_true c8) Z7
            refine at_skip ?_
            refine at_then ?_
            refine at_seq ?_
            refine at_block ?_
            refine at_region [0, 1, 2, 3, 4, 5, 6, 7, 8, 9, 10] rfl ?_
            iterate 2 refine at_s T rfl ?_
            refine at_case (s := 39) rfl (fun c9 => ?_) (fun c9 => ?_)
            · replace Z7 := if_t c9 Z7
              iterate 2 refine at_s T rfl ?_
              obtain ⟨c10, Z7⟩ := chk_e Z7
              obtain ⟨q5, o5, e5⟩ := s2.r.addr c10.1 c10.2
              refine at_v rfl (g_index T rfl rfl rfl rfl rfl e5 c10.1 c10.2) ?_
              refine at_s T rfl ?_
              refine at_v rfl (g_load T rfl rfl rfl rfl (in_elem1 (k := k_api_Unit) (own_of s2 (j := 1) rfl) e5 c10 1 rfl)) ?_
              iterate 4 refine at_s T rfl ?_
              refine at_end ?_
              refine at_sub [(0, (.int .i64 w)), (1, (.int .i64 h)), (2, (.slice a_l (List.length l) n_l)), (7, (.slice a2 (List.length x3) n2)), (8, (.int .i64 x4)), (9, (.int .i64 v8)), (10, (.bool ((rd x3 x12).Cell != v8))), (11, (.int .i64 x12))] ⟨rfl, rfl, rfl, rfl, rfl, rfl, rfl, rfl, trivial⟩ ?_
              refine at_nb ?_
              refine at_then ?_
              refine at_region [0, 1, 2] rfl ?_
              iterate 3 refine at_s T rfl ?_
              refine at_end ?_
              refine at_sub [(0, (.int .i64 w)), (1, (.int .i64 h)), (2, (.slice a_l (List.length l) n_l)), (7, (.slice a2 (List.length x3) n2)), (8, (.int .i64 x4)), (9, (.int .i64 v8)), (10, (.bool ((rd x3 x12).Cell != v8))), (11, (.int .i64 (w64 (x12 + 1))))] ⟨rfl, rfl, rfl, rfl, rfl, rfl, rfl, rfl, trivial⟩ ?_
              refine at_then ?_
              exact at_roundL (k13, ((rd x3 x12).Cell != v8), (w64 (x12 + 1))) [0, 0] Z7 (Nat.lt_succ_self _) ⟨rfl, rfl, rfl, rfl, rfl, rfl, rfl, rfl, trivial⟩ rfl
            · replace Z7 := if_f (bf c9) Z7
              iterate 9 refine at_s T rfl ?_
              refine at_end ?_
              refine at_sub [(0, (.int .i64 w)), (1, (.int .i64 h)), (2, (.slice a_l (List.length l) n_l)), (7, (.slice a2 (List.length x3) n2)), (8, (.int .i64 x4)), (9, (.int .i64 v8)), (10, (.bool false)), (11, (.int .i64 x12))] ⟨rfl, rfl, rfl, rfl, rfl, rfl, rfl, rfl, trivial⟩ ?_
              refine at_nb ?_
              refine at_then ?_
              refine at_region [0, 1, 2] rfl ?_
              iterate 3 refine at_s T rfl ?_
              refine at_end ?_
              refine at_sub [(0, (.int .i64 w)), (1, (.int .i64 h)), (2, (.slice a_l (List.length l) n_l)), (7, (.slice a2 (List.length x3) n2)), (8, (.int .i64 x4)), (9, (.int .i64 v8)), (10, (.bool false)), (11, (.int .i64 (w64 (x12 + 1))))] ⟨rfl, rfl, rfl, rfl, rfl, rfl, rfl, rfl, trivial⟩ ?_
              refine at_then ?_
              exact at_roundL (k13, false, (w64 (x12 + 1))) [0, 0] Z7 (Nat.lt_succ_self _) ⟨rfl, rfl, rfl, rfl, rfl, rfl, rfl, rfl, trivial⟩ rfl
          · replace Z7 := if_f (of_decide_eq_false c8) Z7
            refine at_exit ?_
            refine at_xt ?_
            refine at_xt ?_
            refine at_xb ?_
            refine at_then ?_
            refine at_seq ?_
            refine at_region [0] rfl ?_
            refine at_s T rfl ?_
            refine at_end ?_
            refine at_sub [(0, (.int .i64 w)), (1, (.int .i64 h)), (2, (.slice a_l (List.length l) n_l)), (7, (.slice a2 (List.length x3) n2)), (8, (.int .i64 x4)), (9, (.int .i64 v8)), (48, (.bool x11))] ⟨rfl, rfl, rfl, rfl, rfl, rfl, rfl, trivial⟩ ?_
            refine at_then ?_
            refine at_cond rfl (fun c11 => ?_) (fun c11 => ?_)
            · replace Z7 := if_t c11 Z7
              refine at_region_m [[], [], [1], [1, 2], [], [], [4, 5], [4, 5, 6], [4, 5, 6, 7], [1, 2, 3, 4, 5, 6, 7, 8], [], [], [], [11, 12], [11, 12, 13], [11, 12, 13, 14], [], [], [16, 17], [16, 17, 18], [11, 12, 13, 14, 15, 16, 17, 18, 19], [1, 2, 3, 4, 5, 6, 7, 8, 9, 10, 11, 12, 13, 14, 15, 16, 17, 18, 19, 20], [1, 2, 3, 4, 5, 6, 7, 8, 9, 10, 11, 12, 13, 14, 15, 16, 17, 18, 19, 20, 21], [0, 1, 2, 3, 4, 5, 6, 7, 8, 9, 10, 11, 12, 13, 14, 15, 16, 17, 18, 19, 20, 21, 22], [0, 1, 2, 3, 4, 5, 6, 7, 8, 9, 10, 11, 12, 13, 14, 15, 16, 17, 18, 19, 20, 21, 22, 23]] [23] [F, H2] mix (by kernel_rfl) (by repeat first | exact pf_body | refine pf_then ?_ | refine pf_block ?_) (fun hg pf => ?_)
              refine atm_s T 0 hg pf (by kernel_rfl) (still_o [0, 0] rfl) rfl ?_
              refine atm_s T 1 hg pf (by kernel_rfl) (still_o [0, 0] rfl) rfl ?_
              refine atm_s T 2 hg pf (by kernel_rfl) (still_o [0, 0] rfl) rfl ?_
              refine atm_s T 3 hg pf (by kernel_rfl) (still_o [0, 0] rfl) rfl ?_
              refine atm_s T 4 hg pf (by kernel_rfl) (still_o [0, 0] rfl) rfl ?_
              refine atm_s T 5 hg pf (by kernel_rfl) (still_o [0, 0] rfl) rfl ?_
              obtain ⟨c12, Z7⟩ := chk_e Z7
              obtain ⟨q6, o6, e6⟩ := h_l.addr c12.1 c12.2
              refine atm_v 6 hg pf (by kernel_rfl) (still_o [0, 0] rfl) rfl rfl (g_index T rfl rfl rfl rfl rfl e6 c12.1 c12.2) ?_
              refine atm_v 7 hg pf (by kernel_rfl) (still_o [0, 0] rfl) rfl rfl (g_load T rfl rfl rfl rfl (in_elem1 (k := (Fl.int .i64)) (ro_of h_l (j := 0) rfl) e6 c12 0 rfl)) ?_
              refine atm_s T 8 hg pf (by kernel_rfl) (still_o [0, 0] rfl) rfl ?_
              refine atm_s T 9 hg pf (by kernel_rfl) (still_o [0, 0] rfl) rfl ?_
              refine atm_s T 10 hg pf (by kernel_rfl) (still_o [0, 0] rfl) rfl ?_
              refine atm_s T 11 hg pf (by kernel_rfl) (still_o [0, 0] rfl) rfl ?_
              refine atm_s T 12 hg pf (by kernel_rfl) (still_o [0, 0] rfl) rfl ?_
              refine atm_v 13 hg pf (by kernel_rfl) (still_o [0, 0] rfl) rfl rfl (g_index T rfl rfl rfl rfl rfl e6 c12.1 c12.2) ?_
              refine atm_v 14 hg pf (by kernel_rfl) (still_o [0, 0] rfl) rfl rfl (g_load T rfl rfl rfl rfl (in_elem1 (k := (Fl.int .i64)) (ro_of h_l (j := 0) rfl) e6 c12 0 rfl)) ?_
              refine atm_s T 15 hg pf (by kernel_rfl) (still_o [0, 0] rfl) rfl ?_
              refine atm_s T 16 hg pf (by kernel_rfl) (still_o [0, 0] rfl) rfl ?_
              refine atm_s T 17 hg pf (by kernel_rfl) (still_o [0, 0] rfl) rfl ?_
              refine atm_s T 18 hg pf (by kernel_rfl) (still_o [0, 0] rfl) rfl ?_
              refine atm_s T 19 hg pf (by kernel_rfl) (still_o [0, 0] rfl) rfl ?_
              refine atm_one 20 (by kernel_rfl) ?_
              obtain ⟨v14, V13, Z7⟩ := bind_e Z7
              refine at_c (B := fun _ => []) [] rfl rfl rfl rfl has12 rfl rfl (ref1_Within.c (w64 (Int.tdiv (rd l x4) 5)) 0 (w64 ((w64 (w * h)) - 1)) v14 _ V13) (fun _ => ?_)
              refine atm_next (still_o [0, 0] rfl) ?_
              refine atm_s T 21 hg pf (by kernel_rfl) (still_o [0, 0] rfl) rfl ?_
              refine atm_one 22 (by kernel_rfl) ?_
              refine at_bs (k := k_api_Unit) T [(api_Unit.mk (w64 ((w64 ((List.length x3 : Int) * 2)) + (w64 (BitVec.toNat (BitVec.ofInt (IntKind.bits .i64) (rd l x4) &&& BitVec.ofInt (IntKind.bits .i64) 1))))) v8 v14)] rfl rfl rfl rfl rfl rfl rfl rfl rfl (fun a7 H7 s7 => ?_)
              refine atm_next (still_o [0, 0] rfl) ?_
              refine atm_one 23 (by kernel_rfl) ?_
              obtain ⟨c14, Z7⟩ := chk_e Z7
              refine at_ap (k := k_api_Unit) (xs := x3) T (g := 1) rfl rfl rfl rfl rfl rfl rfl rfl rfl rfl s2 (own_of s7 (j := 2) rfl) c14 rfl (fun a8 n8 H8 s8 => ?_)
              refine atm_next (still_l (by kernel_rfl)) ?_
              refine atm_s T 24 hg pf (by kernel_rfl) (still_l (by kernel_rfl)) rfl ?_
              refine atm_end (by kernel_rfl) ?_
              refine at_to [(0, (.int .i64 w)), (1, (.int .i64 h)), (2, (.slice a_l (List.length l) n_l)), (7, (.slice a8 (List.length (x3 ++ [(api_Unit.mk (w64 ((w64 ((List.length x3 : Int) * 2)) + (w64 (BitVec.toNat (BitVec.ofInt (IntKind.bits .i64) (rd l x4) &&& BitVec.ofInt (IntKind.bits .i64) 1))))) v8 v14)])) n8)), (8, (.int .i64 x4))] [0, 0] [F, H8] ⟨rfl, rfl, rfl, rfl, rfl, trivial⟩ rfl ?_
              refine at_nb ?_
              refine at_then ?_
              obtain rfl := Option.some.inj Z7
              exact at_mid ((x3 ++ [(api_Unit.mk (w64 ((w64 ((List.length x3 : Int) * 2)) + (w64 (BitVec.toNat (BitVec.ofInt (IntKind.bits .i64) (rd l x4) &&& BitVec.ofInt (IntKind.bits .i64) 1))))) v8 v14)]), a8, n8, H8) [0, 0] ⟨rfl, s8⟩ ⟨rfl, rfl, rfl, rfl, rfl, trivial⟩ rfl
            · replace Z7 := if_f (bf c11) Z7
              refine at_skip ?_
              refine at_nb ?_
              refine at_then ?_
              obtain rfl := Option.some.inj Z7
              exact at_mid (x3, a2, n2, H2) [0, 0] ⟨rfl, s2⟩ ⟨rfl, rfl, rfl, rfl, rfl, trivial⟩ rfl
      · rintro ⟨x6, a3, n3, H3⟩ ⟨rfl, s3⟩
        refine at_region [0, 1, 2] rfl ?_
        iterate 3 refine at_s T rfl ?_
        refine at_end ?_
        refine at_sub [(0, (.int .i64 w)), (1, (.int .i64 h)), (2, (.slice a_l (List.length l) n_l)), (7, (.slice a3 (List.length x6) n3)), (8, (.int .i64 (w64 (x4 + 1))))] ⟨rfl, rfl, rfl, rfl, rfl, trivial⟩ ?_
        refine at_then ?_
        exact at_roundL (k5, x6, (w64 (x4 + 1)), a3, n3, H3) [0, 0] ⟨Z1, s3⟩ (Nat.lt_succ_self _) ⟨rfl, rfl, rfl, rfl, rfl, trivial⟩ rfl
    · replace Z1 := if_f (bf c3) Z1
      refine at_exit ?_
      refine at_xt ?_
      refine at_xt ?_
      refine at_xb ?_
      refine at_then ?_
      refine at_seq ?_
      refine at_region [0, 1] rfl ?_
      iterate 2 refine at_s T rfl ?_
      refine at_end ?_
      refine at_sub [(6, (.slice a2 (List.length x3) n2))] ⟨rfl, trivial⟩ ?_
      refine at_then ?_
      refine at_ret ?_
      obtain rfl := Option.some.inj Z1
      exact at_post (T := T) rfl (.tmp rfl .nil) (fun w o => ⟨⟨(_, _), ⟨a2, n2, H2, s2, rfl, rfl⟩⟩, rfl, own_to [1, 0] rfl o⟩)

/-! ### herdsman/herdsmanref21.Same: function 16 -/
def ref21_Same.l0 : Nat → (List api_Unit) → (List api_Unit) → Int → Option Bool
  | 0, _, _, _ => none
  | k3 + 1, a, b, x2 => if x2 < (List.length a : Int) then (if (0 ≤ x2 ∧ x2 < (List.length a : Int)) then (if (0 ≤ x2 ∧ x2 < (List.length b : Int)) then (if (!(((rd a x2).Id == (rd b x2).Id) && (((rd a x2).Cell == (rd b x2).Cell) && (((rd a x2).Goal == (rd b x2).Goal) && true)))) = true then (some false) else (ref21_Same.l0 k3 a b (w64 (x2 + 1)))) else none) else none) else (some true)
def ref21_Same.f (a : (List api_Unit)) (b : (List api_Unit)) : Option Bool := if ((List.length a : Int) != (List.length b : Int)) = true then (some false) else (ref21_Same.l0 fuel a b 0)
set_option maxHeartbeats 4000000 in
theorem ref21_Same.c {a_a : Option Addr} {n_a : Nat} {a_b : Option Addr} {n_b : Nat} (a : (List api_Unit)) (b : (List api_Unit)) (r : Bool) (F : Hp) (H : ref21_Same.f a b = some r) (h_a : SliceR k_api_Unit a a_a F) (c_a : List.length a ≤ n_a) (h_b : SliceR k_api_Unit b a_b F) (c_b : List.length b ≤ n_b) :
    CallsL Try.prog 16 [(.slice a_a (List.length a) n_a), (.slice a_b (List.length b) n_b)] [F] (fun _ : Unit => (.bool r)) (fun _ => [F]) := by
  unfold ref21_Same.f at H
  refine calls_atL [(0, (.slice a_a (List.length a) n_a)), (1, (.slice a_b (List.length b) n_b))] Try.func16 rfl rfl ⟨rfl, rfl, trivial⟩ (fun W => ?_)
  refine at_seq ?_
  refine at_region [0] rfl ?_
  refine at_s T rfl ?_
  refine at_end ?_
  refine at_sub [(0, (.slice a_a (List.length a) n_a)), (1, (.slice a_b (List.length b) n_b))] ⟨rfl, rfl, trivial⟩ ?_
  refine at_then ?_
  refine at_seq ?_
  refine at_seq ?_
  refine at_region [0, 1, 2, 3, 4] rfl ?_
  iterate 5 refine at_s T rfl ?_
  refine at_end ?_
  refine at_sub [(0, (.slice a_a (List.length a) n_a)), (1, (.slice a_b (List.length b) n_b)), (10, (.bool ((List.length a : Int) != (List.length b : Int))))] ⟨rfl, rfl, rfl, trivial⟩ ?_
  refine at_then ?_
  refine at_cond rfl (fun c1 => ?_) (fun c1 => ?_)
  · replace H := if_t c1 H
    refine at_seq ?_
    refine at_region [0] rfl ?_
    refine at_s T rfl ?_
    refine at_end ?_
    refine at_sub [(4, (.bool false))] ⟨rfl, trivial⟩ ?_
    refine at_then ?_
    refine at_ret ?_
    refine at_rt ?_
    obtain rfl := Option.some.inj H
    exact at_post (T := T) rfl (.tmp rfl .nil) (fun w o => ⟨(), rfl, own_to [0] rfl o⟩)
  · replace H := if_f (bf c1) H
    refine at_skip ?_
    refine at_then ?_
    refine at_seq ?_
    refine at_seq ?_
    refine at_region [0] rfl ?_
    refine at_s T rfl ?_
    refine at_end ?_
    refine at_sub [(0, (.slice a_a (List.length a) n_a)), (1, (.slice a_b (List.length b) n_b)), (5, (.int .i64 0))] ⟨rfl, rfl, rfl, trivial⟩ ?_
    refine at_then ?_
    refine at_block ?_
    refine at_loopL (σ := Nat × Int) (fun ⟨k3, x2⟩ => ref21_Same.l0 k3 a b x2 = some r) (fun ⟨k3, x2⟩ => [(0, (.slice a_a (List.length a) n_a)), (1, (.slice a_b (List.length b) n_b)), (5, (.int .i64 x2))]) (fun ⟨k3, x2⟩ => [F]) (fun s => s.1) (fuel, 0) [0] H ⟨rfl, rfl, rfl, trivial⟩ rfl ?_
    rintro ⟨k3, x2⟩ Z2
    replace Z2 : ref21_Same.l0 k3 a b x2 = some r := Z2
    rcases k3 with _ | k3
    · rw [ref21_Same.l0] at Z2; cases Z2
    · rw [ref21_Same.l0] at Z2
      refine at_seq ?_
      refine at_seq ?_
      refine at_region [0, 1, 2, 3] rfl ?_
      iterate 4 refine at_s T rfl ?_
      refine at_end ?_
      refine at_sub [(0, (.slice a_a (List.length a) n_a)), (1, (.slice a_b (List.length b) n_b)), (5, (.int .i64 x2)), (14, (.bool (decide (x2 < (List.length a : Int)))))] ⟨rfl, rfl, rfl, rfl, trivial⟩ ?_
      refine at_then ?_
      refine at_cond rfl (fun c3 => ?_) (fun c3 => ?_)
      · replace Z2 := if_t (of_decide_eq_true c3) Z2
        refine at_skip ?_
        refine at_then ?_
        refine at_seq ?_
        refine at_block ?_
        refine at_seq ?_
        refine at_region_q mix (by kernel_rfl) ?_
        iterate 2 refine atq_s T rfl ?_
        obtain ⟨c4, Z2⟩ := chk_e Z2
        obtain ⟨q1, o1, e1⟩ := h_a.addr c4.1 c4.2
        refine atq_v rfl rfl rfl (g_index T rfl rfl rfl rfl rfl e1 c4.1 c4.2) ?_
        refine atq_v rfl rfl rfl (g_loadA T (cs := [(.int .i64 (rd a x2).Id), (.int .i64 (rd a x2).Cell), (.int .i64 (rd a x2).Goal)]) rfl rfl rfl rfl rfl rfl (in_elemA (k := k_api_Unit) (ro_of h_a (j := 0) rfl) e1 c4 rfl)) ?_
        iterate 2 refine atq_s T rfl ?_
        obtain ⟨c5, Z2⟩ := chk_e Z2
        obtain ⟨q2, o2, e2⟩ := h_b.addr c5.1 c5.2
        refine atq_v rfl rfl rfl (g_index T rfl rfl rfl rfl rfl e2 c5.1 c5.2) ?_
        refine atq_v rfl rfl rfl (g_loadA T (cs := [(.int .i64 (rd b x2).Id), (.int .i64 (rd b x2).Cell), (.int .i64 (rd b x2).Goal)]) rfl rfl rfl rfl rfl rfl (in_elemA (k := k_api_Unit) (ro_of h_b (j := 0) rfl) e2 c5 rfl)) ?_
        refine atq_v rfl rfl rfl (g_aeqn T (((rd a x2).Id == (rd b x2).Id) && (((rd a x2).Cell == (rd b x2).Cell) && (((rd a x2).Goal == (rd b x2).Goal) && true))) rfl rfl rfl rfl sq40 (by kernel_rfl) rfl) ?_
        refine atq_end ?_
        refine at_sub [(0, (.slice a_a (List.length a) n_a)), (1, (.slice a_b (List.length b) n_b)), (5, (.int .i64 x2)), (25, (.bool (!(((rd a x2).Id == (rd b x2).Id) && (((rd a x2).Cell == (rd b x2).Cell) && (((rd a x2).Goal == (rd b x2).Goal) && true))))))] ⟨rfl, rfl, rfl, rfl, trivial⟩ ?_
        refine at_then ?_
        refine at_cond rfl (fun c6 => ?_) (fun c6 => ?_)
        · replace Z2 := if_t c6 Z2
          refine at_seq ?_
          refine at_region [0] rfl ?_
          refine at_s T rfl ?_
          refine at_end ?_
          refine at_sub [(4, (.bool false))] ⟨rfl, trivial⟩ ?_
          refine at_then ?_
          refine at_ret ?_
          refine at_rb ?_
          refine at_rt ?_
          refine at_rt ?_
          refine at_rb ?_
          refine at_rt ?_
          obtain rfl := Option.some.inj Z2
          exact at_post (T := T) rfl (.tmp rfl .nil) (fun w o => ⟨(), rfl, own_to [0] rfl o⟩)
        · replace Z2 := if_f (bf c6) Z2
          refine at_skip ?_
          refine at_nb ?_
          refine at_then ?_
          refine at_region [0, 1, 2] rfl ?_
          iterate 3 refine at_s T rfl ?_
          refine at_end ?_
          refine at_sub [(0, (.slice a_a (List.length a) n_a)), (1, (.slice a_b (List.length b) n_b)), (5, (.int .i64 (w64 (x2 + 1))))] ⟨rfl, rfl, rfl, trivial⟩ ?_
          refine at_then ?_
          exact at_roundL (k3, (w64 (x2 + 1))) [0] Z2 (Nat.lt_succ_self _) ⟨rfl, rfl, rfl, trivial⟩ rfl
      · replace Z2 := if_f (of_decide_eq_false c3) Z2
        refine at_exit ?_
        refine at_xt ?_
        refine at_xt ?_
        refine at_xb ?_
        refine at_then ?_
        refine at_seq ?_
        refine at_region [0] rfl ?_
        refine at_s T rfl ?_
        refine at_end ?_
        refine at_sub [(4, (.bool true))] ⟨rfl, trivial⟩ ?_
        refine at_then ?_
        refine at_ret ?_
        obtain rfl := Option.some.inj Z2
        exact at_post (T := T) rfl (.tmp rfl .nil) (fun w o => ⟨(), rfl, own_to [0] rfl o⟩)

/-! ### herdsman/herdsmanref21.May: function 18 -/
def ref21_May.l1 : Nat → (List api_Unit) → Int → Int → Option (Sum Bool Unit)
  | 0, _, _, _ => none
  | k14 + 1, l, x3, x13 => if x13 < x3 then (if (0 ≤ x13 ∧ x13 < (List.length l : Int)) then (if (0 ≤ x3 ∧ x3 < (List.length l : Int)) then (if ((rd l x13).Cell == (rd l x3).Cell) = true then (some (Sum.inl false)) else (ref21_May.l1 k14 l x3 (w64 (x13 + 1)))) else none) else none) else (some (Sum.inr ()))
def ref21_May.l0 : Nat → Int → Int → (List api_Unit) → Int → Option Bool
  | 0, _, _, _, _ => none
  | k4 + 1, w, h, l, x3 => if x3 < (List.length l : Int) then (((if (0 ≤ x3 ∧ x3 < (List.length l : Int)) then (if (rd l x3).Id < 0 then (some true) else (if x3 > 0 then (if (0 ≤ (w64 (x3 - 1)) ∧ (w64 (x3 - 1)) < (List.length l : Int)) then (if (rd l x3).Id ≤ (rd l (w64 (x3 - 1))).Id then (some true) else ((ref1_IsCell.f w h ((rd l x3).Cell)).bind fun v8 => if (!v8) = true then (some true) else ((ref1_IsCell.f w h ((rd l x3).Goal)).bind fun v9 => some (!v9)))) else none) else ((ref1_IsCell.f w h ((rd l x3).Cell)).bind fun v10 => if (!v10) = true then (some true) else ((ref1_IsCell.f w h ((rd l x3).Goal)).bind fun v11 => some (!v11))))) else none).bind fun x6 => if x6 = true then (some (Sum.inl false)) else (ref21_May.l1 fuel l x3 0)).bind fun zz => match zz with | Sum.inl q => some q | Sum.inr _ => ref21_May.l0 k4 w h l (w64 (x3 + 1))) else (some true)
def ref21_May.f (w : Int) (h : Int) (l : (List api_Unit)) : Option Bool := (ref1_May.f w h).bind fun v1 => if (!v1) = true then (some false) else (ref21_May.l0 fuel w h l 0)
set_option maxHeartbeats 4000000 in
theorem ref21_May.c {a_l : Option Addr} {n_l : Nat} (w : Int) (h : Int) (l : (List api_Unit)) (r : Bool) (F : Hp) (H : ref21_May.f w h l = some r) (h_l : SliceR k_api_Unit l a_l F) (c_l : List.length l ≤ n_l) :
    CallsL Try.prog 18 [(.int .i64 w), (.int .i64 h), (.slice a_l (List.length l) n_l)] [F] (fun _ : Unit => (.bool r)) (fun _ => [F]) := by
  unfold ref21_May.f at H
  refine calls_atL [(0, (.int .i64 w)), (1, (.int .i64 h)), (2, (.slice a_l (List.length l) n_l))] Try.func18 rfl rfl ⟨rfl, rfl, rfl, trivial⟩ (fun W => ?_)
  refine at_seq ?_
  refine at_region [0] rfl ?_
  refine at_s T rfl ?_
  refine at_end ?_
  refine at_sub [(0, (.int .i64 w)), (1, (.int .i64 h)), (2, (.slice a_l (List.length l) n_l))] ⟨rfl, rfl, rfl, trivial⟩ ?_
  refine at_then ?_
  refine at_seq ?_
  refine at_seq ?_
  refine at_region [0, 1, 2, 3] rfl ?_
  iterate 2 refine at_s T rfl ?_
  obtain ⟨v1, V1, H⟩ := bind_e H
  refine at_cons (at_c (B := fun _ => []) [] rfl rfl rfl rfl has47 rfl rfl (ref1_May.c w h v1 _ V1) (fun _ => ?_))
  refine at_s T rfl ?_
  refine at_end ?_
  refine at_sub [(0, (.int .i64 w)), (1, (.int .i64 h)), (2, (.slice a_l (List.length l) n_l)), (12, (.bool (!v1)))] ⟨rfl, rfl, rfl, rfl, trivial⟩ ?_
  refine at_then ?_
  refine at_cond rfl (fun c2 => ?_) (fun c2 => ?_)
  · replace H := if_t c2 H
    refine at_seq ?_
    refine at_region [0] rfl ?_
    refine at_s T rfl ?_
    refine at_end ?_
    refine at_sub [(6, (.bool false))] ⟨rfl, trivial⟩ ?_
    refine at_then ?_
    refine at_ret ?_
    refine at_rt ?_
    obtain rfl := Option.some.inj H
    exact at_post (T := T) rfl (.tmp rfl .nil) (fun w o => ⟨(), rfl, own_to [0] rfl o⟩)
  · replace H := if_f (bf c2) H
    refine at_skip ?_
    refine at_then ?_
    refine at_seq ?_
    refine at_seq ?_
    refine at_region [0] rfl ?_
    refine at_s T rfl ?_
    refine at_end ?_
    refine at_sub [(0, (.int .i64 w)), (1, (.int .i64 h)), (2, (.slice a_l (List.length l) n_l)), (7, (.int .i64 0))] ⟨rfl, rfl, rfl, rfl, trivial⟩ ?_
    refine at_then ?_
    refine at_block ?_
    refine at_loopL (σ := Nat × Int) (fun ⟨k4, x3⟩ => ref21_May.l0 k4 w h l x3 = some r) (fun ⟨k4, x3⟩ => [(0, (.int .i64 w)), (1, (.int .i64 h)), (2, (.slice a_l (List.length l) n_l)), (7, (.int .i64 x3))]) (fun ⟨k4, x3⟩ => [F]) (fun s => s.1) (fuel, 0) [0] H ⟨rfl, rfl, rfl, rfl, trivial⟩ rfl ?_
    rintro ⟨k4, x3⟩ Z3
    replace Z3 : ref21_May.l0 k4 w h l x3 = some r := Z3
    rcases k4 with _ | k4
    · rw [ref21_May.l0] at Z3; cases Z3
    · rw [ref21_May.l0] at Z3
      refine at_seq ?_
      refine at_seq ?_
      refine at_region [0, 1, 2, 3] rfl ?_
      iterate 4 refine at_s T rfl ?_
      refine at_end ?_
      refine at_sub [(0, (.int .i64 w)), (1, (.int .i64 h)), (2, (.slice a_l (List.length l) n_l)), (7, (.int .i64 x3)), (16, (.bool (decide (x3 < (List.length l : Int)))))] ⟨rfl, rfl, rfl, rfl, rfl, trivial⟩ ?_
      refine at_then ?_
      refine at_cond rfl (fun c4 => ?_) (fun c4 => ?_)
      · replace Z3 := if_t (of_decide_eq_true c4) Z3
        refine at_skip ?_
        refine at_then ?_
        obtain ⟨z5, Z5, Z3⟩ := bind_e Z3
        refine at_seq_mid (σ := Unit) (fun ⟨⟩ => (Sum.inr ()) = z5) (fun ⟨⟩ => [(0, (.int .i64 w)), (1, (.int .i64 h)), (2, (.slice a_l (List.length l) n_l)), (7, (.int .i64 x3))]) (fun ⟨⟩ => [F]) ?_ ?_
        · refine at_block ?_
          refine at_seq ?_
          obtain ⟨z7, Z6, Z5⟩ := bind_e Z5
          refine at_seq_mid (σ := Bool) (fun x6 => x6 = z7) (fun x6 => [(0, (.int .i64 w)), (1, (.int .i64 h)), (2, (.slice a_l (List.length l) n_l)), (7, (.int .i64 x3)), (64, (.bool x6))]) (fun x6 => [F]) ?_ ?_
          · refine at_region_q mix (by kernel_rfl) ?_
            iterate 2 refine atq_s T rfl ?_
            obtain ⟨c7, Z6⟩ := chk_e Z6
            obtain ⟨q1, o1, e1⟩ := h_l.addr c7.1 c7.2
            refine atq_v rfl rfl rfl (g_index T rfl rfl rfl rfl rfl e1 c7.1 c7.2) ?_
            refine atq_s T rfl ?_
            refine atq_v rfl rfl rfl (g_load T rfl rfl rfl rfl (in_elem1 (k := k_api_Unit) (ro_of h_l (j := 0) rfl) e1 c7 0 rfl)) ?_
            iterate 2 refine atq_s T rfl ?_
            refine atq_case (s := 25) rfl (fun c8 => ?_) (fun c8 => ?_)
            · replace Z6 := if_t (of_decide_eq_true c8) Z6
              iterate 39 refine atq_s T rfl ?_
              refine atq_end ?_
              refine at_sub [(0, (.int .i64 w)), (1, (.int .i64 h)), (2, (.slice a_l (List.length l) n_l)), (7, (.int .i64 x3)), (64, (.bool true))] ⟨rfl, rfl, rfl, rfl, rfl, trivial⟩ ?_
              refine at_then ?_
              obtain rfl := Option.some.inj Z6
              exact at_mid true [0] rfl ⟨rfl, rfl, rfl, rfl, rfl, trivial⟩ rfl
            · replace Z6 := if_f (of_decide_eq_false c8) Z6
              iterate 3 refine atq_s T rfl ?_
              refine atq_case (s := 28) rfl (fun c9 => ?_) (fun c9 => ?_)
              · replace Z6 := if_t (of_decide_eq_true c9) Z6
                iterate 2 refine atq_s T rfl ?_
                refine atq_v rfl rfl rfl (g_index T rfl rfl rfl rfl rfl e1 c7.1 c7.2) ?_
                refine atq_s T rfl ?_
                refine atq_v rfl rfl rfl (g_load T rfl rfl rfl rfl (in_elem1 (k := k_api_Unit) (ro_of h_l (j := 0) rfl) e1 c7 0 rfl)) ?_
                iterate 3 refine atq_s T rfl ?_
                obtain ⟨c10, Z6⟩ := chk_e Z6
                refine atq_v rfl rfl rfl (g_index T rfl rfl rfl rfl rfl e1 c10.1 c10.2) ?_
                refine atq_s T rfl ?_
                refine atq_v rfl rfl rfl (g_load T rfl rfl rfl rfl (in_elem1 (k := k_api_Unit) (ro_of h_l (j := 0) rfl) e1 c10 0 rfl)) ?_
                iterate 4 refine atq_s T rfl ?_
                refine atq_case (s := 43) rfl (fun c11 => ?_) (fun c11 => ?_)
                · replace Z6 := if_t (of_decide_eq_true c11) Z6
                  iterate 21 refine atq_s T rfl ?_
                  refine atq_end ?_
                  refine at_sub [(0, (.int .i64 w)), (1, (.int .i64 h)), (2, (.slice a_l (List.length l) n_l)), (7, (.int .i64 x3)), (64, (.bool true))] ⟨rfl, rfl, rfl, rfl, rfl, trivial⟩ ?_
                  refine at_then ?_
                  obtain rfl := Option.some.inj Z6
                  exact at_mid true [0] rfl ⟨rfl, rfl, rfl, rfl, rfl, trivial⟩ rfl
                · replace Z6 := if_f (of_decide_eq_false c11) Z6
                  iterate 4 refine atq_s T rfl ?_
                  refine atq_v rfl rfl rfl (g_index T rfl rfl rfl rfl rfl e1 c7.1 c7.2) ?_
                  refine atq_s T rfl ?_
                  refine atq_v rfl rfl rfl (g_load T rfl rfl rfl rfl (in_elem1 (k := k_api_Unit) (ro_of h_l (j := 0) rfl) e1 c7 1 rfl)) ?_
                  obtain ⟨v8, V12, Z6⟩ := bind_e Z6
                  refine atq_c rfl rfl rfl rfl rfl rfl has48 rfl (ref1_IsCell.c w h ((rd l x3).Cell) v8 _ V12) ?_
                  iterate 3 refine atq_s T rfl ?_
                  refine atq_case (s := 54) rfl (fun c13 => ?_) (fun c13 => ?_)
                  · replace Z6 := if_t c13 Z6
                    iterate 10 refine atq_s T rfl ?_
                    refine atq_end ?_
                    refine at_sub [(0, (.int .i64 w)), (1, (.int .i64 h)), (2, (.slice a_l (List.length l) n_l)), (7, (.int .i64 x3)), (64, (.bool true))] ⟨rfl, rfl, rfl, rfl, rfl, trivial⟩ ?_
                    refine at_then ?_
                    obtain rfl := Option.some.inj Z6
                    exact at_mid true [0] rfl ⟨rfl, rfl, rfl, rfl, rfl, trivial⟩ rfl
                  · replace Z6 := if_f (bf c13) Z6
                    iterate 4 refine atq_s T rfl ?_
                    refine atq_v rfl rfl rfl (g_index T rfl rfl rfl rfl rfl e1 c7.1 c7.2) ?_
                    refine atq_s T rfl ?_
                    refine atq_v rfl rfl rfl (g_load T rfl rfl rfl rfl (in_elem1 (k := k_api_Unit) (ro_of h_l (j := 0) rfl) e1 c7 2 rfl)) ?_
                    obtain ⟨v9, V14, Z6⟩ := bind_e Z6
                    refine atq_c rfl rfl rfl rfl rfl rfl has48 rfl (ref1_IsCell.c w h ((rd l x3).Goal) v9 _ V14) ?_
                    iterate 2 refine atq_s T rfl ?_
                    refine atq_end ?_
                    refine at_sub [(0, (.int .i64 w)), (1, (.int .i64 h)), (2, (.slice a_l (List.length l) n_l)), (7, (.int .i64 x3)), (64, (.bool (!v9)))] ⟨rfl, rfl, rfl, rfl, rfl, trivial⟩ ?_
                    refine at_then ?_
                    obtain rfl := Option.some.inj Z6
                    exact at_mid (!v9) [0] rfl ⟨rfl, rfl, rfl, rfl, rfl, trivial⟩ rfl
              · replace Z6 := if_f (of_decide_eq_false c9) Z6
                iterate 19 refine atq_s T rfl ?_
                refine atq_v rfl rfl rfl (g_index T rfl rfl rfl rfl rfl e1 c7.1 c7.2) ?_
                refine atq_s T rfl ?_
                refine atq_v rfl rfl rfl (g_load T rfl rfl rfl rfl (in_elem1 (k := k_api_Unit) (ro_of h_l (j := 0) rfl) e1 c7 1 rfl)) ?_
                obtain ⟨v10, V15, Z6⟩ := bind_e Z6
                refine atq_c rfl rfl rfl rfl rfl rfl has48 rfl (ref1_IsCell.c w h ((rd l x3).Cell) v10 _ V15) ?_
                iterate 3 refine atq_s T rfl ?_
                refine atq_case (s := 54) rfl (fun c16 => ?_) (fun c16 => ?_)
                · replace Z6 := if_t c16 Z6
                  iterate 10 refine atq_s T rfl ?_
                  refine atq_end ?_
                  refine at_sub [(0, (.int .i64 w)), (1, (.int .i64 h)), (2, (.slice a_l (List.length l) n_l)), (7, (.int .i64 x3)), (64, (.bool true))] ⟨rfl, rfl, rfl, rfl, rfl, trivial⟩ ?_
                  refine at_then ?_
                  obtain rfl := Option.some.inj Z6
                  exact at_mid true [0] rfl ⟨rfl, rfl, rfl, rfl, rfl, trivial⟩ rfl
                · replace Z6 := if_f (bf c16) Z6
                  iterate 4 refine atq_s T rfl ?_
                  refine atq_v rfl rfl rfl (g_index T rfl rfl rfl rfl rfl e1 c7.1 c7.2) ?_
                  refine atq_s T rfl ?_
                  refine atq_v rfl rfl rfl (g_load T rfl rfl rfl rfl (in_elem1 (k := k_api_Unit) (ro_of h_l (j := 0) rfl) e1 c7 2 rfl)) ?_
                  obtain ⟨v11, V17, Z6⟩ := bind_e Z6
                  refine atq_c rfl rfl rfl rfl rfl rfl has48 rfl (ref1_IsCell.c w h ((rd l x3).Goal) v11 _ V17) ?_
                  iterate 2 refine atq_s T rfl ?_
                  refine atq_end ?_
                  refine at_sub [(0, (.int .i64 w)), (1, (.int .i64 h)), (2, (.slice a_l (List.length l) n_l)), (7, (.int .i64 x3)), (64, (.bool (!v11)))] ⟨rfl, rfl, rfl, rfl, rfl, trivial⟩ ?_
                  refine at_then ?_
                  obtain rfl := Option.some.inj Z6
                  exact at_mid (!v11) [0] rfl ⟨rfl, rfl, rfl, rfl, rfl, trivial⟩ rfl
          · rintro x6 rfl
            refine at_cond rfl (fun c18 => ?_) (fun c18 => ?_)
            · replace Z5 := if_t c18 Z5
              refine at_seq ?_
              refine at_region [0] rfl ?_
              refine at_s T rfl ?_
              refine at_end ?_
              refine at_sub [(6, (.bool false))] ⟨rfl, trivial⟩ ?_
              refine at_then ?_
              refine at_ret ?_
              refine at_rt ?_
              refine at_rb ?_
              refine at_rt ?_
              refine at_rt ?_
              refine at_rb ?_
              refine at_rt ?_
              obtain rfl := Option.some.inj Z5
              obtain rfl := Option.some.inj (show some false = some r from Z3)
              exact at_post (T := T) rfl (.tmp rfl .nil) (fun w o => ⟨(), rfl, own_to [0] rfl o⟩)
            · replace Z5 := if_f (bf c18) Z5
              refine at_skip ?_
              refine at_then ?_
              refine at_seq ?_
              refine at_region [0] rfl ?_
              refine at_s T rfl ?_
              refine at_end ?_
              refine at_sub [(0, (.int .i64 w)), (1, (.int .i64 h)), (2, (.slice a_l (List.length l) n_l)), (7, (.int .i64 x3)), (8, (.int .i64 0))] ⟨rfl, rfl, rfl, rfl, rfl, trivial⟩ ?_
              refine at_then ?_
              refine at_block ?_
              refine at_loopL (σ := Nat × Int) (fun ⟨k14, x13⟩ => ref21_May.l1 k14 l x3 x13 = some z5) (fun ⟨k14, x13⟩ => [(0, (.int .i64 w)), (1, (.int .i64 h)), (2, (.slice a_l (List.length l) n_l)), (7, (.int .i64 x3)), (8, (.int .i64 x13))]) (fun ⟨k14, x13⟩ => [F]) (fun s => s.1) (fuel, 0) [0] Z5 ⟨rfl, rfl, rfl, rfl, rfl, trivial⟩ rfl ?_
              rintro ⟨k14, x13⟩ Z19
              replace Z19 : ref21_May.l1 k14 l x3 x13 = some z5 := Z19
              rcases k14 with _ | k14
              · rw [ref21_May.l1] at Z19; cases Z19
              · rw [ref21_May.l1] at Z19
                refine at_seq ?_
                refine at_seq ?_
                refine at_region [0, 1, 2] rfl ?_
                iterate 3 refine at_s T rfl ?_
                refine at_end ?_
                refine at_sub [(0, (.int .i64 w)), (1, (.int .i64 h)), (2, (.slice a_l (List.length l) n_l)), (7, (.int .i64 x3)), (8, (.int .i64 x13)), (67, (.bool (decide (x13 < x3))))] ⟨rfl, rfl, rfl, rfl, rfl, rfl, trivial⟩ ?_
                refine at_then ?_
                refine at_cond rfl (fun c20 => ?_) (fun c20 => ?_)
                · replace Z19 := if_t (of_decide_eq_true c20) Z19
                  refine at_skip ?_
                  refine at_then ?_
                  refine at_seq ?_
                  refine at_block ?_
                  refine at_seq ?_
                  refine at_region_q mix (by kernel_rfl) ?_
                  iterate 2 refine atq_s T rfl ?_
                  obtain ⟨c21, Z19⟩ := chk_e Z19
                  obtain ⟨q2, o2, e2⟩ := h_l.addr c21.1 c21.2
                  refine atq_v rfl rfl rfl (g_index T rfl rfl rfl rfl rfl e2 c21.1 c21.2) ?_
                  refine atq_s T rfl ?_
                  refine atq_v rfl rfl rfl (g_load T rfl rfl rfl rfl (in_elem1 (k := k_api_Unit) (ro_of h_l (j := 0) rfl) e2 c21 1 rfl)) ?_
                  iterate 2 refine atq_s T rfl ?_
                  obtain ⟨c22, Z19⟩ := chk_e Z19
                  refine atq_v rfl rfl rfl (g_index T rfl rfl rfl rfl rfl e2 c22.1 c22.2) ?_
                  refine atq_s T rfl ?_
                  refine atq_v rfl rfl rfl (g_load T rfl rfl rfl rfl (in_elem1 (k := k_api_Unit) (ro_of h_l (j := 0) rfl) e2 c22 1 rfl)) ?_
                  refine atq_s T rfl ?_
                  refine atq_end ?_
                  refine at_sub [(0, (.int .i64 w)), (1, (.int .i64 h)), (2, (.slice a_l (List.length l) n_l)), (7, (.int .i64 x3)), (8, (.int .i64 x13)), (80, (.bool ((rd l x13).Cell == (rd l x3).Cell)))] ⟨rfl, rfl, rfl, rfl, rfl, rfl, trivial⟩ ?_
                  refine at_then ?_
                  refine at_cond rfl (fun c23 => ?_) (fun c23 => ?_)
                  · replace Z19 := if_t c23 Z19
                    refine at_seq ?_
                    refine at_region [0] rfl ?_
                    refine at_s T rfl ?_
                    refine at_end ?_
                    refine at_sub [(6, (.bool false))] ⟨rfl, trivial⟩ ?_
                    refine at_then ?_
                    refine at_ret ?_
                    refine at_rb ?_
                    refine at_rt ?_
                    refine at_rt ?_
                    refine at_rb ?_
                    refine at_rb ?_
                    refine at_rt ?_
                    refine at_rt ?_
                    refine at_rb ?_
                    refine at_rt ?_
                    obtain rfl := Option.some.inj Z19
                    obtain rfl := Option.some.inj (show some false = some r from Z3)
                    exact at_post (T := T) rfl (.tmp rfl .nil) (fun w o => ⟨(), rfl, own_to [0] rfl o⟩)
                  · replace Z19 := if_f (bf c23) Z19
                    refine at_skip ?_
                    refine at_nb ?_
                    refine at_then ?_
                    refine at_region [0, 1, 2] rfl ?_
                    iterate 3 refine at_s T rfl ?_
                    refine at_end ?_
                    refine at_sub [(0, (.int .i64 w)), (1, (.int .i64 h)), (2, (.slice a_l (List.length l) n_l)), (7, (.int .i64 x3)), (8, (.int .i64 (w64 (x13 + 1))))] ⟨rfl, rfl, rfl, rfl, rfl, trivial⟩ ?_
                    refine at_then ?_
                    exact at_roundL (k14, (w64 (x13 + 1))) [0] Z19 (Nat.lt_succ_self _) ⟨rfl, rfl, rfl, rfl, rfl, trivial⟩ rfl
                · replace Z19 := if_f (of_decide_eq_false c20) Z19
                  refine at_exit ?_
                  refine at_xt ?_
                  refine at_xt ?_
                  refine at_xb ?_
                  refine at_nb ?_
                  refine at_then ?_
                  obtain rfl := Option.some.inj Z19
                  exact at_mid () [0] rfl ⟨rfl, rfl, rfl, rfl, trivial⟩ rfl
        · rintro ⟨⟩ rfl
          refine at_region [0, 1, 2] rfl ?_
          iterate 3 refine at_s T rfl ?_
          refine at_end ?_
          refine at_sub [(0, (.int .i64 w)), (1, (.int .i64 h)), (2, (.slice a_l (List.length l) n_l)), (7, (.int .i64 (w64 (x3 + 1))))] ⟨rfl, rfl, rfl, rfl, trivial⟩ ?_
          refine at_then ?_
          exact at_roundL (k4, (w64 (x3 + 1))) [0] Z3 (Nat.lt_succ_self _) ⟨rfl, rfl, rfl, rfl, trivial⟩ rfl
      · replace Z3 := if_f (of_decide_eq_false c4) Z3
        refine at_exit ?_
        refine at_xt ?_
        refine at_xt ?_
        refine at_xb ?_
        refine at_then ?_
        refine at_seq ?_
        refine at_region [0] rfl ?_
        refine at_s T rfl ?_
        refine at_end ?_
        refine at_sub [(6, (.bool true))] ⟨rfl, trivial⟩ ?_
        refine at_then ?_
        refine at_ret ?_
        obtain rfl := Option.some.inj Z3
        exact at_post (T := T) rfl (.tmp rfl .nil) (fun w o => ⟨(), rfl, own_to [0] rfl o⟩)

/-! ### herdsman/herdsmanref21.Dirs: function 19 -/
def ref21_Dirs.l0 : Nat → (List Int) → Int → Int → Option Bool
  | 0, _, _, _ => none
  | k3 + 1, dirs, n, x2 => if x2 < n then (if (0 ≤ x2 ∧ x2 < (List.length dirs : Int)) then ((ref1_In.f (rd dirs x2) 0 5).bind fun v4 => if (!v4) = true then (some false) else (ref21_Dirs.l0 k3 dirs n (w64 (x2 + 1)))) else none) else (some true)
def ref21_Dirs.f (dirs : (List Int)) (n : Int) : Option Bool := if ((List.length dirs : Int) != n) = true then (some false) else (ref21_Dirs.l0 fuel dirs n 0)
set_option maxHeartbeats 4000000 in
theorem ref21_Dirs.c {a_dirs : Option Addr} {n_dirs : Nat} (dirs : (List Int)) (n : Int) (r : Bool) (F : Hp) (H : ref21_Dirs.f dirs n = some r) (h_dirs : SliceR (Fl.int .i64) dirs a_dirs F) (c_dirs : List.length dirs ≤ n_dirs) :
    CallsL Try.prog 19 [(.slice a_dirs (List.length dirs) n_dirs), (.int .i64 n)] [F] (fun _ : Unit => (.bool r)) (fun _ => [F]) := by
  unfold ref21_Dirs.f at H
  refine calls_atL [(0, (.slice a_dirs (List.length dirs) n_dirs)), (1, (.int .i64 n))] Try.func19 rfl rfl ⟨rfl, rfl, trivial⟩ (fun W => ?_)
  refine at_seq ?_
  refine at_region [0] rfl ?_
  refine at_s T rfl ?_
  refine at_end ?_
  refine at_sub [(0, (.slice a_dirs (List.length dirs) n_dirs)), (1, (.int .i64 n))] ⟨rfl, rfl, trivial⟩ ?_
  refine at_then ?_
  refine at_seq ?_
  refine at_seq ?_
  refine at_region [0, 1, 2, 3] rfl ?_
  iterate 4 refine at_s T rfl ?_
  refine at_end ?_
  refine at_sub [(0, (.slice a_dirs (List.length dirs) n_dirs)), (1, (.int .i64 n)), (9, (.bool ((List.length dirs : Int) != n)))] ⟨rfl, rfl, rfl, trivial⟩ ?_
  refine at_then ?_
  refine at_cond rfl (fun c1 => ?_) (fun c1 => ?_)
  · replace H := if_t c1 H
    refine at_seq ?_
    refine at_region [0] rfl ?_
    refine at_s T rfl ?_
    refine at_end ?_
    refine at_sub [(4, (.bool false))] ⟨rfl, trivial⟩ ?_
    refine at_then ?_
    refine at_ret ?_
    refine at_rt ?_
    obtain rfl := Option.some.inj H
    exact at_post (T := T) rfl (.tmp rfl .nil) (fun w o => ⟨(), rfl, own_to [0] rfl o⟩)
  · replace H := if_f (bf c1) H
    refine at_skip ?_
    refine at_then ?_
    refine at_seq ?_
    refine at_seq ?_
    refine at_region [0] rfl ?_
    refine at_s T rfl ?_
    refine at_end ?_
    refine at_sub [(0, (.slice a_dirs (List.length dirs) n_dirs)), (1, (.int .i64 n)), (5, (.int .i64 0))] ⟨rfl, rfl, rfl, trivial⟩ ?_
    refine at_then ?_
    refine at_block ?_
    refine at_loopL (σ := Nat × Int) (fun ⟨k3, x2⟩ => ref21_Dirs.l0 k3 dirs n x2 = some r) (fun ⟨k3, x2⟩ => [(0, (.slice a_dirs (List.length dirs) n_dirs)), (1, (.int .i64 n)), (5, (.int .i64 x2))]) (fun ⟨k3, x2⟩ => [F]) (fun s => s.1) (fuel, 0) [0] H ⟨rfl, rfl, rfl, trivial⟩ rfl ?_
    rintro ⟨k3, x2⟩ Z2
    replace Z2 : ref21_Dirs.l0 k3 dirs n x2 = some r := Z2
    rcases k3 with _ | k3
    · rw [ref21_Dirs.l0] at Z2; cases Z2
    · rw [ref21_Dirs.l0] at Z2
      refine at_seq ?_
      refine at_seq ?_
      refine at_region [0, 1, 2] rfl ?_
      iterate 3 refine at_s T rfl ?_
      refine at_end ?_
      refine at_sub [(0, (.slice a_dirs (List.length dirs) n_dirs)), (1, (.int .i64 n)), (5, (.int .i64 x2)), (12, (.bool (decide (x2 < n))))] ⟨rfl, rfl, rfl, rfl, trivial⟩ ?_
      refine at_then ?_
      refine at_cond rfl (fun c3 => ?_) (fun c3 => ?_)
      · replace Z2 := if_t (of_decide_eq_true c3) Z2
        refine at_skip ?_
        refine at_then ?_
        refine at_seq ?_
        refine at_block ?_
        refine at_seq ?_
        refine at_region [0, 1, 2, 3, 4, 5] rfl ?_
        iterate 2 refine at_s T rfl ?_
        obtain ⟨c4, Z2⟩ := chk_e Z2
        obtain ⟨q1, o1, e1⟩ := h_dirs.addr c4.1 c4.2
        refine at_v rfl (g_index T rfl rfl rfl rfl rfl e1 c4.1 c4.2) ?_
        refine at_v rfl (g_load T rfl rfl rfl rfl (in_elem1 (k := (Fl.int .i64)) (ro_of h_dirs (j := 0) rfl) e1 c4 0 rfl)) ?_
        obtain ⟨v4, V5, Z2⟩ := bind_e Z2
        refine at_cons (at_c (B := fun _ => []) [] rfl rfl rfl rfl has49 rfl rfl (ref1_In.c (rd dirs x2) 0 5 v4 _ V5) (fun _ => ?_))
        refine at_s T rfl ?_
        refine at_end ?_
        refine at_sub [(0, (.slice a_dirs (List.length dirs) n_dirs)), (1, (.int .i64 n)), (5, (.int .i64 x2)), (20, (.bool (!v4)))] ⟨rfl, rfl, rfl, rfl, trivial⟩ ?_
        refine at_then ?_
        refine at_cond rfl (fun c6 => ?_) (fun c6 => ?_)
        · replace Z2 := if_t c6 Z2
          refine at_seq ?_
          refine at_region [0] rfl ?_
          refine at_s T rfl ?_
          refine at_end ?_
          refine at_sub [(4, (.bool false))] ⟨rfl, trivial⟩ ?_
          refine at_then ?_
          refine at_ret ?_
          refine at_rb ?_
          refine at_rt ?_
          refine at_rt ?_
          refine at_rb ?_
          refine at_rt ?_
          obtain rfl := Option.some.inj Z2
          exact at_post (T := T) rfl (.tmp rfl .nil) (fun w o => ⟨(), rfl, own_to [0] rfl o⟩)
        · replace Z2 := if_f (bf c6) Z2
          refine at_skip ?_
          refine at_nb ?_
          refine at_then ?_
          refine at_region [0, 1, 2] rfl ?_
          iterate 3 refine at_s T rfl ?_
          refine at_end ?_
          refine at_sub [(0, (.slice a_dirs (List.length dirs) n_dirs)), (1, (.int .i64 n)), (5, (.int .i64 (w64 (x2 + 1))))] ⟨rfl, rfl, rfl, trivial⟩ ?_
          refine at_then ?_
          exact at_roundL (k3, (w64 (x2 + 1))) [0] Z2 (Nat.lt_succ_self _) ⟨rfl, rfl, rfl, trivial⟩ rfl
      · replace Z2 := if_f (of_decide_eq_false c3) Z2
        refine at_exit ?_
        refine at_xt ?_
        refine at_xt ?_
        refine at_xb ?_
        refine at_then ?_
        refine at_seq ?_
        refine at_region [0] rfl ?_
        refine at_s T rfl ?_
        refine at_end ?_
        refine at_sub [(4, (.bool true))] ⟨rfl, trivial⟩ ?_
        refine at_then ?_
        refine at_ret ?_
        obtain rfl := Option.some.inj Z2
        exact at_post (T := T) rfl (.tmp rfl .nil) (fun w o => ⟨(), rfl, own_to [0] rfl o⟩)

/-! ### herdsman/herdsmanref21.Moves: function 22 -/
def ref21_Moves.l0 : Nat → (List api_Move) → (List api_Move) → Int → Option Bool
  | 0, _, _, _ => none
  | k3 + 1, a, b, x2 => if x2 < (List.length a : Int) then (if (0 ≤ x2 ∧ x2 < (List.length a : Int)) then (if (0 ≤ x2 ∧ x2 < (List.length b : Int)) then (if (!(((rd a x2).Id == (rd b x2).Id) && (((rd a x2).To == (rd b x2).To) && true))) = true then (some false) else (ref21_Moves.l0 k3 a b (w64 (x2 + 1)))) else none) else none) else (some true)
def ref21_Moves.f (a : (List api_Move)) (b : (List api_Move)) : Option Bool := if ((List.length a : Int) != (List.length b : Int)) = true then (some false) else (ref21_Moves.l0 fuel a b 0)
set_option maxHeartbeats 4000000 in
theorem ref21_Moves.c {a_a : Option Addr} {n_a : Nat} {a_b : Option Addr} {n_b : Nat} (a : (List api_Move)) (b : (List api_Move)) (r : Bool) (F : Hp) (H : ref21_Moves.f a b = some r) (h_a : SliceR k_api_Move a a_a F) (c_a : List.length a ≤ n_a) (h_b : SliceR k_api_Move b a_b F) (c_b : List.length b ≤ n_b) :
    CallsL Try.prog 22 [(.slice a_a (List.length a) n_a), (.slice a_b (List.length b) n_b)] [F] (fun _ : Unit => (.bool r)) (fun _ => [F]) := by
  unfold ref21_Moves.f at H
  refine calls_atL [(0, (.slice a_a (List.length a) n_a)), (1, (.slice a_b (List.length b) n_b))] Try.func22 rfl rfl ⟨rfl, rfl, trivial⟩ (fun W => ?_)
  refine at_seq ?_
  refine at_region [0] rfl ?_
  refine at_s T rfl ?_
  refine at_end ?_
  refine at_sub [(0, (.slice a_a (List.length a) n_a)), (1, (.slice a_b (List.length b) n_b))] ⟨rfl, rfl, trivial⟩ ?_
  refine at_then ?_
  refine at_seq ?_
  refine at_seq ?_
  refine at_region [0, 1, 2, 3, 4] rfl ?_
  iterate 5 refine at_s T rfl ?_
  refine at_end ?_
  refine at_sub [(0, (.slice a_a (List.length a) n_a)), (1, (.slice a_b (List.length b) n_b)), (10, (.bool ((List.length a : Int) != (List.length b : Int))))] ⟨rfl, rfl, rfl, trivial⟩ ?_
  refine at_then ?_
  refine at_cond rfl (fun c1 => ?_) (fun c1 => ?_)
  · replace H := if_t c1 H
    refine at_seq ?_
    refine at_region [0] rfl ?_
    refine at_s T rfl ?_
    refine at_end ?_
    refine at_sub [(4, (.bool false))] ⟨rfl, trivial⟩ ?_
    refine at_then ?_
    refine at_ret ?_
    refine at_rt ?_
    obtain rfl := Option.some.inj H
    exact at_post (T := T) rfl (.tmp rfl .nil) (fun w o => ⟨(), rfl, own_to [0] rfl o⟩)
  · replace H := if_f (bf c1) H
    refine at_skip ?_
    refine at_then ?_
    refine at_seq ?_
    refine at_seq ?_
    refine at_region [0] rfl ?_
    refine at_s T rfl ?_
    refine at_end ?_
    refine at_sub [(0, (.slice a_a (List.length a) n_a)), (1, (.slice a_b (List.length b) n_b)), (5, (.int .i64 0))] ⟨rfl, rfl, rfl, trivial⟩ ?_
    refine at_then ?_
    refine at_block ?_
    refine at_loopL (σ := Nat × Int) (fun ⟨k3, x2⟩ => ref21_Moves.l0 k3 a b x2 = some r) (fun ⟨k3, x2⟩ => [(0, (.slice a_a (List.length a) n_a)), (1, (.slice a_b (List.length b) n_b)), (5, (.int .i64 x2))]) (fun ⟨k3, x2⟩ => [F]) (fun s => s.1) (fuel, 0) [0] H ⟨rfl, rfl, rfl, trivial⟩ rfl ?_
    rintro ⟨k3, x2⟩ Z2
    replace Z2 : ref21_Moves.l0 k3 a b x2 = some r := Z2
    rcases k3 with _ | k3
    · rw [ref21_Moves.l0] at Z2; cases Z2
    · rw [ref21_Moves.l0] at Z2
      refine at_seq ?_
      refine at_seq ?_
      refine at_region [0, 1, 2, 3] rfl ?_
      iterate 4 refine at_s T rfl ?_
      refine at_end ?_
      refine at_sub [(0, (.slice a_a (List.length a) n_a)), (1, (.slice a_b (List.length b) n_b)), (5, (.int .i64 x2)), (14, (.bool (decide (x2 < (List.length a : Int)))))] ⟨rfl, rfl, rfl, rfl, trivial⟩ ?_
      refine at_then ?_
      refine at_cond rfl (fun c3 => ?_) (fun c3 => ?_)
      · replace Z2 := if_t (of_decide_eq_true c3) Z2
        refine at_skip ?_
        refine at_then ?_
        refine at_seq ?_
        refine at_block ?_
        refine at_seq ?_
        refine at_region_q mix (by kernel_rfl) ?_
        iterate 2 refine atq_s T rfl ?_
        obtain ⟨c4, Z2⟩ := chk_e Z2
        obtain ⟨q1, o1, e1⟩ := h_a.addr c4.1 c4.2
        refine atq_v rfl rfl rfl (g_index T rfl rfl rfl rfl rfl e1 c4.1 c4.2) ?_
        refine atq_v rfl rfl rfl (g_loadA T (cs := [(.int .i64 (rd a x2).Id), (.int .i64 (rd a x2).To)]) rfl rfl rfl rfl rfl rfl (in_elemA (k := k_api_Move) (ro_of h_a (j := 0) rfl) e1 c4 rfl)) ?_
        iterate 2 refine atq_s T rfl ?_
        obtain ⟨c5, Z2⟩ := chk_e Z2
        obtain ⟨q2, o2, e2⟩ := h_b.addr c5.1 c5.2
        refine atq_v rfl rfl rfl (g_index T rfl rfl rfl rfl rfl e2 c5.1 c5.2) ?_
        refine atq_v rfl rfl rfl (g_loadA T (cs := [(.int .i64 (rd b x2).Id), (.int .i64 (rd b x2).To)]) rfl rfl rfl rfl rfl rfl (in_elemA (k := k_api_Move) (ro_of h_b (j := 0) rfl) e2 c5 rfl)) ?_
        refine atq_v rfl rfl rfl (g_aeqn T (((rd a x2).Id == (rd b x2).Id) && (((rd a x2).To == (rd b x2).To) && true)) rfl rfl rfl rfl sq42 (by kernel_rfl) rfl) ?_
        refine atq_end ?_
        refine at_sub [(0, (.slice a_a (List.length a) n_a)), (1, (.slice a_b (List.length b) n_b)), (5, (.int .i64 x2)), (25, (.bool (!(((rd a x2).Id == (rd b x2).Id) && (((rd a x2).To == (rd b x2).To) && true)))))] ⟨rfl, rfl, rfl, rfl, trivial⟩ ?_
        refine at_then ?_
        refine at_cond rfl (fun c6 => ?_) (fun c6 => ?_)
        · replace Z2 := if_t c6 Z2
          refine at_seq ?_
          refine at_region [0] rfl ?_
          refine at_s T rfl ?_
          refine at_end ?_
          refine at_sub [(4, (.bool false))] ⟨rfl, trivial⟩ ?_
          refine at_then ?_
          refine at_ret ?_
          refine at_rb ?_
          refine at_rt ?_
          refine at_rt ?_
          refine at_rb ?_
          refine at_rt ?_
          obtain rfl := Option.some.inj Z2
          exact at_post (T := T) rfl (.tmp rfl .nil) (fun w o => ⟨(), rfl, own_to [0] rfl o⟩)
        · replace Z2 := if_f (bf c6) Z2
          refine at_skip ?_
          refine at_nb ?_
          refine at_then ?_
          refine at_region [0, 1, 2] rfl ?_
          iterate 3 refine at_s T rfl ?_
          refine at_end ?_
          refine at_sub [(0, (.slice a_a (List.length a) n_a)), (1, (.slice a_b (List.length b) n_b)), (5, (.int .i64 (w64 (x2 + 1))))] ⟨rfl, rfl, rfl, trivial⟩ ?_
          refine at_then ?_
          exact at_roundL (k3, (w64 (x2 + 1))) [0] Z2 (Nat.lt_succ_self _) ⟨rfl, rfl, rfl, trivial⟩ rfl
      · replace Z2 := if_f (of_decide_eq_false c3) Z2
        refine at_exit ?_
        refine at_xt ?_
        refine at_xt ?_
        refine at_xb ?_
        refine at_then ?_
        refine at_seq ?_
        refine at_region [0] rfl ?_
        refine at_s T rfl ?_
        refine at_end ?_
        refine at_sub [(4, (.bool true))] ⟨rfl, trivial⟩ ?_
        refine at_then ?_
        refine at_ret ?_
        obtain rfl := Option.some.inj Z2
        exact at_post (T := T) rfl (.tmp rfl .nil) (fun w o => ⟨(), rfl, own_to [0] rfl o⟩)

/-! ### herdsman/herdsmanref21.Go: function 21 -/
def ref21_Go.l2 : Nat → List api_Unit → List api_Move → List Int → List api_Unit → Int → Option ((List api_Unit) × (List api_Move) × (List Int))
  | 0, _, _, _, _, _ => none
  | k24 + 1, x5, x6, x7, x22, x23 => if x23 < (List.length x5 : Int) then (if (0 ≤ x23 ∧ x23 < (List.length x5 : Int)) then (if (rd x5 x23).Cell ≥ 0 then (if (List.length x22 + 1 ≤ 1099511627776) then (ref21_Go.l2 k24 x5 x6 x7 (x22 ++ [(rd x5 x23)]) (w64 (x23 + 1))) else none) else (ref21_Go.l2 k24 x5 x6 x7 x22 (w64 (x23 + 1)))) else none) else (some (x22, x6, x7))
def ref21_Go.l1 : Nat → (List api_Unit) → List api_Unit → List api_Move → List Int → Int → Int → Bool → Int → Option ((List api_Unit) × (List api_Move) × (List Int))
  | 0, _, _, _, _, _, _, _, _ => none
  | k19 + 1, l, x5, x6, x7, x8, v14, x17, x18 => if x18 < (List.length x5 : Int) then (if x17 = true then (if (0 ≤ x18 ∧ x18 < (List.length x5 : Int)) then (ref21_Go.l1 k19 l x5 x6 x7 x8 v14 ((rd x5 x18).Cell != v14) (w64 (x18 + 1))) else none) else (ref21_Go.l1 k19 l x5 x6 x7 x8 v14 false (w64 (x18 + 1)))) else (if (!x17) = true then (some (x5, x6, x7)) else (if (0 ≤ x8 ∧ x8 < (List.length l : Int)) then (if (List.length x6 + 1 ≤ 1099511627776) then (if (0 ≤ x8 ∧ x8 < (List.length x5 : Int)) then (if (0 ≤ x8 ∧ x8 < (List.length l : Int)) then (if (v14 == (rd l x8).Goal) = true then (if (List.length x7 + 1 ≤ 1099511627776) then (if (0 ≤ x8 ∧ x8 < (List.length (List.set x5 (Int.toNat x8) (api_Unit.mk ((rd x5 x8).Id) v14 ((rd x5 x8).Goal))) : Int)) then (some ((List.set (List.set x5 (Int.toNat x8) (api_Unit.mk ((rd x5 x8).Id) v14 ((rd x5 x8).Goal))) (Int.toNat x8) (api_Unit.mk ((rd (List.set x5 (Int.toNat x8) (api_Unit.mk ((rd x5 x8).Id) v14 ((rd x5 x8).Goal))) x8).Id) (-1) ((rd (List.set x5 (Int.toNat x8) (api_Unit.mk ((rd x5 x8).Id) v14 ((rd x5 x8).Goal))) x8).Goal))), (x6 ++ [(api_Move.mk ((rd l x8).Id) v14)]), (x7 ++ [(rd l x8).Id]))) else none) else none) else (some ((List.set x5 (Int.toNat x8) (api_Unit.mk ((rd x5 x8).Id) v14 ((rd x5 x8).Goal))), (x6 ++ [(api_Move.mk ((rd l x8).Id) v14)]), x7))) else none) else none) else none) else none))
def ref21_Go.l0 : Nat → Int → Int → (List api_Unit) → (List Int) → List api_Unit → List api_Move → List Int → Int → Option ((List api_Unit) × (List api_Move) × (List Int))
  | 0, _, _, _, _, _, _, _, _ => none
  | k9 + 1, w, h, l, dirs, x5, x6, x7, x8 => if x8 < (List.length l : Int) then ((if (0 ≤ x8 ∧ x8 < (List.length dirs : Int)) then (if (rd dirs x8) > 3 then (some (x5, x6, x7)) else (if (0 ≤ x8 ∧ x8 < (List.length l : Int)) then ((ref1_Step.f w h ((rd l x8).Cell) (rd dirs x8)).bind fun v14 => ref21_Go.l1 fuel l x5 x6 x7 x8 v14 (decide (v14 ≥ 0)) 0) else none)) else none).bind fun (x10, x11, x12) => ref21_Go.l0 k9 w h l dirs x10 x11 x12 (w64 (x8 + 1))) else (ref21_Go.l2 fuel x5 x6 x7 [] 0)
def ref21_Go.f (w : Int) (h : Int) (l : (List api_Unit)) (dirs : (List Int)) : Option ((List api_Unit) × (List api_Move) × (List Int)) := if (List.length ([] : List api_Unit) + List.length l ≤ 1099511627776) then (ref21_Go.l0 fuel w h l dirs (([] : List api_Unit) ++ l) [] [] 0) else none
def ref21_Go.R (r : ((List api_Unit) × (List api_Move) × (List Int))) (u : Value) (G : List Hp) : Prop := ∃ (a0 : Option Addr) (n0 : Nat) (H0 : Hp) (a1 : Option Addr) (n1 : Nat) (H1 : Hp) (a2 : Option Addr) (n2 : Nat) (H2 : Hp), SliceO k_api_Unit 40 r.1 a0 n0 H0 ∧ SliceO k_api_Move 42 r.2.1 a1 n1 H1 ∧ SliceO (Fl.int .i64) 3 r.2.2 a2 n2 H2 ∧ u = (.tuple #[(.slice a0 (List.length r.1) n0), (.slice a1 (List.length r.2.1) n1), (.slice a2 (List.length r.2.2) n2)]) ∧ G = [H0, H1, H2]
set_option maxHeartbeats 4000000 in
theorem ref21_Go.c {a_l : Option Addr} {n_l : Nat} {a_dirs : Option Addr} {n_dirs : Nat} (w : Int) (h : Int) (l : (List api_Unit)) (dirs : (List Int)) (r : ((List api_Unit) × (List api_Move) × (List Int))) (F : Hp) (H : ref21_Go.f w h l dirs = some r) (h_l : SliceR k_api_Unit l a_l F) (c_l : List.length l ≤ n_l) (h_dirs : SliceR (Fl.int .i64) dirs a_dirs F) (c_dirs : List.length dirs ≤ n_dirs) :
    CallsL Try.prog 21 [(.int .i64 w), (.int .i64 h), (.slice a_l (List.length l) n_l), (.slice a_dirs (List.length dirs) n_dirs)] [F] (fun p : { p : Value × List Hp // ref21_Go.R r p.1 p.2 } => p.1.1) (fun p => (p.1.2 ++ []) ++ [F]) := by
  unfold ref21_Go.f at H
  refine calls_atL [(0, (.int .i64 w)), (1, (.int .i64 h)), (2, (.slice a_l (List.length l) n_l)), (3, (.slice a_dirs (List.length dirs) n_dirs))] Try.func21 rfl rfl ⟨rfl, rfl, rfl, rfl, trivial⟩ (fun W => ?_)
  refine at_seq ?_
  refine at_region [0, 1, 2] rfl ?_
  iterate 3 refine at_s T rfl ?_
  refine at_end ?_
  refine at_sub [(0, (.int .i64 w)), (1, (.int .i64 h)), (2, (.slice a_l (List.length l) n_l)), (3, (.slice a_dirs (List.length dirs) n_dirs))] ⟨rfl, rfl, rfl, rfl, trivial⟩ ?_
  refine at_then ?_
  refine at_seq ?_
  refine at_region [0, 1, 2, 3] rfl ?_
  refine at_cons (at_bs (k := k_api_Unit) T ([] : List api_Unit) rfl rfl rfl rfl rfl rfl rfl rfl rfl (fun a1 H1 s1 => ?_))
  refine at_s T rfl ?_
  obtain ⟨c1, H⟩ := chk_e H
  refine at_cons (at_ap (k := k_api_Unit) (xs := ([] : List api_Unit)) T (g := 1) rfl rfl rfl rfl rfl rfl rfl rfl rfl rfl s1 (ro_of h_l (j := 0) rfl) c1 rfl (fun a2 n2 H2 s2 => ?_))
  refine at_s T rfl ?_
  refine at_end ?_
  refine at_sub [(0, (.int .i64 w)), (1, (.int .i64 h)), (2, (.slice a_l (List.length l) n_l)), (3, (.slice a_dirs (List.length dirs) n_dirs)), (11, (.slice a2 (List.length (([] : List api_Unit) ++ l)) n2))] ⟨rfl, rfl, rfl, rfl, rfl, trivial⟩ ?_
  refine at_then ?_
  refine at_seq ?_
  refine at_region [0] rfl ?_
  refine at_s T rfl ?_
  refine at_end ?_
  refine at_sub [(0, (.int .i64 w)), (1, (.int .i64 h)), (2, (.slice a_l (List.length l) n_l)), (3, (.slice a_dirs (List.length dirs) n_dirs)), (11, (.slice a2 (List.length (([] : List api_Unit) ++ l)) n2)), (12, (.slice none 0 0))] ⟨rfl, rfl, rfl, rfl, rfl, rfl, trivial⟩ ?_
  refine at_then ?_
  refine at_seq ?_
  refine at_region [0] rfl ?_
  refine at_s T rfl ?_
  refine at_end ?_
  refine at_sub [(0, (.int .i64 w)), (1, (.int .i64 h)), (2, (.slice a_l (List.length l) n_l)), (3, (.slice a_dirs (List.length dirs) n_dirs)), (11, (.slice a2 (List.length (([] : List api_Unit) ++ l)) n2)), (12, (.slice none 0 0)), (13, (.slice none 0 0))] ⟨rfl, rfl, rfl, rfl, rfl, rfl, rfl, trivial⟩ ?_
  refine at_then ?_
  refine at_seq ?_
  refine at_seq ?_
  refine at_region [0] rfl ?_
  refine at_s T rfl ?_
  refine at_end ?_
  refine at_sub [(0, (.int .i64 w)), (1, (.int .i64 h)), (2, (.slice a_l (List.length l) n_l)), (3, (.slice a_dirs (List.length dirs) n_dirs)), (11, (.slice a2 (List.length (([] : List api_Unit) ++ l)) n2)), (12, (.slice none 0 0)), (13, (.slice none 0 0)), (14, (.int .i64 0))] ⟨rfl, rfl, rfl, rfl, rfl, rfl, rfl, rfl, trivial⟩ ?_
  refine at_then ?_
  refine at_block ?_
  refine at_addnil ?_
  refine at_addnil ?_
  refine at_loopL (σ := Nat × List api_Unit × List api_Move × List Int × Int × Option Addr × Nat × Hp × Option Addr × Nat × Hp × Option Addr × Nat × Hp) (fun ⟨k9, x5, x6, x7, x8, a6, n6, H6, a7, n7, H7, a8, n8, H8⟩ => ref21_Go.l0 k9 w h l dirs x5 x6 x7 x8 = some r ∧ SliceO k_api_Unit 40 x5 a6 n6 H6 ∧ SliceO k_api_Move 42 x6 a7 n7 H7 ∧ SliceO (Fl.int .i64) 3 x7 a8 n8 H8) (fun ⟨k9, x5, x6, x7, x8, a6, n6, H6, a7, n7, H7, a8, n8, H8⟩ => [(0, (.int .i64 w)), (1, (.int .i64 h)), (2, (.slice a_l (List.length l) n_l)), (3, (.slice a_dirs (List.length dirs) n_dirs)), (11, (.slice a6 (List.length x5) n6)), (12, (.slice a7 (List.length x6) n7)), (13, (.slice a8 (List.length x7) n8)), (14, (.int .i64 x8))]) (fun ⟨k9, x5, x6, x7, x8, a6, n6, H6, a7, n7, H7, a8, n8, H8⟩ => [F, H6, H7, H8]) (fun s => s.1) (fuel, (([] : List api_Unit) ++ l), [], [], 0, a2, n2, H2, none, 0, [], none, 0, []) [0, 0, 0, 0] ⟨H, s2, SliceO.nil, SliceO.nil⟩ ⟨rfl, rfl, rfl, rfl, rfl, rfl, rfl, rfl, trivial⟩ rfl ?_
  rintro ⟨k9, x5, x6, x7, x8, a6, n6, H6, a7, n7, H7, a8, n8, H8⟩ ⟨Z2, s6, s7, s8⟩
  replace Z2 : ref21_Go.l0 k9 w h l dirs x5 x6 x7 x8 = some r := Z2
  rcases k9 with _ | k9
  · rw [ref21_Go.l0] at Z2; cases Z2
  · rw [ref21_Go.l0] at Z2
    refine at_seq ?_
    refine at_seq ?_
    refine at_region [0, 1, 2, 3] rfl ?_
    iterate 4 refine at_s T rfl ?_
    refine at_end ?_
    refine at_sub [(0, (.int .i64 w)), (1, (.int .i64 h)), (2, (.slice a_l (List.length l) n_l)), (3, (.slice a_dirs (List.length dirs) n_dirs)), (11, (.slice a6 (List.length x5) n6)), (12, (.slice a7 (List.length x6) n7)), (13, (.slice a8 (List.length x7) n8)), (14, (.int .i64 x8)), (26, (.bool (decide (x8 < (List.length l : Int)))))] ⟨rfl, rfl, rfl, rfl, rfl, rfl, rfl, rfl, rfl, trivial⟩ ?_
    refine at_then ?_
    refine at_cond rfl (fun c3 => ?_) (fun c3 => ?_)
    · replace Z2 := if_t (of_decide_eq_true c3) Z2
      refine at_skip ?_
      refine at_then ?_
      obtain ⟨z13, Z4, Z2⟩ := bind_e Z2
      refine at_seq_mid (σ := List api_Unit × List api_Move × List Int × Option Addr × Nat × Hp × Option Addr × Nat × Hp × Option Addr × Nat × Hp) (fun ⟨x10, x11, x12, a9, n9, H9, a10, n10, H10, a11, n11, H11⟩ => (x10, x11, x12) = z13 ∧ SliceO k_api_Unit 40 x10 a9 n9 H9 ∧ SliceO k_api_Move 42 x11 a10 n10 H10 ∧ SliceO (Fl.int .i64) 3 x12 a11 n11 H11) (fun ⟨x10, x11, x12, a9, n9, H9, a10, n10, H10, a11, n11, H11⟩ => [(0, (.int .i64 w)), (1, (.int .i64 h)), (2, (.slice a_l (List.length l) n_l)), (3, (.slice a_dirs (List.length dirs) n_dirs)), (11, (.slice a9 (List.length x10) n9)), (12, (.slice a10 (List.length x11) n10)), (13, (.slice a11 (List.length x12) n11)), (14, (.int .i64 x8))]) (fun ⟨x10, x11, x12, a9, n9, H9, a10, n10, H10, a11, n11, H11⟩ => [F, H9, H10, H11]) ?_ ?_
      · refine at_block ?_
        refine at_seq ?_
        refine at_seq ?_
        refine at_region [0, 1, 2, 3, 4] rfl ?_
        iterate 2 refine at_s T rfl ?_
        obtain ⟨c5, Z4⟩ := chk_e Z4
        obtain ⟨q12, o12, e12⟩ := h_dirs.addr c5.1 c5.2
        refine at_v rfl (g_index T rfl rfl rfl rfl rfl e12 c5.1 c5.2) ?_
        refine at_v rfl (g_load T rfl rfl rfl rfl (in_elem1 (k := (Fl.int .i64)) (ro_of h_dirs (j := 0) rfl) e12 c5 0 rfl)) ?_
        refine at_s T rfl ?_
        refine at_end ?_
        refine at_sub [(0, (.int .i64 w)), (1, (.int .i64 h)), (2, (.slice a_l (List.length l) n_l)), (3, (.slice a_dirs (List.length dirs) n_dirs)), (11, (.slice a6 (List.length x5) n6)), (12, (.slice a7 (List.length x6) n7)), (13, (.slice a8 (List.length x7) n8)), (14, (.int .i64 x8)), (33, (.bool (decide ((rd dirs x8) > 3))))] ⟨rfl, rfl, rfl, rfl, rfl, rfl, rfl, rfl, rfl, trivial⟩ ?_
        refine at_then ?_
        refine at_cond rfl (fun c6 => ?_) (fun c6 => ?_)
        · replace Z4 := if_t (of_decide_eq_true c6) Z4
          refine at_exit ?_
          refine at_xt ?_
          refine at_xb ?_
          refine at_then ?_
          obtain rfl := Option.some.inj Z4
          exact at_mid (x5, x6, x7, a6, n6, H6, a7, n7, H7, a8, n8, H8) [0, 0, 0, 0] ⟨rfl, s6, s7, s8⟩ ⟨rfl, rfl, rfl, rfl, rfl, rfl, rfl, rfl, trivial⟩ rfl
        · replace Z4 := if_f (of_decide_eq_false c6) Z4
          refine at_skip ?_
          refine at_then ?_
          refine at_seq ?_
          refine at_region_q mix (by kernel_rfl) ?_
          iterate 4 refine atq_s T rfl ?_
          obtain ⟨c7, Z4⟩ := chk_e Z4
          obtain ⟨q13, o13, e13⟩ := h_l.addr c7.1 c7.2
          refine atq_v rfl rfl rfl (g_index T rfl rfl rfl rfl rfl e13 c7.1 c7.2) ?_
          refine atq_s T rfl ?_
          refine atq_v rfl rfl rfl (g_load T rfl rfl rfl rfl (in_elem1 (k := k_api_Unit) (ro_of h_l (j := 0) rfl) e13 c7 1 rfl)) ?_
          iterate 2 refine atq_s T rfl ?_
          refine atq_v rfl rfl rfl (g_index T rfl rfl rfl rfl rfl e12 c5.1 c5.2) ?_
          refine atq_v rfl rfl rfl (g_load T rfl rfl rfl rfl (in_elem1 (k := (Fl.int .i64)) (ro_of h_dirs (j := 0) rfl) e12 c5 0 rfl)) ?_
          obtain ⟨v14, V8, Z4⟩ := bind_e Z4
          refine atq_c rfl rfl rfl rfl rfl rfl has50 rfl (ref1_Step.c w h ((rd l x8).Cell) (rd dirs x8) v14 _ V8) ?_
          refine atq_s T rfl ?_
          refine atq_end ?_
          refine at_sub [(0, (.int .i64 w)), (1, (.int .i64 h)), (2, (.slice a_l (List.length l) n_l)), (3, (.slice a_dirs (List.length dirs) n_dirs)), (11, (.slice a6 (List.length x5) n6)), (12, (.slice a7 (List.length x6) n7)), (13, (.slice a8 (List.length x7) n8)), (14, (.int .i64 x8)), (15, (.int .i64 v14))] ⟨rfl, rfl, rfl, rfl, rfl, rfl, rfl, rfl, rfl, trivial⟩ ?_
          refine at_then ?_
          refine at_seq ?_
          refine at_region [0, 1, 2] rfl ?_
          iterate 3 refine at_s T rfl ?_
          refine at_end ?_
          refine at_sub [(0, (.int .i64 w)), (1, (.int .i64 h)), (2, (.slice a_l (List.length l) n_l)), (3, (.slice a_dirs (List.length dirs) n_dirs)), (11, (.slice a6 (List.length x5) n6)), (12, (.slice a7 (List.length x6) n7)), (13, (.slice a8 (List.length x7) n8)), (14, (.int .i64 x8)), (15, (.int .i64 v14)), (16, (.bool (decide (v14 ≥ 0))))] ⟨rfl, rfl, rfl, rfl, rfl, rfl, rfl, rfl, rfl, rfl, trivial⟩ ?_
          refine at_then ?_
          refine at_seq ?_
          refine at_seq ?_
          refine at_region [0] rfl ?_
          refine at_s T rfl ?_
          refine at_end ?_
          refine at_sub [(0, (.int .i64 w)), (1, (.int .i64 h)), (2, (.slice a_l (List.length l) n_l)), (3, (.slice a_dirs (List.length dirs) n_dirs)), (11, (.slice a6 (List.length x5) n6)), (12, (.slice a7 (List.length x6) n7)), (13, (.slice a8 (List.length x7) n8)), (14, (.int .i64 x8)), (15, (.int .i64 v14)), (16, (.bool (decide (v14 ≥ 0)))), (17, (.int .i64 0))] ⟨rfl, rfl, rfl, rfl, rfl, rfl, rfl, rfl, rfl, rfl, rfl, trivial⟩ ?_
          refine at_then ?_
          refine at_block ?_
          refine at_loopL (σ := Nat × Bool × Int) (fun ⟨k19, x17, x18⟩ => ref21_Go.l1 k19 l x5 x6 x7 x8 v14 x17 x18 = some z13) (fun ⟨k19, x17, x18⟩ => [(0, (.int .i64 w)), (1, (.int .i64 h)), (2, (.slice a_l (List.length l) n_l)), (3, (.slice a_dirs (List.length dirs) n_dirs)), (11, (.slice a6 (List.length x5) n6)), (12, (.slice a7 (List.length x6) n7)), (13, (.slice a8 (List.length x7) n8)), (14, (.int .i64 x8)), (15, (.int .i64 v14)), (16, (.bool x17)), (17, (.int .i64 x18))]) (fun ⟨k19, x17, x18⟩ => [F, H6, H7, H8]) (fun s => s.1) (fuel, (decide (v14 ≥ 0)), 0) [0, 0, 0, 0] Z4 ⟨rfl, rfl, rfl, rfl, rfl, rfl, rfl, rfl, rfl, rfl, rfl, trivial⟩ rfl ?_
          rintro ⟨k19, x17, x18⟩ Z9
          replace Z9 : ref21_Go.l1 k19 l x5 x6 x7 x8 v14 x17 x18 = some z13 := Z9
          rcases k19 with _ | k19
          · rw [ref21_Go.l1] at Z9; cases Z9
          · rw [ref21_Go.l1] at Z9
            refine at_seq ?_
            refine at_seq ?_
            refine at_region [0, 1, 2, 3] rfl ?_
            iterate 4 refine at_s T rfl ?_
            refine at_end ?_
            refine at_sub [(0, (.int .i64 w)), (1, (.int .i64 h)), (2, (.slice a_l (List.length l) n_l)), (3, (.slice a_dirs (List.length dirs) n_dirs)), (11, (.slice a6 (List.length x5) n6)), (12, (.slice a7 (List.length x6) n7)), (13, (.slice a8 (List.length x7) n8)), (14, (.int .i64 x8)), (15, (.int .i64 v14)), (16, (.bool x17)), (17, (.int .i64 x18)), (51, (.bool (decide (x18 < (List.length x5 : Int)))))] ⟨rfl, rfl, rfl, rfl, rfl, rfl, rfl, rfl, rfl, rfl, rfl, rfl, trivial⟩ ?_
            refine at_then ?_
            refine at_cond rfl (fun c10 => ?_) (fun c10 => ?_)
            · replace Z9 := if_t (of_decide_eq_true c10) Z9
              refine at_skip ?_
              refine at_then ?_
              refine at_seq ?_
              refine at_block ?_
              refine at_region [0, 1, 2, 3, 4, 5, 6, 7, 8, 9, 10] rfl ?_
              iterate 2 refine at_s T rfl ?_
              refine at_case (s := 55) rfl (fun c11 => ?_) (fun c11 => ?_)
              · replace Z9 := if_t c11 Z9
                iterate 2 refine at_s T rfl ?_
                obtain ⟨c12, Z9⟩ := chk_e Z9
                obtain ⟨q14, o14, e14⟩ := s6.r.addr c12.1 c12.2
                refine at_v rfl (g_index T rfl rfl rfl rfl rfl e14 c12.1 c12.2) ?_
                refine at_s T rfl ?_
                refine at_v rfl (g_load T rfl rfl rfl rfl (in_elem1 (k := k_api_Unit) (own_of s6 (j := 1) rfl) e14 c12 1 rfl)) ?_
                iterate 4 refine at_s T rfl ?_
                refine at_end ?_
                refine at_sub [(0, (.int .i64 w)), (1, (.int .i64 h)), (2, (.slice a_l (List.length l) n_l)), (3, (.slice a_dirs (List.length dirs) n_dirs)), (11, (.slice a6 (List.length x5) n6)), (12, (.slice a7 (List.length x6) n7)), (13, (.slice a8 (List.length x7) n8)), (14, (.int .i64 x8)), (15, (.int .i64 v14)), (16, (.bool ((rd x5 x18).Cell != v14))), (17, (.int .i64 x18))] ⟨rfl, rfl, rfl, rfl, rfl, rfl, rfl, rfl, rfl, rfl, rfl, trivial⟩ ?_
                refine at_nb ?_
                refine at_then ?_
                refine at_region [0, 1, 2] rfl ?_
                iterate 3 refine at_s T rfl ?_
                refine at_end ?_
                refine at_sub [(0, (.int .i64 w)), (1, (.int .i64 h)), (2, (.slice a_l (List.length l) n_l)), (3, (.slice a_dirs (List.length dirs) n_dirs)), (11, (.slice a6 (List.length x5) n6)), (12, (.slice a7 (List.length x6) n7)), (13, (.slice a8 (List.length x7) n8)), (14, (.int .i64 x8)), (15, (.int .i64 v14)), (16, (.bool ((rd x5 x18).Cell != v14))), (17, (.int .i64 (w64 (x18 + 1))))] ⟨rfl, rfl, rfl, rfl, rfl, rfl, rfl, rfl, rfl, rfl, rfl, trivial⟩ ?_
                refine at_then ?_
                exact at_roundL (k19, ((rd x5 x18).Cell != v14), (w64 (x18 + 1))) [0, 0, 0, 0] Z9 (Nat.lt_succ_self _) ⟨rfl, rfl, rfl, rfl, rfl, rfl, rfl, rfl, rfl, rfl, rfl, trivial⟩ rfl
              · replace Z9 := if_f (bf c11) Z9
                iterate 9 refine at_s T rfl ?_
                refine at_end ?_
                refine at_sub [(0, (.int .i64 w)), (1, (.int .i64 h)), (2, (.slice a_l (List.length l) n_l)), (3, (.slice a_dirs (List.length dirs) n_dirs)), (11, (.slice a6 (List.length x5) n6)), (12, (.slice a7 (List.length x6) n7)), (13, (.slice a8 (List.length x7) n8)), (14, (.int .i64 x8)), (15, (.int .i64 v14)), (16, (.bool false)), (17, (.int .i64 x18))] ⟨rfl, rfl, rfl, rfl, rfl, rfl, rfl, rfl, rfl, rfl, rfl, trivial⟩ ?_
                refine at_nb ?_
                refine at_then ?_
                refine at_region [0, 1, 2] rfl ?_
                iterate 3 refine at_s T rfl ?_
                refine at_end ?_
                refine at_sub [(0, (.int .i64 w)), (1, (.int .i64 h)), (2, (.slice a_l (List.length l) n_l)), (3, (.slice a_dirs (List.length dirs) n_dirs)), (11, (.slice a6 (List.length x5) n6)), (12, (.slice a7 (List.length x6) n7)), (13, (.slice a8 (List.length x7) n8)), (14, (.int .i64 x8)), (15, (.int .i64 v14)), (16, (.bool false)), (17, (.int .i64 (w64 (x18 + 1))))] ⟨rfl, rfl, rfl, rfl, rfl, rfl, rfl, rfl, rfl, rfl, rfl, trivial⟩ ?_
                refine at_then ?_
                exact at_roundL (k19, false, (w64 (x18 + 1))) [0, 0, 0, 0] Z9 (Nat.lt_succ_self _) ⟨rfl, rfl, rfl, rfl, rfl, rfl, rfl, rfl, rfl, rfl, rfl, trivial⟩ rfl
            · replace Z9 := if_f (of_decide_eq_false c10) Z9
              refine at_exit ?_
              refine at_xt ?_
              refine at_xt ?_
              refine at_xb ?_
              refine at_then ?_
              refine at_seq ?_
              refine at_seq ?_
              refine at_region [0, 1] rfl ?_
              iterate 2 refine at_s T rfl ?_
              refine at_end ?_
              refine at_sub [(0, (.int .i64 w)), (1, (.int .i64 h)), (2, (.slice a_l (List.length l) n_l)), (3, (.slice a_dirs (List.length dirs) n_dirs)), (11, (.slice a6 (List.length x5) n6)), (12, (.slice a7 (List.length x6) n7)), (13, (.slice a8 (List.length x7) n8)), (14, (.int .i64 x8)), (15, (.int .i64 v14)), (65, (.bool (!x17)))] ⟨rfl, rfl, rfl, rfl, rfl, rfl, rfl, rfl, rfl, rfl, trivial⟩ ?_
              refine at_then ?_
              refine at_cond rfl (fun c13 => ?_) (fun c13 => ?_)
              · replace Z9 := if_t c13 Z9
                refine at_exit ?_
                refine at_xt ?_
                refine at_xb ?_
                refine at_then ?_
                obtain rfl := Option.some.inj Z9
                exact at_mid (x5, x6, x7, a6, n6, H6, a7, n7, H7, a8, n8, H8) [0, 0, 0, 0] ⟨rfl, s6, s7, s8⟩ ⟨rfl, rfl, rfl, rfl, rfl, rfl, rfl, rfl, trivial⟩ rfl
              · replace Z9 := if_f (bf c13) Z9
                refine at_skip ?_
                refine at_then ?_
                refine at_seq ?_
                refine at_region [0, 1, 2, 3, 4, 5, 6, 7, 8, 9, 10] rfl ?_
                iterate 3 refine at_s T rfl ?_
                obtain ⟨c14, Z9⟩ := chk_e Z9
                obtain ⟨q15, o15, e15⟩ := h_l.addr c14.1 c14.2
                refine at_v rfl (g_index T rfl rfl rfl rfl rfl e15 c14.1 c14.2) ?_
                refine at_s T rfl ?_
                refine at_v rfl (g_load T rfl rfl rfl rfl (in_elem1 (k := k_api_Unit) (ro_of h_l (j := 0) rfl) e15 c14 0 rfl)) ?_
                iterate 2 refine at_s T rfl ?_
                refine at_cons (at_bs (k := k_api_Move) T [(api_Move.mk ((rd l x8).Id) v14)] rfl rfl rfl rfl rfl rfl rfl rfl rfl (fun a16 H16 s16 => ?_))
                obtain ⟨c15, Z9⟩ := chk_e Z9
                refine at_cons (at_ap (k := k_api_Move) (xs := x6) T (g := 2) rfl rfl rfl rfl rfl rfl rfl rfl rfl rfl s7 (own_of s16 (j := 4) rfl) c15 rfl (fun a17 n17 H17 s17 => ?_))
                refine at_s T rfl ?_
                refine at_end ?_
                refine at_to [(0, (.int .i64 w)), (1, (.int .i64 h)), (2, (.slice a_l (List.length l) n_l)), (3, (.slice a_dirs (List.length dirs) n_dirs)), (11, (.slice a6 (List.length x5) n6)), (12, (.slice a17 (List.length (x6 ++ [(api_Move.mk ((rd l x8).Id) v14)])) n17)), (13, (.slice a8 (List.length x7) n8)), (14, (.int .i64 x8)), (15, (.int .i64 v14))] [0, 0, 0, 0] [F, H6, H17, H8] ⟨rfl, rfl, rfl, rfl, rfl, rfl, rfl, rfl, rfl, trivial⟩ rfl ?_
                refine at_then ?_
                refine at_seq ?_
                refine at_region [0, 1, 2, 3, 4, 5] rfl ?_
                iterate 3 refine at_s T rfl ?_
                obtain ⟨c16, Z9⟩ := chk_e Z9
                obtain ⟨q18, o18, e18⟩ := s6.r.addr c16.1 c16.2
                refine at_v rfl (g_index T rfl rfl rfl rfl rfl e18 c16.1 c16.2) ?_
                refine at_s T rfl ?_
                refine at_cons (at_se (k := k_api_Unit) T 1 1 (api_Unit.mk ((rd x5 x8).Id) v14 ((rd x5 x8).Goal)) rfl rfl rfl rfl rfl rfl s6 e18 c16 rfl rfl rfl (fun H19 s19 => ?_))
                refine at_to [(0, (.int .i64 w)), (1, (.int .i64 h)), (2, (.slice a_l (List.length l) n_l)), (3, (.slice a_dirs (List.length dirs) n_dirs)), (11, (.slice a6 (List.length (List.set x5 (Int.toNat x8) (api_Unit.mk ((rd x5 x8).Id) v14 ((rd x5 x8).Goal)))) n6)), (12, (.slice a17 (List.length (x6 ++ [(api_Move.mk ((rd l x8).Id) v14)])) n17)), (13, (.slice a8 (List.length x7) n8)), (14, (.int .i64 x8)), (15, (.int .i64 v14))] [0, 0, 0, 0] [F, H19, H17, H8] ⟨rfl, rfl, rfl, rfl, (by first | rfl | (simp only [List.length_set]; rfl)), rfl, rfl, rfl, rfl, trivial⟩ rfl ?_
                refine at_end ?_
                refine at_sub [(0, (.int .i64 w)), (1, (.int .i64 h)), (2, (.slice a_l (List.length l) n_l)), (3, (.slice a_dirs (List.length dirs) n_dirs)), (11, (.slice a6 (List.length (List.set x5 (Int.toNat x8) (api_Unit.mk ((rd x5 x8).Id) v14 ((rd x5 x8).Goal)))) n6)), (12, (.slice a17 (List.length (x6 ++ [(api_Move.mk ((rd l x8).Id) v14)])) n17)), (13, (.slice a8 (List.length x7) n8)), (14, (.int .i64 x8)), (15, (.int .i64 v14))] ⟨rfl, rfl, rfl, rfl, rfl, rfl, rfl, rfl, rfl, trivial⟩ ?_
                refine at_then ?_
                refine at_seq ?_
                refine at_region [0, 1, 2, 3, 4, 5, 6] rfl ?_
                iterate 3 refine at_s T rfl ?_
                obtain ⟨c17, Z9⟩ := chk_e Z9
                refine at_v rfl (g_index T rfl rfl rfl rfl rfl e15 c17.1 c17.2) ?_
                refine at_s T rfl ?_
                refine at_v rfl (g_load T rfl rfl rfl rfl (in_elem1 (k := k_api_Unit) (ro_of h_l (j := 0) rfl) e15 c17 2 rfl)) ?_
                refine at_s T rfl ?_
                refine at_end ?_
                refine at_sub [(0, (.int .i64 w)), (1, (.int .i64 h)), (2, (.slice a_l (List.length l) n_l)), (3, (.slice a_dirs (List.length dirs) n_dirs)), (11, (.slice a6 (List.length (List.set x5 (Int.toNat x8) (api_Unit.mk ((rd x5 x8).Id) v14 ((rd x5 x8).Goal)))) n6)), (12, (.slice a17 (List.length (x6 ++ [(api_Move.mk ((rd l x8).Id) v14)])) n17)), (13, (.slice a8 (List.length x7) n8)), (14, (.int .i64 x8)), (87, (.bool (v14 == (rd l x8).Goal)))] ⟨rfl, rfl, rfl, rfl, rfl, rfl, rfl, rfl, rfl, trivial⟩ ?_
                refine at_then ?_
                refine at_cond rfl (fun c18 => ?_) (fun c18 => ?_)
                · replace Z9 := if_t c18 Z9
                  refine at_seq ?_
                  refine at_region [0, 1, 2, 3, 4, 5, 6, 7, 8] rfl ?_
                  iterate 3 refine at_s T rfl ?_
                  refine at_v rfl (g_index T rfl rfl rfl rfl rfl e15 c17.1 c17.2) ?_
                  refine at_s T rfl ?_
                  refine at_v rfl (g_load T rfl rfl rfl rfl (in_elem1 (k := k_api_Unit) (ro_of h_l (j := 0) rfl) e15 c17 0 rfl)) ?_
                  refine at_cons (at_bs (k := (Fl.int .i64)) T [(rd l x8).Id] rfl rfl rfl rfl rfl rfl rfl rfl rfl (fun a20 H20 s20 => ?_))
                  obtain ⟨c19, Z9⟩ := chk_e Z9
                  refine at_cons (at_ap (k := (Fl.int .i64)) (xs := x7) T (g := 3) rfl rfl rfl rfl rfl rfl rfl rfl rfl rfl s8 (own_of s20 (j := 4) rfl) c19 rfl (fun a21 n21 H21 s21 => ?_))
                  refine at_s T rfl ?_
                  refine at_end ?_
                  refine at_to [(0, (.int .i64 w)), (1, (.int .i64 h)), (2, (.slice a_l (List.length l) n_l)), (3, (.slice a_dirs (List.length dirs) n_dirs)), (11, (.slice a6 (List.length (List.set x5 (Int.toNat x8) (api_Unit.mk ((rd x5 x8).Id) v14 ((rd x5 x8).Goal)))) n6)), (12, (.slice a17 (List.length (x6 ++ [(api_Move.mk ((rd l x8).Id) v14)])) n17)), (13, (.slice a21 (List.length (x7 ++ [(rd l x8).Id])) n21)), (14, (.int .i64 x8))] [0, 0, 0, 0] [F, H19, H17, H21] ⟨rfl, rfl, rfl, rfl, rfl, rfl, rfl, rfl, trivial⟩ rfl ?_
                  refine at_then ?_
                  refine at_region [0, 1, 2, 3, 4] rfl ?_
                  iterate 2 refine at_s T rfl ?_
                  obtain ⟨c20, Z9⟩ := chk_e Z9
                  refine at_v rfl (g_index T rfl rfl rfl rfl rfl e18 c20.1 c20.2) ?_
                  refine at_s T rfl ?_
                  refine at_cons (at_se (k := k_api_Unit) T 1 1 (api_Unit.mk ((rd (List.set x5 (Int.toNat x8) (api_Unit.mk ((rd x5 x8).Id) v14 ((rd x5 x8).Goal))) x8).Id) (-1) ((rd (List.set x5 (Int.toNat x8) (api_Unit.mk ((rd x5 x8).Id) v14 ((rd x5 x8).Goal))) x8).Goal)) rfl rfl rfl rfl rfl rfl s19 e18 c20 rfl rfl rfl (fun H22 s22 => ?_))
                  refine at_to [(0, (.int .i64 w)), (1, (.int .i64 h)), (2, (.slice a_l (List.length l) n_l)), (3, (.slice a_dirs (List.length dirs) n_dirs)), (11, (.slice a6 (List.length (List.set (List.set x5 (Int.toNat x8) (api_Unit.mk ((rd x5 x8).Id) v14 ((rd x5 x8).Goal))) (Int.toNat x8) (api_Unit.mk ((rd (List.set x5 (Int.toNat x8) (api_Unit.mk ((rd x5 x8).Id) v14 ((rd x5 x8).Goal))) x8).Id) (-1) ((rd (List.set x5 (Int.toNat x8) (api_Unit.mk ((rd x5 x8).Id) v14 ((rd x5 x8).Goal))) x8).Goal)))) n6)), (12, (.slice a17 (List.length (x6 ++ [(api_Move.mk ((rd l x8).Id) v14)])) n17)), (13, (.slice a21 (List.length (x7 ++ [(rd l x8).Id])) n21)), (14, (.int .i64 x8))] [0, 0, 0, 0] [F, H22, H17, H21] ⟨rfl, rfl, rfl, rfl, (by first | rfl | (simp only [List.length_set]; rfl)), rfl, rfl, rfl, trivial⟩ rfl ?_
                  refine at_end ?_
                  refine at_sub [(0, (.int .i64 w)), (1, (.int .i64 h)), (2, (.slice a_l (List.length l) n_l)), (3, (.slice a_dirs (List.length dirs) n_dirs)), (11, (.slice a6 (List.length (List.set (List.set x5 (Int.toNat x8) (api_Unit.mk ((rd x5 x8).Id) v14 ((rd x5 x8).Goal))) (Int.toNat x8) (api_Unit.mk ((rd (List.set x5 (Int.toNat x8) (api_Unit.mk ((rd x5 x8).Id) v14 ((rd x5 x8).Goal))) x8).Id) (-1) ((rd (List.set x5 (Int.toNat x8) (api_Unit.mk ((rd x5 x8).Id) v14 ((rd x5 x8).Goal))) x8).Goal)))) n6)), (12, (.slice a17 (List.length (x6 ++ [(api_Move.mk ((rd l x8).Id) v14)])) n17)), (13, (.slice a21 (List.length (x7 ++ [(rd l x8).Id])) n21)), (14, (.int .i64 x8))] ⟨rfl, rfl, rfl, rfl, rfl, rfl, rfl, rfl, trivial⟩ ?_
                  refine at_nb ?_
                  refine at_then ?_
                  obtain rfl := Option.some.inj Z9
                  exact at_mid ((List.set (List.set x5 (Int.toNat x8) (api_Unit.mk ((rd x5 x8).Id) v14 ((rd x5 x8).Goal))) (Int.toNat x8) (api_Unit.mk ((rd (List.set x5 (Int.toNat x8) (api_Unit.mk ((rd x5 x8).Id) v14 ((rd x5 x8).Goal))) x8).Id) (-1) ((rd (List.set x5 (Int.toNat x8) (api_Unit.mk ((rd x5 x8).Id) v14 ((rd x5 x8).Goal))) x8).Goal))), (x6 ++ [(api_Move.mk ((rd l x8).Id) v14)]), (x7 ++ [(rd l x8).Id]), a6, n6, H22, a17, n17, H17, a21, n21, H21) [0, 0, 0, 0] ⟨rfl, s22, s17, s21⟩ ⟨rfl, rfl, rfl, rfl, rfl, rfl, rfl, rfl, trivial⟩ rfl
                · replace Z9 := if_f (bf c18) Z9
                  refine at_skip ?_
                  refine at_nb ?_
                  refine at_then ?_
                  obtain rfl := Option.some.inj Z9
                  exact at_mid ((List.set x5 (Int.toNat x8) (api_Unit.mk ((rd x5 x8).Id) v14 ((rd x5 x8).Goal))), (x6 ++ [(api_Move.mk ((rd l x8).Id) v14)]), x7, a6, n6, H19, a17, n17, H17, a8, n8, H8) [0, 0, 0, 0] ⟨rfl, s19, s17, s8⟩ ⟨rfl, rfl, rfl, rfl, rfl, rfl, rfl, rfl, trivial⟩ rfl
      · rintro ⟨x10, x11, x12, a9, n9, H9, a10, n10, H10, a11, n11, H11⟩ ⟨rfl, s9, s10, s11⟩
        refine at_region [0, 1, 2] rfl ?_
        iterate 3 refine at_s T rfl ?_
        refine at_end ?_
        refine at_sub [(0, (.int .i64 w)), (1, (.int .i64 h)), (2, (.slice a_l (List.length l) n_l)), (3, (.slice a_dirs (List.length dirs) n_dirs)), (11, (.slice a9 (List.length x10) n9)), (12, (.slice a10 (List.length x11) n10)), (13, (.slice a11 (List.length x12) n11)), (14, (.int .i64 (w64 (x8 + 1))))] ⟨rfl, rfl, rfl, rfl, rfl, rfl, rfl, rfl, trivial⟩ ?_
        refine at_then ?_
        exact at_roundL (k9, x10, x11, x12, (w64 (x8 + 1)), a9, n9, H9, a10, n10, H10, a11, n11, H11) [0, 0, 0, 0] ⟨Z2, s9, s10, s11⟩ (Nat.lt_succ_self _) ⟨rfl, rfl, rfl, rfl, rfl, rfl, rfl, rfl, trivial⟩ rfl
    · replace Z2 := if_f (of_decide_eq_false c3) Z2
      refine at_exit ?_
      refine at_xt ?_
      refine at_xt ?_
      refine at_xb ?_
      refine at_then ?_
      refine at_seq ?_
      refine at_region [0] rfl ?_
      refine at_s T rfl ?_
      refine at_end ?_
      refine at_sub [(11, (.slice a6 (List.length x5) n6)), (12, (.slice a7 (List.length x6) n7)), (13, (.slice a8 (List.length x7) n8)), (18, (.slice none 0 0))] ⟨rfl, rfl, rfl, rfl, trivial⟩ ?_
      refine at_then ?_
      refine at_seq ?_
      refine at_seq ?_
      refine at_region [0] rfl ?_
      refine at_s T rfl ?_
      refine at_end ?_
      refine at_sub [(11, (.slice a6 (List.length x5) n6)), (12, (.slice a7 (List.length x6) n7)), (13, (.slice a8 (List.length x7) n8)), (18, (.slice none 0 0)), (19, (.int .i64 0))] ⟨rfl, rfl, rfl, rfl, rfl, trivial⟩ ?_
      refine at_then ?_
      refine at_block ?_
      refine at_addnil ?_
      refine at_loopL (σ := Nat × List api_Unit × Int × Option Addr × Nat × Hp) (fun ⟨k24, x22, x23, a24, n24, H24⟩ => ref21_Go.l2 k24 x5 x6 x7 x22 x23 = some r ∧ SliceO k_api_Unit 40 x22 a24 n24 H24) (fun ⟨k24, x22, x23, a24, n24, H24⟩ => [(11, (.slice a6 (List.length x5) n6)), (12, (.slice a7 (List.length x6) n7)), (13, (.slice a8 (List.length x7) n8)), (18, (.slice a24 (List.length x22) n24)), (19, (.int .i64 x23))]) (fun ⟨k24, x22, x23, a24, n24, H24⟩ => [F, H6, H7, H8, H24]) (fun s => s.1) (fuel, [], 0, none, 0, []) [0, 0, 0, 0, 0] ⟨Z2, SliceO.nil⟩ ⟨rfl, rfl, rfl, rfl, rfl, trivial⟩ rfl ?_
      rintro ⟨k24, x22, x23, a24, n24, H24⟩ ⟨Z21, s24⟩
      replace Z21 : ref21_Go.l2 k24 x5 x6 x7 x22 x23 = some r := Z21
      rcases k24 with _ | k24
      · rw [ref21_Go.l2] at Z21; cases Z21
      · rw [ref21_Go.l2] at Z21
        refine at_seq ?_
        refine at_seq ?_
        refine at_region [0, 1, 2, 3] rfl ?_
        iterate 4 refine at_s T rfl ?_
        refine at_end ?_
        refine at_sub [(11, (.slice a6 (List.length x5) n6)), (12, (.slice a7 (List.length x6) n7)), (13, (.slice a8 (List.length x7) n8)), (18, (.slice a24 (List.length x22) n24)), (19, (.int .i64 x23)), (103, (.bool (decide (x23 < (List.length x5 : Int)))))] ⟨rfl, rfl, rfl, rfl, rfl, rfl, trivial⟩ ?_
        refine at_then ?_
        refine at_cond rfl (fun c22 => ?_) (fun c22 => ?_)
        · replace Z21 := if_t (of_decide_eq_true c22) Z21
          refine at_skip ?_
          refine at_then ?_
          refine at_seq ?_
          refine at_block ?_
          refine at_seq ?_
          refine at_region [0, 1, 2, 3, 4, 5] rfl ?_
          iterate 2 refine at_s T rfl ?_
          obtain ⟨c23, Z21⟩ := chk_e Z21
          obtain ⟨q25, o25, e25⟩ := s6.r.addr c23.1 c23.2
          refine at_v rfl (g_index T rfl rfl rfl rfl rfl e25 c23.1 c23.2) ?_
          refine at_s T rfl ?_
          refine at_v rfl (g_load T rfl rfl rfl rfl (in_elem1 (k := k_api_Unit) (own_of s6 (j := 1) rfl) e25 c23 1 rfl)) ?_
          refine at_s T rfl ?_
          refine at_end ?_
          refine at_sub [(11, (.slice a6 (List.length x5) n6)), (12, (.slice a7 (List.length x6) n7)), (13, (.slice a8 (List.length x7) n8)), (18, (.slice a24 (List.length x22) n24)), (19, (.int .i64 x23)), (111, (.bool (decide ((rd x5 x23).Cell ≥ 0))))] ⟨rfl, rfl, rfl, rfl, rfl, rfl, trivial⟩ ?_
          refine at_then ?_
          refine at_cond rfl (fun c24 => ?_) (fun c24 => ?_)
          · replace Z21 := if_t (of_decide_eq_true c24) Z21
            refine at_region [0, 1, 2, 3, 4, 5, 6, 7] rfl ?_
            iterate 3 refine at_s T rfl ?_
            refine at_v rfl (g_index T rfl rfl rfl rfl rfl e25 c23.1 c23.2) ?_
            refine at_v rfl (g_loadA T (cs := [(.int .i64 (rd x5 x23).Id), (.int .i64 (rd x5 x23).Cell), (.int .i64 (rd x5 x23).Goal)]) rfl rfl rfl rfl rfl rfl (in_elemA (k := k_api_Unit) (own_of s6 (j := 1) rfl) e25 c23 rfl)) ?_
            refine at_cons (at_bs (k := k_api_Unit) T [(rd x5 x23)] rfl rfl rfl rfl rfl rfl rfl rfl rfl (fun a26 H26 s26 => ?_))
            obtain ⟨c25, Z21⟩ := chk_e Z21
            refine at_cons (at_ap (k := k_api_Unit) (xs := x22) T (g := 4) rfl rfl rfl rfl rfl rfl rfl rfl rfl rfl s24 (own_of s26 (j := 5) rfl) c25 rfl (fun a27 n27 H27 s27 => ?_))
            refine at_s T rfl ?_
            refine at_end ?_
            refine at_to [(11, (.slice a6 (List.length x5) n6)), (12, (.slice a7 (List.length x6) n7)), (13, (.slice a8 (List.length x7) n8)), (18, (.slice a27 (List.length (x22 ++ [(rd x5 x23)])) n27)), (19, (.int .i64 x23))] [0, 0, 0, 0, 0] [F, H6, H7, H8, H27] ⟨rfl, rfl, rfl, rfl, rfl, trivial⟩ rfl ?_
            refine at_nb ?_
            refine at_then ?_
            refine at_region [0, 1, 2] rfl ?_
            iterate 3 refine at_s T rfl ?_
            refine at_end ?_
            refine at_sub [(11, (.slice a6 (List.length x5) n6)), (12, (.slice a7 (List.length x6) n7)), (13, (.slice a8 (List.length x7) n8)), (18, (.slice a27 (List.length (x22 ++ [(rd x5 x23)])) n27)), (19, (.int .i64 (w64 (x23 + 1))))] ⟨rfl, rfl, rfl, rfl, rfl, trivial⟩ ?_
            refine at_then ?_
            exact at_roundL (k24, (x22 ++ [(rd x5 x23)]), (w64 (x23 + 1)), a27, n27, H27) [0, 0, 0, 0, 0] ⟨Z21, s27⟩ (Nat.lt_succ_self _) ⟨rfl, rfl, rfl, rfl, rfl, trivial⟩ rfl
          · replace Z21 := if_f (of_decide_eq_false c24) Z21
            refine at_skip ?_
            refine at_nb ?_
            refine at_then ?_
            refine at_region [0, 1, 2] rfl ?_
            iterate 3 refine at_s T rfl ?_
            refine at_end ?_
            refine at_sub [(11, (.slice a6 (List.length x5) n6)), (12, (.slice a7 (List.length x6) n7)), (13, (.slice a8 (List.length x7) n8)), (18, (.slice a24 (List.length x22) n24)), (19, (.int .i64 (w64 (x23 + 1))))] ⟨rfl, rfl, rfl, rfl, rfl, trivial⟩ ?_
            refine at_then ?_
            exact at_roundL (k24, x22, (w64 (x23 + 1)), a24, n24, H24) [0, 0, 0, 0, 0] ⟨Z21, s24⟩ (Nat.lt_succ_self _) ⟨rfl, rfl, rfl, rfl, rfl, trivial⟩ rfl
        · replace Z21 := if_f (of_decide_eq_false c22) Z21
          refine at_exit ?_
          refine at_xt ?_
          refine at_xt ?_
          refine at_xb ?_
          refine at_then ?_
          refine at_seq ?_
          refine at_region [0, 1, 2, 3, 4, 5] rfl ?_
          iterate 6 refine at_s T rfl ?_
          refine at_end ?_
          refine at_to [(8, (.slice a24 (List.length x22) n24)), (9, (.slice a7 (List.length x6) n7)), (10, (.slice a8 (List.length x7) n8))] [0, 1, 1, 1] [F, H7, H8, H24] ⟨rfl, rfl, rfl, trivial⟩ rfl ?_
          refine at_then ?_
          refine at_ret ?_
          obtain rfl := Option.some.inj Z21
          exact at_post (T := T) rfl (.tmp rfl (.tmp rfl (.tmp rfl .nil))) (fun w o => ⟨⟨(_, _), ⟨a24, n24, H24, a7, n7, H7, a8, n8, H8, s24, s7, s8, rfl, rfl⟩⟩, rfl, own_to [3, 1, 1, 0] rfl o⟩)

/-! ### (*herdsman/herdsmanref21.Units).at: function 83 -/
def ref21_Units_at.l0 : Nat → herdsmanref21_Crowd → Int → Int → Option Int
  | 0, _, _, _ => none
  | k3 + 1, u, id, x2 => if x2 < (List.length u.U.L : Int) then (if (0 ≤ x2 ∧ x2 < (List.length u.U.L : Int)) then (if ((rd u.U.L x2).Id == id) = true then (some x2) else (ref21_Units_at.l0 k3 u id (w64 (x2 + 1)))) else none) else (some (-1))
def ref21_Units_at.f (u : herdsmanref21_Crowd) (id : Int) : Option Int := ref21_Units_at.l0 fuel u id 0
set_option maxHeartbeats 4000000 in
theorem ref21_Units_at.c {b_u : Nat} {a_u_U_L : Option Addr} {n_u_U_L : Nat} {H_u_U_L : Hp} (u : herdsmanref21_Crowd) (id : Int) (r : Int) (F : Hp) (H : ref21_Units_at.f u id = some r) (s_u_U_L : SliceO k_api_Unit 40 u.U.L a_u_U_L n_u_U_L H_u_U_L) :
    CallsL Try.prog 83 [(.pointer (some ⟨b_u, 2, none⟩)), (.int .i64 id)] [[(b_u, Obj.cells #[(.int .i64 u.W), (.int .i64 u.H), (.int .i64 u.U.Most), (.int .i64 u.U.Next), (.slice a_u_U_L (List.length u.U.L) n_u_U_L)] 68 (0, 0))], H_u_U_L, F] (fun _ : Unit => (.int .i64 r)) (fun _ => [[(b_u, Obj.cells #[(.int .i64 u.W), (.int .i64 u.H), (.int .i64 u.U.Most), (.int .i64 u.U.Next), (.slice a_u_U_L (List.length u.U.L) n_u_U_L)] 68 (0, 0))], H_u_U_L] ++ [F]) := by
  unfold ref21_Units_at.f at H
  refine calls_atL [(0, (.pointer (some ⟨b_u, 2, none⟩))), (1, (.int .i64 id))] Try.func83 rfl rfl ⟨rfl, rfl, trivial⟩ (fun W => ?_)
  refine at_seq ?_
  refine at_region [0] rfl ?_
  refine at_s T rfl ?_
  refine at_end ?_
  refine at_sub [(0, (.pointer (some ⟨b_u, 2, none⟩))), (1, (.int .i64 id))] ⟨rfl, rfl, trivial⟩ ?_
  refine at_then ?_
  refine at_seq ?_
  refine at_seq ?_
  refine at_region [0] rfl ?_
  refine at_s T rfl ?_
  refine at_end ?_
  refine at_sub [(0, (.pointer (some ⟨b_u, 2, none⟩))), (1, (.int .i64 id)), (5, (.int .i64 0))] ⟨rfl, rfl, rfl, trivial⟩ ?_
  refine at_then ?_
  refine at_block ?_
  refine at_loopL (σ := Nat × Int) (fun ⟨k3, x2⟩ => ref21_Units_at.l0 k3 u id x2 = some r) (fun ⟨k3, x2⟩ => [(0, (.pointer (some ⟨b_u, 2, none⟩))), (1, (.int .i64 id)), (5, (.int .i64 x2))]) (fun ⟨k3, x2⟩ => [F, [(b_u, Obj.cells #[(.int .i64 u.W), (.int .i64 u.H), (.int .i64 u.U.Most), (.int .i64 u.U.Next), (.slice a_u_U_L (List.length u.U.L) n_u_U_L)] 68 (0, 0))], H_u_U_L]) (fun s => s.1) (fuel, 0) [2, 0, 0] H ⟨rfl, rfl, rfl, trivial⟩ rfl ?_
  rintro ⟨k3, x2⟩ Z1
  replace Z1 : ref21_Units_at.l0 k3 u id x2 = some r := Z1
  rcases k3 with _ | k3
  · rw [ref21_Units_at.l0] at Z1; cases Z1
  · rw [ref21_Units_at.l0] at Z1
    refine at_seq ?_
    refine at_seq ?_
    refine at_region [0, 1, 2, 3, 4, 5, 6] rfl ?_
    iterate 4 refine at_s T rfl ?_
    refine at_v rfl (g_load T rfl rfl rfl rfl (in_var (j := 1) rfl rfl)) ?_
    iterate 2 refine at_s T rfl ?_
    refine at_end ?_
    refine at_sub [(0, (.pointer (some ⟨b_u, 2, none⟩))), (1, (.int .i64 id)), (5, (.int .i64 x2)), (12, (.bool (decide (x2 < (List.length u.U.L : Int)))))] ⟨rfl, rfl, rfl, rfl, trivial⟩ ?_
    refine at_then ?_
    refine at_cond rfl (fun c2 => ?_) (fun c2 => ?_)
    · replace Z1 := if_t (of_decide_eq_true c2) Z1
      refine at_skip ?_
      refine at_then ?_
      refine at_seq ?_
      refine at_block ?_
      refine at_seq ?_
      refine at_region [0, 1, 2, 3, 4, 5, 6, 7, 8, 9] rfl ?_
      iterate 3 refine at_s T rfl ?_
      refine at_v rfl (g_load T rfl rfl rfl rfl (in_var (j := 1) rfl rfl)) ?_
      refine at_s T rfl ?_
      obtain ⟨c3, Z1⟩ := chk_e Z1
      obtain ⟨q3, o3, e3⟩ := s_u_U_L.r.addr c3.1 c3.2
      refine at_v rfl (g_index T rfl rfl rfl rfl rfl e3 c3.1 c3.2) ?_
      refine at_s T rfl ?_
      refine at_v rfl (g_load T rfl rfl rfl rfl (in_elem1 (k := k_api_Unit) (own_of s_u_U_L (j := 2) rfl) e3 c3 0 rfl)) ?_
      iterate 2 refine at_s T rfl ?_
      refine at_end ?_
      refine at_sub [(0, (.pointer (some ⟨b_u, 2, none⟩))), (1, (.int .i64 id)), (5, (.int .i64 x2)), (24, (.bool ((rd u.U.L x2).Id == id)))] ⟨rfl, rfl, rfl, rfl, trivial⟩ ?_
      refine at_then ?_
      refine at_cond rfl (fun c4 => ?_) (fun c4 => ?_)
      · replace Z1 := if_t c4 Z1
        refine at_seq ?_
        refine at_region [0, 1] rfl ?_
        iterate 2 refine at_s T rfl ?_
        refine at_end ?_
        refine at_sub [(4, (.int .i64 x2))] ⟨rfl, trivial⟩ ?_
        refine at_then ?_
        refine at_ret ?_
        refine at_rb ?_
        refine at_rt ?_
        refine at_rt ?_
        refine at_rb ?_
        refine at_rt ?_
        obtain rfl := Option.some.inj Z1
        exact at_post (T := T) rfl (.tmp rfl .nil) (fun w o => ⟨(), rfl, own_to [1, 1, 0] rfl o⟩)
      · replace Z1 := if_f (bf c4) Z1
        refine at_skip ?_
        refine at_nb ?_
        refine at_then ?_
        refine at_region [0, 1, 2] rfl ?_
        iterate 3 refine at_s T rfl ?_
        refine at_end ?_
        refine at_sub [(0, (.pointer (some ⟨b_u, 2, none⟩))), (1, (.int .i64 id)), (5, (.int .i64 (w64 (x2 + 1))))] ⟨rfl, rfl, rfl, trivial⟩ ?_
        refine at_then ?_
        exact at_roundL (k3, (w64 (x2 + 1))) [0, 0, 0] Z1 (Nat.lt_succ_self _) ⟨rfl, rfl, rfl, trivial⟩ rfl
    · replace Z1 := if_f (of_decide_eq_false c2) Z1
      refine at_exit ?_
      refine at_xt ?_
      refine at_xt ?_
      refine at_xb ?_
      refine at_then ?_
      refine at_seq ?_
      refine at_region [0] rfl ?_
      refine at_s T rfl ?_
      refine at_end ?_
      refine at_sub [(4, (.int .i64 (-1)))] ⟨rfl, trivial⟩ ?_
      refine at_then ?_
      refine at_ret ?_
      obtain rfl := Option.some.inj Z1
      exact at_post (T := T) rfl (.tmp rfl .nil) (fun w o => ⟨(), rfl, own_to [1, 1, 0] rfl o⟩)

/-! ### (*herdsman/herdsmanref21.Units).Get: function 66 -/
def ref21_Units_Get.f (u : herdsmanref21_Crowd) (id : Int) : Option (api_Unit × Bool) := (ref21_Units_at.f u id).bind fun v1 => if v1 < 0 then (some ((api_Unit.mk 0 0 0), false)) else (if (0 ≤ v1 ∧ v1 < (List.length u.U.L : Int)) then (some ((rd u.U.L v1), true)) else none)
set_option maxHeartbeats 4000000 in
theorem ref21_Units_Get.c {b_u : Nat} {a_u_U_L : Option Addr} {n_u_U_L : Nat} {H_u_U_L : Hp} (u : herdsmanref21_Crowd) (id : Int) (r : (api_Unit × Bool)) (F : Hp) (H : ref21_Units_Get.f u id = some r) (s_u_U_L : SliceO k_api_Unit 40 u.U.L a_u_U_L n_u_U_L H_u_U_L) :
    CallsL Try.prog 66 [(.pointer (some ⟨b_u, 2, none⟩)), (.int .i64 id)] [[(b_u, Obj.cells #[(.int .i64 u.W), (.int .i64 u.H), (.int .i64 u.U.Most), (.int .i64 u.U.Next), (.slice a_u_U_L (List.length u.U.L) n_u_U_L)] 68 (0, 0))], H_u_U_L, F] (fun _ : Unit => (.tuple #[(.agg #[(.int .i64 r.1.Id), (.int .i64 r.1.Cell), (.int .i64 r.1.Goal)]), (.bool r.2)])) (fun _ => [[(b_u, Obj.cells #[(.int .i64 u.W), (.int .i64 u.H), (.int .i64 u.U.Most), (.int .i64 u.U.Next), (.slice a_u_U_L (List.length u.U.L) n_u_U_L)] 68 (0, 0))], H_u_U_L] ++ [F]) := by
  unfold ref21_Units_Get.f at H
  refine calls_atL [(0, (.pointer (some ⟨b_u, 2, none⟩))), (1, (.int .i64 id))] Try.func66 rfl rfl ⟨rfl, rfl, trivial⟩ (fun W => ?_)
  refine at_seq ?_
  refine at_region [0, 1] rfl ?_
  refine at_cons (at_al T [(.int .i64 0), (.int .i64 0), (.int .i64 0)] rfl rfl rfl rfl (fun b3 => ?_))
  refine at_s T rfl ?_
  refine at_end ?_
  refine at_sub [(0, (.pointer (some ⟨b_u, 2, none⟩))), (1, (.int .i64 id)), (4, (.pointer (some ⟨b3, 0, none⟩)))] ⟨rfl, rfl, rfl, trivial⟩ ?_
  refine at_then ?_
  refine at_seq ?_
  refine at_region [0, 1, 2, 3] rfl ?_
  iterate 2 refine at_s T rfl ?_
  obtain ⟨v1, V1, H⟩ := bind_e H
  refine at_cons (at_c (As := [[(b_u, Obj.cells #[(.int .i64 u.W), (.int .i64 u.H), (.int .i64 u.U.Most), (.int .i64 u.U.Next), (.slice a_u_U_L (List.length u.U.L) n_u_U_L)] 68 (0, 0))], H_u_U_L]) (R := [F, [(b3, Obj.cells #[(.int .i64 0), (.int .i64 0), (.int .i64 0)] 40 (0, 0))]]) (B := fun _ => [[(b_u, Obj.cells #[(.int .i64 u.W), (.int .i64 u.H), (.int .i64 u.U.Most), (.int .i64 u.U.Next), (.slice a_u_U_L (List.length u.U.L) n_u_U_L)] 68 (0, 0))], H_u_U_L]) [0, 0] rfl rfl rfl rfl has83 rfl rfl (ref21_Units_at.c u id v1 _ V1 s_u_U_L) (fun _ => ?_))
  refine at_s T rfl ?_
  refine at_end ?_
  refine at_sub [(0, (.pointer (some ⟨b_u, 2, none⟩))), (4, (.pointer (some ⟨b3, 0, none⟩))), (6, (.int .i64 v1))] ⟨rfl, rfl, rfl, trivial⟩ ?_
  refine at_then ?_
  refine at_seq ?_
  refine at_seq ?_
  refine at_region [0, 1] rfl ?_
  iterate 2 refine at_s T rfl ?_
  refine at_end ?_
  refine at_sub [(0, (.pointer (some ⟨b_u, 2, none⟩))), (4, (.pointer (some ⟨b3, 0, none⟩))), (6, (.int .i64 v1)), (11, (.bool (decide (v1 < 0))))] ⟨rfl, rfl, rfl, rfl, trivial⟩ ?_
  refine at_then ?_
  refine at_cond rfl (fun c2 => ?_) (fun c2 => ?_)
  · replace H := if_t (of_decide_eq_true c2) H
    refine at_seq ?_
    refine at_region [0, 1, 2] rfl ?_
    refine at_s T rfl ?_
    refine at_cons (at_st T 1 [(.int .i64 0), (.int .i64 0), (.int .i64 0)] rfl rfl rfl rfl rfl rfl rfl rfl rfl rfl ?_)
    refine at_s T rfl ?_
    refine at_end ?_
    refine at_sub [(4, (.pointer (some ⟨b3, 0, none⟩))), (5, (.bool false))] ⟨rfl, rfl, trivial⟩ ?_
    refine at_then ?_
    refine at_ret ?_
    refine at_rt ?_
    obtain rfl := Option.some.inj H
    exact at_post (T := T) rfl (.aggv (j := 1) [(.int .i64 0), (.int .i64 0), (.int .i64 0)] rfl rfl rfl rfl rfl rfl rfl (.tmp rfl .nil)) (fun w o => ⟨(), rfl, own_to [2, 2, 0] rfl o⟩)
  · replace H := if_f (of_decide_eq_false c2) H
    refine at_skip ?_
    refine at_then ?_
    refine at_seq ?_
    refine at_region [0, 1, 2, 3, 4, 5, 6, 7, 8] rfl ?_
    iterate 3 refine at_s T rfl ?_
    refine at_v rfl (g_load T rfl rfl rfl rfl (in_var (j := 2) rfl rfl)) ?_
    refine at_s T rfl ?_
    obtain ⟨c3, H⟩ := chk_e H
    obtain ⟨q4, o4, e4⟩ := s_u_U_L.r.addr c3.1 c3.2
    refine at_v rfl (g_index T rfl rfl rfl rfl rfl e4 c3.1 c3.2) ?_
    refine at_v rfl (g_loadA T (cs := [(.int .i64 (rd u.U.L v1).Id), (.int .i64 (rd u.U.L v1).Cell), (.int .i64 (rd u.U.L v1).Goal)]) rfl rfl rfl rfl rfl rfl (in_elemA (k := k_api_Unit) (own_of s_u_U_L (j := 3) rfl) e4 c3 rfl)) ?_
    refine at_cons (at_st T 1 [(.int .i64 (rd u.U.L v1).Id), (.int .i64 (rd u.U.L v1).Cell), (.int .i64 (rd u.U.L v1).Goal)] rfl rfl rfl rfl rfl rfl rfl rfl rfl rfl ?_)
    refine at_s T rfl ?_
    refine at_end ?_
    refine at_sub [(4, (.pointer (some ⟨b3, 0, none⟩))), (5, (.bool true))] ⟨rfl, rfl, trivial⟩ ?_
    refine at_then ?_
    refine at_ret ?_
    obtain rfl := Option.some.inj H
    exact at_post (T := T) rfl (.aggv (j := 1) [(.int .i64 (rd u.U.L v1).Id), (.int .i64 (rd u.U.L v1).Cell), (.int .i64 (rd u.U.L v1).Goal)] rfl rfl rfl rfl rfl rfl rfl (.tmp rfl .nil)) (fun w o => ⟨(), rfl, own_to [2, 2, 0] rfl o⟩)

/-! ### (*herdsman/herdsmanref21.Units).Drop: function 67 -/
def ref21_Units_Drop.f (u : herdsmanref21_Crowd) (id : Int) : Option (Bool × herdsmanref21_Crowd) := (ref21_Units_at.f u id).bind fun v1 => if v1 < 0 then (some (false, u)) else (if (0 ≤ (0 : Int) ∧ (0 : Int) ≤ v1 ∧ v1 ≤ (List.length u.U.L : Int)) then (if (0 ≤ (w64 (v1 + 1)) ∧ (w64 (v1 + 1)) ≤ (List.length u.U.L : Int) ∧ (List.length u.U.L : Int) ≤ (List.length u.U.L : Int)) then (if (List.length ([] : List api_Unit) + List.length (sub' u.U.L 0 v1) ≤ 1099511627776) then (if (List.length (([] : List api_Unit) ++ (sub' u.U.L 0 v1)) + List.length (sub' u.U.L (w64 (v1 + 1)) (List.length u.U.L : Int)) ≤ 1099511627776) then (some (true, (herdsmanref21_Crowd.mk u.W u.H (herdsmanref21_Units.mk u.U.Most u.U.Next ((([] : List api_Unit) ++ (sub' u.U.L 0 v1)) ++ (sub' u.U.L (w64 (v1 + 1)) (List.length u.U.L : Int))))))) else none) else none) else none) else none)
def ref21_Units_Drop.R (b_u : Nat) (r : (Bool × herdsmanref21_Crowd)) (u : Value) (G : List Hp) : Prop := ∃ (a0 : Option Addr) (n0 : Nat) (H0 : Hp), SliceO k_api_Unit 40 r.2.U.L a0 n0 H0 ∧ u = (.bool r.1) ∧ G = [[(b_u, Obj.cells #[(.int .i64 r.2.W), (.int .i64 r.2.H), (.int .i64 r.2.U.Most), (.int .i64 r.2.U.Next), (.slice a0 (List.length r.2.U.L) n0)] 68 (0, 0))], H0]
set_option maxHeartbeats 4000000 in
theorem ref21_Units_Drop.c {b_u : Nat} {a_u_U_L : Option Addr} {n_u_U_L : Nat} {H_u_U_L : Hp} (u : herdsmanref21_Crowd) (id : Int) (r : (Bool × herdsmanref21_Crowd)) (F : Hp) (H : ref21_Units_Drop.f u id = some r) (s_u_U_L : SliceO k_api_Unit 40 u.U.L a_u_U_L n_u_U_L H_u_U_L) :
    CallsL Try.prog 67 [(.pointer (some ⟨b_u, 2, none⟩)), (.int .i64 id)] [[(b_u, Obj.cells #[(.int .i64 u.W), (.int .i64 u.H), (.int .i64 u.U.Most), (.int .i64 u.U.Next), (.slice a_u_U_L (List.length u.U.L) n_u_U_L)] 68 (0, 0))], H_u_U_L, F] (fun p : { p : Value × List Hp // ref21_Units_Drop.R b_u r p.1 p.2 } => p.1.1) (fun p => (p.1.2 ++ []) ++ [F]) := by
  unfold ref21_Units_Drop.f at H
  refine calls_atL [(0, (.pointer (some ⟨b_u, 2, none⟩))), (1, (.int .i64 id))] Try.func67 rfl rfl ⟨rfl, rfl, trivial⟩ (fun W => ?_)
  refine at_seq ?_
  refine at_region [0] rfl ?_
  refine at_s T rfl ?_
  refine at_end ?_
  refine at_sub [(0, (.pointer (some ⟨b_u, 2, none⟩))), (1, (.int .i64 id))] ⟨rfl, rfl, trivial⟩ ?_
  refine at_then ?_
  refine at_seq ?_
  refine at_region [0, 1, 2, 3] rfl ?_
  iterate 2 refine at_s T rfl ?_
  obtain ⟨v1, V1, H⟩ := bind_e H
  refine at_cons (at_c (As := [[(b_u, Obj.cells #[(.int .i64 u.W), (.int .i64 u.H), (.int .i64 u.U.Most), (.int .i64 u.U.Next), (.slice a_u_U_L (List.length u.U.L) n_u_U_L)] 68 (0, 0))], H_u_U_L]) (R := [F]) (B := fun _ => [[(b_u, Obj.cells #[(.int .i64 u.W), (.int .i64 u.H), (.int .i64 u.U.Most), (.int .i64 u.U.Next), (.slice a_u_U_L (List.length u.U.L) n_u_U_L)] 68 (0, 0))], H_u_U_L]) [0, 0] rfl rfl rfl rfl has83 rfl rfl (ref21_Units_at.c u id v1 _ V1 s_u_U_L) (fun _ => ?_))
  refine at_s T rfl ?_
  refine at_end ?_
  refine at_sub [(0, (.pointer (some ⟨b_u, 2, none⟩))), (5, (.int .i64 v1))] ⟨rfl, rfl, trivial⟩ ?_
  refine at_then ?_
  refine at_seq ?_
  refine at_seq ?_
  refine at_region [0, 1] rfl ?_
  iterate 2 refine at_s T rfl ?_
  refine at_end ?_
  refine at_sub [(0, (.pointer (some ⟨b_u, 2, none⟩))), (5, (.int .i64 v1)), (10, (.bool (decide (v1 < 0))))] ⟨rfl, rfl, rfl, trivial⟩ ?_
  refine at_then ?_
  refine at_cond rfl (fun c2 => ?_) (fun c2 => ?_)
  · replace H := if_t (of_decide_eq_true c2) H
    refine at_seq ?_
    refine at_region [0] rfl ?_
    refine at_s T rfl ?_
    refine at_end ?_
    refine at_sub [(4, (.bool false))] ⟨rfl, trivial⟩ ?_
    refine at_then ?_
    refine at_ret ?_
    refine at_rt ?_
    obtain rfl := Option.some.inj H
    exact at_post (T := T) rfl (.tmp rfl .nil) (fun w o => ⟨⟨(_, _), ⟨a_u_U_L, n_u_U_L, H_u_U_L, s_u_U_L, rfl, rfl⟩⟩, rfl, own_to [1, 1, 0] rfl o⟩)
  · replace H := if_f (of_decide_eq_false c2) H
    refine at_skip ?_
    refine at_then ?_
    refine at_seq ?_
    refine at_region_m [[], [], [], [2], [2, 3], [2, 3, 4], [], [2, 3, 4, 5, 6], [1, 2, 3, 4, 5, 6, 7], [], [9], [9, 10], [9, 10, 11], [], [13], [9, 10, 11, 12, 13, 14], [1, 2, 3, 4, 5, 6, 7, 8, 9, 10, 11, 12, 13, 14, 15], [0, 1, 2, 3, 4, 5, 6, 7, 8, 9, 10, 11, 12, 13, 14, 15, 16], [0, 1, 2, 3, 4, 5, 6, 7, 8, 9, 10, 11, 12, 13, 14, 15, 16, 17], [0, 1, 2, 3, 4, 5, 6, 7, 8, 9, 10, 11, 12, 13, 14, 15, 16, 17, 18]] [19] [F, [(b_u, Obj.cells #[(.int .i64 u.W), (.int .i64 u.H), (.int .i64 u.U.Most), (.int .i64 u.U.Next), (.slice a_u_U_L (List.length u.U.L) n_u_U_L)] 68 (0, 0))], H_u_U_L] mix (by kernel_rfl) (by repeat first | exact pf_body | refine pf_then ?_ | refine pf_block ?_) (fun hg pf => ?_)
    refine atm_s T 0 hg pf (by kernel_rfl) (still_o [0, 0, 0] rfl) rfl ?_
    refine atm_s T 2 hg pf (by kernel_rfl) (still_o [0, 0, 0] rfl) rfl ?_
    refine atm_s T 3 hg pf (by kernel_rfl) (still_o [0, 0, 0] rfl) rfl ?_
    refine atm_s T 4 hg pf (by kernel_rfl) (still_o [0, 0, 0] rfl) rfl ?_
    refine atm_v 5 hg pf (by kernel_rfl) (still_o [0, 0, 0] rfl) rfl rfl (g_load T rfl rfl rfl rfl (in_var (j := 1) rfl rfl)) ?_
    refine atm_s T 6 hg pf (by kernel_rfl) (still_o [0, 0, 0] rfl) rfl ?_
    obtain ⟨c3, H⟩ := chk_e H
    refine atm_v 7 hg pf (by kernel_rfl) (still_o [0, 0, 0] rfl) rfl rfl (g_sub T rfl rfl rfl rfl rfl rfl c3 s_u_U_L.cap_le) ?_
    refine atm_s T 9 hg pf (by kernel_rfl) (still_o [0, 0, 0] rfl) rfl ?_
    refine atm_s T 10 hg pf (by kernel_rfl) (still_o [0, 0, 0] rfl) rfl ?_
    refine atm_s T 11 hg pf (by kernel_rfl) (still_o [0, 0, 0] rfl) rfl ?_
    refine atm_v 12 hg pf (by kernel_rfl) (still_o [0, 0, 0] rfl) rfl rfl (g_load T rfl rfl rfl rfl (in_var (j := 1) rfl rfl)) ?_
    refine atm_s T 13 hg pf (by kernel_rfl) (still_o [0, 0, 0] rfl) rfl ?_
    refine atm_s T 14 hg pf (by kernel_rfl) (still_o [0, 0, 0] rfl) rfl ?_
    obtain ⟨c4, H⟩ := chk_e H
    refine atm_v 15 hg pf (by kernel_rfl) (still_o [0, 0, 0] rfl) rfl rfl (g_sub T rfl rfl rfl rfl rfl rfl c4 s_u_U_L.cap_le) ?_
    refine atm_one 1 (by kernel_rfl) ?_
    refine at_bs (k := k_api_Unit) T ([] : List api_Unit) rfl rfl rfl rfl rfl rfl rfl rfl rfl (fun a3 H3 s3 => ?_)
    refine atm_next (still_o [0, 0, 0] rfl) ?_
    refine atm_one 8 (by kernel_rfl) ?_
    obtain ⟨c5, H⟩ := chk_e H
    refine at_ap (k := k_api_Unit) (xs := ([] : List api_Unit)) T (g := 3) rfl rfl rfl rfl rfl rfl rfl rfl rfl rfl s3 (sub_r (own_of s_u_U_L (j := 2) rfl) c3 s_u_U_L.cap_le) c5 rfl (fun a4 n4 H4 s4 => ?_)
    refine atm_next (still_o [0, 0, 0] rfl) ?_
    refine atm_one 16 (by kernel_rfl) ?_
    obtain ⟨c6, H⟩ := chk_e H
    refine at_ap (k := k_api_Unit) (xs := (([] : List api_Unit) ++ (sub' u.U.L 0 v1))) T (g := 3) rfl rfl rfl rfl rfl rfl rfl rfl rfl rfl s4 (sub_r (own_of s_u_U_L (j := 2) rfl) c4 s_u_U_L.cap_le) c6 rfl (fun a5 n5 H5 s5 => ?_)
    refine atm_next (still_o [0, 0, 0] rfl) ?_
    refine atm_s T 17 hg pf (by kernel_rfl) (still_o [0, 0, 0] rfl) rfl ?_
    refine atm_s T 18 hg pf (by kernel_rfl) (still_o [0, 0, 0] rfl) rfl ?_
    refine atm_one 19 (by kernel_rfl) ?_
    refine at_st T 1 [(.int .i64 u.W), (.int .i64 u.H), (.int .i64 u.U.Most), (.int .i64 u.U.Next), (.slice a5 (List.length ((([] : List api_Unit) ++ (sub' u.U.L 0 v1)) ++ (sub' u.U.L (w64 (v1 + 1)) (List.length u.U.L : Int)))) n5)] rfl rfl rfl rfl rfl rfl rfl rfl rfl rfl ?_
    refine atm_next (still_l (by kernel_rfl)) ?_
    refine atm_end (by kernel_rfl) ?_
    refine at_to [] [0, 0, 1] [F, [(b_u, Obj.cells #[(.int .i64 u.W), (.int .i64 u.H), (.int .i64 u.U.Most), (.int .i64 u.U.Next), (.slice a5 (List.length ((([] : List api_Unit) ++ (sub' u.U.L 0 v1)) ++ (sub' u.U.L (w64 (v1 + 1)) (List.length u.U.L : Int)))) n5)] 68 (0, 0))], H5] trivial rfl ?_
    refine at_then ?_
    refine at_seq ?_
    refine at_region [0] rfl ?_
    refine at_s T rfl ?_
    refine at_end ?_
    refine at_sub [(4, (.bool true))] ⟨rfl, trivial⟩ ?_
    refine at_then ?_
    refine at_ret ?_
    obtain rfl := Option.some.inj H
    exact at_post (T := T) rfl (.tmp rfl .nil) (fun w o => ⟨⟨(_, _), ⟨a5, n5, H5, s5, rfl, rfl⟩⟩, rfl, own_to [1, 1, 0] rfl o⟩)

/-! ### (*herdsman/herdsmanref21.Units).Set: function 68 -/
def ref21_Units_Set.f (u : herdsmanref21_Crowd) (x : api_Unit) : Option (Bool × herdsmanref21_Crowd) := (ref21_Units_at.f u x.Id).bind fun v1 => if v1 < 0 then (some (false, u)) else (if (List.length ([] : List api_Unit) + List.length u.U.L ≤ 1099511627776) then (if (0 ≤ v1 ∧ v1 < (List.length (([] : List api_Unit) ++ u.U.L) : Int)) then (some (true, (herdsmanref21_Crowd.mk u.W u.H (herdsmanref21_Units.mk u.U.Most u.U.Next (List.set (([] : List api_Unit) ++ u.U.L) (Int.toNat v1) x))))) else none) else none)
def ref21_Units_Set.R (b_u : Nat) (r : (Bool × herdsmanref21_Crowd)) (u : Value) (G : List Hp) : Prop := ∃ (a0 : Option Addr) (n0 : Nat) (H0 : Hp), SliceO k_api_Unit 40 r.2.U.L a0 n0 H0 ∧ u = (.bool r.1) ∧ G = [[(b_u, Obj.cells #[(.int .i64 r.2.W), (.int .i64 r.2.H), (.int .i64 r.2.U.Most), (.int .i64 r.2.U.Next), (.slice a0 (List.length r.2.U.L) n0)] 68 (0, 0))], H0]
set_option maxHeartbeats 4000000 in
theorem ref21_Units_Set.c {b_u : Nat} {a_u_U_L : Option Addr} {n_u_U_L : Nat} {H_u_U_L : Hp} (u : herdsmanref21_Crowd) (x : api_Unit) (r : (Bool × herdsmanref21_Crowd)) (F : Hp) (H : ref21_Units_Set.f u x = some r) (s_u_U_L : SliceO k_api_Unit 40 u.U.L a_u_U_L n_u_U_L H_u_U_L) :
    CallsL Try.prog 68 [(.pointer (some ⟨b_u, 2, none⟩)), (.agg #[(.int .i64 x.Id), (.int .i64 x.Cell), (.int .i64 x.Goal)])] [[(b_u, Obj.cells #[(.int .i64 u.W), (.int .i64 u.H), (.int .i64 u.U.Most), (.int .i64 u.U.Next), (.slice a_u_U_L (List.length u.U.L) n_u_U_L)] 68 (0, 0))], H_u_U_L, F] (fun p : { p : Value × List Hp // ref21_Units_Set.R b_u r p.1 p.2 } => p.1.1) (fun p => (p.1.2 ++ []) ++ [F]) := by
  unfold ref21_Units_Set.f at H
  refine calls_atL [(0, (.pointer (some ⟨b_u, 2, none⟩))), (1, (.agg #[(.int .i64 x.Id), (.int .i64 x.Cell), (.int .i64 x.Goal)]))] Try.func68 rfl rfl ⟨rfl, rfl, trivial⟩ (fun W => ?_)
  refine at_seq ?_
  refine at_region [0, 1] rfl ?_
  refine at_cons (at_bx T [(.int .i64 x.Id), (.int .i64 x.Cell), (.int .i64 x.Goal)] rfl rfl rfl rfl (fun b3 => ?_))
  refine at_s T rfl ?_
  refine at_end ?_
  refine at_sub [(0, (.pointer (some ⟨b_u, 2, none⟩))), (3, (.pointer (some ⟨b3, 0, none⟩)))] ⟨rfl, rfl, trivial⟩ ?_
  refine at_then ?_
  refine at_seq ?_
  refine at_region [0, 1, 2, 3, 4] rfl ?_
  iterate 2 refine at_s T rfl ?_
  refine at_v rfl (g_load T rfl rfl rfl rfl (in_var (j := 3) rfl rfl)) ?_
  obtain ⟨v1, V1, H⟩ := bind_e H
  refine at_cons (at_c (As := [[(b_u, Obj.cells #[(.int .i64 u.W), (.int .i64 u.H), (.int .i64 u.U.Most), (.int .i64 u.U.Next), (.slice a_u_U_L (List.length u.U.L) n_u_U_L)] 68 (0, 0))], H_u_U_L]) (R := [F, [(b3, Obj.cells #[(.int .i64 x.Id), (.int .i64 x.Cell), (.int .i64 x.Goal)] 40 (0, 0))]]) (B := fun _ => [[(b_u, Obj.cells #[(.int .i64 u.W), (.int .i64 u.H), (.int .i64 u.U.Most), (.int .i64 u.U.Next), (.slice a_u_U_L (List.length u.U.L) n_u_U_L)] 68 (0, 0))], H_u_U_L]) [0, 0] rfl rfl rfl rfl has83 rfl rfl (ref21_Units_at.c u x.Id v1 _ V1 s_u_U_L) (fun _ => ?_))
  refine at_s T rfl ?_
  refine at_end ?_
  refine at_sub [(0, (.pointer (some ⟨b_u, 2, none⟩))), (3, (.pointer (some ⟨b3, 0, none⟩))), (5, (.int .i64 v1))] ⟨rfl, rfl, rfl, trivial⟩ ?_
  refine at_then ?_
  refine at_seq ?_
  refine at_seq ?_
  refine at_region [0, 1] rfl ?_
  iterate 2 refine at_s T rfl ?_
  refine at_end ?_
  refine at_sub [(0, (.pointer (some ⟨b_u, 2, none⟩))), (3, (.pointer (some ⟨b3, 0, none⟩))), (5, (.int .i64 v1)), (11, (.bool (decide (v1 < 0))))] ⟨rfl, rfl, rfl, rfl, trivial⟩ ?_
  refine at_then ?_
  refine at_cond rfl (fun c2 => ?_) (fun c2 => ?_)
  · replace H := if_t (of_decide_eq_true c2) H
    refine at_seq ?_
    refine at_region [0] rfl ?_
    refine at_s T rfl ?_
    refine at_end ?_
    refine at_to [(4, (.bool false))] [0, 1, 1] [F, [(b_u, Obj.cells #[(.int .i64 u.W), (.int .i64 u.H), (.int .i64 u.U.Most), (.int .i64 u.U.Next), (.slice a_u_U_L (List.length u.U.L) n_u_U_L)] 68 (0, 0))], H_u_U_L] ⟨rfl, trivial⟩ rfl ?_
    refine at_then ?_
    refine at_ret ?_
    refine at_rt ?_
    obtain rfl := Option.some.inj H
    exact at_post (T := T) rfl (.tmp rfl .nil) (fun w o => ⟨⟨(_, _), ⟨a_u_U_L, n_u_U_L, H_u_U_L, s_u_U_L, rfl, rfl⟩⟩, rfl, own_to [1, 1, 0] rfl o⟩)
  · replace H := if_f (of_decide_eq_false c2) H
    refine at_skip ?_
    refine at_then ?_
    refine at_seq ?_
    refine at_region [0, 1, 2, 3, 4, 5, 6, 7, 8, 9] rfl ?_
    refine at_s T rfl ?_
    refine at_cons (at_bs (k := k_api_Unit) T ([] : List api_Unit) rfl rfl rfl rfl rfl rfl rfl rfl rfl (fun a4 H4 s4 => ?_))
    iterate 3 refine at_s T rfl ?_
    refine at_v rfl (g_load T rfl rfl rfl rfl (in_var (j := 2) rfl rfl)) ?_
    obtain ⟨c3, H⟩ := chk_e H
    refine at_cons (at_ap (k := k_api_Unit) (xs := ([] : List api_Unit)) T (g := 4) rfl rfl rfl rfl rfl rfl rfl rfl rfl rfl s4 (own_of s_u_U_L (j := 3) rfl) c3 rfl (fun a5 n5 H5 s5 => ?_))
    iterate 2 refine at_s T rfl ?_
    refine at_cons (at_st T 2 [(.int .i64 u.W), (.int .i64 u.H), (.int .i64 u.U.Most), (.int .i64 u.U.Next), (.slice a5 (List.length (([] : List api_Unit) ++ u.U.L)) n5)] rfl rfl rfl rfl rfl rfl rfl rfl rfl rfl ?_)
    refine at_end ?_
    refine at_to [(0, (.pointer (some ⟨b_u, 2, none⟩))), (3, (.pointer (some ⟨b3, 0, none⟩))), (5, (.int .i64 v1))] [0, 0, 0, 1] [F, [(b3, Obj.cells #[(.int .i64 x.Id), (.int .i64 x.Cell), (.int .i64 x.Goal)] 40 (0, 0))], [(b_u, Obj.cells #[(.int .i64 u.W), (.int .i64 u.H), (.int .i64 u.U.Most), (.int .i64 u.U.Next), (.slice a5 (List.length (([] : List api_Unit) ++ u.U.L)) n5)] 68 (0, 0))], H5] ⟨rfl, rfl, rfl, trivial⟩ rfl ?_
    refine at_then ?_
    refine at_seq ?_
    refine at_region_m [[], [0], [0, 1], [0, 1, 2], [], [], [0, 1, 2, 3, 4, 5], [0, 1, 2, 3, 4, 5, 6]] [7] [F, [(b3, Obj.cells #[(.int .i64 x.Id), (.int .i64 x.Cell), (.int .i64 x.Goal)] 40 (0, 0))], [(b_u, Obj.cells #[(.int .i64 u.W), (.int .i64 u.H), (.int .i64 u.U.Most), (.int .i64 u.U.Next), (.slice a5 (List.length (([] : List api_Unit) ++ u.U.L)) n5)] 68 (0, 0))], H5] mix (by kernel_rfl) (by repeat first | exact pf_body | refine pf_then ?_ | refine pf_block ?_) (fun hg pf => ?_)
    refine atm_s T 0 hg pf (by kernel_rfl) (still_o [0, 0, 0, 0] rfl) rfl ?_
    refine atm_s T 1 hg pf (by kernel_rfl) (still_o [0, 0, 0, 0] rfl) rfl ?_
    refine atm_s T 2 hg pf (by kernel_rfl) (still_o [0, 0, 0, 0] rfl) rfl ?_
    refine atm_v 3 hg pf (by kernel_rfl) (still_o [0, 0, 0, 0] rfl) rfl rfl (g_load T rfl rfl rfl rfl (in_var (j := 2) rfl rfl)) ?_
    refine atm_s T 4 hg pf (by kernel_rfl) (still_o [0, 0, 0, 0] rfl) rfl ?_
    refine atm_v 5 hg pf (by kernel_rfl) (still_o [0, 0, 0, 0] rfl) rfl rfl (g_loadA T (cs := [(.int .i64 x.Id), (.int .i64 x.Cell), (.int .i64 x.Goal)]) rfl rfl rfl rfl rfl rfl (in_varA (j := 1) rfl rfl)) ?_
    obtain ⟨c4, H⟩ := chk_e H
    obtain ⟨q6, o6, e6⟩ := s5.r.addr c4.1 c4.2
    refine atm_v 6 hg pf (by kernel_rfl) (still_o [0, 0, 0, 0] rfl) rfl rfl (g_index T rfl rfl rfl rfl rfl e6 c4.1 c4.2) ?_
    refine atm_one 7 (by kernel_rfl) ?_
    refine at_se (k := k_api_Unit) T 3 0 x rfl rfl rfl rfl rfl rfl s5 e6 c4 rfl rfl rfl (fun H7 s7 => ?_)
    refine at_to [(0, (.pointer (some ⟨b_u, 2, none⟩))), (3, (.pointer (some ⟨b3, 0, none⟩))), (5, (.int .i64 v1)), (21, (.pointer (some ⟨b_u, 2, none⟩))), (22, (.pointer (some ⟨b_u, 2, none⟩))), (23, (.pointer (some ⟨b_u, 4, none⟩))), (24, (.slice a5 (List.length (List.set (([] : List api_Unit) ++ u.U.L) (Int.toNat v1) x)) n5)), (25, (.int .i64 v1)), (26, (.agg #[(.int .i64 x.Id), (.int .i64 x.Cell), (.int .i64 x.Goal)])), (27, (.pointer (some ⟨q6, o6 + Int.toNat v1 * 3, none⟩)))] [0, 0, 0, 0] [F, [(b3, Obj.cells #[(.int .i64 x.Id), (.int .i64 x.Cell), (.int .i64 x.Goal)] 40 (0, 0))], [(b_u, Obj.cells #[(.int .i64 u.W), (.int .i64 u.H), (.int .i64 u.U.Most), (.int .i64 u.U.Next), (.slice a5 (List.length (List.set (([] : List api_Unit) ++ u.U.L) (Int.toNat v1) x)) n5)] 68 (0, 0))], H7] ⟨rfl, rfl, rfl, rfl, rfl, rfl, (by first | rfl | (simp only [List.length_set]; rfl)), rfl, rfl, rfl, trivial⟩ (by first | rfl | (simp only [List.length_set]; rfl)) ?_
    refine atm_next (still_l (by kernel_rfl)) ?_
    refine atm_end (by kernel_rfl) ?_
    refine at_to [] [0, 1, 1] [F, [(b_u, Obj.cells #[(.int .i64 u.W), (.int .i64 u.H), (.int .i64 u.U.Most), (.int .i64 u.U.Next), (.slice a5 (List.length (List.set (([] : List api_Unit) ++ u.U.L) (Int.toNat v1) x)) n5)] 68 (0, 0))], H7] trivial rfl ?_
    refine at_then ?_
    refine at_seq ?_
    refine at_region [0] rfl ?_
    refine at_s T rfl ?_
    refine at_end ?_
    refine at_sub [(4, (.bool true))] ⟨rfl, trivial⟩ ?_
    refine at_then ?_
    refine at_ret ?_
    obtain rfl := Option.some.inj H
    exact at_post (T := T) rfl (.tmp rfl .nil) (fun w o => ⟨⟨(_, _), ⟨a5, n5, H7, s7, rfl, rfl⟩⟩, rfl, own_to [1, 1, 0] rfl o⟩)

/-! ### (*herdsman/herdsmanref21.Crowd).Retarget: function 35 -/
def ref21_Crowd_Retarget.f (c : herdsmanref21_Crowd) (id : Int) (goal : Int) : Option (Int × herdsmanref21_Crowd) := (ref21_Units_Get.f c id).bind fun v1 => if (!v1.2) = true then (some (12, c)) else ((ref1_IsCell.f c.W c.H goal).bind fun v2 => if (!v2) = true then (some (7, c)) else (if (v1.1.Cell == goal) = true then ((ref21_Units_Drop.f c id).bind fun v3 => some (13, v3.2)) else ((ref21_Units_Set.f c (api_Unit.mk v1.1.Id v1.1.Cell goal)).bind fun v4 => some (0, v4.2))))
def ref21_Crowd_Retarget.R (b_c : Nat) (r : (Int × herdsmanref21_Crowd)) (u : Value) (G : List Hp) : Prop := ∃ (a0 : Option Addr) (n0 : Nat) (H0 : Hp), SliceO k_api_Unit 40 r.2.U.L a0 n0 H0 ∧ u = (.int .i64 r.1) ∧ G = [[(b_c, Obj.cells #[(.int .i64 r.2.W), (.int .i64 r.2.H), (.int .i64 r.2.U.Most), (.int .i64 r.2.U.Next), (.slice a0 (List.length r.2.U.L) n0)] 68 (0, 0))], H0]
set_option maxHeartbeats 4000000 in
theorem ref21_Crowd_Retarget.c {b_c : Nat} {a_c_U_L : Option Addr} {n_c_U_L : Nat} {H_c_U_L : Hp} (c : herdsmanref21_Crowd) (id : Int) (goal : Int) (r : (Int × herdsmanref21_Crowd)) (F : Hp) (H : ref21_Crowd_Retarget.f c id goal = some r) (s_c_U_L : SliceO k_api_Unit 40 c.U.L a_c_U_L n_c_U_L H_c_U_L) :
    CallsL Try.prog 35 [(.pointer (some ⟨b_c, 0, none⟩)), (.int .i64 id), (.int .i64 goal)] [[(b_c, Obj.cells #[(.int .i64 c.W), (.int .i64 c.H), (.int .i64 c.U.Most), (.int .i64 c.U.Next), (.slice a_c_U_L (List.length c.U.L) n_c_U_L)] 68 (0, 0))], H_c_U_L, F] (fun p : { p : Value × List Hp // ref21_Crowd_Retarget.R b_c r p.1 p.2 } => p.1.1) (fun p => (p.1.2 ++ []) ++ [F]) := by
  unfold ref21_Crowd_Retarget.f at H
  refine calls_atL [(0, (.pointer (some ⟨b_c, 0, none⟩))), (1, (.int .i64 id)), (2, (.int .i64 goal))] Try.func35 rfl rfl ⟨rfl, rfl, rfl, trivial⟩ (fun W => ?_)
  refine at_seq ?_
  refine at_region [0] rfl ?_
  refine at_s T rfl ?_
  refine at_end ?_
  refine at_sub [(0, (.pointer (some ⟨b_c, 0, none⟩))), (1, (.int .i64 id)), (2, (.int .i64 goal))] ⟨rfl, rfl, rfl, trivial⟩ ?_
  refine at_then ?_
  refine at_seq ?_
  refine at_region [0, 1, 2, 3, 4, 5, 6, 7, 8, 9, 10] rfl ?_
  iterate 4 refine at_s T rfl ?_
  obtain ⟨v1, V1, H⟩ := bind_e H
  refine at_cons (at_c (As := [[(b_c, Obj.cells #[(.int .i64 c.W), (.int .i64 c.H), (.int .i64 c.U.Most), (.int .i64 c.U.Next), (.slice a_c_U_L (List.length c.U.L) n_c_U_L)] 68 (0, 0))], H_c_U_L]) (R := [F]) (B := fun _ => [[(b_c, Obj.cells #[(.int .i64 c.W), (.int .i64 c.H), (.int .i64 c.U.Most), (.int .i64 c.U.Next), (.slice a_c_U_L (List.length c.U.L) n_c_U_L)] 68 (0, 0))], H_c_U_L]) [0, 0] rfl rfl rfl rfl has66 rfl rfl (ref21_Units_Get.c c id v1 _ V1 s_c_U_L) (fun _ => ?_))
  iterate 3 refine at_s T rfl ?_
  refine at_cons (at_al T [(.int .i64 0), (.int .i64 0), (.int .i64 0)] rfl rfl rfl rfl (fun b3 => ?_))
  refine at_cons (at_st T 3 [(.int .i64 v1.1.Id), (.int .i64 v1.1.Cell), (.int .i64 v1.1.Goal)] rfl rfl rfl rfl rfl rfl rfl rfl rfl rfl ?_)
  refine at_s T rfl ?_
  refine at_end ?_
  refine at_sub [(0, (.pointer (some ⟨b_c, 0, none⟩))), (1, (.int .i64 id)), (2, (.int .i64 goal)), (7, (.pointer (some ⟨b3, 0, none⟩))), (8, (.bool v1.2))] ⟨rfl, rfl, rfl, rfl, rfl, trivial⟩ ?_
  refine at_then ?_
  refine at_seq ?_
  refine at_seq ?_
  refine at_region [0, 1] rfl ?_
  iterate 2 refine at_s T rfl ?_
  refine at_end ?_
  refine at_sub [(0, (.pointer (some ⟨b_c, 0, none⟩))), (1, (.int .i64 id)), (2, (.int .i64 goal)), (7, (.pointer (some ⟨b3, 0, none⟩))), (18, (.bool (!v1.2)))] ⟨rfl, rfl, rfl, rfl, rfl, trivial⟩ ?_
  refine at_then ?_
  refine at_cond rfl (fun c2 => ?_) (fun c2 => ?_)
  · replace H := if_t c2 H
    refine at_seq ?_
    refine at_region [0] rfl ?_
    refine at_s T rfl ?_
    refine at_end ?_
    refine at_to [(6, (.int .i64 12))] [0, 0, 0] [F, [(b_c, Obj.cells #[(.int .i64 c.W), (.int .i64 c.H), (.int .i64 c.U.Most), (.int .i64 c.U.Next), (.slice a_c_U_L (List.length c.U.L) n_c_U_L)] 68 (0, 0))], H_c_U_L] ⟨rfl, trivial⟩ rfl ?_
    refine at_then ?_
    refine at_ret ?_
    refine at_rt ?_
    obtain rfl := Option.some.inj H
    exact at_post (T := T) rfl (.tmp rfl .nil) (fun w o => ⟨⟨(_, _), ⟨a_c_U_L, n_c_U_L, H_c_U_L, s_c_U_L, rfl, rfl⟩⟩, rfl, own_to [1, 1, 0] rfl o⟩)
  · replace H := if_f (bf c2) H
    refine at_skip ?_
    refine at_then ?_
    refine at_seq ?_
    refine at_seq ?_
    refine at_region_q mix (by kernel_rfl) ?_
    iterate 3 refine atq_s T rfl ?_
    refine atq_v rfl rfl rfl (g_load T rfl rfl rfl rfl (in_var (j := 1) rfl rfl)) ?_
    iterate 3 refine atq_s T rfl ?_
    refine atq_v rfl rfl rfl (g_load T rfl rfl rfl rfl (in_var (j := 1) rfl rfl)) ?_
    refine atq_s T rfl ?_
    obtain ⟨v2, V3, H⟩ := bind_e H
    refine atq_c rfl rfl rfl rfl rfl rfl has48 rfl (ref1_IsCell.c c.W c.H goal v2 _ V3) ?_
    refine atq_s T rfl ?_
    refine atq_end ?_
    refine at_sub [(0, (.pointer (some ⟨b_c, 0, none⟩))), (1, (.int .i64 id)), (2, (.int .i64 goal)), (7, (.pointer (some ⟨b3, 0, none⟩))), (29, (.bool (!v2)))] ⟨rfl, rfl, rfl, rfl, rfl, trivial⟩ ?_
    refine at_then ?_
    refine at_cond rfl (fun c4 => ?_) (fun c4 => ?_)
    · replace H := if_t c4 H
      refine at_seq ?_
      refine at_region [0] rfl ?_
      refine at_s T rfl ?_
      refine at_end ?_
      refine at_to [(6, (.int .i64 7))] [0, 0, 0] [F, [(b_c, Obj.cells #[(.int .i64 c.W), (.int .i64 c.H), (.int .i64 c.U.Most), (.int .i64 c.U.Next), (.slice a_c_U_L (List.length c.U.L) n_c_U_L)] 68 (0, 0))], H_c_U_L] ⟨rfl, trivial⟩ rfl ?_
      refine at_then ?_
      refine at_ret ?_
      refine at_rt ?_
      obtain rfl := Option.some.inj H
      exact at_post (T := T) rfl (.tmp rfl .nil) (fun w o => ⟨⟨(_, _), ⟨a_c_U_L, n_c_U_L, H_c_U_L, s_c_U_L, rfl, rfl⟩⟩, rfl, own_to [1, 1, 0] rfl o⟩)
    · replace H := if_f (bf c4) H
      refine at_skip ?_
      refine at_then ?_
      refine at_seq ?_
      refine at_seq ?_
      refine at_region [0, 1, 2, 3] rfl ?_
      refine at_s T rfl ?_
      refine at_v rfl (g_load T rfl rfl rfl rfl (in_var (j := 3) rfl rfl)) ?_
      iterate 2 refine at_s T rfl ?_
      refine at_end ?_
      refine at_sub [(0, (.pointer (some ⟨b_c, 0, none⟩))), (1, (.int .i64 id)), (2, (.int .i64 goal)), (7, (.pointer (some ⟨b3, 0, none⟩))), (33, (.bool (v1.1.Cell == goal)))] ⟨rfl, rfl, rfl, rfl, rfl, trivial⟩ ?_
      refine at_then ?_
      refine at_cond rfl (fun c5 => ?_) (fun c5 => ?_)
      · replace H := if_t c5 H
        refine at_seq ?_
        refine at_region [0, 1, 2, 3, 4] rfl ?_
        iterate 4 refine at_s T rfl ?_
        obtain ⟨v3, V6, H⟩ := bind_e H
        refine at_cons (at_cR (As := [[(b_c, Obj.cells #[(.int .i64 c.W), (.int .i64 c.H), (.int .i64 c.U.Most), (.int .i64 c.U.Next), (.slice a_c_U_L (List.length c.U.L) n_c_U_L)] 68 (0, 0))], H_c_U_L]) (R := [F, [(b3, Obj.cells #[(.int .i64 v1.1.Id), (.int .i64 v1.1.Cell), (.int .i64 v1.1.Goal)] 40 (0, 0))]]) (ref21_Units_Drop.R b_c v3) [] [1, 1] rfl rfl rfl rfl has67 rfl rfl (ref21_Units_Drop.c c id v3 _ V6 s_c_U_L) ?_)
        rintro _ _ ⟨a4, n4, H4, s4, rfl, rfl⟩
        refine at_end ?_
        refine at_to [] [0, 1, 1] [F, [(b_c, Obj.cells #[(.int .i64 v3.2.W), (.int .i64 v3.2.H), (.int .i64 v3.2.U.Most), (.int .i64 v3.2.U.Next), (.slice a4 (List.length v3.2.U.L) n4)] 68 (0, 0))], H4] trivial rfl ?_
        refine at_then ?_
        refine at_seq ?_
        refine at_region [0] rfl ?_
        refine at_s T rfl ?_
        refine at_end ?_
        refine at_sub [(6, (.int .i64 13))] ⟨rfl, trivial⟩ ?_
        refine at_then ?_
        refine at_ret ?_
        refine at_rt ?_
        obtain rfl := Option.some.inj H
        exact at_post (T := T) rfl (.tmp rfl .nil) (fun w o => ⟨⟨(_, _), ⟨a4, n4, H4, s4, rfl, rfl⟩⟩, rfl, own_to [1, 1, 0] rfl o⟩)
      · replace H := if_f (bf c5) H
        refine at_skip ?_
        refine at_then ?_
        refine at_seq ?_
        refine at_region [0, 1, 2] rfl ?_
        iterate 2 refine at_s T rfl ?_
        refine at_cons (at_st T 3 [(.int .i64 v1.1.Id), (.int .i64 v1.1.Cell), (.int .i64 goal)] rfl rfl rfl rfl rfl rfl rfl rfl rfl rfl ?_)
        refine at_end ?_
        refine at_sub [(0, (.pointer (some ⟨b_c, 0, none⟩))), (7, (.pointer (some ⟨b3, 0, none⟩)))] ⟨rfl, rfl, trivial⟩ ?_
        refine at_then ?_
        refine at_seq ?_
        refine at_region_m [[], [0], [0, 1], [], [0, 1, 2, 3]] [4] [F, [(b_c, Obj.cells #[(.int .i64 c.W), (.int .i64 c.H), (.int .i64 c.U.Most), (.int .i64 c.U.Next), (.slice a_c_U_L (List.length c.U.L) n_c_U_L)] 68 (0, 0))], H_c_U_L, [(b3, Obj.cells #[(.int .i64 v1.1.Id), (.int .i64 v1.1.Cell), (.int .i64 goal)] 40 (0, 0))]] mix (by kernel_rfl) (by repeat first | exact pf_body | refine pf_then ?_ | refine pf_block ?_) (fun hg pf => ?_)
        refine atm_s T 0 hg pf (by kernel_rfl) (still_o [0, 0, 0, 0] rfl) rfl ?_
        refine atm_s T 1 hg pf (by kernel_rfl) (still_o [0, 0, 0, 0] rfl) rfl ?_
        refine atm_s T 2 hg pf (by kernel_rfl) (still_o [0, 0, 0, 0] rfl) rfl ?_
        refine atm_v 3 hg pf (by kernel_rfl) (still_o [0, 0, 0, 0] rfl) rfl rfl (g_loadA T (cs := [(.int .i64 v1.1.Id), (.int .i64 v1.1.Cell), (.int .i64 goal)]) rfl rfl rfl rfl rfl rfl (in_varA (j := 3) rfl rfl)) ?_
        refine atm_one 4 (by kernel_rfl) ?_
        obtain ⟨v4, V7, H⟩ := bind_e H
        refine at_cR (As := [[(b_c, Obj.cells #[(.int .i64 c.W), (.int .i64 c.H), (.int .i64 c.U.Most), (.int .i64 c.U.Next), (.slice a_c_U_L (List.length c.U.L) n_c_U_L)] 68 (0, 0))], H_c_U_L]) (R := [F, [(b3, Obj.cells #[(.int .i64 v1.1.Id), (.int .i64 v1.1.Cell), (.int .i64 goal)] 40 (0, 0))]]) (ref21_Units_Set.R b_c v4) [] [1, 1] rfl rfl rfl rfl has68 rfl rfl (ref21_Units_Set.c c (api_Unit.mk v1.1.Id v1.1.Cell goal) v4 _ V7 s_c_U_L) ?_
        rintro _ _ ⟨a5, n5, H5, s5, rfl, rfl⟩
        refine atm_next (still_l (by kernel_rfl)) ?_
        refine atm_end (by kernel_rfl) ?_
        refine at_to [] [0, 1, 1] [F, [(b_c, Obj.cells #[(.int .i64 v4.2.W), (.int .i64 v4.2.H), (.int .i64 v4.2.U.Most), (.int .i64 v4.2.U.Next), (.slice a5 (List.length v4.2.U.L) n5)] 68 (0, 0))], H5] trivial rfl ?_
        refine at_then ?_
        refine at_seq ?_
        refine at_region [0] rfl ?_
        refine at_s T rfl ?_
        refine at_end ?_
        refine at_sub [(6, (.int .i64 0))] ⟨rfl, trivial⟩ ?_
        refine at_then ?_
        refine at_ret ?_
        obtain rfl := Option.some.inj H
        exact at_post (T := T) rfl (.tmp rfl .nil) (fun w o => ⟨⟨(_, _), ⟨a5, n5, H5, s5, rfl, rfl⟩⟩, rfl, own_to [1, 1, 0] rfl o⟩)

/-! ### (*herdsman/herdsmanref21.Crowd).Despawn: function 36 -/
def ref21_Crowd_Despawn.f (c : herdsmanref21_Crowd) (id : Int) : Option (Int × herdsmanref21_Crowd) := (ref21_Units_Drop.f c id).bind fun v1 => if (!v1.1) = true then (some (12, v1.2)) else (some (0, v1.2))
def ref21_Crowd_Despawn.R (b_c : Nat) (r : (Int × herdsmanref21_Crowd)) (u : Value) (G : List Hp) : Prop := ∃ (a0 : Option Addr) (n0 : Nat) (H0 : Hp), SliceO k_api_Unit 40 r.2.U.L a0 n0 H0 ∧ u = (.int .i64 r.1) ∧ G = [[(b_c, Obj.cells #[(.int .i64 r.2.W), (.int .i64 r.2.H), (.int .i64 r.2.U.Most), (.int .i64 r.2.U.Next), (.slice a0 (List.length r.2.U.L) n0)] 68 (0, 0))], H0]
set_option maxHeartbeats 4000000 in
theorem ref21_Crowd_Despawn.c {b_c : Nat} {a_c_U_L : Option Addr} {n_c_U_L : Nat} {H_c_U_L : Hp} (c : herdsmanref21_Crowd) (id : Int) (r : (Int × herdsmanref21_Crowd)) (F : Hp) (H : ref21_Crowd_Despawn.f c id = some r) (s_c_U_L : SliceO k_api_Unit 40 c.U.L a_c_U_L n_c_U_L H_c_U_L) :
    CallsL Try.prog 36 [(.pointer (some ⟨b_c, 0, none⟩)), (.int .i64 id)] [[(b_c, Obj.cells #[(.int .i64 c.W), (.int .i64 c.H), (.int .i64 c.U.Most), (.int .i64 c.U.Next), (.slice a_c_U_L (List.length c.U.L) n_c_U_L)] 68 (0, 0))], H_c_U_L, F] (fun p : { p : Value × List Hp // ref21_Crowd_Despawn.R b_c r p.1 p.2 } => p.1.1) (fun p => (p.1.2 ++ []) ++ [F]) := by
  unfold ref21_Crowd_Despawn.f at H
  refine calls_atL [(0, (.pointer (some ⟨b_c, 0, none⟩))), (1, (.int .i64 id))] Try.func36 rfl rfl ⟨rfl, rfl, trivial⟩ (fun W => ?_)
  refine at_seq ?_
  refine at_region [0] rfl ?_
  refine at_s T rfl ?_
  refine at_end ?_
  refine at_sub [(0, (.pointer (some ⟨b_c, 0, none⟩))), (1, (.int .i64 id))] ⟨rfl, rfl, trivial⟩ ?_
  refine at_then ?_
  refine at_seq ?_
  refine at_seq ?_
  refine at_region [0, 1, 2, 3, 4, 5] rfl ?_
  iterate 4 refine at_s T rfl ?_
  obtain ⟨v1, V1, H⟩ := bind_e H
  refine at_cons (at_cR (As := [[(b_c, Obj.cells #[(.int .i64 c.W), (.int .i64 c.H), (.int .i64 c.U.Most), (.int .i64 c.U.Next), (.slice a_c_U_L (List.length c.U.L) n_c_U_L)] 68 (0, 0))], H_c_U_L]) (R := [F]) (ref21_Units_Drop.R b_c v1) [] [0, 0] rfl rfl rfl rfl has67 rfl rfl (ref21_Units_Drop.c c id v1 _ V1 s_c_U_L) ?_)
  rintro _ _ ⟨a3, n3, H3, s3, rfl, rfl⟩
  refine at_s T rfl ?_
  refine at_end ?_
  refine at_sub [(10, (.bool (!v1.1)))] ⟨rfl, trivial⟩ ?_
  refine at_then ?_
  refine at_cond rfl (fun c2 => ?_) (fun c2 => ?_)
  · replace H := if_t c2 H
    refine at_seq ?_
    refine at_region [0] rfl ?_
    refine at_s T rfl ?_
    refine at_end ?_
    refine at_sub [(4, (.int .i64 12))] ⟨rfl, trivial⟩ ?_
    refine at_then ?_
    refine at_ret ?_
    refine at_rt ?_
    obtain rfl := Option.some.inj H
    exact at_post (T := T) rfl (.tmp rfl .nil) (fun w o => ⟨⟨(_, _), ⟨a3, n3, H3, s3, rfl, rfl⟩⟩, rfl, own_to [1, 1, 0] rfl o⟩)
  · replace H := if_f (bf c2) H
    refine at_skip ?_
    refine at_then ?_
    refine at_seq ?_
    refine at_region [0] rfl ?_
    refine at_s T rfl ?_
    refine at_end ?_
    refine at_sub [(4, (.int .i64 0))] ⟨rfl, trivial⟩ ?_
    refine at_then ?_
    refine at_ret ?_
    obtain rfl := Option.some.inj H
    exact at_post (T := T) rfl (.tmp rfl .nil) (fun w o => ⟨⟨(_, _), ⟨a3, n3, H3, s3, rfl, rfl⟩⟩, rfl, own_to [1, 1, 0] rfl o⟩)

/-! ### (*herdsman/herdsmanref21.Crowd).Tick: function 37 -/
def ref21_Crowd_Tick.f (c : herdsmanref21_Crowd) (dirs : (List Int)) : Option ((List api_Move) × (List Int) × Int × herdsmanref21_Crowd) := (ref21_Dirs.f dirs (List.length c.U.L : Int)).bind fun v1 => if (!v1) = true then (some ([], [], 1, c)) else ((ref21_Go.f c.W c.H c.U.L dirs).bind fun v2 => some (v2.2.1, v2.2.2, 0, (herdsmanref21_Crowd.mk c.W c.H (herdsmanref21_Units.mk c.U.Most c.U.Next v2.1))))
def ref21_Crowd_Tick.R (b_c : Nat) (r : ((List api_Move) × (List Int) × Int × herdsmanref21_Crowd)) (u : Value) (G : List Hp) : Prop := ∃ (a0 : Option Addr) (n0 : Nat) (H0 : Hp) (a1 : Option Addr) (n1 : Nat) (H1 : Hp) (a2 : Option Addr) (n2 : Nat) (H2 : Hp), SliceO k_api_Move 42 r.1 a0 n0 H0 ∧ SliceO (Fl.int .i64) 3 r.2.1 a1 n1 H1 ∧ SliceO k_api_Unit 40 r.2.2.2.U.L a2 n2 H2 ∧ u = (.tuple #[(.slice a0 (List.length r.1) n0), (.slice a1 (List.length r.2.1) n1), (.int .i64 r.2.2.1)]) ∧ G = [H0, H1, [(b_c, Obj.cells #[(.int .i64 r.2.2.2.W), (.int .i64 r.2.2.2.H), (.int .i64 r.2.2.2.U.Most), (.int .i64 r.2.2.2.U.Next), (.slice a2 (List.length r.2.2.2.U.L) n2)] 68 (0, 0))], H2]
set_option maxHeartbeats 4000000 in
theorem ref21_Crowd_Tick.c {b_c : Nat} {a_c_U_L : Option Addr} {n_c_U_L : Nat} {H_c_U_L : Hp} {a_dirs : Option Addr} {n_dirs : Nat} (c : herdsmanref21_Crowd) (dirs : (List Int)) (r : ((List api_Move) × (List Int) × Int × herdsmanref21_Crowd)) (F : Hp) (H : ref21_Crowd_Tick.f c dirs = some r) (s_c_U_L : SliceO k_api_Unit 40 c.U.L a_c_U_L n_c_U_L H_c_U_L) (h_dirs : SliceR (Fl.int .i64) dirs a_dirs F) (c_dirs : List.length dirs ≤ n_dirs) :
    CallsL Try.prog 37 [(.pointer (some ⟨b_c, 0, none⟩)), (.slice a_dirs (List.length dirs) n_dirs)] [[(b_c, Obj.cells #[(.int .i64 c.W), (.int .i64 c.H), (.int .i64 c.U.Most), (.int .i64 c.U.Next), (.slice a_c_U_L (List.length c.U.L) n_c_U_L)] 68 (0, 0))], H_c_U_L, F] (fun p : { p : Value × List Hp // ref21_Crowd_Tick.R b_c r p.1 p.2 } => p.1.1) (fun p => (p.1.2 ++ []) ++ [F]) := by
  unfold ref21_Crowd_Tick.f at H
  refine calls_atL [(0, (.pointer (some ⟨b_c, 0, none⟩))), (1, (.slice a_dirs (List.length dirs) n_dirs))] Try.func37 rfl rfl ⟨rfl, rfl, trivial⟩ (fun W => ?_)
  refine at_seq ?_
  refine at_region [0, 1, 2] rfl ?_
  iterate 3 refine at_s T rfl ?_
  refine at_end ?_
  refine at_sub [(0, (.pointer (some ⟨b_c, 0, none⟩))), (1, (.slice a_dirs (List.length dirs) n_dirs))] ⟨rfl, rfl, trivial⟩ ?_
  refine at_then ?_
  refine at_seq ?_
  refine at_seq ?_
  refine at_region [0, 1, 2, 3, 4, 5, 6, 7, 8] rfl ?_
  iterate 5 refine at_s T rfl ?_
  refine at_v rfl (g_load T rfl rfl rfl rfl (in_var (j := 0) rfl rfl)) ?_
  refine at_s T rfl ?_
  obtain ⟨v1, V1, H⟩ := bind_e H
  refine at_cons (at_c (B := fun _ => []) [] rfl rfl rfl rfl has19 rfl rfl (ref21_Dirs.c dirs (List.length c.U.L : Int) v1 _ V1 (ro_of h_dirs (j := 2) rfl) c_dirs) (fun _ => ?_))
  refine at_s T rfl ?_
  refine at_end ?_
  refine at_sub [(0, (.pointer (some ⟨b_c, 0, none⟩))), (1, (.slice a_dirs (List.length dirs) n_dirs)), (18, (.bool (!v1)))] ⟨rfl, rfl, rfl, trivial⟩ ?_
  refine at_then ?_
  refine at_cond rfl (fun c2 => ?_) (fun c2 => ?_)
  · replace H := if_t c2 H
    refine at_seq ?_
    refine at_region [0, 1, 2] rfl ?_
    iterate 3 refine at_s T rfl ?_
    refine at_end ?_
    refine at_sub [(4, (.slice none 0 0)), (5, (.slice none 0 0)), (6, (.int .i64 1))] ⟨rfl, rfl, rfl, trivial⟩ ?_
    refine at_then ?_
    refine at_ret ?_
    refine at_rt ?_
    obtain rfl := Option.some.inj H
    refine at_addnil ?_
    refine at_addnil ?_
    exact at_post (T := T) rfl (.tmp rfl (.tmp rfl (.tmp rfl .nil))) (fun w o => ⟨⟨(_, _), ⟨none, 0, [], none, 0, [], a_c_U_L, n_c_U_L, H_c_U_L, SliceO.nil, SliceO.nil, s_c_U_L, rfl, rfl⟩⟩, rfl, own_to [3, 3, 0, 0, 0] rfl o⟩)
  · replace H := if_f (bf c2) H
    refine at_skip ?_
    refine at_then ?_
    refine at_seq ?_
    refine at_region_m [[], [0], [0, 1], [0, 1, 2], [], [4], [4, 5], [4, 5, 6], [], [8], [8, 9], [8, 9, 10], [8, 9, 10, 11], [], [0, 1, 2, 3, 4, 5, 6, 7, 8, 9, 10, 11, 12, 13], [0, 1, 2, 3, 4, 5, 6, 7, 8, 9, 10, 11, 12, 13, 14], [0, 1, 2, 3, 4, 5, 6, 7, 8, 9, 10, 11, 12, 13, 14, 15], [0, 1, 2, 3, 4, 5, 6, 7, 8, 9, 10, 11, 12, 13, 14, 15], [0, 1, 2, 3, 4, 5, 6, 7, 8, 9, 10, 11, 12, 13, 14, 15], [0, 1, 2, 3, 4, 5, 6, 7, 8, 9, 10, 11, 12, 13, 14, 15, 16], [0, 1, 2, 3, 4, 5, 6, 7, 8, 9, 10, 11, 12, 13, 14, 15, 16, 17, 19], [0, 1, 2, 3, 4, 5, 6, 7, 8, 9, 10, 11, 12, 13, 14, 15, 16, 17, 18, 19, 20]] [] [[(b_c, Obj.cells #[(.int .i64 c.W), (.int .i64 c.H), (.int .i64 c.U.Most), (.int .i64 c.U.Next), (.slice a_c_U_L (List.length c.U.L) n_c_U_L)] 68 (0, 0))], H_c_U_L, F] mix (by kernel_rfl) (by repeat first | exact pf_body | refine pf_then ?_ | refine pf_block ?_) (fun hg pf => ?_)
    refine atm_s T 0 hg pf (by kernel_rfl) (still_o [0, 0, 0] rfl) rfl ?_
    refine atm_s T 1 hg pf (by kernel_rfl) (still_o [0, 0, 0] rfl) rfl ?_
    refine atm_s T 2 hg pf (by kernel_rfl) (still_o [0, 0, 0] rfl) rfl ?_
    refine atm_v 3 hg pf (by kernel_rfl) (still_o [0, 0, 0] rfl) rfl rfl (g_load T rfl rfl rfl rfl (in_var (j := 0) rfl rfl)) ?_
    refine atm_s T 4 hg pf (by kernel_rfl) (still_o [0, 0, 0] rfl) rfl ?_
    refine atm_s T 5 hg pf (by kernel_rfl) (still_o [0, 0, 0] rfl) rfl ?_
    refine atm_s T 6 hg pf (by kernel_rfl) (still_o [0, 0, 0] rfl) rfl ?_
    refine atm_v 7 hg pf (by kernel_rfl) (still_o [0, 0, 0] rfl) rfl rfl (g_load T rfl rfl rfl rfl (in_var (j := 0) rfl rfl)) ?_
    refine atm_s T 8 hg pf (by kernel_rfl) (still_o [0, 0, 0] rfl) rfl ?_
    refine atm_s T 9 hg pf (by kernel_rfl) (still_o [0, 0, 0] rfl) rfl ?_
    refine atm_s T 10 hg pf (by kernel_rfl) (still_o [0, 0, 0] rfl) rfl ?_
    refine atm_s T 11 hg pf (by kernel_rfl) (still_o [0, 0, 0] rfl) rfl ?_
    refine atm_v 12 hg pf (by kernel_rfl) (still_o [0, 0, 0] rfl) rfl rfl (g_load T rfl rfl rfl rfl (in_var (j := 0) rfl rfl)) ?_
    refine atm_s T 13 hg pf (by kernel_rfl) (still_o [0, 0, 0] rfl) rfl ?_
    refine atm_one 14 (by kernel_rfl) ?_
    obtain ⟨v2, V3, H⟩ := bind_e H
    refine at_cR (ref21_Go.R v2) [] [] rfl rfl rfl rfl has21 rfl rfl (ref21_Go.c c.W c.H c.U.L dirs v2 _ V3 (own_of s_c_U_L (j := 1) rfl) s_c_U_L.cap_le (ro_of h_dirs (j := 2) rfl) c_dirs) ?_
    rintro _ _ ⟨a5, n5, H5, a6, n6, H6, a7, n7, H7, s5, s6, s7, rfl, rfl⟩
    refine atm_next (still_o [0, 0, 0] rfl) ?_
    refine atm_s T 15 hg pf (by kernel_rfl) (still_o [0, 0, 0] rfl) rfl ?_
    refine atm_s T 16 hg pf (by kernel_rfl) (still_o [0, 0, 0] rfl) rfl ?_
    refine atm_s T 17 hg pf (by kernel_rfl) (still_o [0, 0, 0] rfl) rfl ?_
    refine atm_s T 18 hg pf (by kernel_rfl) (still_o [0, 0, 0] rfl) rfl ?_
    refine atm_s T 19 hg pf (by kernel_rfl) (still_o [0, 0, 0] rfl) rfl ?_
    refine atm_s T 20 hg pf (by kernel_rfl) (still_o [0, 0, 0] rfl) rfl ?_
    refine atm_s T 21 hg pf (by kernel_rfl) (still_o [0, 0, 0] rfl) rfl ?_
    refine atm_end (by kernel_rfl) ?_
    refine at_sub [(0, (.pointer (some ⟨b_c, 0, none⟩))), (7, (.slice a5 (List.length v2.1) n5)), (8, (.slice a6 (List.length v2.2.1) n6)), (9, (.slice a7 (List.length v2.2.2) n7))] ⟨rfl, rfl, rfl, rfl, trivial⟩ ?_
    refine at_then ?_
    refine at_seq ?_
    refine at_region [0, 1, 2, 3, 4, 5] rfl ?_
    iterate 5 refine at_s T rfl ?_
    refine at_cons (at_st T 0 [(.int .i64 c.W), (.int .i64 c.H), (.int .i64 c.U.Most), (.int .i64 c.U.Next), (.slice a5 (List.length v2.1) n5)] rfl rfl rfl rfl rfl rfl rfl rfl rfl rfl ?_)
    refine at_end ?_
    refine at_to [(8, (.slice a6 (List.length v2.2.1) n6)), (9, (.slice a7 (List.length v2.2.2) n7))] [0, 1, 1, 1, 1] [[(b_c, Obj.cells #[(.int .i64 c.W), (.int .i64 c.H), (.int .i64 c.U.Most), (.int .i64 c.U.Next), (.slice a5 (List.length v2.1) n5)] 68 (0, 0))], F, H5, H6, H7] ⟨rfl, rfl, trivial⟩ rfl ?_
    refine at_then ?_
    refine at_seq ?_
    refine at_region [0, 1, 2, 3, 4] rfl ?_
    iterate 5 refine at_s T rfl ?_
    refine at_end ?_
    refine at_sub [(4, (.slice a6 (List.length v2.2.1) n6)), (5, (.slice a7 (List.length v2.2.2) n7)), (6, (.int .i64 0))] ⟨rfl, rfl, rfl, trivial⟩ ?_
    refine at_then ?_
    refine at_ret ?_
    obtain rfl := Option.some.inj H
    exact at_post (T := T) rfl (.tmp rfl (.tmp rfl (.tmp rfl .nil))) (fun w o => ⟨⟨(_, _), ⟨a6, n6, H6, a7, n7, H7, a5, n5, H5, s6, s7, s5, rfl, rfl⟩⟩, rfl, own_to [3, 3, 0, 1, 0] rfl o⟩)

/-! ### (*herdsman/herdsmanref21.Crowd).Who: function 39 -/
def ref21_Crowd_Who.l0 : Nat → herdsmanref21_Crowd → Int → Int → Option Int
  | 0, _, _, _ => none
  | k3 + 1, c, cell, x2 => if x2 < (List.length c.U.L : Int) then (if (0 ≤ x2 ∧ x2 < (List.length c.U.L : Int)) then (if ((rd c.U.L x2).Cell == cell) = true then (some ((rd c.U.L x2).Id)) else (ref21_Crowd_Who.l0 k3 c cell (w64 (x2 + 1)))) else none) else (some (-1))
def ref21_Crowd_Who.f (c : herdsmanref21_Crowd) (cell : Int) : Option Int := ref21_Crowd_Who.l0 fuel c cell 0
set_option maxHeartbeats 4000000 in
theorem ref21_Crowd_Who.c {b_c : Nat} {a_c_U_L : Option Addr} {n_c_U_L : Nat} {H_c_U_L : Hp} (c : herdsmanref21_Crowd) (cell : Int) (r : Int) (F : Hp) (H : ref21_Crowd_Who.f c cell = some r) (s_c_U_L : SliceO k_api_Unit 40 c.U.L a_c_U_L n_c_U_L H_c_U_L) :
    CallsL Try.prog 39 [(.pointer (some ⟨b_c, 0, none⟩)), (.int .i64 cell)] [[(b_c, Obj.cells #[(.int .i64 c.W), (.int .i64 c.H), (.int .i64 c.U.Most), (.int .i64 c.U.Next), (.slice a_c_U_L (List.length c.U.L) n_c_U_L)] 68 (0, 0))], H_c_U_L, F] (fun _ : Unit => (.int .i64 r)) (fun _ => [[(b_c, Obj.cells #[(.int .i64 c.W), (.int .i64 c.H), (.int .i64 c.U.Most), (.int .i64 c.U.Next), (.slice a_c_U_L (List.length c.U.L) n_c_U_L)] 68 (0, 0))], H_c_U_L] ++ [F]) := by
  unfold ref21_Crowd_Who.f at H
  refine calls_atL [(0, (.pointer (some ⟨b_c, 0, none⟩))), (1, (.int .i64 cell))] Try.func39 rfl rfl ⟨rfl, rfl, trivial⟩ (fun W => ?_)
  refine at_seq ?_
  refine at_region [0] rfl ?_
  refine at_s T rfl ?_
  refine at_end ?_
  refine at_sub [(0, (.pointer (some ⟨b_c, 0, none⟩))), (1, (.int .i64 cell))] ⟨rfl, rfl, trivial⟩ ?_
  refine at_then ?_
  refine at_seq ?_
  refine at_seq ?_
  refine at_region [0] rfl ?_
  refine at_s T rfl ?_
  refine at_end ?_
  refine at_sub [(0, (.pointer (some ⟨b_c, 0, none⟩))), (1, (.int .i64 cell)), (5, (.int .i64 0))] ⟨rfl, rfl, rfl, trivial⟩ ?_
  refine at_then ?_
  refine at_block ?_
  refine at_loopL (σ := Nat × Int) (fun ⟨k3, x2⟩ => ref21_Crowd_Who.l0 k3 c cell x2 = some r) (fun ⟨k3, x2⟩ => [(0, (.pointer (some ⟨b_c, 0, none⟩))), (1, (.int .i64 cell)), (5, (.int .i64 x2))]) (fun ⟨k3, x2⟩ => [F, [(b_c, Obj.cells #[(.int .i64 c.W), (.int .i64 c.H), (.int .i64 c.U.Most), (.int .i64 c.U.Next), (.slice a_c_U_L (List.length c.U.L) n_c_U_L)] 68 (0, 0))], H_c_U_L]) (fun s => s.1) (fuel, 0) [2, 0, 0] H ⟨rfl, rfl, rfl, trivial⟩ rfl ?_
  rintro ⟨k3, x2⟩ Z1
  replace Z1 : ref21_Crowd_Who.l0 k3 c cell x2 = some r := Z1
  rcases k3 with _ | k3
  · rw [ref21_Crowd_Who.l0] at Z1; cases Z1
  · rw [ref21_Crowd_Who.l0] at Z1
    refine at_seq ?_
    refine at_seq ?_
    refine at_region [0, 1, 2, 3, 4, 5, 6, 7] rfl ?_
    iterate 5 refine at_s T rfl ?_
    refine at_v rfl (g_load T rfl rfl rfl rfl (in_var (j := 1) rfl rfl)) ?_
    iterate 2 refine at_s T rfl ?_
    refine at_end ?_
    refine at_sub [(0, (.pointer (some ⟨b_c, 0, none⟩))), (1, (.int .i64 cell)), (5, (.int .i64 x2)), (13, (.bool (decide (x2 < (List.length c.U.L : Int)))))] ⟨rfl, rfl, rfl, rfl, trivial⟩ ?_
    refine at_then ?_
    refine at_cond rfl (fun c2 => ?_) (fun c2 => ?_)
    · replace Z1 := if_t (of_decide_eq_true c2) Z1
      refine at_skip ?_
      refine at_then ?_
      refine at_seq ?_
      refine at_block ?_
      refine at_seq ?_
      refine at_region [0, 1, 2, 3, 4, 5, 6, 7, 8, 9, 10] rfl ?_
      iterate 4 refine at_s T rfl ?_
      refine at_v rfl (g_load T rfl rfl rfl rfl (in_var (j := 1) rfl rfl)) ?_
      refine at_s T rfl ?_
      obtain ⟨c3, Z1⟩ := chk_e Z1
      obtain ⟨q3, o3, e3⟩ := s_c_U_L.r.addr c3.1 c3.2
      refine at_v rfl (g_index T rfl rfl rfl rfl rfl e3 c3.1 c3.2) ?_
      refine at_s T rfl ?_
      refine at_v rfl (g_load T rfl rfl rfl rfl (in_elem1 (k := k_api_Unit) (own_of s_c_U_L (j := 2) rfl) e3 c3 1 rfl)) ?_
      iterate 2 refine at_s T rfl ?_
      refine at_end ?_
      refine at_sub [(0, (.pointer (some ⟨b_c, 0, none⟩))), (1, (.int .i64 cell)), (5, (.int .i64 x2)), (26, (.bool ((rd c.U.L x2).Cell == cell)))] ⟨rfl, rfl, rfl, rfl, trivial⟩ ?_
      refine at_then ?_
      refine at_cond rfl (fun c4 => ?_) (fun c4 => ?_)
      · replace Z1 := if_t c4 Z1
        refine at_seq ?_
        refine at_region [0, 1, 2, 3, 4, 5, 6, 7, 8, 9] rfl ?_
        iterate 4 refine at_s T rfl ?_
        refine at_v rfl (g_load T rfl rfl rfl rfl (in_var (j := 1) rfl rfl)) ?_
        refine at_s T rfl ?_
        refine at_v rfl (g_index T rfl rfl rfl rfl rfl e3 c3.1 c3.2) ?_
        refine at_s T rfl ?_
        refine at_v rfl (g_load T rfl rfl rfl rfl (in_elem1 (k := k_api_Unit) (own_of s_c_U_L (j := 2) rfl) e3 c3 0 rfl)) ?_
        refine at_s T rfl ?_
        refine at_end ?_
        refine at_sub [(4, (.int .i64 (rd c.U.L x2).Id))] ⟨rfl, trivial⟩ ?_
        refine at_then ?_
        refine at_ret ?_
        refine at_rb ?_
        refine at_rt ?_
        refine at_rt ?_
        refine at_rb ?_
        refine at_rt ?_
        obtain rfl := Option.some.inj Z1
        exact at_post (T := T) rfl (.tmp rfl .nil) (fun w o => ⟨(), rfl, own_to [1, 1, 0] rfl o⟩)
      · replace Z1 := if_f (bf c4) Z1
        refine at_skip ?_
        refine at_nb ?_
        refine at_then ?_
        refine at_region [0, 1, 2] rfl ?_
        iterate 3 refine at_s T rfl ?_
        refine at_end ?_
        refine at_sub [(0, (.pointer (some ⟨b_c, 0, none⟩))), (1, (.int .i64 cell)), (5, (.int .i64 (w64 (x2 + 1))))] ⟨rfl, rfl, rfl, trivial⟩ ?_
        refine at_then ?_
        exact at_roundL (k3, (w64 (x2 + 1))) [0, 0, 0] Z1 (Nat.lt_succ_self _) ⟨rfl, rfl, rfl, trivial⟩ rfl
    · replace Z1 := if_f (of_decide_eq_false c2) Z1
      refine at_exit ?_
      refine at_xt ?_
      refine at_xt ?_
      refine at_xb ?_
      refine at_then ?_
      refine at_seq ?_
      refine at_region [0] rfl ?_
      refine at_s T rfl ?_
      refine at_end ?_
      refine at_sub [(4, (.int .i64 (-1)))] ⟨rfl, trivial⟩ ?_
      refine at_then ?_
      refine at_ret ?_
      obtain rfl := Option.some.inj Z1
      exact at_post (T := T) rfl (.tmp rfl .nil) (fun w o => ⟨(), rfl, own_to [1, 1, 0] rfl o⟩)

/-! ### (*herdsman/herdsmanref21.Units).Add: function 69 -/
def ref21_Units_Add.f (u : herdsmanref21_Crowd) (cell : Int) (goal : Int) : Option (Int × Bool × herdsmanref21_Crowd) := if (List.length u.U.L : Int) ≥ u.U.Most then (some (0, false, u)) else ((if (List.length ([] : List api_Unit) + List.length u.U.L ≤ 1099511627776) then (if (List.length (([] : List api_Unit) ++ u.U.L) + 1 ≤ 1099511627776) then (some ((([] : List api_Unit) ++ u.U.L) ++ [(api_Unit.mk u.U.Next cell goal)])) else none) else none).bind fun x1 => some ((w64 ((w64 (u.U.Next + 1)) - 1)), true, (herdsmanref21_Crowd.mk u.W u.H (herdsmanref21_Units.mk u.U.Most (w64 (u.U.Next + 1)) x1))))
def ref21_Units_Add.R (b_u : Nat) (r : (Int × Bool × herdsmanref21_Crowd)) (u : Value) (G : List Hp) : Prop := ∃ (a0 : Option Addr) (n0 : Nat) (H0 : Hp), SliceO k_api_Unit 40 r.2.2.U.L a0 n0 H0 ∧ u = (.tuple #[(.int .i64 r.1), (.bool r.2.1)]) ∧ G = [[(b_u, Obj.cells #[(.int .i64 r.2.2.W), (.int .i64 r.2.2.H), (.int .i64 r.2.2.U.Most), (.int .i64 r.2.2.U.Next), (.slice a0 (List.length r.2.2.U.L) n0)] 68 (0, 0))], H0]
set_option maxHeartbeats 4000000 in
theorem ref21_Units_Add.c {b_u : Nat} {a_u_U_L : Option Addr} {n_u_U_L : Nat} {H_u_U_L : Hp} (u : herdsmanref21_Crowd) (cell : Int) (goal : Int) (r : (Int × Bool × herdsmanref21_Crowd)) (F : Hp) (H : ref21_Units_Add.f u cell goal = some r) (s_u_U_L : SliceO k_api_Unit 40 u.U.L a_u_U_L n_u_U_L H_u_U_L) :
    CallsL Try.prog 69 [(.pointer (some ⟨b_u, 2, none⟩)), (.int .i64 cell), (.int .i64 goal)] [[(b_u, Obj.cells #[(.int .i64 u.W), (.int .i64 u.H), (.int .i64 u.U.Most), (.int .i64 u.U.Next), (.slice a_u_U_L (List.length u.U.L) n_u_U_L)] 68 (0, 0))], H_u_U_L, F] (fun p : { p : Value × List Hp // ref21_Units_Add.R b_u r p.1 p.2 } => p.1.1) (fun p => (p.1.2 ++ []) ++ [F]) := by
  unfold ref21_Units_Add.f at H
  refine calls_atL [(0, (.pointer (some ⟨b_u, 2, none⟩))), (1, (.int .i64 cell)), (2, (.int .i64 goal))] Try.func69 rfl rfl ⟨rfl, rfl, rfl, trivial⟩ (fun W => ?_)
  refine at_seq ?_
  refine at_region [0, 1] rfl ?_
  iterate 2 refine at_s T rfl ?_
  refine at_end ?_
  refine at_sub [(0, (.pointer (some ⟨b_u, 2, none⟩))), (1, (.int .i64 cell)), (2, (.int .i64 goal))] ⟨rfl, rfl, rfl, trivial⟩ ?_
  refine at_then ?_
  refine at_seq ?_
  refine at_seq ?_
  refine at_region_q mix (by kernel_rfl) ?_
  iterate 3 refine atq_s T rfl ?_
  refine atq_v rfl rfl rfl (g_load T rfl rfl rfl rfl (in_var (j := 0) rfl rfl)) ?_
  iterate 4 refine atq_s T rfl ?_
  refine atq_v rfl rfl rfl (g_load T rfl rfl rfl rfl (in_var (j := 0) rfl rfl)) ?_
  refine atq_s T rfl ?_
  refine atq_end ?_
  refine at_sub [(0, (.pointer (some ⟨b_u, 2, none⟩))), (1, (.int .i64 cell)), (2, (.int .i64 goal)), (17, (.bool (decide ((List.length u.U.L : Int) ≥ u.U.Most))))] ⟨rfl, rfl, rfl, rfl, trivial⟩ ?_
  refine at_then ?_
  refine at_cond rfl (fun c1 => ?_) (fun c1 => ?_)
  · replace H := if_t (of_decide_eq_true c1) H
    refine at_seq ?_
    refine at_region [0, 1] rfl ?_
    iterate 2 refine at_s T rfl ?_
    refine at_end ?_
    refine at_sub [(6, (.int .i64 0)), (7, (.bool false))] ⟨rfl, rfl, trivial⟩ ?_
    refine at_then ?_
    refine at_ret ?_
    refine at_rt ?_
    obtain rfl := Option.some.inj H
    exact at_post (T := T) rfl (.tmp rfl (.tmp rfl .nil)) (fun w o => ⟨⟨(_, _), ⟨a_u_U_L, n_u_U_L, H_u_U_L, s_u_U_L, rfl, rfl⟩⟩, rfl, own_to [0, 0, 0] rfl o⟩)
  · replace H := if_f (of_decide_eq_false c1) H
    refine at_skip ?_
    refine at_then ?_
    obtain ⟨z2, Z2, H⟩ := bind_e H
    refine at_seq_mid (σ := List api_Unit × Option Addr × Nat × Hp) (fun ⟨x1, a3, n3, H3⟩ => x1 = z2 ∧ SliceO k_api_Unit 40 x1 a3 n3 H3) (fun ⟨x1, a3, n3, H3⟩ => [(0, (.pointer (some ⟨b_u, 2, none⟩)))]) (fun ⟨x1, a3, n3, H3⟩ => [F, [(b_u, Obj.cells #[(.int .i64 u.W), (.int .i64 u.H), (.int .i64 u.U.Most), (.int .i64 u.U.Next), (.slice a3 (List.length x1) n3)] 68 (0, 0))], H3]) ?_ ?_
    · refine at_region_m [[], [], [], [2], [2, 3], [2, 3, 4], [1, 2, 3, 4, 5], [], [7], [7, 8], [7, 8, 9], [], [], [7, 8, 9, 10, 11, 12], [7, 8, 9, 10, 11, 12, 13], [1, 2, 3, 4, 5, 6, 7, 8, 9, 10, 11, 12, 13, 14], [0, 1, 2, 3, 4, 5, 6, 7, 8, 9, 10, 11, 12, 13, 14, 15], [0, 1, 2, 3, 4, 5, 6, 7, 8, 9, 10, 11, 12, 13, 14, 15, 16], [0, 1, 2, 3, 4, 5, 6, 7, 8, 9, 10, 11, 12, 13, 14, 15, 16, 17]] [18] [[(b_u, Obj.cells #[(.int .i64 u.W), (.int .i64 u.H), (.int .i64 u.U.Most), (.int .i64 u.U.Next), (.slice a_u_U_L (List.length u.U.L) n_u_U_L)] 68 (0, 0))], H_u_U_L, F] mix (by kernel_rfl) (by repeat first | exact pf_body | refine pf_then ?_ | refine pf_block ?_) (fun hg pf => ?_)
      refine atm_s T 0 hg pf (by kernel_rfl) (still_o [0, 0, 0] rfl) rfl ?_
      refine atm_s T 2 hg pf (by kernel_rfl) (still_o [0, 0, 0] rfl) rfl ?_
      refine atm_s T 3 hg pf (by kernel_rfl) (still_o [0, 0, 0] rfl) rfl ?_
      refine atm_s T 4 hg pf (by kernel_rfl) (still_o [0, 0, 0] rfl) rfl ?_
      refine atm_v 5 hg pf (by kernel_rfl) (still_o [0, 0, 0] rfl) rfl rfl (g_load T rfl rfl rfl rfl (in_var (j := 0) rfl rfl)) ?_
      refine atm_s T 7 hg pf (by kernel_rfl) (still_o [0, 0, 0] rfl) rfl ?_
      refine atm_s T 8 hg pf (by kernel_rfl) (still_o [0, 0, 0] rfl) rfl ?_
      refine atm_s T 9 hg pf (by kernel_rfl) (still_o [0, 0, 0] rfl) rfl ?_
      refine atm_v 10 hg pf (by kernel_rfl) (still_o [0, 0, 0] rfl) rfl rfl (g_load T rfl rfl rfl rfl (in_var (j := 0) rfl rfl)) ?_
      refine atm_s T 11 hg pf (by kernel_rfl) (still_o [0, 0, 0] rfl) rfl ?_
      refine atm_s T 12 hg pf (by kernel_rfl) (still_o [0, 0, 0] rfl) rfl ?_
      refine atm_s T 13 hg pf (by kernel_rfl) (still_o [0, 0, 0] rfl) rfl ?_
      refine atm_two 1 14 (by kernel_rfl) ?_ ?_
      · refine at_bs (k := k_api_Unit) T ([] : List api_Unit) rfl rfl rfl rfl rfl rfl rfl rfl rfl (fun a4 H4 s4 => ?_)
        refine atm_next (still_o [0, 0, 0] rfl) ?_
        refine atm_two 6 14 (by kernel_rfl) ?_ ?_
        · obtain ⟨c3, Z2⟩ := chk_e Z2
          refine at_ap (k := k_api_Unit) (xs := ([] : List api_Unit)) T (g := 3) rfl rfl rfl rfl rfl rfl rfl rfl rfl rfl s4 (own_of s_u_U_L (j := 1) rfl) c3 rfl (fun a5 n5 H5 s5 => ?_)
          refine atm_next (still_o [0, 0, 0] rfl) ?_
          refine atm_one 14 (by kernel_rfl) ?_
          refine at_bs (k := k_api_Unit) T [(api_Unit.mk u.U.Next cell goal)] rfl rfl rfl rfl rfl rfl rfl rfl rfl (fun a6 H6 s6 => ?_)
          refine atm_next (still_o [0, 0, 0] rfl) ?_
          refine atm_one 15 (by kernel_rfl) ?_
          obtain ⟨c4, Z2⟩ := chk_e Z2
          refine at_ap (k := k_api_Unit) (xs := (([] : List api_Unit) ++ u.U.L)) T (g := 3) rfl rfl rfl rfl rfl rfl rfl rfl rfl rfl s5 (own_of s6 (j := 4) rfl) c4 rfl (fun a7 n7 H7 s7 => ?_)
          refine atm_next (still_o [0, 0, 0] rfl) ?_
          refine atm_s T 16 hg pf (by kernel_rfl) (still_o [0, 0, 0] rfl) rfl ?_
          refine atm_s T 17 hg pf (by kernel_rfl) (still_o [0, 0, 0] rfl) rfl ?_
          refine atm_one 18 (by kernel_rfl) ?_
          refine at_st T 0 [(.int .i64 u.W), (.int .i64 u.H), (.int .i64 u.U.Most), (.int .i64 u.U.Next), (.slice a7 (List.length ((([] : List api_Unit) ++ u.U.L) ++ [(api_Unit.mk u.U.Next cell goal)])) n7)] rfl rfl rfl rfl rfl rfl rfl rfl rfl rfl ?_
          refine atm_next (still_l (by kernel_rfl)) ?_
          refine atm_end (by kernel_rfl) ?_
          refine at_to [(0, (.pointer (some ⟨b_u, 2, none⟩)))] [0, 1, 1] [[(b_u, Obj.cells #[(.int .i64 u.W), (.int .i64 u.H), (.int .i64 u.U.Most), (.int .i64 u.U.Next), (.slice a7 (List.length ((([] : List api_Unit) ++ u.U.L) ++ [(api_Unit.mk u.U.Next cell goal)])) n7)] 68 (0, 0))], F, H7] ⟨rfl, trivial⟩ rfl ?_
          refine at_then ?_
          obtain rfl := Option.some.inj Z2
          exact at_mid (((([] : List api_Unit) ++ u.U.L) ++ [(api_Unit.mk u.U.Next cell goal)]), a7, n7, H7) [1, 0, 0] ⟨rfl, s7⟩ ⟨rfl, trivial⟩ rfl
        · refine at_bs (k := k_api_Unit) T [(api_Unit.mk u.U.Next cell goal)] rfl rfl rfl rfl rfl rfl rfl rfl rfl (fun a8 H8 s8 => ?_)
          refine atm_next (still_o [0, 0, 0] rfl) ?_
          refine atm_one 6 (by kernel_rfl) ?_
          obtain ⟨c5, Z2⟩ := chk_e Z2
          refine at_ap (k := k_api_Unit) (xs := ([] : List api_Unit)) T (g := 3) rfl rfl rfl rfl rfl rfl rfl rfl rfl rfl s4 (own_of s_u_U_L (j := 1) rfl) c5 rfl (fun a9 n9 H9 s9 => ?_)
          refine atm_next (still_o [0, 0, 0] rfl) ?_
          refine atm_one 15 (by kernel_rfl) ?_
          obtain ⟨c6, Z2⟩ := chk_e Z2
          refine at_ap (k := k_api_Unit) (xs := (([] : List api_Unit) ++ u.U.L)) T (g := 3) rfl rfl rfl rfl rfl rfl rfl rfl rfl rfl s9 (own_of s8 (j := 4) rfl) c6 rfl (fun a10 n10 H10 s10 => ?_)
          refine atm_next (still_o [0, 0, 0] rfl) ?_
          refine atm_s T 16 hg pf (by kernel_rfl) (still_o [0, 0, 0] rfl) rfl ?_
          refine atm_s T 17 hg pf (by kernel_rfl) (still_o [0, 0, 0] rfl) rfl ?_
          refine atm_one 18 (by kernel_rfl) ?_
          refine at_st T 0 [(.int .i64 u.W), (.int .i64 u.H), (.int .i64 u.U.Most), (.int .i64 u.U.Next), (.slice a10 (List.length ((([] : List api_Unit) ++ u.U.L) ++ [(api_Unit.mk u.U.Next cell goal)])) n10)] rfl rfl rfl rfl rfl rfl rfl rfl rfl rfl ?_
          refine atm_next (still_l (by kernel_rfl)) ?_
          refine atm_end (by kernel_rfl) ?_
          refine at_to [(0, (.pointer (some ⟨b_u, 2, none⟩)))] [0, 1, 1] [[(b_u, Obj.cells #[(.int .i64 u.W), (.int .i64 u.H), (.int .i64 u.U.Most), (.int .i64 u.U.Next), (.slice a10 (List.length ((([] : List api_Unit) ++ u.U.L) ++ [(api_Unit.mk u.U.Next cell goal)])) n10)] 68 (0, 0))], F, H10] ⟨rfl, trivial⟩ rfl ?_
          refine at_then ?_
          obtain rfl := Option.some.inj Z2
          exact at_mid (((([] : List api_Unit) ++ u.U.L) ++ [(api_Unit.mk u.U.Next cell goal)]), a10, n10, H10) [1, 0, 0] ⟨rfl, s10⟩ ⟨rfl, trivial⟩ rfl
      · refine at_bs (k := k_api_Unit) T [(api_Unit.mk u.U.Next cell goal)] rfl rfl rfl rfl rfl rfl rfl rfl rfl (fun a11 H11 s11 => ?_)
        refine atm_next (still_o [0, 0, 0] rfl) ?_
        refine atm_one 1 (by kernel_rfl) ?_
        refine at_bs (k := k_api_Unit) T ([] : List api_Unit) rfl rfl rfl rfl rfl rfl rfl rfl rfl (fun a12 H12 s12 => ?_)
        refine atm_next (still_o [0, 0, 0] rfl) ?_
        refine atm_one 6 (by kernel_rfl) ?_
        obtain ⟨c7, Z2⟩ := chk_e Z2
        refine at_ap (k := k_api_Unit) (xs := ([] : List api_Unit)) T (g := 4) rfl rfl rfl rfl rfl rfl rfl rfl rfl rfl s12 (own_of s_u_U_L (j := 1) rfl) c7 rfl (fun a13 n13 H13 s13 => ?_)
        refine atm_next (still_o [0, 0, 0] rfl) ?_
        refine atm_one 15 (by kernel_rfl) ?_
        obtain ⟨c8, Z2⟩ := chk_e Z2
        refine at_ap (k := k_api_Unit) (xs := (([] : List api_Unit) ++ u.U.L)) T (g := 4) rfl rfl rfl rfl rfl rfl rfl rfl rfl rfl s13 (own_of s11 (j := 3) rfl) c8 rfl (fun a14 n14 H14 s14 => ?_)
        refine atm_next (still_o [0, 0, 0] rfl) ?_
        refine atm_s T 16 hg pf (by kernel_rfl) (still_o [0, 0, 0] rfl) rfl ?_
        refine atm_s T 17 hg pf (by kernel_rfl) (still_o [0, 0, 0] rfl) rfl ?_
        refine atm_one 18 (by kernel_rfl) ?_
        refine at_st T 0 [(.int .i64 u.W), (.int .i64 u.H), (.int .i64 u.U.Most), (.int .i64 u.U.Next), (.slice a14 (List.length ((([] : List api_Unit) ++ u.U.L) ++ [(api_Unit.mk u.U.Next cell goal)])) n14)] rfl rfl rfl rfl rfl rfl rfl rfl rfl rfl ?_
        refine atm_next (still_l (by kernel_rfl)) ?_
        refine atm_end (by kernel_rfl) ?_
        refine at_to [(0, (.pointer (some ⟨b_u, 2, none⟩)))] [0, 1, 2] [[(b_u, Obj.cells #[(.int .i64 u.W), (.int .i64 u.H), (.int .i64 u.U.Most), (.int .i64 u.U.Next), (.slice a14 (List.length ((([] : List api_Unit) ++ u.U.L) ++ [(api_Unit.mk u.U.Next cell goal)])) n14)] 68 (0, 0))], F, H14] ⟨rfl, trivial⟩ rfl ?_
        refine at_then ?_
        obtain rfl := Option.some.inj Z2
        exact at_mid (((([] : List api_Unit) ++ u.U.L) ++ [(api_Unit.mk u.U.Next cell goal)]), a14, n14, H14) [1, 0, 0] ⟨rfl, s14⟩ ⟨rfl, trivial⟩ rfl
    · rintro ⟨x1, a3, n3, H3⟩ ⟨rfl, s3⟩
      refine at_seq ?_
      refine at_region [0, 1, 2, 3, 4, 5, 6, 7] rfl ?_
      iterate 3 refine at_s T rfl ?_
      refine at_v rfl (g_load T rfl rfl rfl rfl (in_var (j := 1) rfl rfl)) ?_
      iterate 3 refine at_s T rfl ?_
      refine at_cons (at_st T 1 [(.int .i64 u.W), (.int .i64 u.H), (.int .i64 u.U.Most), (.int .i64 (w64 (u.U.Next + 1))), (.slice a3 (List.length x1) n3)] rfl rfl rfl rfl rfl rfl rfl rfl rfl rfl ?_)
      refine at_end ?_
      refine at_sub [(0, (.pointer (some ⟨b_u, 2, none⟩)))] ⟨rfl, trivial⟩ ?_
      refine at_then ?_
      refine at_seq ?_
      refine at_region [0, 1, 2, 3, 4, 5, 6] rfl ?_
      iterate 3 refine at_s T rfl ?_
      refine at_v rfl (g_load T rfl rfl rfl rfl (in_var (j := 1) rfl rfl)) ?_
      iterate 3 refine at_s T rfl ?_
      refine at_end ?_
      refine at_sub [(6, (.int .i64 (w64 ((w64 (u.U.Next + 1)) - 1)))), (7, (.bool true))] ⟨rfl, rfl, trivial⟩ ?_
      refine at_then ?_
      refine at_ret ?_
      obtain rfl := Option.some.inj H
      exact at_post (T := T) rfl (.tmp rfl (.tmp rfl .nil)) (fun w o => ⟨⟨(_, _), ⟨a3, n3, H3, s3, rfl, rfl⟩⟩, rfl, own_to [1, 1, 0] rfl o⟩)

/-! ### (*herdsman/herdsmanref21.Crowd).Spawn: function 38 -/
def ref21_Crowd_Spawn.f (c : herdsmanref21_Crowd) (cell : Int) (goal : Int) : Option (Int × Int × herdsmanref21_Crowd) := ((ref1_IsCell.f c.W c.H cell).bind fun v3 => if (!v3) = true then (some true) else ((ref1_IsCell.f c.W c.H goal).bind fun v4 => some (!v4))).bind fun x1 => if x1 = true then (some ((-1), 7, c)) else ((ref21_Crowd_Who.f c cell).bind fun v5 => if v5 ≥ 0 then (some ((-1), 10, c)) else (if (List.length c.U.L : Int) ≥ c.U.Most then (some ((-1), 11, c)) else (if (cell == goal) = true then (some ((-1), 13, c)) else ((ref21_Units_Add.f c cell goal).bind fun v6 => some (v6.1, 0, v6.2.2)))))
def ref21_Crowd_Spawn.R (b_c : Nat) (r : (Int × Int × herdsmanref21_Crowd)) (u : Value) (G : List Hp) : Prop := ∃ (a0 : Option Addr) (n0 : Nat) (H0 : Hp), SliceO k_api_Unit 40 r.2.2.U.L a0 n0 H0 ∧ u = (.tuple #[(.int .i64 r.1), (.int .i64 r.2.1)]) ∧ G = [[(b_c, Obj.cells #[(.int .i64 r.2.2.W), (.int .i64 r.2.2.H), (.int .i64 r.2.2.U.Most), (.int .i64 r.2.2.U.Next), (.slice a0 (List.length r.2.2.U.L) n0)] 68 (0, 0))], H0]
set_option maxHeartbeats 4000000 in
theorem ref21_Crowd_Spawn.c {b_c : Nat} {a_c_U_L : Option Addr} {n_c_U_L : Nat} {H_c_U_L : Hp} (c : herdsmanref21_Crowd) (cell : Int) (goal : Int) (r : (Int × Int × herdsmanref21_Crowd)) (F : Hp) (H : ref21_Crowd_Spawn.f c cell goal = some r) (s_c_U_L : SliceO k_api_Unit 40 c.U.L a_c_U_L n_c_U_L H_c_U_L) :
    CallsL Try.prog 38 [(.pointer (some ⟨b_c, 0, none⟩)), (.int .i64 cell), (.int .i64 goal)] [[(b_c, Obj.cells #[(.int .i64 c.W), (.int .i64 c.H), (.int .i64 c.U.Most), (.int .i64 c.U.Next), (.slice a_c_U_L (List.length c.U.L) n_c_U_L)] 68 (0, 0))], H_c_U_L, F] (fun p : { p : Value × List Hp // ref21_Crowd_Spawn.R b_c r p.1 p.2 } => p.1.1) (fun p => (p.1.2 ++ []) ++ [F]) := by
  unfold ref21_Crowd_Spawn.f at H
  refine calls_atL [(0, (.pointer (some ⟨b_c, 0, none⟩))), (1, (.int .i64 cell)), (2, (.int .i64 goal))] Try.func38 rfl rfl ⟨rfl, rfl, rfl, trivial⟩ (fun W => ?_)
  refine at_seq ?_
  refine at_region [0, 1] rfl ?_
  iterate 2 refine at_s T rfl ?_
  refine at_end ?_
  refine at_sub [(0, (.pointer (some ⟨b_c, 0, none⟩))), (1, (.int .i64 cell)), (2, (.int .i64 goal))] ⟨rfl, rfl, rfl, trivial⟩ ?_
  refine at_then ?_
  refine at_seq ?_
  obtain ⟨z2, Z1, H⟩ := bind_e H
  refine at_seq_mid (σ := Bool) (fun x1 => x1 = z2) (fun x1 => [(0, (.pointer (some ⟨b_c, 0, none⟩))), (1, (.int .i64 cell)), (2, (.int .i64 goal)), (33, (.bool x1))]) (fun x1 => [F, [(b_c, Obj.cells #[(.int .i64 c.W), (.int .i64 c.H), (.int .i64 c.U.Most), (.int .i64 c.U.Next), (.slice a_c_U_L (List.length c.U.L) n_c_U_L)] 68 (0, 0))], H_c_U_L]) ?_ ?_
  · refine at_region_q mix (by kernel_rfl) ?_
    iterate 3 refine atq_s T rfl ?_
    refine atq_v rfl rfl rfl (g_load T rfl rfl rfl rfl (in_var (j := 0) rfl rfl)) ?_
    iterate 3 refine atq_s T rfl ?_
    refine atq_v rfl rfl rfl (g_load T rfl rfl rfl rfl (in_var (j := 0) rfl rfl)) ?_
    refine atq_s T rfl ?_
    obtain ⟨v3, V2, Z1⟩ := bind_e Z1
    refine atq_c rfl rfl rfl rfl rfl rfl has48 rfl (ref1_IsCell.c c.W c.H cell v3 _ V2) ?_
    iterate 2 refine atq_s T rfl ?_
    refine atq_case (s := 21) rfl (fun c3 => ?_) (fun c3 => ?_)
    · replace Z1 := if_t c3 Z1
      iterate 12 refine atq_s T rfl ?_
      refine atq_end ?_
      refine at_sub [(0, (.pointer (some ⟨b_c, 0, none⟩))), (1, (.int .i64 cell)), (2, (.int .i64 goal)), (33, (.bool true))] ⟨rfl, rfl, rfl, rfl, trivial⟩ ?_
      refine at_then ?_
      obtain rfl := Option.some.inj Z1
      exact at_mid true [2, 0, 0] rfl ⟨rfl, rfl, rfl, rfl, trivial⟩ rfl
    · replace Z1 := if_f (bf c3) Z1
      iterate 3 refine atq_s T rfl ?_
      refine atq_v rfl rfl rfl (g_load T rfl rfl rfl rfl (in_var (j := 0) rfl rfl)) ?_
      iterate 3 refine atq_s T rfl ?_
      refine atq_v rfl rfl rfl (g_load T rfl rfl rfl rfl (in_var (j := 0) rfl rfl)) ?_
      refine atq_s T rfl ?_
      obtain ⟨v4, V4, Z1⟩ := bind_e Z1
      refine atq_c rfl rfl rfl rfl rfl rfl has48 rfl (ref1_IsCell.c c.W c.H goal v4 _ V4) ?_
      iterate 2 refine atq_s T rfl ?_
      refine atq_end ?_
      refine at_sub [(0, (.pointer (some ⟨b_c, 0, none⟩))), (1, (.int .i64 cell)), (2, (.int .i64 goal)), (33, (.bool (!v4)))] ⟨rfl, rfl, rfl, rfl, trivial⟩ ?_
      refine at_then ?_
      obtain rfl := Option.some.inj Z1
      exact at_mid (!v4) [2, 0, 0] rfl ⟨rfl, rfl, rfl, rfl, trivial⟩ rfl
  · rintro x1 rfl
    refine at_cond rfl (fun c5 => ?_) (fun c5 => ?_)
    · replace H := if_t c5 H
      refine at_seq ?_
      refine at_region [0, 1] rfl ?_
      iterate 2 refine at_s T rfl ?_
      refine at_end ?_
      refine at_sub [(6, (.int .i64 (-1))), (7, (.int .i64 7))] ⟨rfl, rfl, trivial⟩ ?_
      refine at_then ?_
      refine at_ret ?_
      refine at_rt ?_
      obtain rfl := Option.some.inj H
      exact at_post (T := T) rfl (.tmp rfl (.tmp rfl .nil)) (fun w o => ⟨⟨(_, _), ⟨a_c_U_L, n_c_U_L, H_c_U_L, s_c_U_L, rfl, rfl⟩⟩, rfl, own_to [1, 1, 0] rfl o⟩)
    · replace H := if_f (bf c5) H
      refine at_skip ?_
      refine at_then ?_
      refine at_seq ?_
      refine at_seq ?_
      refine at_region [0, 1, 2, 3] rfl ?_
      iterate 2 refine at_s T rfl ?_
      obtain ⟨v5, V6, H⟩ := bind_e H
      refine at_cons (at_c (As := [[(b_c, Obj.cells #[(.int .i64 c.W), (.int .i64 c.H), (.int .i64 c.U.Most), (.int .i64 c.U.Next), (.slice a_c_U_L (List.length c.U.L) n_c_U_L)] 68 (0, 0))], H_c_U_L]) (R := [F]) (B := fun _ => [[(b_c, Obj.cells #[(.int .i64 c.W), (.int .i64 c.H), (.int .i64 c.U.Most), (.int .i64 c.U.Next), (.slice a_c_U_L (List.length c.U.L) n_c_U_L)] 68 (0, 0))], H_c_U_L]) [1, 1] rfl rfl rfl rfl has39 rfl rfl (ref21_Crowd_Who.c c cell v5 _ V6 s_c_U_L) (fun _ => ?_))
      refine at_s T rfl ?_
      refine at_end ?_
      refine at_sub [(0, (.pointer (some ⟨b_c, 0, none⟩))), (1, (.int .i64 cell)), (2, (.int .i64 goal)), (37, (.bool (decide (v5 ≥ 0))))] ⟨rfl, rfl, rfl, rfl, trivial⟩ ?_
      refine at_then ?_
      refine at_cond rfl (fun c7 => ?_) (fun c7 => ?_)
      · replace H := if_t (of_decide_eq_true c7) H
        refine at_seq ?_
        refine at_region [0, 1] rfl ?_
        iterate 2 refine at_s T rfl ?_
        refine at_end ?_
        refine at_sub [(6, (.int .i64 (-1))), (7, (.int .i64 10))] ⟨rfl, rfl, trivial⟩ ?_
        refine at_then ?_
        refine at_ret ?_
        refine at_rt ?_
        obtain rfl := Option.some.inj H
        exact at_post (T := T) rfl (.tmp rfl (.tmp rfl .nil)) (fun w o => ⟨⟨(_, _), ⟨a_c_U_L, n_c_U_L, H_c_U_L, s_c_U_L, rfl, rfl⟩⟩, rfl, own_to [1, 1, 0] rfl o⟩)
      · replace H := if_f (of_decide_eq_false c7) H
        refine at_skip ?_
        refine at_then ?_
        refine at_seq ?_
        refine at_seq ?_
        refine at_region_q mix (by kernel_rfl) ?_
        iterate 4 refine atq_s T rfl ?_
        refine atq_v rfl rfl rfl (g_load T rfl rfl rfl rfl (in_var (j := 1) rfl rfl)) ?_
        iterate 5 refine atq_s T rfl ?_
        refine atq_v rfl rfl rfl (g_load T rfl rfl rfl rfl (in_var (j := 1) rfl rfl)) ?_
        refine atq_s T rfl ?_
        refine atq_end ?_
        refine at_sub [(0, (.pointer (some ⟨b_c, 0, none⟩))), (1, (.int .i64 cell)), (2, (.int .i64 goal)), (49, (.bool (decide ((List.length c.U.L : Int) ≥ c.U.Most))))] ⟨rfl, rfl, rfl, rfl, trivial⟩ ?_
        refine at_then ?_
        refine at_cond rfl (fun c8 => ?_) (fun c8 => ?_)
        · replace H := if_t (of_decide_eq_true c8) H
          refine at_seq ?_
          refine at_region [0, 1] rfl ?_
          iterate 2 refine at_s T rfl ?_
          refine at_end ?_
          refine at_sub [(6, (.int .i64 (-1))), (7, (.int .i64 11))] ⟨rfl, rfl, trivial⟩ ?_
          refine at_then ?_
          refine at_ret ?_
          refine at_rt ?_
          obtain rfl := Option.some.inj H
          exact at_post (T := T) rfl (.tmp rfl (.tmp rfl .nil)) (fun w o => ⟨⟨(_, _), ⟨a_c_U_L, n_c_U_L, H_c_U_L, s_c_U_L, rfl, rfl⟩⟩, rfl, own_to [1, 1, 0] rfl o⟩)
        · replace H := if_f (of_decide_eq_false c8) H
          refine at_skip ?_
          refine at_then ?_
          refine at_seq ?_
          refine at_seq ?_
          refine at_region [0, 1, 2] rfl ?_
          iterate 3 refine at_s T rfl ?_
          refine at_end ?_
          refine at_sub [(0, (.pointer (some ⟨b_c, 0, none⟩))), (1, (.int .i64 cell)), (2, (.int .i64 goal)), (52, (.bool (cell == goal)))] ⟨rfl, rfl, rfl, rfl, trivial⟩ ?_
          refine at_then ?_
          refine at_cond rfl (fun c9 => ?_) (fun c9 => ?_)
          · replace H := if_t c9 H
            refine at_seq ?_
            refine at_region [0, 1] rfl ?_
            iterate 2 refine at_s T rfl ?_
            refine at_end ?_
            refine at_sub [(6, (.int .i64 (-1))), (7, (.int .i64 13))] ⟨rfl, rfl, trivial⟩ ?_
            refine at_then ?_
            refine at_ret ?_
            refine at_rt ?_
            obtain rfl := Option.some.inj H
            exact at_post (T := T) rfl (.tmp rfl (.tmp rfl .nil)) (fun w o => ⟨⟨(_, _), ⟨a_c_U_L, n_c_U_L, H_c_U_L, s_c_U_L, rfl, rfl⟩⟩, rfl, own_to [1, 1, 0] rfl o⟩)
          · replace H := if_f (bf c9) H
            refine at_skip ?_
            refine at_then ?_
            refine at_seq ?_
            refine at_region [0, 1, 2, 3, 4, 5, 6, 7, 8, 9, 10] rfl ?_
            iterate 5 refine at_s T rfl ?_
            obtain ⟨v6, V10, H⟩ := bind_e H
            refine at_cons (at_cR (As := [[(b_c, Obj.cells #[(.int .i64 c.W), (.int .i64 c.H), (.int .i64 c.U.Most), (.int .i64 c.U.Next), (.slice a_c_U_L (List.length c.U.L) n_c_U_L)] 68 (0, 0))], H_c_U_L]) (R := [F]) (ref21_Units_Add.R b_c v6) [] [1, 1] rfl rfl rfl rfl has69 rfl rfl (ref21_Units_Add.c c cell goal v6 _ V10 s_c_U_L) ?_)
            rintro _ _ ⟨a3, n3, H3, s3, rfl, rfl⟩
            iterate 5 refine at_s T rfl ?_
            refine at_end ?_
            refine at_sub [(8, (.int .i64 v6.1))] ⟨rfl, trivial⟩ ?_
            refine at_then ?_
            refine at_seq ?_
            refine at_region [0, 1, 2] rfl ?_
            iterate 3 refine at_s T rfl ?_
            refine at_end ?_
            refine at_sub [(6, (.int .i64 v6.1)), (7, (.int .i64 0))] ⟨rfl, rfl, trivial⟩ ?_
            refine at_then ?_
            refine at_ret ?_
            obtain rfl := Option.some.inj H
            exact at_post (T := T) rfl (.tmp rfl (.tmp rfl .nil)) (fun w o => ⟨⟨(_, _), ⟨a3, n3, H3, s3, rfl, rfl⟩⟩, rfl, own_to [1, 1, 0] rfl o⟩)

/-! ### herdsman/herdsmanref21.Words: function 42 -/
def ref21_Words.l0 : Nat → (List api_Unit) → List Int → Int → Option (List Int)
  | 0, _, _, _ => none
  | k5 + 1, l, x3, x4 => if x4 < (List.length l : Int) then (if (0 ≤ x4 ∧ x4 < (List.length l : Int)) then (if (0 ≤ (rd l x4).Cell ∧ (rd l x4).Cell < (List.length x3 : Int)) then (ref21_Words.l0 k5 l (List.set x3 (Int.toNat ((rd l x4).Cell)) (wu32 (w64 ((rd l x4).Id + 1)))) (w64 (x4 + 1))) else none) else none) else (some x3)
def ref21_Words.f (n : Int) (l : (List api_Unit)) : Option (List Int) := if (0 ≤ n ∧ n ≤ 1099511627776) then (ref21_Words.l0 fuel l (List.replicate (Int.toNat n) (0 : Int)) 0) else none
def ref21_Words.R (r : (List Int)) (u : Value) (G : List Hp) : Prop := ∃ (a0 : Option Addr) (n0 : Nat) (H0 : Hp), SliceO (Fl.int .u32) 74 r a0 n0 H0 ∧ u = (.slice a0 (List.length r) n0) ∧ G = [H0]
set_option maxHeartbeats 4000000 in
theorem ref21_Words.c {a_l : Option Addr} {n_l : Nat} (n : Int) (l : (List api_Unit)) (r : (List Int)) (F : Hp) (H : ref21_Words.f n l = some r) (h_l : SliceR k_api_Unit l a_l F) (c_l : List.length l ≤ n_l) :
    CallsL Try.prog 42 [(.int .i64 n), (.slice a_l (List.length l) n_l)] [F] (fun p : { p : Value × List Hp // ref21_Words.R r p.1 p.2 } => p.1.1) (fun p => (p.1.2 ++ []) ++ [F]) := by
  unfold ref21_Words.f at H
  refine calls_atL [(0, (.int .i64 n)), (1, (.slice a_l (List.length l) n_l))] Try.func42 rfl rfl ⟨rfl, rfl, trivial⟩ (fun W => ?_)
  refine at_seq ?_
  refine at_region [0] rfl ?_
  refine at_s T rfl ?_
  refine at_end ?_
  refine at_sub [(0, (.int .i64 n)), (1, (.slice a_l (List.length l) n_l))] ⟨rfl, rfl, trivial⟩ ?_
  refine at_then ?_
  refine at_seq ?_
  refine at_region [0, 1, 2] rfl ?_
  refine at_s T rfl ?_
  obtain ⟨c1, H⟩ := chk_e H
  refine at_cons (at_mk (k := (Fl.int .u32)) T (0 : Int) rfl rfl rfl rfl rfl rfl rfl rfl c1 rfl (fun a1 n1 H1 s1 => ?_))
  refine at_s T rfl ?_
  refine at_end ?_
  refine at_sub [(1, (.slice a_l (List.length l) n_l)), (5, (.slice a1 (List.length (List.replicate (Int.toNat n) (0 : Int))) n1))] ⟨rfl, rfl, trivial⟩ ?_
  refine at_then ?_
  refine at_seq ?_
  refine at_seq ?_
  refine at_region [0] rfl ?_
  refine at_s T rfl ?_
  refine at_end ?_
  refine at_sub [(1, (.slice a_l (List.length l) n_l)), (5, (.slice a1 (List.length (List.replicate (Int.toNat n) (0 : Int))) n1)), (6, (.int .i64 0))] ⟨rfl, rfl, rfl, trivial⟩ ?_
  refine at_then ?_
  refine at_block ?_
  refine at_loopL (σ := Nat × List Int × Int × Option Addr × Nat × Hp) (fun ⟨k5, x3, x4, a3, n3, H3⟩ => ref21_Words.l0 k5 l x3 x4 = some r ∧ SliceO (Fl.int .u32) 74 x3 a3 n3 H3) (fun ⟨k5, x3, x4, a3, n3, H3⟩ => [(1, (.slice a_l (List.length l) n_l)), (5, (.slice a3 (List.length x3) n3)), (6, (.int .i64 x4))]) (fun ⟨k5, x3, x4, a3, n3, H3⟩ => [F, H3]) (fun s => s.1) (fuel, (List.replicate (Int.toNat n) (0 : Int)), 0, a1, n1, H1) [0, 0] ⟨H, s1⟩ ⟨rfl, rfl, rfl, trivial⟩ rfl ?_
  rintro ⟨k5, x3, x4, a3, n3, H3⟩ ⟨Z2, s3⟩
  replace Z2 : ref21_Words.l0 k5 l x3 x4 = some r := Z2
  rcases k5 with _ | k5
  · rw [ref21_Words.l0] at Z2; cases Z2
  · rw [ref21_Words.l0] at Z2
    refine at_seq ?_
    refine at_seq ?_
    refine at_region [0, 1, 2, 3] rfl ?_
    iterate 4 refine at_s T rfl ?_
    refine at_end ?_
    refine at_sub [(1, (.slice a_l (List.length l) n_l)), (5, (.slice a3 (List.length x3) n3)), (6, (.int .i64 x4)), (12, (.bool (decide (x4 < (List.length l : Int)))))] ⟨rfl, rfl, rfl, rfl, trivial⟩ ?_
    refine at_then ?_
    refine at_cond rfl (fun c3 => ?_) (fun c3 => ?_)
    · replace Z2 := if_t (of_decide_eq_true c3) Z2
      refine at_skip ?_
      refine at_then ?_
      refine at_seq ?_
      refine at_block ?_
      refine at_region_m [[], [], [], [1, 2], [1, 2, 3], [1, 2, 3, 4], [], [], [6, 7], [6, 7, 8], [6, 7, 8, 9], [6, 7, 8, 9, 10], [6, 7, 8, 9, 10, 11], [0, 1, 2, 3, 4, 5, 6, 7, 8, 9, 10, 11, 12], [0, 1, 2, 3, 4, 5, 6, 7, 8, 9, 10, 11, 12, 13]] [14] [F, H3] mix (by kernel_rfl) (by repeat first | exact pf_body | refine pf_then ?_ | refine pf_block ?_) (fun hg pf => ?_)
      refine atm_s T 0 hg pf (by kernel_rfl) (still_o [0, 0] rfl) rfl ?_
      refine atm_s T 1 hg pf (by kernel_rfl) (still_o [0, 0] rfl) rfl ?_
      refine atm_s T 2 hg pf (by kernel_rfl) (still_o [0, 0] rfl) rfl ?_
      obtain ⟨c4, Z2⟩ := chk_e Z2
      obtain ⟨q4, o4, e4⟩ := h_l.addr c4.1 c4.2
      refine atm_v 3 hg pf (by kernel_rfl) (still_o [0, 0] rfl) rfl rfl (g_index T rfl rfl rfl rfl rfl e4 c4.1 c4.2) ?_
      refine atm_s T 4 hg pf (by kernel_rfl) (still_o [0, 0] rfl) rfl ?_
      refine atm_v 5 hg pf (by kernel_rfl) (still_o [0, 0] rfl) rfl rfl (g_load T rfl rfl rfl rfl (in_elem1 (k := k_api_Unit) (ro_of h_l (j := 0) rfl) e4 c4 1 rfl)) ?_
      refine atm_s T 6 hg pf (by kernel_rfl) (still_o [0, 0] rfl) rfl ?_
      refine atm_s T 7 hg pf (by kernel_rfl) (still_o [0, 0] rfl) rfl ?_
      refine atm_v 8 hg pf (by kernel_rfl) (still_o [0, 0] rfl) rfl rfl (g_index T rfl rfl rfl rfl rfl e4 c4.1 c4.2) ?_
      refine atm_s T 9 hg pf (by kernel_rfl) (still_o [0, 0] rfl) rfl ?_
      refine atm_v 10 hg pf (by kernel_rfl) (still_o [0, 0] rfl) rfl rfl (g_load T rfl rfl rfl rfl (in_elem1 (k := k_api_Unit) (ro_of h_l (j := 0) rfl) e4 c4 0 rfl)) ?_
      refine atm_s T 11 hg pf (by kernel_rfl) (still_o [0, 0] rfl) rfl ?_
      refine atm_s T 12 hg pf (by kernel_rfl) (still_o [0, 0] rfl) rfl ?_
      obtain ⟨c5, Z2⟩ := chk_e Z2
      obtain ⟨q5, o5, e5⟩ := s3.r.addr c5.1 c5.2
      refine atm_v 13 hg pf (by kernel_rfl) (still_o [0, 0] rfl) rfl rfl (g_index T rfl rfl rfl rfl rfl e5 c5.1 c5.2) ?_
      refine atm_one 14 (by kernel_rfl) ?_
      refine at_se (k := (Fl.int .u32)) T 1 0 (wu32 (w64 ((rd l x4).Id + 1))) rfl rfl rfl rfl rfl rfl s3 e5 c5 rfl rfl rfl (fun H6 s6 => ?_)
      refine at_to [(1, (.slice a_l (List.length l) n_l)), (5, (.slice a3 (List.length (List.set x3 (Int.toNat ((rd l x4).Cell)) (wu32 (w64 ((rd l x4).Id + 1))))) n3)), (6, (.int .i64 x4)), (12, (.bool (decide (x4 < (List.length l : Int))))), (15, (.slice a3 (List.length (List.set x3 (Int.toNat ((rd l x4).Cell)) (wu32 (w64 ((rd l x4).Id + 1))))) n3)), (16, (.slice a_l (List.length l) n_l)), (17, (.int .i64 x4)), (18, (.pointer (some ⟨q4, o4 + Int.toNat x4 * 3, none⟩))), (19, (.pointer (some ⟨q4, o4 + Int.toNat x4 * 3 + 1, none⟩))), (20, (.int .i64 (rd l x4).Cell)), (21, (.slice a_l (List.length l) n_l)), (22, (.int .i64 x4)), (23, (.pointer (some ⟨q4, o4 + Int.toNat x4 * 3, none⟩))), (24, (.pointer (some ⟨q4, o4 + Int.toNat x4 * 3, none⟩))), (25, (.int .i64 (rd l x4).Id)), (26, (.int .i64 (w64 ((rd l x4).Id + 1)))), (27, (.int .u32 (wu32 (w64 ((rd l x4).Id + 1))))), (28, (.pointer (some ⟨q5, o5 + Int.toNat ((rd l x4).Cell) * 1, none⟩)))] [0, 0] [F, H6] ⟨rfl, (by first | rfl | (simp only [List.length_set]; rfl)), rfl, rfl, (by first | rfl | (simp only [List.length_set]; rfl)), rfl, rfl, rfl, rfl, rfl, rfl, rfl, rfl, rfl, rfl, rfl, rfl, rfl, trivial⟩ rfl ?_
      refine atm_next (still_l (by kernel_rfl)) ?_
      refine atm_end (by kernel_rfl) ?_
      refine at_sub [(1, (.slice a_l (List.length l) n_l)), (5, (.slice a3 (List.length (List.set x3 (Int.toNat ((rd l x4).Cell)) (wu32 (w64 ((rd l x4).Id + 1))))) n3)), (6, (.int .i64 x4))] ⟨rfl, rfl, rfl, trivial⟩ ?_
      refine at_nb ?_
      refine at_then ?_
      refine at_region [0, 1, 2] rfl ?_
      iterate 3 refine at_s T rfl ?_
      refine at_end ?_
      refine at_sub [(1, (.slice a_l (List.length l) n_l)), (5, (.slice a3 (List.length (List.set x3 (Int.toNat ((rd l x4).Cell)) (wu32 (w64 ((rd l x4).Id + 1))))) n3)), (6, (.int .i64 (w64 (x4 + 1))))] ⟨rfl, rfl, rfl, trivial⟩ ?_
      refine at_then ?_
      exact at_roundL (k5, (List.set x3 (Int.toNat ((rd l x4).Cell)) (wu32 (w64 ((rd l x4).Id + 1)))), (w64 (x4 + 1)), a3, n3, H6) [0, 0] ⟨Z2, s6⟩ (Nat.lt_succ_self _) ⟨rfl, rfl, rfl, trivial⟩ rfl
    · replace Z2 := if_f (of_decide_eq_false c3) Z2
      refine at_exit ?_
      refine at_xt ?_
      refine at_xt ?_
      refine at_xb ?_
      refine at_then ?_
      refine at_seq ?_
      refine at_region [0, 1] rfl ?_
      iterate 2 refine at_s T rfl ?_
      refine at_end ?_
      refine at_sub [(4, (.slice a3 (List.length x3) n3))] ⟨rfl, trivial⟩ ?_
      refine at_then ?_
      refine at_ret ?_
      obtain rfl := Option.some.inj Z2
      exact at_post (T := T) rfl (.tmp rfl .nil) (fun w o => ⟨⟨(_, _), ⟨a3, n3, H3, s3, rfl, rfl⟩⟩, rfl, own_to [1, 0] rfl o⟩)

/-! ### herdsman/herdsmanref21.SameWords: function 40 -/
def ref21_SameWords.l0 : Nat → (List Int) → (List Int) → Int → Option Bool
  | 0, _, _, _ => none
  | k3 + 1, a, b, x2 => if x2 < (List.length a : Int) then (if (0 ≤ x2 ∧ x2 < (List.length a : Int)) then (if (0 ≤ x2 ∧ x2 < (List.length b : Int)) then (if ((rd a x2) != (rd b x2)) = true then (some false) else (ref21_SameWords.l0 k3 a b (w64 (x2 + 1)))) else none) else none) else (some true)
def ref21_SameWords.f (a : (List Int)) (b : (List Int)) : Option Bool := if ((List.length a : Int) != (List.length b : Int)) = true then (some false) else (ref21_SameWords.l0 fuel a b 0)
set_option maxHeartbeats 4000000 in
theorem ref21_SameWords.c {a_a : Option Addr} {n_a : Nat} {a_b : Option Addr} {n_b : Nat} (a : (List Int)) (b : (List Int)) (r : Bool) (F : Hp) (H : ref21_SameWords.f a b = some r) (h_a : SliceR (Fl.int .u32) a a_a F) (c_a : List.length a ≤ n_a) (h_b : SliceR (Fl.int .u32) b a_b F) (c_b : List.length b ≤ n_b) :
    CallsL Try.prog 40 [(.slice a_a (List.length a) n_a), (.slice a_b (List.length b) n_b)] [F] (fun _ : Unit => (.bool r)) (fun _ => [F]) := by
  unfold ref21_SameWords.f at H
  refine calls_atL [(0, (.slice a_a (List.length a) n_a)), (1, (.slice a_b (List.length b) n_b))] Try.func40 rfl rfl ⟨rfl, rfl, trivial⟩ (fun W => ?_)
  refine at_seq ?_
  refine at_region [0] rfl ?_
  refine at_s T rfl ?_
  refine at_end ?_
  refine at_sub [(0, (.slice a_a (List.length a) n_a)), (1, (.slice a_b (List.length b) n_b))] ⟨rfl, rfl, trivial⟩ ?_
  refine at_then ?_
  refine at_seq ?_
  refine at_seq ?_
  refine at_region [0, 1, 2, 3, 4] rfl ?_
  iterate 5 refine at_s T rfl ?_
  refine at_end ?_
  refine at_sub [(0, (.slice a_a (List.length a) n_a)), (1, (.slice a_b (List.length b) n_b)), (10, (.bool ((List.length a : Int) != (List.length b : Int))))] ⟨rfl, rfl, rfl, trivial⟩ ?_
  refine at_then ?_
  refine at_cond rfl (fun c1 => ?_) (fun c1 => ?_)
  · replace H := if_t c1 H
    refine at_seq ?_
    refine at_region [0] rfl ?_
    refine at_s T rfl ?_
    refine at_end ?_
    refine at_sub [(4, (.bool false))] ⟨rfl, trivial⟩ ?_
    refine at_then ?_
    refine at_ret ?_
    refine at_rt ?_
    obtain rfl := Option.some.inj H
    exact at_post (T := T) rfl (.tmp rfl .nil) (fun w o => ⟨(), rfl, own_to [0] rfl o⟩)
  · replace H := if_f (bf c1) H
    refine at_skip ?_
    refine at_then ?_
    refine at_seq ?_
    refine at_seq ?_
    refine at_region [0] rfl ?_
    refine at_s T rfl ?_
    refine at_end ?_
    refine at_sub [(0, (.slice a_a (List.length a) n_a)), (1, (.slice a_b (List.length b) n_b)), (5, (.int .i64 0))] ⟨rfl, rfl, rfl, trivial⟩ ?_
    refine at_then ?_
    refine at_block ?_
    refine at_loopL (σ := Nat × Int) (fun ⟨k3, x2⟩ => ref21_SameWords.l0 k3 a b x2 = some r) (fun ⟨k3, x2⟩ => [(0, (.slice a_a (List.length a) n_a)), (1, (.slice a_b (List.length b) n_b)), (5, (.int .i64 x2))]) (fun ⟨k3, x2⟩ => [F]) (fun s => s.1) (fuel, 0) [0] H ⟨rfl, rfl, rfl, trivial⟩ rfl ?_
    rintro ⟨k3, x2⟩ Z2
    replace Z2 : ref21_SameWords.l0 k3 a b x2 = some r := Z2
    rcases k3 with _ | k3
    · rw [ref21_SameWords.l0] at Z2; cases Z2
    · rw [ref21_SameWords.l0] at Z2
      refine at_seq ?_
      refine at_seq ?_
      refine at_region [0, 1, 2, 3] rfl ?_
      iterate 4 refine at_s T rfl ?_
      refine at_end ?_
      refine at_sub [(0, (.slice a_a (List.length a) n_a)), (1, (.slice a_b (List.length b) n_b)), (5, (.int .i64 x2)), (14, (.bool (decide (x2 < (List.length a : Int)))))] ⟨rfl, rfl, rfl, rfl, trivial⟩ ?_
      refine at_then ?_
      refine at_cond rfl (fun c3 => ?_) (fun c3 => ?_)
      · replace Z2 := if_t (of_decide_eq_true c3) Z2
        refine at_skip ?_
        refine at_then ?_
        refine at_seq ?_
        refine at_block ?_
        refine at_seq ?_
        refine at_region_q mix (by kernel_rfl) ?_
        iterate 2 refine atq_s T rfl ?_
        obtain ⟨c4, Z2⟩ := chk_e Z2
        obtain ⟨q1, o1, e1⟩ := h_a.addr c4.1 c4.2
        refine atq_v rfl rfl rfl (g_index T rfl rfl rfl rfl rfl e1 c4.1 c4.2) ?_
        refine atq_v rfl rfl rfl (g_load T rfl rfl rfl rfl (in_elem1 (k := (Fl.int .u32)) (ro_of h_a (j := 0) rfl) e1 c4 0 rfl)) ?_
        iterate 2 refine atq_s T rfl ?_
        obtain ⟨c5, Z2⟩ := chk_e Z2
        obtain ⟨q2, o2, e2⟩ := h_b.addr c5.1 c5.2
        refine atq_v rfl rfl rfl (g_index T rfl rfl rfl rfl rfl e2 c5.1 c5.2) ?_
        refine atq_v rfl rfl rfl (g_load T rfl rfl rfl rfl (in_elem1 (k := (Fl.int .u32)) (ro_of h_b (j := 0) rfl) e2 c5 0 rfl)) ?_
        refine atq_s T rfl ?_
        refine atq_end ?_
        refine at_sub [(0, (.slice a_a (List.length a) n_a)), (1, (.slice a_b (List.length b) n_b)), (5, (.int .i64 x2)), (25, (.bool ((rd a x2) != (rd b x2))))] ⟨rfl, rfl, rfl, rfl, trivial⟩ ?_
        refine at_then ?_
        refine at_cond rfl (fun c6 => ?_) (fun c6 => ?_)
        · replace Z2 := if_t c6 Z2
          refine at_seq ?_
          refine at_region [0] rfl ?_
          refine at_s T rfl ?_
          refine at_end ?_
          refine at_sub [(4, (.bool false))] ⟨rfl, trivial⟩ ?_
          refine at_then ?_
          refine at_ret ?_
          refine at_rb ?_
          refine at_rt ?_
          refine at_rt ?_
          refine at_rb ?_
          refine at_rt ?_
          obtain rfl := Option.some.inj Z2
          exact at_post (T := T) rfl (.tmp rfl .nil) (fun w o => ⟨(), rfl, own_to [0] rfl o⟩)
        · replace Z2 := if_f (bf c6) Z2
          refine at_skip ?_
          refine at_nb ?_
          refine at_then ?_
          refine at_region [0, 1, 2] rfl ?_
          iterate 3 refine at_s T rfl ?_
          refine at_end ?_
          refine at_sub [(0, (.slice a_a (List.length a) n_a)), (1, (.slice a_b (List.length b) n_b)), (5, (.int .i64 (w64 (x2 + 1))))] ⟨rfl, rfl, rfl, trivial⟩ ?_
          refine at_then ?_
          exact at_roundL (k3, (w64 (x2 + 1))) [0] Z2 (Nat.lt_succ_self _) ⟨rfl, rfl, rfl, trivial⟩ rfl
      · replace Z2 := if_f (of_decide_eq_false c3) Z2
        refine at_exit ?_
        refine at_xt ?_
        refine at_xt ?_
        refine at_xb ?_
        refine at_then ?_
        refine at_seq ?_
        refine at_region [0] rfl ?_
        refine at_s T rfl ?_
        refine at_end ?_
        refine at_sub [(4, (.bool true))] ⟨rfl, trivial⟩ ?_
        refine at_then ?_
        refine at_ret ?_
        obtain rfl := Option.some.inj Z2
        exact at_post (T := T) rfl (.tmp rfl .nil) (fun w o => ⟨(), rfl, own_to [0] rfl o⟩)
end Go.Proofs.Ytkidcebfpengmaa
