import Derived.Test.YticdodeoljodiaaT
import Derived.Test.YticdodeoljodiaaFref1
namespace Go.Proofs.Yticdodeoljodiaa
open Go.Hx
set_option maxRecDepth 100000
set_option linter.unusedVariables false
noncomputable section
/-! ### herdsman/herdsmanref21.Made: function 42 -/
def ref21_Made.l1 : Nat → Int → Int → (List Int) → List api_Unit → Int → Int → Bool → Int → Option (List api_Unit)
  | 0, _, _, _, _, _, _, _, _ => none
  | k13 + 1, w, h, l, x3, x4, v8, x11, x12 => if x12 < (List.length x3 : Int) then (if x11 = true then (if (0 ≤ x12 ∧ x12 < (List.length x3 : Int)) then (ref21_Made.l1 k13 w h l x3 x4 v8 ((rd x3 x12).Cell != v8) (w64 (x12 + 1))) else none) else (ref21_Made.l1 k13 w h l x3 x4 v8 false (w64 (x12 + 1)))) else (if x11 = true then (if (0 ≤ x4 ∧ x4 < (List.length l : Int)) then ((ref1_Within.f (w64 (Int.tdiv (rd l x4) 5)) 0 (w64 ((w64 (w * h)) - 1))).bind fun v14 => if (List.length x3 + 1 ≤ 1099511627776) then (some (x3 ++ [(api_Unit.mk (w64 ((w64 ((List.length x3 : Int) * 2)) + (w64 (BitVec.toNat (BitVec.ofInt (IntKind.bits .i64) (rd l x4) &&& BitVec.ofInt (IntKind.bits .i64) 1))))) v8 v14)])) else none) else none) else (some x3))
def ref21_Made.l0 : Nat → Int → Int → (List Int) → List api_Unit → Int → Option (List api_Unit)
  | 0, _, _, _, _, _ => none
  | k5 + 1, w, h, l, x3, x4 => if ((decide (x4 < (List.length l : Int))) && (decide ((List.length x3 : Int) < 12))) = true then ((if (0 ≤ x4 ∧ x4 < (List.length l : Int)) then ((ref1_Within.f (rd l x4) 0 (w64 ((w64 (w * h)) - 1))).bind fun v8 => ref21_Made.l1 fuel w h l x3 x4 v8 true 0) else none).bind fun x6 => ref21_Made.l0 k5 w h l x6 (w64 (x4 + 1))) else (some x3)
def ref21_Made.f (w : Int) (h : Int) (l : (List Int)) : Option (List api_Unit) := ref21_Made.l0 fuel w h l [] 0
def ref21_Made.R (r : (List api_Unit)) (u : Value) (G : List Hp) : Prop := ∃ (a0 : Option Addr) (n0 : Nat) (H0 : Hp), SliceO k_api_Unit 72 r a0 n0 H0 ∧ u = (.slice a0 (List.length r) n0) ∧ G = [H0]
set_option maxHeartbeats 4000000 in
theorem ref21_Made.c {a_l : Option Addr} {n_l : Nat} (w : Int) (h : Int) (l : (List Int)) (r : (List api_Unit)) (F : Hp) (H : ref21_Made.f w h l = some r) (h_l : SliceR (Fl.int .i64) l a_l F) (c_l : List.length l ≤ n_l) :
    CallsL Try.prog 42 [(.int .i64 w), (.int .i64 h), (.slice a_l (List.length l) n_l)] [F] (fun qp : { qp : Value × List Hp // ref21_Made.R r qp.1 qp.2 } => qp.1.1) (fun qp => (qp.1.2 ++ []) ++ [F]) := by
  unfold ref21_Made.f at H
  refine calls_atL [(0, (.int .i64 w)), (1, (.int .i64 h)), (2, (.slice a_l (List.length l) n_l))] Try.func42 rfl rfl ⟨rfl, rfl, rfl, trivial⟩ (fun W => ?_)
  refine at_seq ?_
  refine at_region [0] rfl ?_
  refine at_s T rfl ?_
  refine at_end ?_
  refine at_sub [(0, (.int .i64 w)), (1, (.int .i64 h)), (2, (.slice a_l (List.length l) n_l))] ⟨rfl, rfl, rfl, trivial⟩ ?_
  refine at_then ?_
  refine at_seq ?_
  refine at_region [0] rfl ?_
  refine at_s T rfl ?_
  refine at_end ?_
  refine at_sub [(0, (.int .i64 w)), (1, (.int .i64 h)), (2, (.slice a_l (List.length l) n_l)), (7, (.slice none 0 0))] ⟨rfl, rfl, rfl, rfl, trivial⟩ ?_
  refine at_then ?_
  refine at_seq ?_
  refine at_seq ?_
  refine at_region [0] rfl ?_
  refine at_s T rfl ?_
  refine at_end ?_
  refine at_sub [(0, (.int .i64 w)), (1, (.int .i64 h)), (2, (.slice a_l (List.length l) n_l)), (7, (.slice none 0 0)), (8, (.int .i64 0))] ⟨rfl, rfl, rfl, rfl, rfl, trivial⟩ ?_
  refine at_then ?_
  refine at_block ?_
  refine at_addnil ?_
  refine at_loopL (σ := Nat × List api_Unit × Int × Option Addr × Nat × Hp) (fun ⟨k5, x3, x4, a2, n2, H2⟩ => ref21_Made.l0 k5 w h l x3 x4 = some r ∧ SliceO k_api_Unit 72 x3 a2 n2 H2) (fun ⟨k5, x3, x4, a2, n2, H2⟩ => [(0, (.int .i64 w)), (1, (.int .i64 h)), (2, (.slice a_l (List.length l) n_l)), (7, (.slice a2 (List.length x3) n2)), (8, (.int .i64 x4))]) (fun ⟨k5, x3, x4, a2, n2, H2⟩ => [F, H2]) (fun s => s.1) (fuel, [], 0, none, 0, []) [0, 0] ⟨H, SliceO.nil⟩ ⟨rfl, rfl, rfl, rfl, rfl, trivial⟩ rfl ?_
  rintro ⟨k5, x3, x4, a2, n2, H2⟩ ⟨Z1, s2⟩
  replace Z1 : ref21_Made.l0 k5 w h l x3 x4 = some r := Z1
  rcases k5 with _ | k5
  · rw [ref21_Made.l0] at Z1; cases Z1
  · rw [ref21_Made.l0] at Z1
    refine at_seq ?_
    refine at_seq ?_
    refine at_region [0, 1, 2, 3, 4, 5, 6, 7, 8] rfl ?_
    iterate 5 refine at_s T rfl ?_
    refine at_grp T [5, 6, 7, 8] (s := 16) (c := (decide (x4 < (List.length l : Int)))) [(0, (.int .i64 w)), (1, (.int .i64 h)), (2, (.slice a_l (List.length l) n_l)), (7, (.slice a2 (List.length x3) n2)), (8, (.int .i64 x4)), (20, (.bool ((decide (x4 < (List.length l : Int))) && (decide ((List.length x3 : Int) < 12)))))] rfl rfl rfl (fun c2 => ⟨rfl, rfl, rfl, rfl, rfl, (by rw [c2]; rfl), trivial⟩) (fun c2 => ⟨rfl, rfl, rfl, rfl, rfl, (by rw [c2]; rfl), trivial⟩) ?_
    refine at_end ?_
    refine at_sub [(0, (.int .i64 w)), (1, (.int .i64 h)), (2, (.slice a_l (List.length l) n_l)), (7, (.slice a2 (List.length x3) n2)), (8, (.int .i64 x4)), (20, (.bool ((decide (x4 < (List.length l : Int))) && (decide ((List.length x3 : Int) < 12)))))] ⟨rfl, rfl, rfl, rfl, rfl, rfl, trivial⟩ ?_
    refine at_then ?_
    refine at_cond rfl (fun c3 => ?_) (fun c3 => ?_)
    · replace Z1 := if_t c3 Z1
      refine at_skip ?_
      refine at_then ?_
      obtain ⟨z7, Z4, Z1⟩ := bind_e Z1
      refine at_seq_mid (σ := List api_Unit × Option Addr × Nat × Hp) (fun ⟨x6, a3, n3, H3⟩ => x6 = z7 ∧ SliceO k_api_Unit 72 x6 a3 n3 H3) (fun ⟨x6, a3, n3, H3⟩ => [(0, (.int .i64 w)), (1, (.int .i64 h)), (2, (.slice a_l (List.length l) n_l)), (7, (.slice a3 (List.length x6) n3)), (8, (.int .i64 x4))]) (fun ⟨x6, a3, n3, H3⟩ => [F, H3]) ?_ ?_
      · refine at_block ?_
        refine at_seq ?_
        refine at_region [0, 1, 2, 3, 4, 5, 6, 7, 8, 9] rfl ?_
        iterate 2 refine at_s T rfl ?_
        obtain ⟨c5, Z4⟩ := chk_e Z4
        obtain ⟨q4, o4, e4⟩ := h_l.addr c5.1 c5.2
        refine at_v rfl (g_index T rfl rfl rfl rfl rfl e4 c5.1 c5.2) ?_
        refine at_v rfl (g_load T rfl rfl rfl rfl (in_elem1 (k := (Fl.int .i64)) (ro_of h_l (j := 0) rfl) e4 c5 0 rfl)) ?_
        iterate 4 refine at_s T rfl ?_
        obtain ⟨v8, V6, Z4⟩ := bind_e Z4
        refine at_cons (at_c (B := fun _ => []) [] rfl rfl rfl rfl has15 rfl rfl (ref1_Within.c (rd l x4) 0 (w64 ((w64 (w * h)) - 1)) v8 _ V6) (fun _ => ?_))
        refine at_s T rfl ?_
        refine at_end ?_
        refine at_sub [(0, (.int .i64 w)), (1, (.int .i64 h)), (2, (.slice a_l (List.length l) n_l)), (7, (.slice a2 (List.length x3) n2)), (8, (.int .i64 x4)), (9, (.int .i64 v8))] ⟨rfl, rfl, rfl, rfl, rfl, rfl, trivial⟩ ?_
        refine at_then ?_
        refine at_seq ?_
        refine at_region [0] rfl ?_
        refine at_s T rfl ?_
        refine at_end ?_
        refine at_sub [(0, (.int .i64 w)), (1, (.int .i64 h)), (2, (.slice a_l (List.length l) n_l)), (7, (.slice a2 (List.length x3) n2)), (8, (.int .i64 x4)), (9, (.int .i64 v8)), (10, (.bool true))] ⟨rfl, rfl, rfl, rfl, rfl, rfl, rfl, trivial⟩ ?_
        refine at_then ?_
        refine at_seq ?_
        refine at_seq ?_
        refine at_region [0] rfl ?_
        refine at_s T rfl ?_
        refine at_end ?_
        refine at_sub [(0, (.int .i64 w)), (1, (.int .i64 h)), (2, (.slice a_l (List.length l) n_l)), (7, (.slice a2 (List.length x3) n2)), (8, (.int .i64 x4)), (9, (.int .i64 v8)), (10, (.bool true)), (11, (.int .i64 0))] ⟨rfl, rfl, rfl, rfl, rfl, rfl, rfl, rfl, trivial⟩ ?_
        refine at_then ?_
        refine at_block ?_
        refine at_loopL (σ := Nat × Bool × Int) (fun ⟨k13, x11, x12⟩ => ref21_Made.l1 k13 w h l x3 x4 v8 x11 x12 = some z7) (fun ⟨k13, x11, x12⟩ => [(0, (.int .i64 w)), (1, (.int .i64 h)), (2, (.slice a_l (List.length l) n_l)), (7, (.slice a2 (List.length x3) n2)), (8, (.int .i64 x4)), (9, (.int .i64 v8)), (10, (.bool x11)), (11, (.int .i64 x12))]) (fun ⟨k13, x11, x12⟩ => [F, H2]) (fun s => s.1) (fuel, true, 0) [0, 0] Z4 ⟨rfl, rfl, rfl, rfl, rfl, rfl, rfl, rfl, trivial⟩ rfl ?_
        rintro ⟨k13, x11, x12⟩ Z7
        replace Z7 : ref21_Made.l1 k13 w h l x3 x4 v8 x11 x12 = some z7 := Z7
        rcases k13 with _ | k13
        · rw [ref21_Made.l1] at Z7; cases Z7
        · rw [ref21_Made.l1] at Z7
          refine at_seq ?_
          refine at_seq ?_
          refine at_region [0, 1, 2, 3] rfl ?_
          iterate 4 refine at_s T rfl ?_
          refine at_end ?_
          refine at_sub [(0, (.int .i64 w)), (1, (.int .i64 h)), (2, (.slice a_l (List.length l) n_l)), (7, (.slice a2 (List.length x3) n2)), (8, (.int .i64 x4)), (9, (.int .i64 v8)), (10, (.bool x11)), (11, (.int .i64 x12)), (35, (.bool (decide (x12 < (List.length x3 : Int)))))] ⟨rfl, rfl, rfl, rfl, rfl, rfl, rfl, rfl, rfl, trivial⟩ ?_
          refine at_then ?_
          refine at_cond rfl (fun c8 => ?_) (fun c8 => ?_)
          · replace Z7 := if_t (of_decide_eq_true c8) Z7
            refine at_skip ?_
            refine at_then ?_
            refine at_seq ?_
            refine at_block ?_
            refine at_region [0, 1, 2, 3, 4, 5, 6, 7, 8, 9, 10] rfl ?_
            iterate 2 refine at_s T rfl ?_
            refine at_case (s := 39) rfl (fun c9 => ?_) (fun c9 => ?_)
            · replace Z7 := if_t c9 Z7
              iterate 2 refine at_s T rfl ?_
              obtain ⟨c10, Z7⟩ := chk_e Z7
              obtain ⟨q5, o5, e5⟩ := s2.r.addr c10.1 c10.2
              refine at_v rfl (g_index T rfl rfl rfl rfl rfl e5 c10.1 c10.2) ?_
              refine at_s T rfl ?_
              refine at_v rfl (g_load T rfl rfl rfl rfl (in_elem1 (k := k_api_Unit) (own_of s2 (j := 1) rfl) e5 c10 1 rfl)) ?_
              iterate 4 refine at_s T rfl ?_
              refine at_end ?_
              refine at_sub [(0, (.int .i64 w)), (1, (.int .i64 h)), (2, (.slice a_l (List.length l) n_l)), (7, (.slice a2 (List.length x3) n2)), (8, (.int .i64 x4)), (9, (.int .i64 v8)), (10, (.bool ((rd x3 x12).Cell != v8))), (11, (.int .i64 x12))] ⟨rfl, rfl, rfl, rfl, rfl, rfl, rfl, rfl, trivial⟩ ?_
              refine at_nb ?_
              refine at_then ?_
              refine at_region [0, 1, 2] rfl ?_
              iterate 3 refine at_s T rfl ?_
              refine at_end ?_
              refine at_sub [(0, (.int .i64 w)), (1, (.int .i64 h)), (2, (.slice a_l (List.length l) n_l)), (7, (.slice a2 (List.length x3) n2)), (8, (.int .i64 x4)), (9, (.int .i64 v8)), (10, (.bool ((rd x3 x12).Cell != v8))), (11, (.int .i64 (w64 (x12 + 1))))] ⟨rfl, rfl, rfl, rfl, rfl, rfl, rfl, rfl, trivial⟩ ?_
              refine at_then ?_
              exact at_roundL (k13, ((rd x3 x12).Cell != v8), (w64 (x12 + 1))) [0, 0] Z7 (Nat.lt_succ_self _) ⟨rfl, rfl, rfl, rfl, rfl, rfl, rfl, rfl, trivial⟩ rfl
            · replace Z7 := if_f (bf c9) Z7
              iterate 9 refine at_s T rfl ?_
              refine at_end ?_
              refine at_sub [(0, (.int .i64 w)), (1, (.int .i64 h)), (2, (.slice a_l (List.length l) n_l)), (7, (.slice a2 (List.length x3) n2)), (8, (.int .i64 x4)), (9, (.int .i64 v8)), (10, (.bool false)), (11, (.int .i64 x12))] ⟨rfl, rfl, rfl, rfl, rfl, rfl, rfl, rfl, trivial⟩ ?_
              refine at_nb ?_
              refine at_then ?_
              refine at_region [0, 1, 2] rfl ?_
              iterate 3 refine at_s T rfl ?_
              refine at_end ?_
              refine at_sub [(0, (.int .i64 w)), (1, (.int .i64 h)), (2, (.slice a_l (List.length l) n_l)), (7, (.slice a2 (List.length x3) n2)), (8, (.int .i64 x4)), (9, (.int .i64 v8)), (10, (.bool false)), (11, (.int .i64 (w64 (x12 + 1))))] ⟨rfl, rfl, rfl, rfl, rfl, rfl, rfl, rfl, trivial⟩ ?_
              refine at_then ?_
              exact at_roundL (k13, false, (w64 (x12 + 1))) [0, 0] Z7 (Nat.lt_succ_self _) ⟨rfl, rfl, rfl, rfl, rfl, rfl, rfl, rfl, trivial⟩ rfl
          · replace Z7 := if_f (of_decide_eq_false c8) Z7
            refine at_exit ?_
            refine at_xt ?_
            refine at_xt ?_
            refine at_xb ?_
            refine at_then ?_
            refine at_seq ?_
            refine at_region [0] rfl ?_
            refine at_s T rfl ?_
            refine at_end ?_
            refine at_sub [(0, (.int .i64 w)), (1, (.int .i64 h)), (2, (.slice a_l (List.length l) n_l)), (7, (.slice a2 (List.length x3) n2)), (8, (.int .i64 x4)), (9, (.int .i64 v8)), (48, (.bool x11))] ⟨rfl, rfl, rfl, rfl, rfl, rfl, rfl, trivial⟩ ?_
            refine at_then ?_
            refine at_cond rfl (fun c11 => ?_) (fun c11 => ?_)
            · replace Z7 := if_t c11 Z7
              refine at_region_m [[], [], [1], [1, 2], [], [], [4, 5], [4, 5, 6], [4, 5, 6, 7], [1, 2, 3, 4, 5, 6, 7, 8], [], [], [], [11, 12], [11, 12, 13], [11, 12, 13, 14], [], [], [16, 17], [16, 17, 18], [11, 12, 13, 14, 15, 16, 17, 18, 19], [1, 2, 3, 4, 5, 6, 7, 8, 9, 10, 11, 12, 13, 14, 15, 16, 17, 18, 19, 20], [1, 2, 3, 4, 5, 6, 7, 8, 9, 10, 11, 12, 13, 14, 15, 16, 17, 18, 19, 20, 21], [0, 1, 2, 3, 4, 5, 6, 7, 8, 9, 10, 11, 12, 13, 14, 15, 16, 17, 18, 19, 20, 21, 22], [0, 1, 2, 3, 4, 5, 6, 7, 8, 9, 10, 11, 12, 13, 14, 15, 16, 17, 18, 19, 20, 21, 22, 23]] [23] [F, H2] mix (by kernel_rfl) (by repeat first | exact pf_body | refine pf_then ?_ | refine pf_block ?_) (fun hg pf => ?_)
              refine atm_s T 0 hg pf (by kernel_rfl) (still_o [0, 0] rfl) rfl ?_
              refine atm_s T 1 hg pf (by kernel_rfl) (still_o [0, 0] rfl) rfl ?_
              refine atm_s T 2 hg pf (by kernel_rfl) (still_o [0, 0] rfl) rfl ?_
              refine atm_s T 3 hg pf (by kernel_rfl) (still_o [0, 0] rfl) rfl ?_
              refine atm_s T 4 hg pf (by kernel_rfl) (still_o [0, 0] rfl) rfl ?_
              refine atm_s T 5 hg pf (by kernel_rfl) (still_o [0, 0] rfl) rfl ?_
              obtain ⟨c12, Z7⟩ := chk_e Z7
              obtain ⟨q6, o6, e6⟩ := h_l.addr c12.1 c12.2
              refine atm_v 6 hg pf (by kernel_rfl) (still_o [0, 0] rfl) rfl rfl (g_index T rfl rfl rfl rfl rfl e6 c12.1 c12.2) ?_
              refine atm_v 7 hg pf (by kernel_rfl) (still_o [0, 0] rfl) rfl rfl (g_load T rfl rfl rfl rfl (in_elem1 (k := (Fl.int .i64)) (ro_of h_l (j := 0) rfl) e6 c12 0 rfl)) ?_
              refine atm_s T 8 hg pf (by kernel_rfl) (still_o [0, 0] rfl) rfl ?_
              refine atm_s T 9 hg pf (by kernel_rfl) (still_o [0, 0] rfl) rfl ?_
              refine atm_s T 10 hg pf (by kernel_rfl) (still_o [0, 0] rfl) rfl ?_
              refine atm_s T 11 hg pf (by kernel_rfl) (still_o [0, 0] rfl) rfl ?_
              refine atm_s T 12 hg pf (by kernel_rfl) (still_o [0, 0] rfl) rfl ?_
              refine atm_v 13 hg pf (by kernel_rfl) (still_o [0, 0] rfl) rfl rfl (g_index T rfl rfl rfl rfl rfl e6 c12.1 c12.2) ?_
              refine atm_v 14 hg pf (by kernel_rfl) (still_o [0, 0] rfl) rfl rfl (g_load T rfl rfl rfl rfl (in_elem1 (k := (Fl.int .i64)) (ro_of h_l (j := 0) rfl) e6 c12 0 rfl)) ?_
              refine atm_s T 15 hg pf (by kernel_rfl) (still_o [0, 0] rfl) rfl ?_
              refine atm_s T 16 hg pf (by kernel_rfl) (still_o [0, 0] rfl) rfl ?_
              refine atm_s T 17 hg pf (by kernel_rfl) (still_o [0, 0] rfl) rfl ?_
              refine atm_s T 18 hg pf (by kernel_rfl) (still_o [0, 0] rfl) rfl ?_
              refine atm_s T 19 hg pf (by kernel_rfl) (still_o [0, 0] rfl) rfl ?_
              refine atm_one 20 (by kernel_rfl) ?_
              obtain ⟨v14, V13, Z7⟩ := bind_e Z7
              refine at_c (B := fun _ => []) [] rfl rfl rfl rfl has15 rfl rfl (ref1_Within.c (w64 (Int.tdiv (rd l x4) 5)) 0 (w64 ((w64 (w * h)) - 1)) v14 _ V13) (fun _ => ?_)
              refine atm_next (still_o [0, 0] rfl) ?_
              refine atm_s T 21 hg pf (by kernel_rfl) (still_o [0, 0] rfl) rfl ?_
              refine atm_one 22 (by kernel_rfl) ?_
              refine at_bs (k := k_api_Unit) T [(api_Unit.mk (w64 ((w64 ((List.length x3 : Int) * 2)) + (w64 (BitVec.toNat (BitVec.ofInt (IntKind.bits .i64) (rd l x4) &&& BitVec.ofInt (IntKind.bits .i64) 1))))) v8 v14)] rfl rfl rfl rfl rfl rfl rfl rfl rfl (fun a7 H7 s7 => ?_)
              refine atm_next (still_o [0, 0] rfl) ?_
              refine atm_one 23 (by kernel_rfl) ?_
              obtain ⟨c14, Z7⟩ := chk_e Z7
              refine at_ap (k := k_api_Unit) (xs := x3) T (g := 1) rfl rfl rfl rfl rfl rfl rfl rfl rfl rfl s2 (own_of s7 (j := 2) rfl) c14 rfl (fun a8 n8 H8 s8 => ?_)
              refine atm_next (still_l (by kernel_rfl)) ?_
              refine atm_s T 24 hg pf (by kernel_rfl) (still_l (by kernel_rfl)) rfl ?_
              refine atm_end (by kernel_rfl) ?_
              refine at_to [(0, (.int .i64 w)), (1, (.int .i64 h)), (2, (.slice a_l (List.length l) n_l)), (7, (.slice a8 (List.length (x3 ++ [(api_Unit.mk (w64 ((w64 ((List.length x3 : Int) * 2)) + (w64 (BitVec.toNat (BitVec.ofInt (IntKind.bits .i64) (rd l x4) &&& BitVec.ofInt (IntKind.bits .i64) 1))))) v8 v14)])) n8)), (8, (.int .i64 x4))] [0, 0] [F, H8] ⟨rfl, rfl, rfl, rfl, rfl, trivial⟩ rfl ?_
              refine at_nb ?_
              refine at_then ?_
              obtain rfl := Option.some.inj Z7
              exact at_mid ((x3 ++ [(api_Unit.mk (w64 ((w64 ((List.length x3 : Int) * 2)) + (w64 (BitVec.toNat (BitVec.ofInt (IntKind.bits .i64) (rd l x4) &&& BitVec.ofInt (IntKind.bits .i64) 1))))) v8 v14)]), a8, n8, H8) [0, 0] ⟨rfl, s8⟩ ⟨rfl, rfl, rfl, rfl, rfl, trivial⟩ rfl
            · replace Z7 := if_f (bf c11) Z7
              refine at_skip ?_
              refine at_nb ?_
              refine at_then ?_
              obtain rfl := Option.some.inj Z7
              exact at_mid (x3, a2, n2, H2) [0, 0] ⟨rfl, s2⟩ ⟨rfl, rfl, rfl, rfl, rfl, trivial⟩ rfl
      · rintro ⟨x6, a3, n3, H3⟩ ⟨rfl, s3⟩
        refine at_region [0, 1, 2] rfl ?_
        iterate 3 refine at_s T rfl ?_
        refine at_end ?_
        refine at_sub [(0, (.int .i64 w)), (1, (.int .i64 h)), (2, (.slice a_l (List.length l) n_l)), (7, (.slice a3 (List.length x6) n3)), (8, (.int .i64 (w64 (x4 + 1))))] ⟨rfl, rfl, rfl, rfl, rfl, trivial⟩ ?_
        refine at_then ?_
        exact at_roundL (k5, x6, (w64 (x4 + 1)), a3, n3, H3) [0, 0] ⟨Z1, s3⟩ (Nat.lt_succ_self _) ⟨rfl, rfl, rfl, rfl, rfl, trivial⟩ rfl
    · replace Z1 := if_f (bf c3) Z1
      refine at_exit ?_
      refine at_xt ?_
      refine at_xt ?_
      refine at_xb ?_
      refine at_then ?_
      refine at_seq ?_
      refine at_region [0, 1] rfl ?_
      iterate 2 refine at_s T rfl ?_
      refine at_end ?_
      refine at_sub [(6, (.slice a2 (List.length x3) n2))] ⟨rfl, trivial⟩ ?_
      refine at_then ?_
      refine at_ret ?_
      obtain rfl := Option.some.inj Z1
      exact at_post (T := T) rfl (.tmp rfl .nil) (fun w o => ⟨⟨(_, _), ⟨a2, n2, H2, s2, rfl, rfl⟩⟩, rfl, own_to [1, 0] rfl o⟩)
end

end Go.Proofs.Yticdodeoljodiaa
