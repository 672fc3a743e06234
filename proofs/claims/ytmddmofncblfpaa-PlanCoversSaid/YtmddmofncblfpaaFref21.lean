import Derived.Test.YtmddmofncblfpaaT
import Derived.Test.YtmddmofncblfpaaFref1
namespace Go.Proofs.Ytmddmofncblfpaa
open Go.Hx
set_option maxRecDepth 100000
set_option linter.unusedVariables false
/-! ### herdsman/herdsmanref21.Made: function 41 -/
def ref21_Made.l1 : Nat → Int → Int → (List Int) → List api_Unit → Int → Int → Bool → Int → Option (List api_Unit)
  | 0, _, _, _, _, _, _, _, _ => none
  | k13 + 1, w, h, l, x3, x4, v8, x11, x12 => if x12 < (List.length x3 : Int) then (if x11 = true then (if (0 ≤ x12 ∧ x12 < (List.length x3 : Int)) then (ref21_Made.l1 k13 w h l x3 x4 v8 ((rd x3 x12).Cell != v8) (w64 (x12 + 1))) else none) else (ref21_Made.l1 k13 w h l x3 x4 v8 false (w64 (x12 + 1)))) else (if x11 = true then (if (0 ≤ x4 ∧ x4 < (List.length l : Int)) then ((ref1_Within.f (w64 (Int.tdiv (rd l x4) 5)) 0 (w64 ((w64 (w * h)) - 1))).bind fun v14 => if (List.length x3 + 1 ≤ 1099511627776) then (some (x3 ++ [(api_Unit.mk (w64 ((w64 ((List.length x3 : Int) * 2)) + (w64 (BitVec.toNat (BitVec.ofInt (IntKind.bits .i64) (rd l x4) &&& BitVec.ofInt (IntKind.bits .i64) 1))))) v8 v14)])) else none) else none) else (some x3))
def ref21_Made.l0 : Nat → Int → Int → (List Int) → List api_Unit → Int → Option (List api_Unit)
  | 0, _, _, _, _, _ => none
  | k5 + 1, w, h, l, x3, x4 => if ((decide (x4 < (List.length l : Int))) && (decide ((List.length x3 : Int) < 12))) = true then ((if (0 ≤ x4 ∧ x4 < (List.length l : Int)) then ((ref1_Within.f (rd l x4) 0 (w64 ((w64 (w * h)) - 1))).bind fun v8 => ref21_Made.l1 fuel w h l x3 x4 v8 true 0) else none).bind fun x6 => ref21_Made.l0 k5 w h l x6 (w64 (x4 + 1))) else (some x3)
def ref21_Made.f (w : Int) (h : Int) (l : (List Int)) : Option (List api_Unit) := ref21_Made.l0 fuel w h l [] 0
def ref21_Made.R (r : (List api_Unit)) (u : Value) (G : List Hp) : Prop := ∃ (a0 : Option Addr) (n0 : Nat) (H0 : Hp), SliceO k_api_Unit 47 r a0 n0 H0 ∧ u = (.slice a0 (List.length r) n0) ∧ G = [H0]
set_option maxHeartbeats 4000000 in
theorem ref21_Made.c {a_l : Option Addr} {n_l : Nat} (w : Int) (h : Int) (l : (List Int)) (r : (List api_Unit)) (F : Hp) (H : ref21_Made.f w h l = some r) (h_l : SliceR (Fl.int .i64) l a_l F) (c_l : List.length l ≤ n_l) :
    CallsL Try.prog 41 [(.int .i64 w), (.int .i64 h), (.slice a_l (List.length l) n_l)] [F] (fun qp : { qp : Value × List Hp // ref21_Made.R r qp.1 qp.2 } => qp.1.1) (fun qp => (qp.1.2 ++ []) ++ [F]) := by
  unfold ref21_Made.f at H
  refine calls_atL [(0, (.int .i64 w)), (1, (.int .i64 h)), (2, (.slice a_l (List.length l) n_l))] Try.func41 rfl rfl ⟨rfl, rfl, rfl, trivial⟩ (fun W => ?_)
  refine at_seq ?_
  refine at_region [0] rfl ?_
  refine at_s T rfl ?_
  refine at_end ?_
  refine at_sub [(0, (.int .i64 w)), (1, (.int .i64 h)), (2, (.slice a_l (List.length l) n_l))] ⟨rfl, rfl, rfl, trivial⟩ ?_
  refine at_then ?_
  refine at_seq ?_
  refine at_region [0] rfl ?_
  refine at_s T rfl ?_
  refine at_end ?_
  refine at_sub [(0, (.int .i64 w)), (1, (.int .i64 h)), (2, (.slice a_l (List.length l) n_l)), (7, (.slice none 0 0))] ⟨rfl, rfl, rfl, rfl, trivial⟩ ?_
  refine at_then ?_
  refine at_seq ?_
  refine at_seq ?_
  refine at_region [0] rfl ?_
  refine at_s T rfl ?_
  refine at_end ?_
  refine at_sub [(0, (.int .i64 w)), (1, (.int .i64 h)), (2, (.slice a_l (List.length l) n_l)), (7, (.slice none 0 0)), (8, (.int .i64 0))] ⟨rfl, rfl, rfl, rfl, rfl, trivial⟩ ?_
  refine at_then ?_
  refine at_block ?_
  refine at_addnil ?_
  refine at_loopL (σ := Nat × List api_Unit × Int × Option Addr × Nat × Hp) (fun ⟨k5, x3, x4, a2, n2, H2⟩ => ref21_Made.l0 k5 w h l x3 x4 = some r ∧ SliceO k_api_Unit 47 x3 a2 n2 H2) (fun ⟨k5, x3, x4, a2, n2, H2⟩ => [(0, (.int .i64 w)), (1, (.int .i64 h)), (2, (.slice a_l (List.length l) n_l)), (7, (.slice a2 (List.length x3) n2)), (8, (.int .i64 x4))]) (fun ⟨k5, x3, x4, a2, n2, H2⟩ => [F, H2]) (fun s => s.1) (fuel, [], 0, none, 0, []) [0, 0] ⟨H, SliceO.nil⟩ ⟨rfl, rfl, rfl, rfl, rfl, trivial⟩ rfl ?_
  rintro ⟨k5, x3, x4, a2, n2, H2⟩ ⟨Z1, s2⟩
  replace Z1 : ref21_Made.l0 k5 w h l x3 x4 = some r := Z1
  rcases k5 with _ | k5
  · rw [ref21_Made.l0] at Z1; cases Z1
  · rw [ref21_Made.l0] at Z1
    refine at_seq ?_
    refine at_seq ?_
    refine at_region [0, 1, 2, 3, 4, 5, 6, 7, 8] rfl ?_
    iterate 5 refine at_s T rfl ?_
    refine at_grp T [5, 6, 7, 8] (s := 16) (c := (decide (x4 < (List.length l : Int)))) [(0, (.int .i64 w)), (1, (.int .i64 h)), (2, (.slice a_l (List.length l) n_l)), (7, (.slice a2 (List.length x3) n2)), (8, (.int .i64 x4)), (20, (.bool ((decide (x4 < (List.length l : Int))) && (decide ((List.length x3 : Int) < 12)))))] rfl rfl rfl (fun c2 => ⟨rfl, rfl, rfl, rfl, rfl, (by rw [c2]; rfl), trivial⟩) (fun c2 => ⟨rfl, rfl, rfl, rfl, rfl, (by rw [c2]; rfl), trivial⟩) ?_
    refine at_end ?_
    refine at_sub [(0, (.int .i64 w)), (1, (.int .i64 h)), (2, (.slice a_l (List.length l) n_l)), (7, (.slice a2 (List.length x3) n2)), (8, (.int .i64 x4)), (20, (.bool ((decide (x4 < (List.length l : Int))) && (decide ((List.length x3 : Int) < 12)))))] ⟨rfl, rfl, rfl, rfl, rfl, rfl, trivial⟩ ?_
    refine at_then ?_
    refine at_cond rfl (fun c3 => ?_) (fun c3 => ?_)
    · replace Z1 := if_t c3 Z1
      refine at_skip ?_
      refine at_then ?_
      obtain ⟨z7, Z4, Z1⟩ := bind_e Z1
      refine at_seq_mid (σ := List api_Unit × Option Addr × Nat × Hp) (fun ⟨x6, a3, n3, H3⟩ => x6 = z7 ∧ SliceO k_api_Unit 47 x6 a3 n3 H3) (fun ⟨x6, a3, n3, H3⟩ => [(0, (.int .i64 w)), (1, (.int .i64 h)), (2, (.slice a_l (List.length l) n_l)), (7, (.slice a3 (List.length x6) n3)), (8, (.int .i64 x4))]) (fun ⟨x6, a3, n3, H3⟩ => [F, H3]) ?_ ?_
      · refine at_block ?_
        refine at_seq ?_
        refine at_region [0, 1, 2, 3, 4, 5, 6, 7, 8, 9] rfl ?_
        iterate 2 refine at_s T rfl ?_
        obtain ⟨c5, Z4⟩ := chk_e Z4
        obtain ⟨q4, o4, e4⟩ := h_l.addr c5.1 c5.2
        refine at_v rfl (g_index T rfl rfl rfl rfl rfl e4 c5.1 c5.2) ?_
        refine at_v rfl (g_load T rfl rfl rfl rfl (in_elem1 (k := (Fl.int .i64)) (ro_of h_l (j := 0) rfl) e4 c5 0 rfl)) ?_
        iterate 4 refine at_s T rfl ?_
        obtain ⟨v8, V6, Z4⟩ := bind_e Z4
        refine at_cons (at_c (B := fun _ => []) [] rfl rfl rfl rfl has15 rfl rfl (ref1_Within.c (rd l x4) 0 (w64 ((w64 (w * h)) - 1)) v8 _ V6) (fun _ => ?_))
        refine at_s T rfl ?_
        refine at_end ?_
        refine at_sub [(0, (.int .i64 w)), (1, (.int .i64 h)), (2, (.slice a_l (List.length l) n_l)), (7, (.slice a2 (List.length x3) n2)), (8, (.int .i64 x4)), (9, (.int .i64 v8))] ⟨rfl, rfl, rfl, rfl, rfl, rfl, trivial⟩ ?_
        refine at_then ?_
        refine at_seq ?_
        refine at_region [0] rfl ?_
        refine at_s T rfl ?_
        refine at_end ?_
        refine at_sub [(0, (.int .i64 w)), (1, (.int .i64 h)), (2, (.slice a_l (List.length l) n_l)), (7, (.slice a2 (List.length x3) n2)), (8, (.int .i64 x4)), (9, (.int .i64 v8)), (10, (.bool true))] ⟨rfl, rfl, rfl, rfl, rfl, rfl, rfl, trivial⟩ ?_
        refine at_then ?_
        refine at_seq ?_
        refine at_seq ?_
        refine at_region [0] rfl ?_
        refine at_s T rfl ?_
        refine at_end ?_
        refine at_sub [(0, (.int .i64 w)), (1, (.int .i64 h)), (2, (.slice a_l (List.length l) n_l)), (7, (.slice a2 (List.length x3) n2)), (8, (.int .i64 x4)), (9, (.int .i64 v8)), (10, (.bool true)), (11, (.int .i64 0))] ⟨rfl, rfl, rfl, rfl, rfl, rfl, rfl, rfl, trivial⟩ ?_
        refine at_then ?_
        refine at_block ?_
        refine at_loopL (σ := Nat × Bool × Int) (fun ⟨k13, x11, x12⟩ => ref21_Made.l1 k13 w h l x3 x4 v8 x11 x12 = some z7) (fun ⟨k13, x11, x12⟩ => [(0, (.int .i64 w)), (1, (.int .i64 h)), (2, (.slice a_l (List.length l) n_l)), (7, (.slice a2 (List.length x3) n2)), (8, (.int .i64 x4)), (9, (.int .i64 v8)), (10, (.bool x11)), (11, (.int .i64 x12))]) (fun ⟨k13, x11, x12⟩ => [F, H2]) (fun s => s.1) (fuel, true, 0) [0, 0] Z4 ⟨rfl, rfl, rfl, rfl, rfl, rfl, rfl, rfl, trivial⟩ rfl ?_
        rintro ⟨k13, x11, x12⟩ Z7
        replace Z7 : ref21_Made.l1 k13 w h l x3 x4 v8 x11 x12 = some z7 := Z7
        rcases k13 with _ | k13
        · rw [ref21_Made.l1] at Z7; cases Z7
        · rw [ref21_Made.l1] at Z7
          refine at_seq ?_
          refine at_seq ?_
          refine at_region [0, 1, 2, 3] rfl ?_
          iterate 4 refine at_s T rfl ?_
          refine at_end ?_
          refine at_sub [(0, (.int .i64 w)), (1, (.int .i64 h)), (2, (.slice a_l (List.length l) n_l)), (7, (.slice a2 (List.length x3) n2)), (8, (.int .i64 x4)), (9, (.int .i64 v8)), (10, (.bool x11)), (11, (.int .i64 x12)), (35, (.bool (decide (x12 < (List.length x3 : Int)))))] ⟨rfl, rfl, rfl, rfl, rfl, rfl, rfl, rfl, rfl, trivial⟩ ?_
          refine at_then ?_
          refine at_cond rfl (fun c8 => ?_) (fun c8 => ?_)
          · replace Z7 := if_t (of_decide_eq_true c8) Z7
            refine at_skip ?_
            refine at_then ?_
            refine at_seq ?_
            refine at_block ?_
            refine at_region [0, 1, 2, 3, 4, 5, 6, 7, 8, 9, 10] rfl ?_
            iterate 2 refine at_s T rfl ?_
            refine at_case (s := 39) rfl (fun c9 => ?_) (fun c9 => ?_)
            · replace Z7 := if_t c9 Z7
              iterate 2 refine at_s T rfl ?_
              obtain ⟨c10, Z7⟩ := chk_e Z7
              obtain ⟨q5, o5, e5⟩ := s2.r.addr c10.1 c10.2
              refine at_v rfl (g_index T rfl rfl rfl rfl rfl e5 c10.1 c10.2) ?_
              refine at_s T rfl ?_
              refine at_v rfl (g_load T rfl rfl rfl rfl (in_elem1 (k := k_api_Unit) (own_of s2 (j := 1) rfl) e5 c10 1 rfl)) ?_
              iterate 4 refine at_s T rfl ?_
              refine at_end ?_
              refine at_sub [(0, (.int .i64 w)), (1, (.int .i64 h)), (2, (.slice a_l (List.length l) n_l)), (7, (.slice a2 (List.length x3) n2)), (8, (.int .i64 x4)), (9, (.int .i64 v8)), (10, (.bool ((rd x3 x12).Cell != v8))), (11, (.int .i64 x12))] ⟨rfl, rfl, rfl, rfl, rfl, rfl, rfl, rfl, trivial⟩ ?_
              refine at_nb ?_
              refine at_then ?_
              refine at_region [0, 1, 2] rfl ?_
              iterate 3 refine at_s T rfl ?_
              refine at_end ?_
              refine at_sub [(0, (.int .i64 w)), (1, (.int .i64 h)), (2, (.slice a_l (List.length l) n_l)), (7, (.slice a2 (List.length x3) n2)), (8, (.int .i64 x4)), (9, (.int .i64 v8)), (10, (.bool ((rd x3 x12).Cell != v8))), (11, (.int .i64 (w64 (x12 + 1))))] ⟨rfl, rfl, rfl, rfl, rfl, rfl, rfl, rfl, trivial⟩ ?_
              refine at_then ?_
              exact at_roundL (k13, ((rd x3 x12).Cell != v8), (w64 (x12 + 1))) [0, 0] Z7 (Nat.lt_succ_self _) ⟨rfl, rfl, rfl, rfl, rfl, rfl, rfl, rfl, trivial⟩ rfl
            · replace Z7 := if_f (bf c9) Z7
              iterate 9 refine at_s T rfl ?_
              refine at_end ?_
              refine at_sub [(0, (.int .i64 w)), (1, (.int .i64 h)), (2, (.slice a_l (List.length l) n_l)), (7, (.slice a2 (List.length x3) n2)), (8, (.int .i64 x4)), (9, (.int .i64 v8)), (10, (.bool false)), (11, (.int .i64 x12))] ⟨rfl, rfl, rfl, rfl, rfl, rfl, rfl, rfl, trivial⟩ ?_
              refine at_nb ?_
              refine at_then ?_
              refine at_region [0, 1, 2] rfl ?_
              iterate 3 refine at_s T rfl ?_
              refine at_end ?_
              refine at_sub [(0, (.int .i64 w)), (1, (.int .i64 h)), (2, (.slice a_l (List.length l) n_l)), (7, (.slice a2 (List.length x3) n2)), (8, (.int .i64 x4)), (9, (.int .i64 v8)), (10, (.bool false)), (11, (.int .i64 (w64 (x12 + 1))))] ⟨rfl, rfl, rfl, rfl, rfl, rfl, rfl, rfl, trivial⟩ ?_
              refine at_then ?_
              exact at_roundL (k13, false, (w64 (x12 + 1))) [0, 0] Z7 (Nat.lt_succ_self _) ⟨rfl, rfl, rfl, rfl, rfl, rfl, rfl, rfl, trivial⟩ rfl
          · replace Z7 := if_f (of_decide_eq_false c8) Z7
            refine at_exit ?_
            refine at_xt ?_
            refine at_xt ?_
            refine at_xb ?_
            refine at_then ?_
            refine at_seq ?_
            refine at_region [0] rfl ?_
            refine at_s T rfl ?_
            refine at_end ?_
            refine at_sub [(0, (.int .i64 w)), (1, (.int .i64 h)), (2, (.slice a_l (List.length l) n_l)), (7, (.slice a2 (List.length x3) n2)), (8, (.int .i64 x4)), (9, (.int .i64 v8)), (48, (.bool x11))] ⟨rfl, rfl, rfl, rfl, rfl, rfl, rfl, trivial⟩ ?_
            refine at_then ?_
            refine at_cond rfl (fun c11 => ?_) (fun c11 => ?_)
            · replace Z7 := if_t c11 Z7
              refine at_region_m [[], [], [1], [1, 2], [], [], [4, 5], [4, 5, 6], [4, 5, 6, 7], [1, 2, 3, 4, 5, 6, 7, 8], [], [], [], [11, 12], [11, 12, 13], [11, 12, 13, 14], [], [], [16, 17], [16, 17, 18], [11, 12, 13, 14, 15, 16, 17, 18, 19], [1, 2, 3, 4, 5, 6, 7, 8, 9, 10, 11, 12, 13, 14, 15, 16, 17, 18, 19, 20], [1, 2, 3, 4, 5, 6, 7, 8, 9, 10, 11, 12, 13, 14, 15, 16, 17, 18, 19, 20, 21], [0, 1, 2, 3, 4, 5, 6, 7, 8, 9, 10, 11, 12, 13, 14, 15, 16, 17, 18, 19, 20, 21, 22], [0, 1, 2, 3, 4, 5, 6, 7, 8, 9, 10, 11, 12, 13, 14, 15, 16, 17, 18, 19, 20, 21, 22, 23]] [23] [F, H2] mix (by kernel_rfl) (by repeat first | exact pf_body | refine pf_then ?_ | refine pf_block ?_) (fun hg pf => ?_)
              refine atm_s T 0 hg pf (by kernel_rfl) (still_o [0, 0] rfl) rfl ?_
              refine atm_s T 1 hg pf (by kernel_rfl) (still_o [0, 0] rfl) rfl ?_
              refine atm_s T 2 hg pf (by kernel_rfl) (still_o [0, 0] rfl) rfl ?_
              refine atm_s T 3 hg pf (by kernel_rfl) (still_o [0, 0] rfl) rfl ?_
              refine atm_s T 4 hg pf (by kernel_rfl) (still_o [0, 0] rfl) rfl ?_
              refine atm_s T 5 hg pf (by kernel_rfl) (still_o [0, 0] rfl) rfl ?_
              obtain ⟨c12, Z7⟩ := chk_e Z7
              obtain ⟨q6, o6, e6⟩ := h_l.addr c12.1 c12.2
              refine atm_v 6 hg pf (by kernel_rfl) (still_o [0, 0] rfl) rfl rfl (g_index T rfl rfl rfl rfl rfl e6 c12.1 c12.2) ?_
              refine atm_v 7 hg pf (by kernel_rfl) (still_o [0, 0] rfl) rfl rfl (g_load T rfl rfl rfl rfl (in_elem1 (k := (Fl.int .i64)) (ro_of h_l (j := 0) rfl) e6 c12 0 rfl)) ?_
              refine atm_s T 8 hg pf (by kernel_rfl) (still_o [0, 0] rfl) rfl ?_
              refine atm_s T 9 hg pf (by kernel_rfl) (still_o [0, 0] rfl) rfl ?_
              refine atm_s T 10 hg pf (by kernel_rfl) (still_o [0, 0] rfl) rfl ?_
              refine atm_s T 11 hg pf (by kernel_rfl) (still_o [0, 0] rfl) rfl ?_
              refine atm_s T 12 hg pf (by kernel_rfl) (still_o [0, 0] rfl) rfl ?_
              refine atm_v 13 hg pf (by kernel_rfl) (still_o [0, 0] rfl) rfl rfl (g_index T rfl rfl rfl rfl rfl e6 c12.1 c12.2) ?_
              refine atm_v 14 hg pf (by kernel_rfl) (still_o [0, 0] rfl) rfl rfl (g_load T rfl rfl rfl rfl (in_elem1 (k := (Fl.int .i64)) (ro_of h_l (j := 0) rfl) e6 c12 0 rfl)) ?_
              refine atm_s T 15 hg pf (by kernel_rfl) (still_o [0, 0] rfl) rfl ?_
              refine atm_s T 16 hg pf (by kernel_rfl) (still_o [0, 0] rfl) rfl ?_
              refine atm_s T 17 hg pf (by kernel_rfl) (still_o [0, 0] rfl) rfl ?_
              refine atm_s T 18 hg pf (by kernel_rfl) (still_o [0, 0] rfl) rfl ?_
              refine atm_s T 19 hg pf (by kernel_rfl) (still_o [0, 0] rfl) rfl ?_
              refine atm_one 20 (by kernel_rfl) ?_
              obtain ⟨v14, V13, Z7⟩ := bind_e Z7
              refine at_c (B := fun _ => []) [] rfl rfl rfl rfl has15 rfl rfl (ref1_Within.c (w64 (Int.tdiv (rd l x4) 5)) 0 (w64 ((w64 (w * h)) - 1)) v14 _ V13) (fun _ => ?_)
              refine atm_next (still_o [0, 0] rfl) ?_
              refine atm_s T 21 hg pf (by kernel_rfl) (still_o [0, 0] rfl) rfl ?_
              refine atm_one 22 (by kernel_rfl) ?_
              refine at_bs (k := k_api_Unit) T [(api_Unit.mk (w64 ((w64 ((List.length x3 : Int) * 2)) + (w64 (BitVec.toNat (BitVec.ofInt (IntKind.bits .i64) (rd l x4) &&& BitVec.ofInt (IntKind.bits .i64) 1))))) v8 v14)] rfl rfl rfl rfl rfl rfl rfl rfl rfl (fun a7 H7 s7 => ?_)
              refine atm_next (still_o [0, 0] rfl) ?_
              refine atm_one 23 (by kernel_rfl) ?_
              obtain ⟨c14, Z7⟩ := chk_e Z7
              refine at_ap (k := k_api_Unit) (xs := x3) T (g := 1) rfl rfl rfl rfl rfl rfl rfl rfl rfl rfl s2 (own_of s7 (j := 2) rfl) c14 rfl (fun a8 n8 H8 s8 => ?_)
              refine atm_next (still_l (by kernel_rfl)) ?_
              refine atm_s T 24 hg pf (by kernel_rfl) (still_l (by kernel_rfl)) rfl ?_
              refine atm_end (by kernel_rfl) ?_
              refine at_to [(0, (.int .i64 w)), (1, (.int .i64 h)), (2, (.slice a_l (List.length l) n_l)), (7, (.slice a8 (List.length (x3 ++ [(api_Unit.mk (w64 ((w64 ((List.length x3 : Int) * 2)) + (w64 (BitVec.toNat (BitVec.ofInt (IntKind.bits .i64) (rd l x4) &&& BitVec.ofInt (IntKind.bits .i64) 1))))) v8 v14)])) n8)), (8, (.int .i64 x4))] [0, 0] [F, H8] ⟨rfl, rfl, rfl, rfl, rfl, trivial⟩ rfl ?_
              refine at_nb ?_
              refine at_then ?_
              obtain rfl := Option.some.inj Z7
              exact at_mid ((x3 ++ [(api_Unit.mk (w64 ((w64 ((List.length x3 : Int) * 2)) + (w64 (BitVec.toNat (BitVec.ofInt (IntKind.bits .i64) (rd l x4) &&& BitVec.ofInt (IntKind.bits .i64) 1))))) v8 v14)]), a8, n8, H8) [0, 0] ⟨rfl, s8⟩ ⟨rfl, rfl, rfl, rfl, rfl, trivial⟩ rfl
            · replace Z7 := if_f (bf c11) Z7
              refine at_skip ?_
              refine at_nb ?_
              refine at_then ?_
              obtain rfl := Option.some.inj Z7
              exact at_mid (x3, a2, n2, H2) [0, 0] ⟨rfl, s2⟩ ⟨rfl, rfl, rfl, rfl, rfl, trivial⟩ rfl
      · rintro ⟨x6, a3, n3, H3⟩ ⟨rfl, s3⟩
        refine at_region [0, 1, 2] rfl ?_
        iterate 3 refine at_s T rfl ?_
        refine at_end ?_
        refine at_sub [(0, (.int .i64 w)), (1, (.int .i64 h)), (2, (.slice a_l (List.length l) n_l)), (7, (.slice a3 (List.length x6) n3)), (8, (.int .i64 (w64 (x4 + 1))))] ⟨rfl, rfl, rfl, rfl, rfl, trivial⟩ ?_
        refine at_then ?_
        exact at_roundL (k5, x6, (w64 (x4 + 1)), a3, n3, H3) [0, 0] ⟨Z1, s3⟩ (Nat.lt_succ_self _) ⟨rfl, rfl, rfl, rfl, rfl, trivial⟩ rfl
    · replace Z1 := if_f (bf c3) Z1
      refine at_exit ?_
      refine at_xt ?_
      refine at_xt ?_
      refine at_xb ?_
      refine at_then ?_
      refine at_seq ?_
      refine at_region [0, 1] rfl ?_
      iterate 2 refine at_s T rfl ?_
      refine at_end ?_
      refine at_sub [(6, (.slice a2 (List.length x3) n2))] ⟨rfl, trivial⟩ ?_
      refine at_then ?_
      refine at_ret ?_
      obtain rfl := Option.some.inj Z1
      exact at_post (T := T) rfl (.tmp rfl .nil) (fun w o => ⟨⟨(_, _), ⟨a2, n2, H2, s2, rfl, rfl⟩⟩, rfl, own_to [1, 0] rfl o⟩)

/-! ### herdsman/herdsmanref21.May: function 45 -/
def ref21_May.l1 : Nat → (List api_Unit) → Int → Int → Option (Sum Bool Unit)
  | 0, _, _, _ => none
  | k14 + 1, l, x3, x13 => if x13 < x3 then (if (0 ≤ x13 ∧ x13 < (List.length l : Int)) then (if (0 ≤ x3 ∧ x3 < (List.length l : Int)) then (if ((rd l x13).Cell == (rd l x3).Cell) = true then (some (Sum.inl false)) else (ref21_May.l1 k14 l x3 (w64 (x13 + 1)))) else none) else none) else (some (Sum.inr ()))
def ref21_May.l0 : Nat → Int → Int → (List api_Unit) → Int → Option Bool
  | 0, _, _, _, _ => none
  | k4 + 1, w, h, l, x3 => if x3 < (List.length l : Int) then (((if (0 ≤ x3 ∧ x3 < (List.length l : Int)) then (if (rd l x3).Id < 0 then (some true) else (if x3 > 0 then (if (0 ≤ (w64 (x3 - 1)) ∧ (w64 (x3 - 1)) < (List.length l : Int)) then (if (rd l x3).Id ≤ (rd l (w64 (x3 - 1))).Id then (some true) else ((ref1_IsCell.f w h ((rd l x3).Cell)).bind fun v8 => if (!v8) = true then (some true) else ((ref1_IsCell.f w h ((rd l x3).Goal)).bind fun v9 => some (!v9)))) else none) else ((ref1_IsCell.f w h ((rd l x3).Cell)).bind fun v10 => if (!v10) = true then (some true) else ((ref1_IsCell.f w h ((rd l x3).Goal)).bind fun v11 => some (!v11))))) else none).bind fun x6 => if x6 = true then (some (Sum.inl false)) else (ref21_May.l1 fuel l x3 0)).bind fun zz => match zz with | Sum.inl q => some q | Sum.inr _ => ref21_May.l0 k4 w h l (w64 (x3 + 1))) else (some true)
def ref21_May.f (w : Int) (h : Int) (l : (List api_Unit)) : Option Bool := (ref1_May.f w h).bind fun v1 => if (!v1) = true then (some false) else (ref21_May.l0 fuel w h l 0)
set_option maxHeartbeats 4000000 in
theorem ref21_May.c {a_l : Option Addr} {n_l : Nat} (w : Int) (h : Int) (l : (List api_Unit)) (r : Bool) (F : Hp) (H : ref21_May.f w h l = some r) (h_l : SliceR k_api_Unit l a_l F) (c_l : List.length l ≤ n_l) :
    CallsL Try.prog 45 [(.int .i64 w), (.int .i64 h), (.slice a_l (List.length l) n_l)] [F] (fun _ : Unit => (.bool r)) (fun _ => [F]) := by
  unfold ref21_May.f at H
  refine calls_atL [(0, (.int .i64 w)), (1, (.int .i64 h)), (2, (.slice a_l (List.length l) n_l))] Try.func45 rfl rfl ⟨rfl, rfl, rfl, trivial⟩ (fun W => ?_)
  refine at_seq ?_
  refine at_region [0] rfl ?_
  refine at_s T rfl ?_
  refine at_end ?_
  refine at_sub [(0, (.int .i64 w)), (1, (.int .i64 h)), (2, (.slice a_l (List.length l) n_l))] ⟨rfl, rfl, rfl, trivial⟩ ?_
  refine at_then ?_
  refine at_seq ?_
  refine at_seq ?_
  refine at_region [0, 1, 2, 3] rfl ?_
  iterate 2 refine at_s T rfl ?_
  obtain ⟨v1, V1, H⟩ := bind_e H
  refine at_cons (at_c (B := fun _ => []) [] rfl rfl rfl rfl has61 rfl rfl (ref1_May.c w h v1 _ V1) (fun _ => ?_))
  refine at_s T rfl ?_
  refine at_end ?_
  refine at_sub [(0, (.int .i64 w)), (1, (.int .i64 h)), (2, (.slice a_l (List.length l) n_l)), (12, (.bool (!v1)))] ⟨rfl, rfl, rfl, rfl, trivial⟩ ?_
  refine at_then ?_
  refine at_cond rfl (fun c2 => ?_) (fun c2 => ?_)
  · replace H := if_t c2 H
    refine at_seq ?_
    refine at_region [0] rfl ?_
    refine at_s T rfl ?_
    refine at_end ?_
    refine at_sub [(6, (.bool false))] ⟨rfl, trivial⟩ ?_
    refine at_then ?_
    refine at_ret ?_
    refine at_rt ?_
    obtain rfl := Option.some.inj H
    exact at_post (T := T) rfl (.tmp rfl .nil) (fun w o => ⟨(), rfl, own_to [0] rfl o⟩)
  · replace H := if_f (bf c2) H
    refine at_skip ?_
    refine at_then ?_
    refine at_seq ?_
    refine at_seq ?_
    refine at_region [0] rfl ?_
    refine at_s T rfl ?_
    refine at_end ?_
    refine at_sub [(0, (.int .i64 w)), (1, (.int .i64 h)), (2, (.slice a_l (List.length l) n_l)), (7, (.int .i64 0))] ⟨rfl, rfl, rfl, rfl, trivial⟩ ?_
    refine at_then ?_
    refine at_block ?_
    refine at_loopL (σ := Nat × Int) (fun ⟨k4, x3⟩ => ref21_May.l0 k4 w h l x3 = some r) (fun ⟨k4, x3⟩ => [(0, (.int .i64 w)), (1, (.int .i64 h)), (2, (.slice a_l (List.length l) n_l)), (7, (.int .i64 x3))]) (fun ⟨k4, x3⟩ => [F]) (fun s => s.1) (fuel, 0) [0] H ⟨rfl, rfl, rfl, rfl, trivial⟩ rfl ?_
    rintro ⟨k4, x3⟩ Z3
    replace Z3 : ref21_May.l0 k4 w h l x3 = some r := Z3
    rcases k4 with _ | k4
    · rw [ref21_May.l0] at Z3; cases Z3
    · rw [ref21_May.l0] at Z3
      refine at_seq ?_
      refine at_seq ?_
      refine at_region [0, 1, 2, 3] rfl ?_
      iterate 4 refine at_s T rfl ?_
      refine at_end ?_
      refine at_sub [(0, (.int .i64 w)), (1, (.int .i64 h)), (2, (.slice a_l (List.length l) n_l)), (7, (.int .i64 x3)), (16, (.bool (decide (x3 < (List.length l : Int)))))] ⟨rfl, rfl, rfl, rfl, rfl, trivial⟩ ?_
      refine at_then ?_
      refine at_cond rfl (fun c4 => ?_) (fun c4 => ?_)
      · replace Z3 := if_t (of_decide_eq_true c4) Z3
        refine at_skip ?_
        refine at_then ?_
        obtain ⟨z5, Z5, Z3⟩ := bind_e Z3
        refine at_seq_mid (σ := Unit) (fun ⟨⟩ => (Sum.inr ()) = z5) (fun ⟨⟩ => [(0, (.int .i64 w)), (1, (.int .i64 h)), (2, (.slice a_l (List.length l) n_l)), (7, (.int .i64 x3))]) (fun ⟨⟩ => [F]) ?_ ?_
        · refine at_block ?_
          refine at_seq ?_
          obtain ⟨z7, Z6, Z5⟩ := bind_e Z5
          refine at_seq_mid (σ := Bool) (fun x6 => x6 = z7) (fun x6 => [(0, (.int .i64 w)), (1, (.int .i64 h)), (2, (.slice a_l (List.length l) n_l)), (7, (.int .i64 x3)), (64, (.bool x6))]) (fun x6 => [F]) ?_ ?_
          · refine at_region_q mix (by kernel_rfl) ?_
            iterate 2 refine atq_s T rfl ?_
            obtain ⟨c7, Z6⟩ := chk_e Z6
            obtain ⟨q1, o1, e1⟩ := h_l.addr c7.1 c7.2
            refine atq_v rfl rfl rfl (g_index T rfl rfl rfl rfl rfl e1 c7.1 c7.2) ?_
            refine atq_s T rfl ?_
            refine atq_v rfl rfl rfl (g_load T rfl rfl rfl rfl (in_elem1 (k := k_api_Unit) (ro_of h_l (j := 0) rfl) e1 c7 0 rfl)) ?_
            iterate 2 refine atq_s T rfl ?_
            refine atq_case (s := 25) rfl (fun c8 => ?_) (fun c8 => ?_)
            · replace Z6 := if_t (of_decide_eq_true c8) Z6
              iterate 39 refine atq_s T rfl ?_
              refine atq_end ?_
              refine at_sub [(0, (.int .i64 w)), (1, (.int .i64 h)), (2, (.slice a_l (List.length l) n_l)), (7, (.int .i64 x3)), (64, (.bool true))] ⟨rfl, rfl, rfl, rfl, rfl, trivial⟩ ?_
              refine at_then ?_
              obtain rfl := Option.some.inj Z6
              exact at_mid true [0] rfl ⟨rfl, rfl, rfl, rfl, rfl, trivial⟩ rfl
            · replace Z6 := if_f (of_decide_eq_false c8) Z6
              iterate 3 refine atq_s T rfl ?_
              refine atq_case (s := 28) rfl (fun c9 => ?_) (fun c9 => ?_)
              · replace Z6 := if_t (of_decide_eq_true c9) Z6
                iterate 2 refine atq_s T rfl ?_
                refine atq_v rfl rfl rfl (g_index T rfl rfl rfl rfl rfl e1 c7.1 c7.2) ?_
                refine atq_s T rfl ?_
                refine atq_v rfl rfl rfl (g_load T rfl rfl rfl rfl (in_elem1 (k := k_api_Unit) (ro_of h_l (j := 0) rfl) e1 c7 0 rfl)) ?_
                iterate 3 refine atq_s T rfl ?_
                obtain ⟨c10, Z6⟩ := chk_e Z6
                refine atq_v rfl rfl rfl (g_index T rfl rfl rfl rfl rfl e1 c10.1 c10.2) ?_
                refine atq_s T rfl ?_
                refine atq_v rfl rfl rfl (g_load T rfl rfl rfl rfl (in_elem1 (k := k_api_Unit) (ro_of h_l (j := 0) rfl) e1 c10 0 rfl)) ?_
                iterate 4 refine atq_s T rfl ?_
                refine atq_case (s := 43) rfl (fun c11 => ?_) (fun c11 => ?_)
                · replace Z6 := if_t (of_decide_eq_true c11) Z6
                  iterate 21 refine atq_s T rfl ?_
                  refine atq_end ?_
                  refine at_sub [(0, (.int .i64 w)), (1, (.int .i64 h)), (2, (.slice a_l (List.length l) n_l)), (7, (.int .i64 x3)), (64, (.bool true))] ⟨rfl, rfl, rfl, rfl, rfl, trivial⟩ ?_
                  refine at_then ?_
                  obtain rfl := Option.some.inj Z6
                  exact at_mid true [0] rfl ⟨rfl, rfl, rfl, rfl, rfl, trivial⟩ rfl
                · replace Z6 := if_f (of_decide_eq_false c11) Z6
                  iterate 4 refine atq_s T rfl ?_
                  refine atq_v rfl rfl rfl (g_index T rfl rfl rfl rfl rfl e1 c7.1 c7.2) ?_
                  refine atq_s T rfl ?_
                  refine atq_v rfl rfl rfl (g_load T rfl rfl rfl rfl (in_elem1 (k := k_api_Unit) (ro_of h_l (j := 0) rfl) e1 c7 1 rfl)) ?_
                  obtain ⟨v8, V12, Z6⟩ := bind_e Z6
                  refine atq_c rfl rfl rfl rfl rfl rfl has62 rfl (ref1_IsCell.c w h ((rd l x3).Cell) v8 _ V12) ?_
                  iterate 3 refine atq_s T rfl ?_
                  refine atq_case (s := 54) rfl (fun c13 => ?_) (fun c13 => ?_)
                  · replace Z6 := if_t c13 Z6
                    iterate 10 refine atq_s T rfl ?_
                    refine atq_end ?_
                    refine at_sub [(0, (.int .i64 w)), (1, (.int .i64 h)), (2, (.slice a_l (List.length l) n_l)), (7, (.int .i64 x3)), (64, (.bool true))] ⟨rfl, rfl, rfl, rfl, rfl, trivial⟩ ?_
                    refine at_then ?_
                    obtain rfl := Option.some.inj Z6
                    exact at_mid true [0] rfl ⟨rfl, rfl, rfl, rfl, rfl, trivial⟩ rfl
                  · replace Z6 := if_f (bf c13) Z6
                    iterate 4 refine atq_s T rfl ?_
                    refine atq_v rfl rfl rfl (g_index T rfl rfl rfl rfl rfl e1 c7.1 c7.2) ?_
                    refine atq_s T rfl ?_
                    refine atq_v rfl rfl rfl (g_load T rfl rfl rfl rfl (in_elem1 (k := k_api_Unit) (ro_of h_l (j := 0) rfl) e1 c7 2 rfl)) ?_
                    obtain ⟨v9, V14, Z6⟩ := bind_e Z6
                    refine atq_c rfl rfl rfl rfl rfl rfl has62 rfl (ref1_IsCell.c w h ((rd l x3).Goal) v9 _ V14) ?_
                    iterate 2 refine atq_s T rfl ?_
                    refine atq_end ?_
                    refine at_sub [(0, (.int .i64 w)), (1, (.int .i64 h)), (2, (.slice a_l (List.length l) n_l)), (7, (.int .i64 x3)), (64, (.bool (!v9)))] ⟨rfl, rfl, rfl, rfl, rfl, trivial⟩ ?_
                    refine at_then ?_
                    obtain rfl := Option.some.inj Z6
                    exact at_mid (!v9) [0] rfl ⟨rfl, rfl, rfl, rfl, rfl, trivial⟩ rfl
              · replace Z6 := if_f (of_decide_eq_false c9) Z6
                iterate 19 refine atq_s T rfl ?_
                refine atq_v rfl rfl rfl (g_index T rfl rfl rfl rfl rfl e1 c7.1 c7.2) ?_
                refine atq_s T rfl ?_
                refine atq_v rfl rfl rfl (g_load T rfl rfl rfl rfl (in_elem1 (k := k_api_Unit) (ro_of h_l (j := 0) rfl) e1 c7 1 rfl)) ?_
                obtain ⟨v10, V15, Z6⟩ := bind_e Z6
                refine atq_c rfl rfl rfl rfl rfl rfl has62 rfl (ref1_IsCell.c w h ((rd l x3).Cell) v10 _ V15) ?_
                iterate 3 refine atq_s T rfl ?_
                refine atq_case (s := 54) rfl (fun c16 => ?_) (fun c16 => ?_)
                · replace Z6 := if_t c16 Z6
                  iterate 10 refine atq_s T rfl ?_
                  refine atq_end ?_
                  refine at_sub [(0, (.int .i64 w)), (1, (.int .i64 h)), (2, (.slice a_l (List.length l) n_l)), (7, (.int .i64 x3)), (64, (.bool true))] ⟨rfl, rfl, rfl, rfl, rfl, trivial⟩ ?_
                  refine at_then ?_
                  obtain rfl := Option.some.inj Z6
                  exact at_mid true [0] rfl ⟨rfl, rfl, rfl, rfl, rfl, trivial⟩ rfl
                · replace Z6 := if_f (bf c16) Z6
                  iterate 4 refine atq_s T rfl ?_
                  refine atq_v rfl rfl rfl (g_index T rfl rfl rfl rfl rfl e1 c7.1 c7.2) ?_
                  refine atq_s T rfl ?_
                  refine atq_v rfl rfl rfl (g_load T rfl rfl rfl rfl (in_elem1 (k := k_api_Unit) (ro_of h_l (j := 0) rfl) e1 c7 2 rfl)) ?_
                  obtain ⟨v11, V17, Z6⟩ := bind_e Z6
                  refine atq_c rfl rfl rfl rfl rfl rfl has62 rfl (ref1_IsCell.c w h ((rd l x3).Goal) v11 _ V17) ?_
                  iterate 2 refine atq_s T rfl ?_
                  refine atq_end ?_
                  refine at_sub [(0, (.int .i64 w)), (1, (.int .i64 h)), (2, (.slice a_l (List.length l) n_l)), (7, (.int .i64 x3)), (64, (.bool (!v11)))] ⟨rfl, rfl, rfl, rfl, rfl, trivial⟩ ?_
                  refine at_then ?_
                  obtain rfl := Option.some.inj Z6
                  exact at_mid (!v11) [0] rfl ⟨rfl, rfl, rfl, rfl, rfl, trivial⟩ rfl
          · rintro x6 rfl
            refine at_cond rfl (fun c18 => ?_) (fun c18 => ?_)
            · replace Z5 := if_t c18 Z5
              refine at_seq ?_
              refine at_region [0] rfl ?_
              refine at_s T rfl ?_
              refine at_end ?_
              refine at_sub [(6, (.bool false))] ⟨rfl, trivial⟩ ?_
              refine at_then ?_
              refine at_ret ?_
              refine at_rt ?_
              refine at_rb ?_
              refine at_rt ?_
              refine at_rt ?_
              refine at_rb ?_
              refine at_rt ?_
              obtain rfl := Option.some.inj Z5
              obtain rfl := Option.some.inj (show some false = some r from Z3)
              exact at_post (T := T) rfl (.tmp rfl .nil) (fun w o => ⟨(), rfl, own_to [0] rfl o⟩)
            · replace Z5 := if_f (bf c18) Z5
              refine at_skip ?_
              refine at_then ?_
              refine at_seq ?_
              refine at_region [0] rfl ?_
              refine at_s T rfl ?_
              refine at_end ?_
              refine at_sub [(0, (.int .i64 w)), (1, (.int .i64 h)), (2, (.slice a_l (List.length l) n_l)), (7, (.int .i64 x3)), (8, (.int .i64 0))] ⟨rfl, rfl, rfl, rfl, rfl, trivial⟩ ?_
              refine at_then ?_
              refine at_block ?_
              refine at_loopL (σ := Nat × Int) (fun ⟨k14, x13⟩ => ref21_May.l1 k14 l x3 x13 = some z5) (fun ⟨k14, x13⟩ => [(0, (.int .i64 w)), (1, (.int .i64 h)), (2, (.slice a_l (List.length l) n_l)), (7, (.int .i64 x3)), (8, (.int .i64 x13))]) (fun ⟨k14, x13⟩ => [F]) (fun s => s.1) (fuel, 0) [0] Z5 ⟨rfl, rfl, rfl, rfl, rfl, trivial⟩ rfl ?_
              rintro ⟨k14, x13⟩ Z19
              replace Z19 : ref21_May.l1 k14 l x3 x13 = some z5 := Z19
              rcases k14 with _ | k14
              · rw [ref21_May.l1] at Z19; cases Z19
              · rw [ref21_May.l1] at Z19
                refine at_seq ?_
                refine at_seq ?_
                refine at_region [0, 1, 2] rfl ?_
                iterate 3 refine at_s T rfl ?_
                refine at_end ?_
                refine at_sub [(0, (.int .i64 w)), (1, (.int .i64 h)), (2, (.slice a_l (List.length l) n_l)), (7, (.int .i64 x3)), (8, (.int .i64 x13)), (67, (.bool (decide (x13 < x3))))] ⟨rfl, rfl, rfl, rfl, rfl, rfl, trivial⟩ ?_
                refine at_then ?_
                refine at_cond rfl (fun c20 => ?_) (fun c20 => ?_)
                · replace Z19 := if_t (of_decide_eq_true c20) Z19
                  refine at_skip ?_
                  refine at_then ?_
                  refine at_seq ?_
                  refine at_block ?_
                  refine at_seq ?_
                  refine at_region_q mix (by kernel_rfl) ?_
                  iterate 2 refine atq_s T rfl ?_
                  obtain ⟨c21, Z19⟩ := chk_e Z19
                  obtain ⟨q2, o2, e2⟩ := h_l.addr c21.1 c21.2
                  refine atq_v rfl rfl rfl (g_index T rfl rfl rfl rfl rfl e2 c21.1 c21.2) ?_
                  refine atq_s T rfl ?_
                  refine atq_v rfl rfl rfl (g_load T rfl rfl rfl rfl (in_elem1 (k := k_api_Unit) (ro_of h_l (j := 0) rfl) e2 c21 1 rfl)) ?_
                  iterate 2 refine atq_s T rfl ?_
                  obtain ⟨c22, Z19⟩ := chk_e Z19
                  refine atq_v rfl rfl rfl (g_index T rfl rfl rfl rfl rfl e2 c22.1 c22.2) ?_
                  refine atq_s T rfl ?_
                  refine atq_v rfl rfl rfl (g_load T rfl rfl rfl rfl (in_elem1 (k := k_api_Unit) (ro_of h_l (j := 0) rfl) e2 c22 1 rfl)) ?_
                  refine atq_s T rfl ?_
                  refine atq_end ?_
                  refine at_sub [(0, (.int .i64 w)), (1, (.int .i64 h)), (2, (.slice a_l (List.length l) n_l)), (7, (.int .i64 x3)), (8, (.int .i64 x13)), (80, (.bool ((rd l x13).Cell == (rd l x3).Cell)))] ⟨rfl, rfl, rfl, rfl, rfl, rfl, trivial⟩ ?_
                  refine at_then ?_
                  refine at_cond rfl (fun c23 => ?_) (fun c23 => ?_)
                  · replace Z19 := if_t c23 Z19
                    refine at_seq ?_
                    refine at_region [0] rfl ?_
                    refine at_s T rfl ?_
                    refine at_end ?_
                    refine at_sub [(6, (.bool false))] ⟨rfl, trivial⟩ ?_
                    refine at_then ?_
                    refine at_ret ?_
                    refine at_rb ?_
                    refine at_rt ?_
                    refine at_rt ?_
                    refine at_rb ?_
                    refine at_rb ?_
                    refine at_rt ?_
                    refine at_rt ?_
                    refine at_rb ?_
                    refine at_rt ?_
                    obtain rfl := Option.some.inj Z19
                    obtain rfl := Option.some.inj (show some false = some r from Z3)
                    exact at_post (T := T) rfl (.tmp rfl .nil) (fun w o => ⟨(), rfl, own_to [0] rfl o⟩)
                  · replace Z19 := if_f (bf c23) Z19
                    refine at_skip ?_
                    refine at_nb ?_
                    refine at_then ?_
                    refine at_region [0, 1, 2] rfl ?_
                    iterate 3 refine at_s T rfl ?_
                    refine at_end ?_
                    refine at_sub [(0, (.int .i64 w)), (1, (.int .i64 h)), (2, (.slice a_l (List.length l) n_l)), (7, (.int .i64 x3)), (8, (.int .i64 (w64 (x13 + 1))))] ⟨rfl, rfl, rfl, rfl, rfl, trivial⟩ ?_
                    refine at_then ?_
                    exact at_roundL (k14, (w64 (x13 + 1))) [0] Z19 (Nat.lt_succ_self _) ⟨rfl, rfl, rfl, rfl, rfl, trivial⟩ rfl
                · replace Z19 := if_f (of_decide_eq_false c20) Z19
                  refine at_exit ?_
                  refine at_xt ?_
                  refine at_xt ?_
                  refine at_xb ?_
                  refine at_nb ?_
                  refine at_then ?_
                  obtain rfl := Option.some.inj Z19
                  exact at_mid () [0] rfl ⟨rfl, rfl, rfl, rfl, trivial⟩ rfl
        · rintro ⟨⟩ rfl
          refine at_region [0, 1, 2] rfl ?_
          iterate 3 refine at_s T rfl ?_
          refine at_end ?_
          refine at_sub [(0, (.int .i64 w)), (1, (.int .i64 h)), (2, (.slice a_l (List.length l) n_l)), (7, (.int .i64 (w64 (x3 + 1))))] ⟨rfl, rfl, rfl, rfl, trivial⟩ ?_
          refine at_then ?_
          exact at_roundL (k4, (w64 (x3 + 1))) [0] Z3 (Nat.lt_succ_self _) ⟨rfl, rfl, rfl, rfl, trivial⟩ rfl
      · replace Z3 := if_f (of_decide_eq_false c4) Z3
        refine at_exit ?_
        refine at_xt ?_
        refine at_xt ?_
        refine at_xb ?_
        refine at_then ?_
        refine at_seq ?_
        refine at_region [0] rfl ?_
        refine at_s T rfl ?_
        refine at_end ?_
        refine at_sub [(6, (.bool true))] ⟨rfl, trivial⟩ ?_
        refine at_then ?_
        refine at_ret ?_
        obtain rfl := Option.some.inj Z3
        exact at_post (T := T) rfl (.tmp rfl .nil) (fun w o => ⟨(), rfl, own_to [0] rfl o⟩)

/-! ### herdsman/herdsmanref21.Goals: function 50 -/
def ref21_Goals.l1 : Nat → (List api_Unit) → List Int → Int → Bool → Int → Option (List Int)
  | 0, _, _, _, _, _ => none
  | k12 + 1, l, x3, x4, x10, x11 => if x11 < (List.length x3 : Int) then (if x10 = true then (ref21_Goals.l1 k12 l x3 x4 true (w64 (x11 + 1))) else (if (0 ≤ x11 ∧ x11 < (List.length x3 : Int)) then (if (0 ≤ x4 ∧ x4 < (List.length l : Int)) then (ref21_Goals.l1 k12 l x3 x4 ((rd x3 x11) == (rd l x4).Goal) (w64 (x11 + 1))) else none) else none)) else (if (!x10) = true then (if (0 ≤ x4 ∧ x4 < (List.length l : Int)) then (if (List.length x3 + 1 ≤ 1099511627776) then (some (x3 ++ [(rd l x4).Goal])) else none) else none) else (some x3))
def ref21_Goals.l0 : Nat → (List api_Unit) → List Int → Int → Option (List Int)
  | 0, _, _, _ => none
  | k5 + 1, l, x3, x4 => if x4 < (List.length l : Int) then ((ref21_Goals.l1 fuel l x3 x4 false 0).bind fun x6 => ref21_Goals.l0 k5 l x6 (w64 (x4 + 1))) else (some x3)
def ref21_Goals.f (l : (List api_Unit)) : Option (List Int) := ref21_Goals.l0 fuel l [] 0
def ref21_Goals.R (r : (List Int)) (u : Value) (G : List Hp) : Prop := ∃ (a0 : Option Addr) (n0 : Nat) (H0 : Hp), SliceO (Fl.int .i64) 3 r a0 n0 H0 ∧ u = (.slice a0 (List.length r) n0) ∧ G = [H0]
set_option maxHeartbeats 4000000 in
theorem ref21_Goals.c {a_l : Option Addr} {n_l : Nat} (l : (List api_Unit)) (r : (List Int)) (F : Hp) (H : ref21_Goals.f l = some r) (h_l : SliceR k_api_Unit l a_l F) (c_l : List.length l ≤ n_l) :
    CallsL Try.prog 50 [(.slice a_l (List.length l) n_l)] [F] (fun qp : { qp : Value × List Hp // ref21_Goals.R r qp.1 qp.2 } => qp.1.1) (fun qp => (qp.1.2 ++ []) ++ [F]) := by
  unfold ref21_Goals.f at H
  refine calls_atL [(0, (.slice a_l (List.length l) n_l))] Try.func50 rfl rfl ⟨rfl, trivial⟩ (fun W => ?_)
  refine at_seq ?_
  refine at_region [0] rfl ?_
  refine at_s T rfl ?_
  refine at_end ?_
  refine at_sub [(0, (.slice a_l (List.length l) n_l))] ⟨rfl, trivial⟩ ?_
  refine at_then ?_
  refine at_seq ?_
  refine at_region [0] rfl ?_
  refine at_s T rfl ?_
  refine at_end ?_
  refine at_sub [(0, (.slice a_l (List.length l) n_l)), (3, (.slice none 0 0))] ⟨rfl, rfl, trivial⟩ ?_
  refine at_then ?_
  refine at_seq ?_
  refine at_seq ?_
  refine at_region [0] rfl ?_
  refine at_s T rfl ?_
  refine at_end ?_
  refine at_sub [(0, (.slice a_l (List.length l) n_l)), (3, (.slice none 0 0)), (4, (.int .i64 0))] ⟨rfl, rfl, rfl, trivial⟩ ?_
  refine at_then ?_
  refine at_block ?_
  refine at_addnil ?_
  refine at_loopL (σ := Nat × List Int × Int × Option Addr × Nat × Hp) (fun ⟨k5, x3, x4, a2, n2, H2⟩ => ref21_Goals.l0 k5 l x3 x4 = some r ∧ SliceO (Fl.int .i64) 3 x3 a2 n2 H2) (fun ⟨k5, x3, x4, a2, n2, H2⟩ => [(0, (.slice a_l (List.length l) n_l)), (3, (.slice a2 (List.length x3) n2)), (4, (.int .i64 x4))]) (fun ⟨k5, x3, x4, a2, n2, H2⟩ => [F, H2]) (fun s => s.1) (fuel, [], 0, none, 0, []) [0, 0] ⟨H, SliceO.nil⟩ ⟨rfl, rfl, rfl, trivial⟩ rfl ?_
  rintro ⟨k5, x3, x4, a2, n2, H2⟩ ⟨Z1, s2⟩
  replace Z1 : ref21_Goals.l0 k5 l x3 x4 = some r := Z1
  rcases k5 with _ | k5
  · rw [ref21_Goals.l0] at Z1; cases Z1
  · rw [ref21_Goals.l0] at Z1
    refine at_seq ?_
    refine at_seq ?_
    refine at_region [0, 1, 2, 3] rfl ?_
    iterate 4 refine at_s T rfl ?_
    refine at_end ?_
    refine at_sub [(0, (.slice a_l (List.length l) n_l)), (3, (.slice a2 (List.length x3) n2)), (4, (.int .i64 x4)), (10, (.bool (decide (x4 < (List.length l : Int)))))] ⟨rfl, rfl, rfl, rfl, trivial⟩ ?_
    refine at_then ?_
    refine at_cond rfl (fun c2 => ?_) (fun c2 => ?_)
    · replace Z1 := if_t (of_decide_eq_true c2) Z1
      refine at_skip ?_
      refine at_then ?_
      obtain ⟨z7, Z3, Z1⟩ := bind_e Z1
      refine at_seq_mid (σ := List Int × Option Addr × Nat × Hp) (fun ⟨x6, a3, n3, H3⟩ => x6 = z7 ∧ SliceO (Fl.int .i64) 3 x6 a3 n3 H3) (fun ⟨x6, a3, n3, H3⟩ => [(0, (.slice a_l (List.length l) n_l)), (3, (.slice a3 (List.length x6) n3)), (4, (.int .i64 x4))]) (fun ⟨x6, a3, n3, H3⟩ => [F, H3]) ?_ ?_
      · refine at_block ?_
        refine at_seq ?_
        refine at_region [0] rfl ?_
        refine at_s T rfl ?_
        refine at_end ?_
        refine at_sub [(0, (.slice a_l (List.length l) n_l)), (3, (.slice a2 (List.length x3) n2)), (4, (.int .i64 x4)), (5, (.bool false))] ⟨rfl, rfl, rfl, rfl, trivial⟩ ?_
        refine at_then ?_
        refine at_seq ?_
        refine at_seq ?_
        refine at_region [0] rfl ?_
        refine at_s T rfl ?_
        refine at_end ?_
        refine at_sub [(0, (.slice a_l (List.length l) n_l)), (3, (.slice a2 (List.length x3) n2)), (4, (.int .i64 x4)), (5, (.bool false)), (6, (.int .i64 0))] ⟨rfl, rfl, rfl, rfl, rfl, trivial⟩ ?_
        refine at_then ?_
        refine at_block ?_
        refine at_loopL (σ := Nat × Bool × Int) (fun ⟨k12, x10, x11⟩ => ref21_Goals.l1 k12 l x3 x4 x10 x11 = some z7) (fun ⟨k12, x10, x11⟩ => [(0, (.slice a_l (List.length l) n_l)), (3, (.slice a2 (List.length x3) n2)), (4, (.int .i64 x4)), (5, (.bool x10)), (6, (.int .i64 x11))]) (fun ⟨k12, x10, x11⟩ => [F, H2]) (fun s => s.1) (fuel, false, 0) [0, 0] Z3 ⟨rfl, rfl, rfl, rfl, rfl, trivial⟩ rfl ?_
        rintro ⟨k12, x10, x11⟩ Z4
        replace Z4 : ref21_Goals.l1 k12 l x3 x4 x10 x11 = some z7 := Z4
        rcases k12 with _ | k12
        · rw [ref21_Goals.l1] at Z4; cases Z4
        · rw [ref21_Goals.l1] at Z4
          refine at_seq ?_
          refine at_seq ?_
          refine at_region [0, 1, 2, 3] rfl ?_
          iterate 4 refine at_s T rfl ?_
          refine at_end ?_
          refine at_sub [(0, (.slice a_l (List.length l) n_l)), (3, (.slice a2 (List.length x3) n2)), (4, (.int .i64 x4)), (5, (.bool x10)), (6, (.int .i64 x11)), (16, (.bool (decide (x11 < (List.length x3 : Int)))))] ⟨rfl, rfl, rfl, rfl, rfl, rfl, trivial⟩ ?_
          refine at_then ?_
          refine at_cond rfl (fun c5 => ?_) (fun c5 => ?_)
          · replace Z4 := if_t (of_decide_eq_true c5) Z4
            refine at_skip ?_
            refine at_then ?_
            refine at_seq ?_
            refine at_block ?_
            refine at_region_q mix (by kernel_rfl) ?_
            iterate 2 refine atq_s T rfl ?_
            refine atq_case (s := 20) rfl (fun c6 => ?_) (fun c6 => ?_)
            · replace Z4 := if_t c6 Z4
              iterate 12 refine atq_s T rfl ?_
              refine atq_end ?_
              refine at_sub [(0, (.slice a_l (List.length l) n_l)), (3, (.slice a2 (List.length x3) n2)), (4, (.int .i64 x4)), (5, (.bool true)), (6, (.int .i64 x11))] ⟨rfl, rfl, rfl, rfl, rfl, trivial⟩ ?_
              refine at_nb ?_
              refine at_then ?_
              refine at_region [0, 1, 2] rfl ?_
              iterate 3 refine at_s T rfl ?_
              refine at_end ?_
              refine at_sub [(0, (.slice a_l (List.length l) n_l)), (3, (.slice a2 (List.length x3) n2)), (4, (.int .i64 x4)), (5, (.bool true)), (6, (.int .i64 (w64 (x11 + 1))))] ⟨rfl, rfl, rfl, rfl, rfl, trivial⟩ ?_
              refine at_then ?_
              exact at_roundL (k12, true, (w64 (x11 + 1))) [0, 0] Z4 (Nat.lt_succ_self _) ⟨rfl, rfl, rfl, rfl, rfl, trivial⟩ rfl
            · replace Z4 := if_f (bf c6) Z4
              iterate 2 refine atq_s T rfl ?_
              obtain ⟨c7, Z4⟩ := chk_e Z4
              obtain ⟨q4, o4, e4⟩ := s2.r.addr c7.1 c7.2
              refine atq_v rfl rfl rfl (g_index T rfl rfl rfl rfl rfl e4 c7.1 c7.2) ?_
              refine atq_v rfl rfl rfl (g_load T rfl rfl rfl rfl (in_elem1 (k := (Fl.int .i64)) (own_of s2 (j := 1) rfl) e4 c7 0 rfl)) ?_
              iterate 2 refine atq_s T rfl ?_
              obtain ⟨c8, Z4⟩ := chk_e Z4
              obtain ⟨q5, o5, e5⟩ := h_l.addr c8.1 c8.2
              refine atq_v rfl rfl rfl (g_index T rfl rfl rfl rfl rfl e5 c8.1 c8.2) ?_
              refine atq_s T rfl ?_
              refine atq_v rfl rfl rfl (g_load T rfl rfl rfl rfl (in_elem1 (k := k_api_Unit) (ro_of h_l (j := 0) rfl) e5 c8 2 rfl)) ?_
              iterate 3 refine atq_s T rfl ?_
              refine atq_end ?_
              refine at_sub [(0, (.slice a_l (List.length l) n_l)), (3, (.slice a2 (List.length x3) n2)), (4, (.int .i64 x4)), (5, (.bool ((rd x3 x11) == (rd l x4).Goal))), (6, (.int .i64 x11))] ⟨rfl, rfl, rfl, rfl, rfl, trivial⟩ ?_
              refine at_nb ?_
              refine at_then ?_
              refine at_region [0, 1, 2] rfl ?_
              iterate 3 refine at_s T rfl ?_
              refine at_end ?_
              refine at_sub [(0, (.slice a_l (List.length l) n_l)), (3, (.slice a2 (List.length x3) n2)), (4, (.int .i64 x4)), (5, (.bool ((rd x3 x11) == (rd l x4).Goal))), (6, (.int .i64 (w64 (x11 + 1))))] ⟨rfl, rfl, rfl, rfl, rfl, trivial⟩ ?_
              refine at_then ?_
              exact at_roundL (k12, ((rd x3 x11) == (rd l x4).Goal), (w64 (x11 + 1))) [0, 0] Z4 (Nat.lt_succ_self _) ⟨rfl, rfl, rfl, rfl, rfl, trivial⟩ rfl
          · replace Z4 := if_f (of_decide_eq_false c5) Z4
            refine at_exit ?_
            refine at_xt ?_
            refine at_xt ?_
            refine at_xb ?_
            refine at_then ?_
            refine at_seq ?_
            refine at_region [0, 1] rfl ?_
            iterate 2 refine at_s T rfl ?_
            refine at_end ?_
            refine at_sub [(0, (.slice a_l (List.length l) n_l)), (3, (.slice a2 (List.length x3) n2)), (4, (.int .i64 x4)), (33, (.bool (!x10)))] ⟨rfl, rfl, rfl, rfl, trivial⟩ ?_
            refine at_then ?_
            refine at_cond rfl (fun c9 => ?_) (fun c9 => ?_)
            · replace Z4 := if_t c9 Z4
              refine at_region [0, 1, 2, 3, 4, 5, 6, 7, 8] rfl ?_
              iterate 3 refine at_s T rfl ?_
              obtain ⟨c10, Z4⟩ := chk_e Z4
              obtain ⟨q6, o6, e6⟩ := h_l.addr c10.1 c10.2
              refine at_v rfl (g_index T rfl rfl rfl rfl rfl e6 c10.1 c10.2) ?_
              refine at_s T rfl ?_
              refine at_v rfl (g_load T rfl rfl rfl rfl (in_elem1 (k := k_api_Unit) (ro_of h_l (j := 0) rfl) e6 c10 2 rfl)) ?_
              refine at_cons (at_bs (k := (Fl.int .i64)) T [(rd l x4).Goal] rfl rfl rfl rfl rfl rfl rfl rfl rfl (fun a7 H7 s7 => ?_))
              obtain ⟨c11, Z4⟩ := chk_e Z4
              refine at_cons (at_ap (k := (Fl.int .i64)) (xs := x3) T (g := 1) rfl rfl rfl rfl rfl rfl rfl rfl rfl rfl s2 (own_of s7 (j := 2) rfl) c11 rfl (fun a8 n8 H8 s8 => ?_))
              refine at_s T rfl ?_
              refine at_end ?_
              refine at_to [(0, (.slice a_l (List.length l) n_l)), (3, (.slice a8 (List.length (x3 ++ [(rd l x4).Goal])) n8)), (4, (.int .i64 x4))] [0, 0] [F, H8] ⟨rfl, rfl, rfl, trivial⟩ rfl ?_
              refine at_nb ?_
              refine at_then ?_
              obtain rfl := Option.some.inj Z4
              exact at_mid ((x3 ++ [(rd l x4).Goal]), a8, n8, H8) [0, 0] ⟨rfl, s8⟩ ⟨rfl, rfl, rfl, trivial⟩ rfl
            · replace Z4 := if_f (bf c9) Z4
              refine at_skip ?_
              refine at_nb ?_
              refine at_then ?_
              obtain rfl := Option.some.inj Z4
              exact at_mid (x3, a2, n2, H2) [0, 0] ⟨rfl, s2⟩ ⟨rfl, rfl, rfl, trivial⟩ rfl
      · rintro ⟨x6, a3, n3, H3⟩ ⟨rfl, s3⟩
        refine at_region [0, 1, 2] rfl ?_
        iterate 3 refine at_s T rfl ?_
        refine at_end ?_
        refine at_sub [(0, (.slice a_l (List.length l) n_l)), (3, (.slice a3 (List.length x6) n3)), (4, (.int .i64 (w64 (x4 + 1))))] ⟨rfl, rfl, rfl, trivial⟩ ?_
        refine at_then ?_
        exact at_roundL (k5, x6, (w64 (x4 + 1)), a3, n3, H3) [0, 0] ⟨Z1, s3⟩ (Nat.lt_succ_self _) ⟨rfl, rfl, rfl, trivial⟩ rfl
    · replace Z1 := if_f (of_decide_eq_false c2) Z1
      refine at_exit ?_
      refine at_xt ?_
      refine at_xt ?_
      refine at_xb ?_
      refine at_then ?_
      refine at_seq ?_
      refine at_region [0, 1] rfl ?_
      iterate 2 refine at_s T rfl ?_
      refine at_end ?_
      refine at_sub [(2, (.slice a2 (List.length x3) n2))] ⟨rfl, trivial⟩ ?_
      refine at_then ?_
      refine at_ret ?_
      obtain rfl := Option.some.inj Z1
      exact at_post (T := T) rfl (.tmp rfl .nil) (fun w o => ⟨⟨(_, _), ⟨a2, n2, H2, s2, rfl, rfl⟩⟩, rfl, own_to [1, 0] rfl o⟩)

/-! ### herdsman/herdsmanref21.Pairs: function 47 -/
def ref21_Pairs.l2 : Nat → List api_Pair → Int → Int → Option Int
  | 0, _, _, _ => none
  | k22 + 1, x12, v17, x21 => (if x21 < (List.length x12 : Int) then (if (0 ≤ x21 ∧ x21 < (List.length x12 : Int)) then (some ((rd x12 x21).Sector != v17)) else none) else (some false)).bind fun x23 => if x23 = true then (ref21_Pairs.l2 k22 x12 v17 (w64 (x21 + 1))) else (some x21)
def ref21_Pairs.l1 : Nat → Int → Int → (List api_Unit) → (List Int) → List api_Pair → Int → List api_Pair → Int → Option (List api_Pair)
  | 0, _, _, _, _, _, _, _, _ => none
  | k14 + 1, w, h, l, v2, x5, x6, x12, x13 => if x13 < (List.length l : Int) then ((if (0 ≤ x13 ∧ x13 < (List.length l : Int)) then (if (0 ≤ x6 ∧ x6 < (List.length v2 : Int)) then (if ((rd l x13).Goal != (rd v2 x6)) = true then (some x12) else ((ref1_Sector.f w h ((rd l x13).Cell)).bind fun v17 => (ref21_Pairs.l2 fuel x12 v17 (List.length x5 : Int)).bind fun x18 => (if (x18 == (List.length x12 : Int)) = true then (if (0 ≤ x6 ∧ x6 < (List.length v2 : Int)) then (if (List.length x12 + 1 ≤ 1099511627776) then (some (x12 ++ [(api_Pair.mk (rd v2 x6) v17 [])])) else none) else none) else (some x12)).bind fun x25 => if (0 ≤ x18 ∧ x18 < (List.length x25 : Int)) then (if (0 ≤ x13 ∧ x13 < (List.length l : Int)) then (if (List.length ([] : List Int) + List.length ((rd x25 x18).Ids) ≤ 1099511627776) then (if (List.length (([] : List Int) ++ (rd x25 x18).Ids) + 1 ≤ 1099511627776) then (some (List.set x25 (Int.toNat x18) (api_Pair.mk ((rd x25 x18).Goal) ((rd x25 x18).Sector) ((([] : List Int) ++ (rd x25 x18).Ids) ++ [(rd l x13).Id])))) else none) else none) else none) else none)) else none) else none).bind fun x15 => ref21_Pairs.l1 k14 w h l v2 x5 x6 x15 (w64 (x13 + 1))) else (some x12)
def ref21_Pairs.l0 : Nat → Int → Int → (List api_Unit) → (List Int) → List api_Pair → Int → Option (List api_Pair)
  | 0, _, _, _, _, _, _ => none
  | k7 + 1, w, h, l, v2, x5, x6 => if x6 < (List.length v2 : Int) then ((ref21_Pairs.l1 fuel w h l v2 x5 x6 x5 0).bind fun x8 => ref21_Pairs.l0 k7 w h l v2 x8 (w64 (x6 + 1))) else (some x5)
def ref21_Pairs.f (w : Int) (h : Int) (l : (List api_Unit)) : Option (List api_Pair) := (ref21_May.f w h l).bind fun v1 => if (!v1) = true then (some []) else ((ref21_Goals.f l).bind fun v2 => ref21_Pairs.l0 fuel w h l v2 [] 0)
def ref21_Pairs.R (r : (List api_Pair)) (u : Value) (G : List Hp) : Prop := ∃ (a0 : Option Addr) (n0 : Nat) (H0 : Hp), SliceD q_api_Pair 72 r a0 n0 H0 ∧ u = (.slice a0 (List.length r) n0) ∧ G = [H0]
set_option maxHeartbeats 4000000 in
theorem ref21_Pairs.c {a_l : Option Addr} {n_l : Nat} (w : Int) (h : Int) (l : (List api_Unit)) (r : (List api_Pair)) (F : Hp) (H : ref21_Pairs.f w h l = some r) (h_l : SliceR k_api_Unit l a_l F) (c_l : List.length l ≤ n_l) :
    CallsL Try.prog 47 [(.int .i64 w), (.int .i64 h), (.slice a_l (List.length l) n_l)] [F] (fun qp : { qp : Value × List Hp // ref21_Pairs.R r qp.1 qp.2 } => qp.1.1) (fun qp => (qp.1.2 ++ []) ++ [F]) := by
  unfold ref21_Pairs.f at H
  refine calls_atL [(0, (.int .i64 w)), (1, (.int .i64 h)), (2, (.slice a_l (List.length l) n_l))] Try.func47 rfl rfl ⟨rfl, rfl, rfl, trivial⟩ (fun W => ?_)
  refine at_seq ?_
  refine at_region [0] rfl ?_
  refine at_s T rfl ?_
  refine at_end ?_
  refine at_sub [(0, (.int .i64 w)), (1, (.int .i64 h)), (2, (.slice a_l (List.length l) n_l))] ⟨rfl, rfl, rfl, trivial⟩ ?_
  refine at_then ?_
  refine at_seq ?_
  refine at_region [0] rfl ?_
  refine at_s T rfl ?_
  refine at_end ?_
  refine at_sub [(0, (.int .i64 w)), (1, (.int .i64 h)), (2, (.slice a_l (List.length l) n_l)), (7, (.slice none 0 0))] ⟨rfl, rfl, rfl, rfl, trivial⟩ ?_
  refine at_then ?_
  refine at_seq ?_
  refine at_seq ?_
  refine at_region [0, 1, 2, 3, 4] rfl ?_
  iterate 3 refine at_s T rfl ?_
  obtain ⟨v1, V1, H⟩ := bind_e H
  refine at_cons (at_c (B := fun _ => []) [] rfl rfl rfl rfl has45 rfl rfl (ref21_May.c w h l v1 _ V1 (ro_of h_l (j := 0) rfl) c_l) (fun _ => ?_))
  refine at_s T rfl ?_
  refine at_end ?_
  refine at_sub [(0, (.int .i64 w)), (1, (.int .i64 h)), (2, (.slice a_l (List.length l) n_l)), (7, (.slice none 0 0)), (18, (.bool (!v1)))] ⟨rfl, rfl, rfl, rfl, rfl, trivial⟩ ?_
  refine at_then ?_
  refine at_cond rfl (fun c2 => ?_) (fun c2 => ?_)
  · replace H := if_t c2 H
    refine at_seq ?_
    refine at_region [0] rfl ?_
    refine at_s T rfl ?_
    refine at_end ?_
    refine at_sub [(6, (.slice none 0 0))] ⟨rfl, trivial⟩ ?_
    refine at_then ?_
    refine at_ret ?_
    refine at_rt ?_
    obtain rfl := Option.some.inj H
    refine at_addnil ?_
    exact at_post (T := T) rfl (.tmp rfl .nil) (fun w o => ⟨⟨(_, _), ⟨none, 0, [], SliceD.nil, rfl, rfl⟩⟩, rfl, own_to [1, 0] rfl o⟩)
  · replace H := if_f (bf c2) H
    refine at_skip ?_
    refine at_then ?_
    refine at_seq ?_
    refine at_region [0, 1, 2] rfl ?_
    refine at_s T rfl ?_
    obtain ⟨v2, V3, H⟩ := bind_e H
    refine at_cons (at_cR (ref21_Goals.R v2) [] [] rfl rfl rfl rfl has50 rfl rfl (ref21_Goals.c l v2 _ V3 (ro_of h_l (j := 0) rfl) c_l) ?_)
    rintro _ _ ⟨a2, n2, H2, s2, rfl, rfl⟩
    refine at_s T rfl ?_
    refine at_end ?_
    refine at_sub [(0, (.int .i64 w)), (1, (.int .i64 h)), (2, (.slice a_l (List.length l) n_l)), (7, (.slice none 0 0)), (8, (.slice a2 (List.length v2) n2))] ⟨rfl, rfl, rfl, rfl, rfl, trivial⟩ ?_
    refine at_then ?_
    refine at_seq ?_
    refine at_seq ?_
    refine at_region [0] rfl ?_
    refine at_s T rfl ?_
    refine at_end ?_
    refine at_sub [(0, (.int .i64 w)), (1, (.int .i64 h)), (2, (.slice a_l (List.length l) n_l)), (7, (.slice none 0 0)), (8, (.slice a2 (List.length v2) n2)), (9, (.int .i64 0))] ⟨rfl, rfl, rfl, rfl, rfl, rfl, trivial⟩ ?_
    refine at_then ?_
    refine at_block ?_
    refine at_addnil ?_
    refine at_loopL (σ := Nat × List api_Pair × Int × Option Addr × Nat × Hp) (fun ⟨k7, x5, x6, a4, n4, H4⟩ => ref21_Pairs.l0 k7 w h l v2 x5 x6 = some r ∧ SliceD q_api_Pair 72 x5 a4 n4 H4) (fun ⟨k7, x5, x6, a4, n4, H4⟩ => [(0, (.int .i64 w)), (1, (.int .i64 h)), (2, (.slice a_l (List.length l) n_l)), (7, (.slice a4 (List.length x5) n4)), (8, (.slice a2 (List.length v2) n2)), (9, (.int .i64 x6))]) (fun ⟨k7, x5, x6, a4, n4, H4⟩ => [F, H4, H2]) (fun s => s.1) (fuel, [], 0, none, 0, []) [0, 1, 0] ⟨H, SliceD.nil⟩ ⟨rfl, rfl, rfl, rfl, rfl, rfl, trivial⟩ rfl ?_
    rintro ⟨k7, x5, x6, a4, n4, H4⟩ ⟨Z4, s4⟩
    replace Z4 : ref21_Pairs.l0 k7 w h l v2 x5 x6 = some r := Z4
    rcases k7 with _ | k7
    · rw [ref21_Pairs.l0] at Z4; cases Z4
    · rw [ref21_Pairs.l0] at Z4
      refine at_seq ?_
      refine at_seq ?_
      refine at_region [0, 1, 2, 3] rfl ?_
      iterate 4 refine at_s T rfl ?_
      refine at_end ?_
      refine at_sub [(0, (.int .i64 w)), (1, (.int .i64 h)), (2, (.slice a_l (List.length l) n_l)), (7, (.slice a4 (List.length x5) n4)), (8, (.slice a2 (List.length v2) n2)), (9, (.int .i64 x6)), (24, (.bool (decide (x6 < (List.length v2 : Int)))))] ⟨rfl, rfl, rfl, rfl, rfl, rfl, rfl, trivial⟩ ?_
      refine at_then ?_
      refine at_cond rfl (fun c5 => ?_) (fun c5 => ?_)
      · replace Z4 := if_t (of_decide_eq_true c5) Z4
        refine at_skip ?_
        refine at_then ?_
        obtain ⟨z9, Z6, Z4⟩ := bind_e Z4
        refine at_seq_mid (σ := List api_Pair × Option Addr × Nat × Hp) (fun ⟨x8, a5, n5, H5⟩ => x8 = z9 ∧ SliceD q_api_Pair 72 x8 a5 n5 H5) (fun ⟨x8, a5, n5, H5⟩ => [(0, (.int .i64 w)), (1, (.int .i64 h)), (2, (.slice a_l (List.length l) n_l)), (7, (.slice a5 (List.length x8) n5)), (8, (.slice a2 (List.length v2) n2)), (9, (.int .i64 x6))]) (fun ⟨x8, a5, n5, H5⟩ => [F, H5, H2]) ?_ ?_
        · refine at_block ?_
          refine at_seq ?_
          refine at_region [0, 1, 2] rfl ?_
          iterate 3 refine at_s T rfl ?_
          refine at_end ?_
          refine at_sub [(0, (.int .i64 w)), (1, (.int .i64 h)), (2, (.slice a_l (List.length l) n_l)), (7, (.slice a4 (List.length x5) n4)), (8, (.slice a2 (List.length v2) n2)), (9, (.int .i64 x6)), (10, (.int .i64 (List.length x5 : Int)))] ⟨rfl, rfl, rfl, rfl, rfl, rfl, rfl, trivial⟩ ?_
          refine at_then ?_
          refine at_seq ?_
          refine at_region [0] rfl ?_
          refine at_s T rfl ?_
          refine at_end ?_
          refine at_sub [(0, (.int .i64 w)), (1, (.int .i64 h)), (2, (.slice a_l (List.length l) n_l)), (7, (.slice a4 (List.length x5) n4)), (8, (.slice a2 (List.length v2) n2)), (9, (.int .i64 x6)), (10, (.int .i64 (List.length x5 : Int))), (11, (.int .i64 0))] ⟨rfl, rfl, rfl, rfl, rfl, rfl, rfl, rfl, trivial⟩ ?_
          refine at_then ?_
          refine at_block ?_
          refine at_loopL (σ := Nat × List api_Pair × Int × Option Addr × Nat × Hp) (fun ⟨k14, x12, x13, a7, n7, H7⟩ => ref21_Pairs.l1 k14 w h l v2 x5 x6 x12 x13 = some z9 ∧ SliceD q_api_Pair 72 x12 a7 n7 H7) (fun ⟨k14, x12, x13, a7, n7, H7⟩ => [(0, (.int .i64 w)), (1, (.int .i64 h)), (2, (.slice a_l (List.length l) n_l)), (7, (.slice a7 (List.length x12) n7)), (8, (.slice a2 (List.length v2) n2)), (9, (.int .i64 x6)), (10, (.int .i64 (List.length x5 : Int))), (11, (.int .i64 x13))]) (fun ⟨k14, x12, x13, a7, n7, H7⟩ => [F, H7, H2]) (fun s => s.1) (fuel, x5, 0, a4, n4, H4) [0, 0, 0] ⟨Z6, s4⟩ ⟨rfl, rfl, rfl, rfl, rfl, rfl, rfl, rfl, trivial⟩ rfl ?_
          rintro ⟨k14, x12, x13, a7, n7, H7⟩ ⟨Z7, s7⟩
          replace Z7 : ref21_Pairs.l1 k14 w h l v2 x5 x6 x12 x13 = some z9 := Z7
          rcases k14 with _ | k14
          · rw [ref21_Pairs.l1] at Z7; cases Z7
          · rw [ref21_Pairs.l1] at Z7
            refine at_seq ?_
            refine at_seq ?_
            refine at_region [0, 1, 2, 3] rfl ?_
            iterate 4 refine at_s T rfl ?_
            refine at_end ?_
            refine at_sub [(0, (.int .i64 w)), (1, (.int .i64 h)), (2, (.slice a_l (List.length l) n_l)), (7, (.slice a7 (List.length x12) n7)), (8, (.slice a2 (List.length v2) n2)), (9, (.int .i64 x6)), (10, (.int .i64 (List.length x5 : Int))), (11, (.int .i64 x13)), (32, (.bool (decide (x13 < (List.length l : Int)))))] ⟨rfl, rfl, rfl, rfl, rfl, rfl, rfl, rfl, rfl, trivial⟩ ?_
            refine at_then ?_
            refine at_cond rfl (fun c8 => ?_) (fun c8 => ?_)
            · replace Z7 := if_t (of_decide_eq_true c8) Z7
              refine at_skip ?_
              refine at_then ?_
              obtain ⟨z16, Z9, Z7⟩ := bind_e Z7
              refine at_seq_mid (σ := List api_Pair × Option Addr × Nat × Hp) (fun ⟨x15, a8, n8, H8⟩ => x15 = z16 ∧ SliceD q_api_Pair 72 x15 a8 n8 H8) (fun ⟨x15, a8, n8, H8⟩ => [(0, (.int .i64 w)), (1, (.int .i64 h)), (2, (.slice a_l (List.length l) n_l)), (7, (.slice a8 (List.length x15) n8)), (8, (.slice a2 (List.length v2) n2)), (9, (.int .i64 x6)), (10, (.int .i64 (List.length x5 : Int))), (11, (.int .i64 x13))]) (fun ⟨x15, a8, n8, H8⟩ => [F, H8, H2]) ?_ ?_
              · refine at_block ?_
                refine at_seq ?_
                refine at_seq ?_
                refine at_region_q mix (by kernel_rfl) ?_
                iterate 2 refine atq_s T rfl ?_
                obtain ⟨c10, Z9⟩ := chk_e Z9
                obtain ⟨q9, o9, e9⟩ := h_l.addr c10.1 c10.2
                refine atq_v rfl rfl rfl (g_index T rfl rfl rfl rfl rfl e9 c10.1 c10.2) ?_
                refine atq_s T rfl ?_
                refine atq_v rfl rfl rfl (g_load T rfl rfl rfl rfl (in_elem1 (k := k_api_Unit) (ro_of h_l (j := 0) rfl) e9 c10 2 rfl)) ?_
                iterate 2 refine atq_s T rfl ?_
                obtain ⟨c11, Z9⟩ := chk_e Z9
                obtain ⟨q10, o10, e10⟩ := s2.r.addr c11.1 c11.2
                refine atq_v rfl rfl rfl (g_index T rfl rfl rfl rfl rfl e10 c11.1 c11.2) ?_
                refine atq_v rfl rfl rfl (g_load T rfl rfl rfl rfl (in_elem1 (k := (Fl.int .i64)) (own_of s2 (j := 2) rfl) e10 c11 0 rfl)) ?_
                refine atq_s T rfl ?_
                refine atq_end ?_
                refine at_sub [(0, (.int .i64 w)), (1, (.int .i64 h)), (2, (.slice a_l (List.length l) n_l)), (7, (.slice a7 (List.length x12) n7)), (8, (.slice a2 (List.length v2) n2)), (9, (.int .i64 x6)), (10, (.int .i64 (List.length x5 : Int))), (11, (.int .i64 x13)), (44, (.bool ((rd l x13).Goal != (rd v2 x6))))] ⟨rfl, rfl, rfl, rfl, rfl, rfl, rfl, rfl, rfl, trivial⟩ ?_
                refine at_then ?_
                refine at_cond rfl (fun c12 => ?_) (fun c12 => ?_)
                · replace Z9 := if_t c12 Z9
                  refine at_exit ?_
                  refine at_xt ?_
                  refine at_xb ?_
                  refine at_then ?_
                  obtain rfl := Option.some.inj Z9
                  exact at_mid (x12, a7, n7, H7) [0, 0, 0] ⟨rfl, s7⟩ ⟨rfl, rfl, rfl, rfl, rfl, rfl, rfl, rfl, trivial⟩ rfl
                · replace Z9 := if_f (bf c12) Z9
                  refine at_skip ?_
                  refine at_then ?_
                  refine at_seq ?_
                  refine at_region [0, 1, 2, 3, 4, 5, 6, 7, 8] rfl ?_
                  iterate 4 refine at_s T rfl ?_
                  refine at_v rfl (g_index T rfl rfl rfl rfl rfl e9 c10.1 c10.2) ?_
                  refine at_s T rfl ?_
                  refine at_v rfl (g_load T rfl rfl rfl rfl (in_elem1 (k := k_api_Unit) (ro_of h_l (j := 0) rfl) e9 c10 1 rfl)) ?_
                  obtain ⟨v17, V13, Z9⟩ := bind_e Z9
                  refine at_cons (at_c (B := fun _ => []) [] rfl rfl rfl rfl has63 rfl rfl (ref1_Sector.c w h ((rd l x13).Cell) v17 _ V13) (fun _ => ?_))
                  refine at_s T rfl ?_
                  refine at_end ?_
                  refine at_sub [(0, (.int .i64 w)), (1, (.int .i64 h)), (2, (.slice a_l (List.length l) n_l)), (7, (.slice a7 (List.length x12) n7)), (8, (.slice a2 (List.length v2) n2)), (9, (.int .i64 x6)), (10, (.int .i64 (List.length x5 : Int))), (11, (.int .i64 x13)), (12, (.int .i64 v17))] ⟨rfl, rfl, rfl, rfl, rfl, rfl, rfl, rfl, rfl, trivial⟩ ?_
                  refine at_then ?_
                  refine at_seq ?_
                  refine at_region [0, 1] rfl ?_
                  iterate 2 refine at_s T rfl ?_
                  refine at_end ?_
                  refine at_sub [(0, (.int .i64 w)), (1, (.int .i64 h)), (2, (.slice a_l (List.length l) n_l)), (7, (.slice a7 (List.length x12) n7)), (8, (.slice a2 (List.length v2) n2)), (9, (.int .i64 x6)), (10, (.int .i64 (List.length x5 : Int))), (11, (.int .i64 x13)), (12, (.int .i64 v17)), (13, (.int .i64 (List.length x5 : Int)))] ⟨rfl, rfl, rfl, rfl, rfl, rfl, rfl, rfl, rfl, rfl, trivial⟩ ?_
                  refine at_then ?_
                  obtain ⟨z19, Z14, Z9⟩ := bind_e Z9
                  refine at_seq_mid (σ := Int) (fun x18 => x18 = z19) (fun x18 => [(0, (.int .i64 w)), (1, (.int .i64 h)), (2, (.slice a_l (List.length l) n_l)), (7, (.slice a7 (List.length x12) n7)), (8, (.slice a2 (List.length v2) n2)), (9, (.int .i64 x6)), (10, (.int .i64 (List.length x5 : Int))), (11, (.int .i64 x13)), (12, (.int .i64 v17)), (13, (.int .i64 x18))]) (fun x18 => [F, H7, H2]) ?_ ?_
                  · refine at_block ?_
                    refine at_loopL (σ := Nat × Int) (fun ⟨k22, x21⟩ => ref21_Pairs.l2 k22 x12 v17 x21 = some z19) (fun ⟨k22, x21⟩ => [(0, (.int .i64 w)), (1, (.int .i64 h)), (2, (.slice a_l (List.length l) n_l)), (7, (.slice a7 (List.length x12) n7)), (8, (.slice a2 (List.length v2) n2)), (9, (.int .i64 x6)), (10, (.int .i64 (List.length x5 : Int))), (11, (.int .i64 x13)), (12, (.int .i64 v17)), (13, (.int .i64 x21))]) (fun ⟨k22, x21⟩ => [F, H7, H2]) (fun s => s.1) (fuel, (List.length x5 : Int)) [0, 0, 0] Z14 ⟨rfl, rfl, rfl, rfl, rfl, rfl, rfl, rfl, rfl, rfl, trivial⟩ rfl ?_
                    rintro ⟨k22, x21⟩ Z15
                    replace Z15 : ref21_Pairs.l2 k22 x12 v17 x21 = some z19 := Z15
                    rcases k22 with _ | k22
                    · rw [ref21_Pairs.l2] at Z15; cases Z15
                    · rw [ref21_Pairs.l2] at Z15
                      refine at_seq ?_
                      obtain ⟨z24, Z16, Z15⟩ := bind_e Z15
                      refine at_seq_mid (σ := Bool) (fun x23 => x23 = z24) (fun x23 => [(0, (.int .i64 w)), (1, (.int .i64 h)), (2, (.slice a_l (List.length l) n_l)), (7, (.slice a7 (List.length x12) n7)), (8, (.slice a2 (List.length v2) n2)), (9, (.int .i64 x6)), (10, (.int .i64 (List.length x5 : Int))), (11, (.int .i64 x13)), (12, (.int .i64 v17)), (13, (.int .i64 x21)), (66, (.bool x23))]) (fun x23 => [F, H7, H2]) ?_ ?_
                      · refine at_region [0, 1, 2, 3, 4, 5, 6, 7, 8, 9, 10, 11, 12] rfl ?_
                        iterate 5 refine at_s T rfl ?_
                        refine at_case (s := 58) rfl (fun c17 => ?_) (fun c17 => ?_)
                        · replace Z16 := if_t (of_decide_eq_true c17) Z16
                          iterate 2 refine at_s T rfl ?_
                          obtain ⟨c18, Z16⟩ := chk_e Z16
                          obtain ⟨q11, o11, e11⟩ := s7.r.addr c18.1 c18.2
                          refine at_v rfl (g_index T rfl rfl rfl rfl rfl e11 c18.1 c18.2) ?_
                          refine at_s T rfl ?_
                          obtain ⟨_, w13, ⟨a12, n12, ⟨r12, m12⟩, rfl⟩⟩ := SliceDR.view s7.r c18
                          refine at_v rfl (g_load T rfl rfl rfl rfl (in_view (j := 1) rfl w13 e11 1 rfl)) ?_
                          iterate 3 refine at_s T rfl ?_
                          refine at_end ?_
                          refine at_sub [(0, (.int .i64 w)), (1, (.int .i64 h)), (2, (.slice a_l (List.length l) n_l)), (7, (.slice a7 (List.length x12) n7)), (8, (.slice a2 (List.length v2) n2)), (9, (.int .i64 x6)), (10, (.int .i64 (List.length x5 : Int))), (11, (.int .i64 x13)), (12, (.int .i64 v17)), (13, (.int .i64 x21)), (66, (.bool ((rd x12 x21).Sector != v17)))] ⟨rfl, rfl, rfl, rfl, rfl, rfl, rfl, rfl, rfl, rfl, rfl, trivial⟩ ?_
                          refine at_then ?_
                          obtain rfl := Option.some.inj Z16
                          exact at_mid ((rd x12 x21).Sector != v17) [0, 0, 0] rfl ⟨rfl, rfl, rfl, rfl, rfl, rfl, rfl, rfl, rfl, rfl, rfl, trivial⟩ rfl
                        · replace Z16 := if_f (of_decide_eq_false c17) Z16
                          iterate 8 refine at_s T rfl ?_
                          refine at_end ?_
                          refine at_sub [(0, (.int .i64 w)), (1, (.int .i64 h)), (2, (.slice a_l (List.length l) n_l)), (7, (.slice a7 (List.length x12) n7)), (8, (.slice a2 (List.length v2) n2)), (9, (.int .i64 x6)), (10, (.int .i64 (List.length x5 : Int))), (11, (.int .i64 x13)), (12, (.int .i64 v17)), (13, (.int .i64 x21)), (66, (.bool false))] ⟨rfl, rfl, rfl, rfl, rfl, rfl, rfl, rfl, rfl, rfl, rfl, trivial⟩ ?_
                          refine at_then ?_
                          obtain rfl := Option.some.inj Z16
                          exact at_mid false [0, 0, 0] rfl ⟨rfl, rfl, rfl, rfl, rfl, rfl, rfl, rfl, rfl, rfl, rfl, trivial⟩ rfl
                      · rintro x23 rfl
                        refine at_cond rfl (fun c19 => ?_) (fun c19 => ?_)
                        · replace Z15 := if_t c19 Z15
                          refine at_skip ?_
                          refine at_then ?_
                          refine at_block ?_
                          refine at_region [0, 1, 2] rfl ?_
                          iterate 3 refine at_s T rfl ?_
                          refine at_end ?_
                          refine at_sub [(0, (.int .i64 w)), (1, (.int .i64 h)), (2, (.slice a_l (List.length l) n_l)), (7, (.slice a7 (List.length x12) n7)), (8, (.slice a2 (List.length v2) n2)), (9, (.int .i64 x6)), (10, (.int .i64 (List.length x5 : Int))), (11, (.int .i64 x13)), (12, (.int .i64 v17)), (13, (.int .i64 (w64 (x21 + 1))))] ⟨rfl, rfl, rfl, rfl, rfl, rfl, rfl, rfl, rfl, rfl, trivial⟩ ?_
                          refine at_nb ?_
                          refine at_then ?_
                          exact at_roundL (k22, (w64 (x21 + 1))) [0, 0, 0] Z15 (Nat.lt_succ_self _) ⟨rfl, rfl, rfl, rfl, rfl, rfl, rfl, rfl, rfl, rfl, trivial⟩ rfl
                        · replace Z15 := if_f (bf c19) Z15
                          refine at_exit ?_
                          refine at_xt ?_
                          refine at_xt ?_
                          refine at_xb ?_
                          refine at_then ?_
                          obtain rfl := Option.some.inj Z15
                          exact at_mid x21 [0, 0, 0] rfl ⟨rfl, rfl, rfl, rfl, rfl, rfl, rfl, rfl, rfl, rfl, trivial⟩ rfl
                  · rintro x18 rfl
                    obtain ⟨z26, Z20, Z9⟩ := bind_e Z9
                    refine at_seq_mid (σ := List api_Pair × Option Addr × Nat × Hp) (fun ⟨x25, a14, n14, H14⟩ => x25 = z26 ∧ SliceD q_api_Pair 72 x25 a14 n14 H14) (fun ⟨x25, a14, n14, H14⟩ => [(0, (.int .i64 w)), (1, (.int .i64 h)), (2, (.slice a_l (List.length l) n_l)), (7, (.slice a14 (List.length x25) n14)), (8, (.slice a2 (List.length v2) n2)), (9, (.int .i64 x6)), (10, (.int .i64 (List.length x5 : Int))), (11, (.int .i64 x13)), (13, (.int .i64 x18))]) (fun ⟨x25, a14, n14, H14⟩ => [F, H14, H2]) ?_ ?_
                    · refine at_seq ?_
                      refine at_region [0, 1, 2, 3] rfl ?_
                      iterate 4 refine at_s T rfl ?_
                      refine at_end ?_
                      refine at_sub [(0, (.int .i64 w)), (1, (.int .i64 h)), (2, (.slice a_l (List.length l) n_l)), (7, (.slice a7 (List.length x12) n7)), (8, (.slice a2 (List.length v2) n2)), (9, (.int .i64 x6)), (10, (.int .i64 (List.length x5 : Int))), (11, (.int .i64 x13)), (12, (.int .i64 v17)), (13, (.int .i64 x18)), (72, (.bool (x18 == (List.length x12 : Int))))] ⟨rfl, rfl, rfl, rfl, rfl, rfl, rfl, rfl, rfl, rfl, rfl, trivial⟩ ?_
                      refine at_then ?_
                      refine at_cond rfl (fun c21 => ?_) (fun c21 => ?_)
                      · replace Z20 := if_t c21 Z20
                        refine at_region [0, 1, 2, 3, 4, 5, 6, 7, 8, 9] rfl ?_
                        iterate 3 refine at_s T rfl ?_
                        obtain ⟨c22, Z20⟩ := chk_e Z20
                        obtain ⟨q15, o15, e15⟩ := s2.r.addr c22.1 c22.2
                        refine at_v rfl (g_index T rfl rfl rfl rfl rfl e15 c22.1 c22.2) ?_
                        refine at_v rfl (g_load T rfl rfl rfl rfl (in_elem1 (k := (Fl.int .i64)) (own_of s2 (j := 2) rfl) e15 c22 0 rfl)) ?_
                        iterate 2 refine at_s T rfl ?_
                        refine at_addnil ?_
                        refine at_gather [3] rfl ?_
                        refine at_cons (at_dbs (kd := q_api_Pair) (E := 72) (q := 3) (c := [(.int .i64 (rd v2 x6)), (.int .i64 v17), (.slice none 0 0)]) T (api_Pair.mk (rd v2 x6) v17 []) rfl rfl rfl rfl rfl rfl rfl rfl rfl rfl ⟨none, 0, [], (SliceO.nil (k := (Fl.int .i64)) (E := 3)), rfl, rfl⟩ (fun a18 H18 s18 => ?_))
                        obtain ⟨c23, Z20⟩ := chk_e Z20
                        refine at_cons (at_dap (kd := q_api_Pair) (xs := x12) (ys := [(api_Pair.mk (rd v2 x6) v17 [])]) T (g := 1) (q := 4) rfl rfl rfl rfl rfl rfl rfl rfl rfl rfl s7 rfl rfl s18 c23 rfl (fun a19 n19 H19 s19 => ?_))
                        refine at_s T rfl ?_
                        refine at_end ?_
                        refine at_to [(0, (.int .i64 w)), (1, (.int .i64 h)), (2, (.slice a_l (List.length l) n_l)), (7, (.slice a19 (List.length (x12 ++ [(api_Pair.mk (rd v2 x6) v17 [])])) n19)), (8, (.slice a2 (List.length v2) n2)), (9, (.int .i64 x6)), (10, (.int .i64 (List.length x5 : Int))), (11, (.int .i64 x13)), (13, (.int .i64 x18))] [0, 0, 0] [F, H19, H2] ⟨rfl, rfl, rfl, rfl, rfl, rfl, rfl, rfl, rfl, trivial⟩ rfl ?_
                        refine at_then ?_
                        obtain rfl := Option.some.inj Z20
                        exact at_mid ((x12 ++ [(api_Pair.mk (rd v2 x6) v17 [])]), a19, n19, H19) [0, 0, 0] ⟨rfl, s19⟩ ⟨rfl, rfl, rfl, rfl, rfl, rfl, rfl, rfl, rfl, trivial⟩ rfl
                      · replace Z20 := if_f (bf c21) Z20
                        refine at_skip ?_
                        refine at_then ?_
                        obtain rfl := Option.some.inj Z20
                        exact at_mid (x12, a7, n7, H7) [0, 0, 0] ⟨rfl, s7⟩ ⟨rfl, rfl, rfl, rfl, rfl, rfl, rfl, rfl, rfl, trivial⟩ rfl
                    · rintro ⟨x25, a14, n14, H14⟩ ⟨rfl, s14⟩
                      refine at_region_m [[], [], [], [], [], [3, 4], [3, 4, 5], [3, 4, 5, 6], [2, 3, 4, 5, 6, 7], [], [], [9, 10], [9, 10, 11], [9, 10, 11, 12], [9, 10, 11, 12, 13], [2, 3, 4, 5, 6, 7, 8, 9, 10, 11, 12, 13, 14], [0, 1, 2, 3, 4, 5, 6, 7, 8, 9, 10, 11, 12, 13, 14, 15], [0, 1, 2, 3, 4, 5, 6, 7, 8, 9, 10, 11, 12, 13, 14, 15, 16], [0, 1, 2, 3, 4, 5, 6, 7, 8, 9, 10, 11, 12, 13, 14, 15, 16, 17]] [18] [F, H14, H2] mix (by kernel_rfl) (by repeat first | exact pf_body | refine pf_then ?_ | refine pf_block ?_) (fun hg pf => ?_)
                      refine atm_s T 0 hg pf (by kernel_rfl) (still_o [0, 0, 0] rfl) rfl ?_
                      refine atm_s T 1 hg pf (by kernel_rfl) (still_o [0, 0, 0] rfl) rfl ?_
                      refine atm_s T 3 hg pf (by kernel_rfl) (still_o [0, 0, 0] rfl) rfl ?_
                      refine atm_s T 4 hg pf (by kernel_rfl) (still_o [0, 0, 0] rfl) rfl ?_
                      obtain ⟨c24, Z9⟩ := chk_e Z9
                      obtain ⟨q20, o20, e20⟩ := s14.r.addr c24.1 c24.2
                      refine atm_v 5 hg pf (by kernel_rfl) (still_o [0, 0, 0] rfl) rfl rfl (g_index T rfl rfl rfl rfl rfl e20 c24.1 c24.2) ?_
                      refine atm_s T 6 hg pf (by kernel_rfl) (still_o [0, 0, 0] rfl) rfl ?_
                      obtain ⟨_, w22, ⟨a21, n21, ⟨r21, m21⟩, rfl⟩⟩ := SliceDR.view s14.r c24
                      refine atm_v 7 hg pf (by kernel_rfl) (still_o [0, 0, 0] rfl) rfl rfl (g_load T rfl rfl rfl rfl (in_view (j := 1) rfl w22 e20 2 rfl)) ?_
                      refine atm_s T 9 hg pf (by kernel_rfl) (still_o [0, 0, 0] rfl) rfl ?_
                      refine atm_s T 10 hg pf (by kernel_rfl) (still_o [0, 0, 0] rfl) rfl ?_
                      obtain ⟨c25, Z9⟩ := chk_e Z9
                      obtain ⟨q23, o23, e23⟩ := h_l.addr c25.1 c25.2
                      refine atm_v 11 hg pf (by kernel_rfl) (still_o [0, 0, 0] rfl) rfl rfl (g_index T rfl rfl rfl rfl rfl e23 c25.1 c25.2) ?_
                      refine atm_s T 12 hg pf (by kernel_rfl) (still_o [0, 0, 0] rfl) rfl ?_
                      refine atm_v 13 hg pf (by kernel_rfl) (still_o [0, 0, 0] rfl) rfl rfl (g_load T rfl rfl rfl rfl (in_elem1 (k := k_api_Unit) (ro_of h_l (j := 0) rfl) e23 c25 0 rfl)) ?_
                      refine atm_two 2 14 (by kernel_rfl) ?_ ?_
                      · refine at_bs (k := (Fl.int .i64)) T ([] : List Int) rfl rfl rfl rfl rfl rfl rfl rfl rfl (fun a24 H24 s24 => ?_)
                        refine atm_next (still_o [0, 0, 0] rfl) ?_
                        refine atm_two 8 14 (by kernel_rfl) ?_ ?_
                        · obtain ⟨c26, Z9⟩ := chk_e Z9
                          refine at_ap (k := (Fl.int .i64)) (xs := ([] : List Int)) T (g := 3) rfl rfl rfl rfl rfl rfl rfl rfl rfl rfl s24 (ro_of r21 (j := 1) rfl) c26 rfl (fun a25 n25 H25 s25 => ?_)
                          refine atm_next (still_o [0, 0, 0] rfl) ?_
                          refine atm_one 14 (by kernel_rfl) ?_
                          refine at_bs (k := (Fl.int .i64)) T [(rd l x13).Id] rfl rfl rfl rfl rfl rfl rfl rfl rfl (fun a26 H26 s26 => ?_)
                          refine atm_next (still_o [0, 0, 0] rfl) ?_
                          refine atm_one 15 (by kernel_rfl) ?_
                          obtain ⟨c27, Z9⟩ := chk_e Z9
                          refine at_ap (k := (Fl.int .i64)) (xs := (([] : List Int) ++ (rd x25 x18).Ids)) T (g := 3) rfl rfl rfl rfl rfl rfl rfl rfl rfl rfl s25 (own_of s26 (j := 4) rfl) c27 rfl (fun a27 n27 H27 s27 => ?_)
                          refine atm_next (still_o [0, 0, 0] rfl) ?_
                          refine atm_v 16 hg pf (by kernel_rfl) (still_o [0, 0, 0] rfl) rfl rfl (g_index T rfl rfl rfl rfl rfl e20 c24.1 c24.2) ?_
                          refine atm_s T 17 hg pf (by kernel_rfl) (still_o [0, 0, 0] rfl) rfl ?_
                          refine atm_one 18 (by kernel_rfl) ?_
                          refine at_dsopen (j := 1) rfl s14 c24 (fun _ _ H29 o29 s29 => ?_)
                          obtain ⟨a28, n28, H28, s28, rfl, rfl⟩ := o29
                          refine at_spread ?_
                          refine at_dst T 1 2 [(.int .i64 (rd x25 x18).Goal), (.int .i64 (rd x25 x18).Sector), (.slice a27 (List.length ((([] : List Int) ++ (rd x25 x18).Ids) ++ [(rd l x13).Id])) n27)] rfl rfl rfl rfl rfl rfl s29 e20 rfl rfl rfl rfl (fun H30 s30 => ?_)
                          refine atm_next (still_l (by kernel_rfl)) ?_
                          refine atm_end (by kernel_rfl) ?_
                          refine at_gather [3] rfl ?_
                          refine at_dsclose (j := 1) (q := 5) (api_Pair.mk ((rd x25 x18).Goal) ((rd x25 x18).Sector) ((([] : List Int) ++ (rd x25 x18).Ids) ++ [(rd l x13).Id])) rfl s30 rfl rfl ⟨a27, n27, H27, s27, rfl, rfl⟩ (fun H32 s32 => ?_)
                          refine at_to [(0, (.int .i64 w)), (1, (.int .i64 h)), (2, (.slice a_l (List.length l) n_l)), (7, (.slice a14 (List.length (List.set x25 (Int.toNat x18) (api_Pair.mk ((rd x25 x18).Goal) ((rd x25 x18).Sector) ((([] : List Int) ++ (rd x25 x18).Ids) ++ [(rd l x13).Id])))) n14)), (8, (.slice a2 (List.length v2) n2)), (9, (.int .i64 x6)), (10, (.int .i64 (List.length x5 : Int))), (11, (.int .i64 x13))] [0, 0, 0] [F, H32, H2] ⟨rfl, rfl, rfl, (by first | rfl | (simp only [List.length_set]; rfl)), rfl, rfl, rfl, rfl, trivial⟩ rfl ?_
                          refine at_sub [(0, (.int .i64 w)), (1, (.int .i64 h)), (2, (.slice a_l (List.length l) n_l)), (7, (.slice a14 (List.length (List.set x25 (Int.toNat x18) (api_Pair.mk ((rd x25 x18).Goal) ((rd x25 x18).Sector) ((([] : List Int) ++ (rd x25 x18).Ids) ++ [(rd l x13).Id])))) n14)), (8, (.slice a2 (List.length v2) n2)), (9, (.int .i64 x6)), (10, (.int .i64 (List.length x5 : Int))), (11, (.int .i64 x13))] ⟨rfl, rfl, rfl, rfl, rfl, rfl, rfl, rfl, trivial⟩ ?_
                          refine at_nb ?_
                          refine at_then ?_
                          obtain rfl := Option.some.inj Z9
                          exact at_mid ((List.set x25 (Int.toNat x18) (api_Pair.mk ((rd x25 x18).Goal) ((rd x25 x18).Sector) ((([] : List Int) ++ (rd x25 x18).Ids) ++ [(rd l x13).Id]))), a14, n14, H32) [0, 0, 0] ⟨rfl, s32⟩ ⟨rfl, rfl, rfl, rfl, rfl, rfl, rfl, rfl, trivial⟩ rfl
                        · refine at_bs (k := (Fl.int .i64)) T [(rd l x13).Id] rfl rfl rfl rfl rfl rfl rfl rfl rfl (fun a33 H33 s33 => ?_)
                          refine atm_next (still_o [0, 0, 0] rfl) ?_
                          refine atm_one 8 (by kernel_rfl) ?_
                          obtain ⟨c28, Z9⟩ := chk_e Z9
                          refine at_ap (k := (Fl.int .i64)) (xs := ([] : List Int)) T (g := 3) rfl rfl rfl rfl rfl rfl rfl rfl rfl rfl s24 (ro_of r21 (j := 1) rfl) c28 rfl (fun a34 n34 H34 s34 => ?_)
                          refine atm_next (still_o [0, 0, 0] rfl) ?_
                          refine atm_one 15 (by kernel_rfl) ?_
                          obtain ⟨c29, Z9⟩ := chk_e Z9
                          refine at_ap (k := (Fl.int .i64)) (xs := (([] : List Int) ++ (rd x25 x18).Ids)) T (g := 3) rfl rfl rfl rfl rfl rfl rfl rfl rfl rfl s34 (own_of s33 (j := 4) rfl) c29 rfl (fun a35 n35 H35 s35 => ?_)
                          refine atm_next (still_o [0, 0, 0] rfl) ?_
                          refine atm_v 16 hg pf (by kernel_rfl) (still_o [0, 0, 0] rfl) rfl rfl (g_index T rfl rfl rfl rfl rfl e20 c24.1 c24.2) ?_
                          refine atm_s T 17 hg pf (by kernel_rfl) (still_o [0, 0, 0] rfl) rfl ?_
                          refine atm_one 18 (by kernel_rfl) ?_
                          refine at_dsopen (j := 1) rfl s14 c24 (fun _ _ H37 o37 s37 => ?_)
                          obtain ⟨a36, n36, H36, s36, rfl, rfl⟩ := o37
                          refine at_spread ?_
                          refine at_dst T 1 2 [(.int .i64 (rd x25 x18).Goal), (.int .i64 (rd x25 x18).Sector), (.slice a35 (List.length ((([] : List Int) ++ (rd x25 x18).Ids) ++ [(rd l x13).Id])) n35)] rfl rfl rfl rfl rfl rfl s37 e20 rfl rfl rfl rfl (fun H38 s38 => ?_)
                          refine atm_next (still_l (by kernel_rfl)) ?_
                          refine atm_end (by kernel_rfl) ?_
                          refine at_gather [3] rfl ?_
                          refine at_dsclose (j := 1) (q := 5) (api_Pair.mk ((rd x25 x18).Goal) ((rd x25 x18).Sector) ((([] : List Int) ++ (rd x25 x18).Ids) ++ [(rd l x13).Id])) rfl s38 rfl rfl ⟨a35, n35, H35, s35, rfl, rfl⟩ (fun H40 s40 => ?_)
                          refine at_to [(0, (.int .i64 w)), (1, (.int .i64 h)), (2, (.slice a_l (List.length l) n_l)), (7, (.slice a14 (List.length (List.set x25 (Int.toNat x18) (api_Pair.mk ((rd x25 x18).Goal) ((rd x25 x18).Sector) ((([] : List Int) ++ (rd x25 x18).Ids) ++ [(rd l x13).Id])))) n14)), (8, (.slice a2 (List.length v2) n2)), (9, (.int .i64 x6)), (10, (.int .i64 (List.length x5 : Int))), (11, (.int .i64 x13))] [0, 0, 0] [F, H40, H2] ⟨rfl, rfl, rfl, (by first | rfl | (simp only [List.length_set]; rfl)), rfl, rfl, rfl, rfl, trivial⟩ rfl ?_
                          refine at_sub [(0, (.int .i64 w)), (1, (.int .i64 h)), (2, (.slice a_l (List.length l) n_l)), (7, (.slice a14 (List.length (List.set x25 (Int.toNat x18) (api_Pair.mk ((rd x25 x18).Goal) ((rd x25 x18).Sector) ((([] : List Int) ++ (rd x25 x18).Ids) ++ [(rd l x13).Id])))) n14)), (8, (.slice a2 (List.length v2) n2)), (9, (.int .i64 x6)), (10, (.int .i64 (List.length x5 : Int))), (11, (.int .i64 x13))] ⟨rfl, rfl, rfl, rfl, rfl, rfl, rfl, rfl, trivial⟩ ?_
                          refine at_nb ?_
                          refine at_then ?_
                          obtain rfl := Option.some.inj Z9
                          exact at_mid ((List.set x25 (Int.toNat x18) (api_Pair.mk ((rd x25 x18).Goal) ((rd x25 x18).Sector) ((([] : List Int) ++ (rd x25 x18).Ids) ++ [(rd l x13).Id]))), a14, n14, H40) [0, 0, 0] ⟨rfl, s40⟩ ⟨rfl, rfl, rfl, rfl, rfl, rfl, rfl, rfl, trivial⟩ rfl
                      · refine at_bs (k := (Fl.int .i64)) T [(rd l x13).Id] rfl rfl rfl rfl rfl rfl rfl rfl rfl (fun a41 H41 s41 => ?_)
                        refine atm_next (still_o [0, 0, 0] rfl) ?_
                        refine atm_one 2 (by kernel_rfl) ?_
                        refine at_bs (k := (Fl.int .i64)) T ([] : List Int) rfl rfl rfl rfl rfl rfl rfl rfl rfl (fun a42 H42 s42 => ?_)
                        refine atm_next (still_o [0, 0, 0] rfl) ?_
                        refine atm_one 8 (by kernel_rfl) ?_
                        obtain ⟨c30, Z9⟩ := chk_e Z9
                        refine at_ap (k := (Fl.int .i64)) (xs := ([] : List Int)) T (g := 4) rfl rfl rfl rfl rfl rfl rfl rfl rfl rfl s42 (ro_of r21 (j := 1) rfl) c30 rfl (fun a43 n43 H43 s43 => ?_)
                        refine atm_next (still_o [0, 0, 0] rfl) ?_
                        refine atm_one 15 (by kernel_rfl) ?_
                        obtain ⟨c31, Z9⟩ := chk_e Z9
                        refine at_ap (k := (Fl.int .i64)) (xs := (([] : List Int) ++ (rd x25 x18).Ids)) T (g := 4) rfl rfl rfl rfl rfl rfl rfl rfl rfl rfl s43 (own_of s41 (j := 3) rfl) c31 rfl (fun a44 n44 H44 s44 => ?_)
                        refine atm_next (still_o [0, 0, 0] rfl) ?_
                        refine atm_v 16 hg pf (by kernel_rfl) (still_o [0, 0, 0] rfl) rfl rfl (g_index T rfl rfl rfl rfl rfl e20 c24.1 c24.2) ?_
                        refine atm_s T 17 hg pf (by kernel_rfl) (still_o [0, 0, 0] rfl) rfl ?_
                        refine atm_one 18 (by kernel_rfl) ?_
                        refine at_dsopen (j := 1) rfl s14 c24 (fun _ _ H46 o46 s46 => ?_)
                        obtain ⟨a45, n45, H45, s45, rfl, rfl⟩ := o46
                        refine at_spread ?_
                        refine at_dst T 1 2 [(.int .i64 (rd x25 x18).Goal), (.int .i64 (rd x25 x18).Sector), (.slice a44 (List.length ((([] : List Int) ++ (rd x25 x18).Ids) ++ [(rd l x13).Id])) n44)] rfl rfl rfl rfl rfl rfl s46 e20 rfl rfl rfl rfl (fun H47 s47 => ?_)
                        refine atm_next (still_l (by kernel_rfl)) ?_
                        refine atm_end (by kernel_rfl) ?_
                        refine at_gather [4] rfl ?_
                        refine at_dsclose (j := 1) (q := 5) (api_Pair.mk ((rd x25 x18).Goal) ((rd x25 x18).Sector) ((([] : List Int) ++ (rd x25 x18).Ids) ++ [(rd l x13).Id])) rfl s47 rfl rfl ⟨a44, n44, H44, s44, rfl, rfl⟩ (fun H49 s49 => ?_)
                        refine at_to [(0, (.int .i64 w)), (1, (.int .i64 h)), (2, (.slice a_l (List.length l) n_l)), (7, (.slice a14 (List.length (List.set x25 (Int.toNat x18) (api_Pair.mk ((rd x25 x18).Goal) ((rd x25 x18).Sector) ((([] : List Int) ++ (rd x25 x18).Ids) ++ [(rd l x13).Id])))) n14)), (8, (.slice a2 (List.length v2) n2)), (9, (.int .i64 x6)), (10, (.int .i64 (List.length x5 : Int))), (11, (.int .i64 x13))] [0, 0, 0] [F, H49, H2] ⟨rfl, rfl, rfl, (by first | rfl | (simp only [List.length_set]; rfl)), rfl, rfl, rfl, rfl, trivial⟩ rfl ?_
                        refine at_sub [(0, (.int .i64 w)), (1, (.int .i64 h)), (2, (.slice a_l (List.length l) n_l)), (7, (.slice a14 (List.length (List.set x25 (Int.toNat x18) (api_Pair.mk ((rd x25 x18).Goal) ((rd x25 x18).Sector) ((([] : List Int) ++ (rd x25 x18).Ids) ++ [(rd l x13).Id])))) n14)), (8, (.slice a2 (List.length v2) n2)), (9, (.int .i64 x6)), (10, (.int .i64 (List.length x5 : Int))), (11, (.int .i64 x13))] ⟨rfl, rfl, rfl, rfl, rfl, rfl, rfl, rfl, trivial⟩ ?_
                        refine at_nb ?_
                        refine at_then ?_
                        obtain rfl := Option.some.inj Z9
                        exact at_mid ((List.set x25 (Int.toNat x18) (api_Pair.mk ((rd x25 x18).Goal) ((rd x25 x18).Sector) ((([] : List Int) ++ (rd x25 x18).Ids) ++ [(rd l x13).Id]))), a14, n14, H49) [0, 0, 0] ⟨rfl, s49⟩ ⟨rfl, rfl, rfl, rfl, rfl, rfl, rfl, rfl, trivial⟩ rfl
              · rintro ⟨x15, a8, n8, H8⟩ ⟨rfl, s8⟩
                refine at_region [0, 1, 2] rfl ?_
                iterate 3 refine at_s T rfl ?_
                refine at_end ?_
                refine at_sub [(0, (.int .i64 w)), (1, (.int .i64 h)), (2, (.slice a_l (List.length l) n_l)), (7, (.slice a8 (List.length x15) n8)), (8, (.slice a2 (List.length v2) n2)), (9, (.int .i64 x6)), (10, (.int .i64 (List.length x5 : Int))), (11, (.int .i64 (w64 (x13 + 1))))] ⟨rfl, rfl, rfl, rfl, rfl, rfl, rfl, rfl, trivial⟩ ?_
                refine at_then ?_
                exact at_roundL (k14, x15, (w64 (x13 + 1)), a8, n8, H8) [0, 0, 0] ⟨Z7, s8⟩ (Nat.lt_succ_self _) ⟨rfl, rfl, rfl, rfl, rfl, rfl, rfl, rfl, trivial⟩ rfl
            · replace Z7 := if_f (of_decide_eq_false c8) Z7
              refine at_exit ?_
              refine at_xt ?_
              refine at_xt ?_
              refine at_xb ?_
              refine at_nb ?_
              refine at_then ?_
              obtain rfl := Option.some.inj Z7
              exact at_mid (x12, a7, n7, H7) [0, 0, 0] ⟨rfl, s7⟩ ⟨rfl, rfl, rfl, rfl, rfl, rfl, trivial⟩ rfl
        · rintro ⟨x8, a5, n5, H5⟩ ⟨rfl, s5⟩
          refine at_region [0, 1, 2] rfl ?_
          iterate 3 refine at_s T rfl ?_
          refine at_end ?_
          refine at_sub [(0, (.int .i64 w)), (1, (.int .i64 h)), (2, (.slice a_l (List.length l) n_l)), (7, (.slice a5 (List.length x8) n5)), (8, (.slice a2 (List.length v2) n2)), (9, (.int .i64 (w64 (x6 + 1))))] ⟨rfl, rfl, rfl, rfl, rfl, rfl, trivial⟩ ?_
          refine at_then ?_
          exact at_roundL (k7, x8, (w64 (x6 + 1)), a5, n5, H5) [0, 0, 0] ⟨Z4, s5⟩ (Nat.lt_succ_self _) ⟨rfl, rfl, rfl, rfl, rfl, rfl, trivial⟩ rfl
      · replace Z4 := if_f (of_decide_eq_false c5) Z4
        refine at_exit ?_
        refine at_xt ?_
        refine at_xt ?_
        refine at_xb ?_
        refine at_then ?_
        refine at_seq ?_
        refine at_region [0, 1] rfl ?_
        iterate 2 refine at_s T rfl ?_
        refine at_end ?_
        refine at_to [(6, (.slice a4 (List.length x5) n4))] [0, 0] [F, H4] ⟨rfl, trivial⟩ rfl ?_
        refine at_then ?_
        refine at_ret ?_
        obtain rfl := Option.some.inj Z4
        exact at_post (T := T) rfl (.tmp rfl .nil) (fun w o => ⟨⟨(_, _), ⟨a4, n4, H4, s4, rfl, rfl⟩⟩, rfl, own_to [1, 0] rfl o⟩)

/-! ### herdsman/herdsmanref21.SamePairs: function 46 -/
def ref21_SamePairs.l0 : Nat → (List api_Pair) → (List api_Pair) → Int → Option Bool
  | 0, _, _, _ => none
  | k3 + 1, a, b, x2 => if x2 < (List.length a : Int) then ((if (0 ≤ x2 ∧ x2 < (List.length a : Int)) then (if (0 ≤ x2 ∧ x2 < (List.length b : Int)) then (if ((rd a x2).Goal != (rd b x2).Goal) = true then (some true) else (if ((rd a x2).Sector != (rd b x2).Sector) = true then (some true) else ((ref1_Ints.f ((rd a x2).Ids) ((rd b x2).Ids)).bind fun v6 => some (!v6)))) else none) else none).bind fun x4 => if x4 = true then (some false) else (ref21_SamePairs.l0 k3 a b (w64 (x2 + 1)))) else (some true)
def ref21_SamePairs.f (a : (List api_Pair)) (b : (List api_Pair)) : Option Bool := if ((List.length a : Int) != (List.length b : Int)) = true then (some false) else (ref21_SamePairs.l0 fuel a b 0)
set_option maxHeartbeats 4000000 in
theorem ref21_SamePairs.c {a_a : Option Addr} {n_a : Nat} {a_b : Option Addr} {n_b : Nat} (a : (List api_Pair)) (b : (List api_Pair)) (r : Bool) (F : Hp) (H : ref21_SamePairs.f a b = some r) (h_a : SliceDR q_api_Pair a a_a F) (c_a : List.length a ≤ n_a) (h_b : SliceDR q_api_Pair b a_b F) (c_b : List.length b ≤ n_b) :
    CallsL Try.prog 46 [(.slice a_a (List.length a) n_a), (.slice a_b (List.length b) n_b)] [F] (fun _ : Unit => (.bool r)) (fun _ => [F]) := by
  unfold ref21_SamePairs.f at H
  refine calls_atL [(0, (.slice a_a (List.length a) n_a)), (1, (.slice a_b (List.length b) n_b))] Try.func46 rfl rfl ⟨rfl, rfl, trivial⟩ (fun W => ?_)
  refine at_seq ?_
  refine at_region [0] rfl ?_
  refine at_s T rfl ?_
  refine at_end ?_
  refine at_sub [(0, (.slice a_a (List.length a) n_a)), (1, (.slice a_b (List.length b) n_b))] ⟨rfl, rfl, trivial⟩ ?_
  refine at_then ?_
  refine at_seq ?_
  refine at_seq ?_
  refine at_region [0, 1, 2, 3, 4] rfl ?_
  iterate 5 refine at_s T rfl ?_
  refine at_end ?_
  refine at_sub [(0, (.slice a_a (List.length a) n_a)), (1, (.slice a_b (List.length b) n_b)), (10, (.bool ((List.length a : Int) != (List.length b : Int))))] ⟨rfl, rfl, rfl, trivial⟩ ?_
  refine at_then ?_
  refine at_cond rfl (fun c1 => ?_) (fun c1 => ?_)
  · replace H := if_t c1 H
    refine at_seq ?_
    refine at_region [0] rfl ?_
    refine at_s T rfl ?_
    refine at_end ?_
    refine at_sub [(4, (.bool false))] ⟨rfl, trivial⟩ ?_
    refine at_then ?_
    refine at_ret ?_
    refine at_rt ?_
    obtain rfl := Option.some.inj H
    exact at_post (T := T) rfl (.tmp rfl .nil) (fun w o => ⟨(), rfl, own_to [0] rfl o⟩)
  · replace H := if_f (bf c1) H
    refine at_skip ?_
    refine at_then ?_
    refine at_seq ?_
    refine at_seq ?_
    refine at_region [0] rfl ?_
    refine at_s T rfl ?_
    refine at_end ?_
    refine at_sub [(0, (.slice a_a (List.length a) n_a)), (1, (.slice a_b (List.length b) n_b)), (5, (.int .i64 0))] ⟨rfl, rfl, rfl, trivial⟩ ?_
    refine at_then ?_
    refine at_block ?_
    refine at_loopL (σ := Nat × Int) (fun ⟨k3, x2⟩ => ref21_SamePairs.l0 k3 a b x2 = some r) (fun ⟨k3, x2⟩ => [(0, (.slice a_a (List.length a) n_a)), (1, (.slice a_b (List.length b) n_b)), (5, (.int .i64 x2))]) (fun ⟨k3, x2⟩ => [F]) (fun s => s.1) (fuel, 0) [0] H ⟨rfl, rfl, rfl, trivial⟩ rfl ?_
    rintro ⟨k3, x2⟩ Z2
    replace Z2 : ref21_SamePairs.l0 k3 a b x2 = some r := Z2
    rcases k3 with _ | k3
    · rw [ref21_SamePairs.l0] at Z2; cases Z2
    · rw [ref21_SamePairs.l0] at Z2
      refine at_seq ?_
      refine at_seq ?_
      refine at_region [0, 1, 2, 3] rfl ?_
      iterate 4 refine at_s T rfl ?_
      refine at_end ?_
      refine at_sub [(0, (.slice a_a (List.length a) n_a)), (1, (.slice a_b (List.length b) n_b)), (5, (.int .i64 x2)), (14, (.bool (decide (x2 < (List.length a : Int)))))] ⟨rfl, rfl, rfl, rfl, trivial⟩ ?_
      refine at_then ?_
      refine at_cond rfl (fun c3 => ?_) (fun c3 => ?_)
      · replace Z2 := if_t (of_decide_eq_true c3) Z2
        refine at_skip ?_
        refine at_then ?_
        refine at_seq ?_
        refine at_block ?_
        obtain ⟨z5, Z4, Z2⟩ := bind_e Z2
        refine at_seq_mid (σ := Bool) (fun x4 => x4 = z5) (fun x4 => [(0, (.slice a_a (List.length a) n_a)), (1, (.slice a_b (List.length b) n_b)), (5, (.int .i64 x2)), (54, (.bool x4))]) (fun x4 => [F]) ?_ ?_
        · refine at_region_q mix (by kernel_rfl) ?_
          iterate 2 refine atq_s T rfl ?_
          obtain ⟨c5, Z4⟩ := chk_e Z4
          obtain ⟨q1, o1, e1⟩ := h_a.addr c5.1 c5.2
          refine atq_v rfl rfl rfl (g_index T rfl rfl rfl rfl rfl e1 c5.1 c5.2) ?_
          refine atq_s T rfl ?_
          obtain ⟨_, w3, ⟨a2, n2, ⟨r2, m2⟩, rfl⟩⟩ := SliceDR.view h_a c5
          refine atq_v rfl rfl rfl (g_load T rfl rfl rfl rfl (in_view (j := 0) rfl w3 e1 0 rfl)) ?_
          iterate 2 refine atq_s T rfl ?_
          obtain ⟨c6, Z4⟩ := chk_e Z4
          obtain ⟨q4, o4, e4⟩ := h_b.addr c6.1 c6.2
          refine atq_v rfl rfl rfl (g_index T rfl rfl rfl rfl rfl e4 c6.1 c6.2) ?_
          refine atq_s T rfl ?_
          obtain ⟨_, w6, ⟨a5, n5, ⟨r5, m5⟩, rfl⟩⟩ := SliceDR.view h_b c6
          refine atq_v rfl rfl rfl (g_load T rfl rfl rfl rfl (in_view (j := 0) rfl w6 e4 0 rfl)) ?_
          iterate 2 refine atq_s T rfl ?_
          refine atq_case (s := 28) rfl (fun c7 => ?_) (fun c7 => ?_)
          · replace Z4 := if_t c7 Z4
            iterate 26 refine atq_s T rfl ?_
            refine atq_end ?_
            refine at_sub [(0, (.slice a_a (List.length a) n_a)), (1, (.slice a_b (List.length b) n_b)), (5, (.int .i64 x2)), (54, (.bool true))] ⟨rfl, rfl, rfl, rfl, trivial⟩ ?_
            refine at_then ?_
            obtain rfl := Option.some.inj Z4
            exact at_mid true [0] rfl ⟨rfl, rfl, rfl, rfl, trivial⟩ rfl
          · replace Z4 := if_f (bf c7) Z4
            iterate 2 refine atq_s T rfl ?_
            refine atq_v rfl rfl rfl (g_index T rfl rfl rfl rfl rfl e1 c5.1 c5.2) ?_
            refine atq_s T rfl ?_
            refine atq_v rfl rfl rfl (g_load T rfl rfl rfl rfl (in_view (j := 0) rfl w3 e1 1 rfl)) ?_
            iterate 2 refine atq_s T rfl ?_
            refine atq_v rfl rfl rfl (g_index T rfl rfl rfl rfl rfl e4 c6.1 c6.2) ?_
            refine atq_s T rfl ?_
            refine atq_v rfl rfl rfl (g_load T rfl rfl rfl rfl (in_view (j := 0) rfl w6 e4 1 rfl)) ?_
            iterate 3 refine atq_s T rfl ?_
            refine atq_case (s := 41) rfl (fun c8 => ?_) (fun c8 => ?_)
            · replace Z4 := if_t c8 Z4
              iterate 13 refine atq_s T rfl ?_
              refine atq_end ?_
              refine at_sub [(0, (.slice a_a (List.length a) n_a)), (1, (.slice a_b (List.length b) n_b)), (5, (.int .i64 x2)), (54, (.bool true))] ⟨rfl, rfl, rfl, rfl, trivial⟩ ?_
              refine at_then ?_
              obtain rfl := Option.some.inj Z4
              exact at_mid true [0] rfl ⟨rfl, rfl, rfl, rfl, trivial⟩ rfl
            · replace Z4 := if_f (bf c8) Z4
              iterate 2 refine atq_s T rfl ?_
              refine atq_v rfl rfl rfl (g_index T rfl rfl rfl rfl rfl e1 c5.1 c5.2) ?_
              refine atq_s T rfl ?_
              refine atq_v rfl rfl rfl (g_load T rfl rfl rfl rfl (in_view (j := 0) rfl w3 e1 2 rfl)) ?_
              iterate 2 refine atq_s T rfl ?_
              refine atq_v rfl rfl rfl (g_index T rfl rfl rfl rfl rfl e4 c6.1 c6.2) ?_
              refine atq_s T rfl ?_
              refine atq_v rfl rfl rfl (g_load T rfl rfl rfl rfl (in_view (j := 0) rfl w6 e4 2 rfl)) ?_
              obtain ⟨v6, V9, Z4⟩ := bind_e Z4
              refine atq_c rfl rfl rfl rfl rfl rfl has48 rfl (ref1_Ints.c ((rd a x2).Ids) ((rd b x2).Ids) v6 _ V9 (ro_of r2 (j := 0) rfl) m2 (ro_of r5 (j := 0) rfl) m5) ?_
              iterate 2 refine atq_s T rfl ?_
              refine atq_end ?_
              refine at_sub [(0, (.slice a_a (List.length a) n_a)), (1, (.slice a_b (List.length b) n_b)), (5, (.int .i64 x2)), (54, (.bool (!v6)))] ⟨rfl, rfl, rfl, rfl, trivial⟩ ?_
              refine at_then ?_
              obtain rfl := Option.some.inj Z4
              exact at_mid (!v6) [0] rfl ⟨rfl, rfl, rfl, rfl, trivial⟩ rfl
        · rintro x4 rfl
          refine at_cond rfl (fun c10 => ?_) (fun c10 => ?_)
          · replace Z2 := if_t c10 Z2
            refine at_seq ?_
            refine at_region [0] rfl ?_
            refine at_s T rfl ?_
            refine at_end ?_
            refine at_sub [(4, (.bool false))] ⟨rfl, trivial⟩ ?_
            refine at_then ?_
            refine at_ret ?_
            refine at_rb ?_
            refine at_rt ?_
            refine at_rt ?_
            refine at_rb ?_
            refine at_rt ?_
            obtain rfl := Option.some.inj Z2
            exact at_post (T := T) rfl (.tmp rfl .nil) (fun w o => ⟨(), rfl, own_to [0] rfl o⟩)
          · replace Z2 := if_f (bf c10) Z2
            refine at_skip ?_
            refine at_nb ?_
            refine at_then ?_
            refine at_region [0, 1, 2] rfl ?_
            iterate 3 refine at_s T rfl ?_
            refine at_end ?_
            refine at_sub [(0, (.slice a_a (List.length a) n_a)), (1, (.slice a_b (List.length b) n_b)), (5, (.int .i64 (w64 (x2 + 1))))] ⟨rfl, rfl, rfl, trivial⟩ ?_
            refine at_then ?_
            exact at_roundL (k3, (w64 (x2 + 1))) [0] Z2 (Nat.lt_succ_self _) ⟨rfl, rfl, rfl, trivial⟩ rfl
      · replace Z2 := if_f (of_decide_eq_false c3) Z2
        refine at_exit ?_
        refine at_xt ?_
        refine at_xt ?_
        refine at_xb ?_
        refine at_then ?_
        refine at_seq ?_
        refine at_region [0] rfl ?_
        refine at_s T rfl ?_
        refine at_end ?_
        refine at_sub [(4, (.bool true))] ⟨rfl, trivial⟩ ?_
        refine at_then ?_
        refine at_ret ?_
        obtain rfl := Option.some.inj Z2
        exact at_post (T := T) rfl (.tmp rfl .nil) (fun w o => ⟨(), rfl, own_to [0] rfl o⟩)

/-! ### herdsman/herdsmanref21.Same: function 30 -/
def ref21_Same.l0 : Nat → (List api_Unit) → (List api_Unit) → Int → Option Bool
  | 0, _, _, _ => none
  | k3 + 1, a, b, x2 => if x2 < (List.length a : Int) then (if (0 ≤ x2 ∧ x2 < (List.length a : Int)) then (if (0 ≤ x2 ∧ x2 < (List.length b : Int)) then (if (!(((rd a x2).Id == (rd b x2).Id) && (((rd a x2).Cell == (rd b x2).Cell) && (((rd a x2).Goal == (rd b x2).Goal) && true)))) = true then (some false) else (ref21_Same.l0 k3 a b (w64 (x2 + 1)))) else none) else none) else (some true)
def ref21_Same.f (a : (List api_Unit)) (b : (List api_Unit)) : Option Bool := if ((List.length a : Int) != (List.length b : Int)) = true then (some false) else (ref21_Same.l0 fuel a b 0)
set_option maxHeartbeats 4000000 in
theorem ref21_Same.c {a_a : Option Addr} {n_a : Nat} {a_b : Option Addr} {n_b : Nat} (a : (List api_Unit)) (b : (List api_Unit)) (r : Bool) (F : Hp) (H : ref21_Same.f a b = some r) (h_a : SliceR k_api_Unit a a_a F) (c_a : List.length a ≤ n_a) (h_b : SliceR k_api_Unit b a_b F) (c_b : List.length b ≤ n_b) :
    CallsL Try.prog 30 [(.slice a_a (List.length a) n_a), (.slice a_b (List.length b) n_b)] [F] (fun _ : Unit => (.bool r)) (fun _ => [F]) := by
  unfold ref21_Same.f at H
  refine calls_atL [(0, (.slice a_a (List.length a) n_a)), (1, (.slice a_b (List.length b) n_b))] Try.func30 rfl rfl ⟨rfl, rfl, trivial⟩ (fun W => ?_)
  refine at_seq ?_
  refine at_region [0] rfl ?_
  refine at_s T rfl ?_
  refine at_end ?_
  refine at_sub [(0, (.slice a_a (List.length a) n_a)), (1, (.slice a_b (List.length b) n_b))] ⟨rfl, rfl, trivial⟩ ?_
  refine at_then ?_
  refine at_seq ?_
  refine at_seq ?_
  refine at_region [0, 1, 2, 3, 4] rfl ?_
  iterate 5 refine at_s T rfl ?_
  refine at_end ?_
  refine at_sub [(0, (.slice a_a (List.length a) n_a)), (1, (.slice a_b (List.length b) n_b)), (10, (.bool ((List.length a : Int) != (List.length b : Int))))] ⟨rfl, rfl, rfl, trivial⟩ ?_
  refine at_then ?_
  refine at_cond rfl (fun c1 => ?_) (fun c1 => ?_)
  · replace H := if_t c1 H
    refine at_seq ?_
    refine at_region [0] rfl ?_
    refine at_s T rfl ?_
    refine at_end ?_
    refine at_sub [(4, (.bool false))] ⟨rfl, trivial⟩ ?_
    refine at_then ?_
    refine at_ret ?_
    refine at_rt ?_
    obtain rfl := Option.some.inj H
    exact at_post (T := T) rfl (.tmp rfl .nil) (fun w o => ⟨(), rfl, own_to [0] rfl o⟩)
  · replace H := if_f (bf c1) H
    refine at_skip ?_
    refine at_then ?_
    refine at_seq ?_
    refine at_seq ?_
    refine at_region [0] rfl ?_
    refine at_s T rfl ?_
    refine at_end ?_
    refine at_sub [(0, (.slice a_a (List.length a) n_a)), (1, (.slice a_b (List.length b) n_b)), (5, (.int .i64 0))] ⟨rfl, rfl, rfl, trivial⟩ ?_
    refine at_then ?_
    refine at_block ?_
    refine at_loopL (σ := Nat × Int) (fun ⟨k3, x2⟩ => ref21_Same.l0 k3 a b x2 = some r) (fun ⟨k3, x2⟩ => [(0, (.slice a_a (List.length a) n_a)), (1, (.slice a_b (List.length b) n_b)), (5, (.int .i64 x2))]) (fun ⟨k3, x2⟩ => [F]) (fun s => s.1) (fuel, 0) [0] H ⟨rfl, rfl, rfl, trivial⟩ rfl ?_
    rintro ⟨k3, x2⟩ Z2
    replace Z2 : ref21_Same.l0 k3 a b x2 = some r := Z2
    rcases k3 with _ | k3
    · rw [ref21_Same.l0] at Z2; cases Z2
    · rw [ref21_Same.l0] at Z2
      refine at_seq ?_
      refine at_seq ?_
      refine at_region [0, 1, 2, 3] rfl ?_
      iterate 4 refine at_s T rfl ?_
      refine at_end ?_
      refine at_sub [(0, (.slice a_a (List.length a) n_a)), (1, (.slice a_b (List.length b) n_b)), (5, (.int .i64 x2)), (14, (.bool (decide (x2 < (List.length a : Int)))))] ⟨rfl, rfl, rfl, rfl, trivial⟩ ?_
      refine at_then ?_
      refine at_cond rfl (fun c3 => ?_) (fun c3 => ?_)
      · replace Z2 := if_t (of_decide_eq_true c3) Z2
        refine at_skip ?_
        refine at_then ?_
        refine at_seq ?_
        refine at_block ?_
        refine at_seq ?_
        refine at_region_q mix (by kernel_rfl) ?_
        iterate 2 refine atq_s T rfl ?_
        obtain ⟨c4, Z2⟩ := chk_e Z2
        obtain ⟨q1, o1, e1⟩ := h_a.addr c4.1 c4.2
        refine atq_v rfl rfl rfl (g_index T rfl rfl rfl rfl rfl e1 c4.1 c4.2) ?_
        refine atq_v rfl rfl rfl (g_loadA T (cs := [(.int .i64 (rd a x2).Id), (.int .i64 (rd a x2).Cell), (.int .i64 (rd a x2).Goal)]) rfl rfl rfl rfl rfl rfl (in_elemA (k := k_api_Unit) (ro_of h_a (j := 0) rfl) e1 c4 rfl)) ?_
        iterate 2 refine atq_s T rfl ?_
        obtain ⟨c5, Z2⟩ := chk_e Z2
        obtain ⟨q2, o2, e2⟩ := h_b.addr c5.1 c5.2
        refine atq_v rfl rfl rfl (g_index T rfl rfl rfl rfl rfl e2 c5.1 c5.2) ?_
        refine atq_v rfl rfl rfl (g_loadA T (cs := [(.int .i64 (rd b x2).Id), (.int .i64 (rd b x2).Cell), (.int .i64 (rd b x2).Goal)]) rfl rfl rfl rfl rfl rfl (in_elemA (k := k_api_Unit) (ro_of h_b (j := 0) rfl) e2 c5 rfl)) ?_
        refine atq_v rfl rfl rfl (g_aeqn T (((rd a x2).Id == (rd b x2).Id) && (((rd a x2).Cell == (rd b x2).Cell) && (((rd a x2).Goal == (rd b x2).Goal) && true))) rfl rfl rfl rfl sq47 (by kernel_rfl) rfl) ?_
        refine atq_end ?_
        refine at_sub [(0, (.slice a_a (List.length a) n_a)), (1, (.slice a_b (List.length b) n_b)), (5, (.int .i64 x2)), (25, (.bool (!(((rd a x2).Id == (rd b x2).Id) && (((rd a x2).Cell == (rd b x2).Cell) && (((rd a x2).Goal == (rd b x2).Goal) && true))))))] ⟨rfl, rfl, rfl, rfl, trivial⟩ ?_
        refine at_then ?_
        refine at_cond rfl (fun c6 => ?_) (fun c6 => ?_)
        · replace Z2 := if_t c6 Z2
          refine at_seq ?_
          refine at_region [0] rfl ?_
          refine at_s T rfl ?_
          refine at_end ?_
          refine at_sub [(4, (.bool false))] ⟨rfl, trivial⟩ ?_
          refine at_then ?_
          refine at_ret ?_
          refine at_rb ?_
          refine at_rt ?_
          refine at_rt ?_
          refine at_rb ?_
          refine at_rt ?_
          obtain rfl := Option.some.inj Z2
          exact at_post (T := T) rfl (.tmp rfl .nil) (fun w o => ⟨(), rfl, own_to [0] rfl o⟩)
        · replace Z2 := if_f (bf c6) Z2
          refine at_skip ?_
          refine at_nb ?_
          refine at_then ?_
          refine at_region [0, 1, 2] rfl ?_
          iterate 3 refine at_s T rfl ?_
          refine at_end ?_
          refine at_sub [(0, (.slice a_a (List.length a) n_a)), (1, (.slice a_b (List.length b) n_b)), (5, (.int .i64 (w64 (x2 + 1))))] ⟨rfl, rfl, rfl, trivial⟩ ?_
          refine at_then ?_
          exact at_roundL (k3, (w64 (x2 + 1))) [0] Z2 (Nat.lt_succ_self _) ⟨rfl, rfl, rfl, trivial⟩ rfl
      · replace Z2 := if_f (of_decide_eq_false c3) Z2
        refine at_exit ?_
        refine at_xt ?_
        refine at_xt ?_
        refine at_xb ?_
        refine at_then ?_
        refine at_seq ?_
        refine at_region [0] rfl ?_
        refine at_s T rfl ?_
        refine at_end ?_
        refine at_sub [(4, (.bool true))] ⟨rfl, trivial⟩ ?_
        refine at_then ?_
        refine at_ret ?_
        obtain rfl := Option.some.inj Z2
        exact at_post (T := T) rfl (.tmp rfl .nil) (fun w o => ⟨(), rfl, own_to [0] rfl o⟩)
end Go.Proofs.Ytmddmofncblfpaa
