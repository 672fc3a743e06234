import Derived.Test.YtkidcebfpengmaaT
import Derived.Test.YtkidcebfpengmaaFlaw24
import Derived.Test.YtkidcebfpengmaaFmarch
import Derived.Test.YtkidcebfpengmaaFref1
import Derived.Test.YtkidcebfpengmaaFref21
import Derived.Test.YtkidcebfpengmaaFwhere
namespace Go.Proofs.Ytkidcebfpengmaa
open Go.Hx
set_option maxRecDepth 100000
set_option linter.unusedVariables false
/-! ### herdsman/herdsmanlaw24.MarchStays: function 5 -/
def law24_MarchStays.l2 : Nat → (List api_Unit) → ((List api_Unit) × (List api_Move) × (List Int) × Int) → List Int → Int → Int → Int → Bool → Int → Option (Sum Bool ((List Int) × Int))
  | 0, _, _, _, _, _, _, _, _ => none
  | k28 + 1, v3, v5, x14, x15, x16, x21, x26, x27 => if x27 < (List.length v3 : Int) then (if x26 = true then (law24_MarchStays.l2 k28 v3 v5 x14 x15 x16 x21 true (w64 (x27 + 1))) else (if (0 ≤ x27 ∧ x27 < (List.length x14 : Int)) then (law24_MarchStays.l2 k28 v3 v5 x14 x15 x16 x21 ((rd x14 x27) == x21) (w64 (x27 + 1))) else none)) else ((if x15 < (List.length v5.2.1 : Int) then (if (0 ≤ x15 ∧ x15 < (List.length v5.2.1 : Int)) then (if (0 ≤ x16 ∧ x16 < (List.length v3 : Int)) then (some ((rd v5.2.1 x15).Id == (rd v3 x16).Id)) else none) else none) else (some false)).bind fun x29 => if (x29 == ((decide (x21 < 0)) || x26)) = true then (some (Sum.inl false)) else (if x29 = true then (if (0 ≤ x16 ∧ x16 < (List.length x14 : Int)) then (if (0 ≤ x16 ∧ x16 < (List.length v3 : Int)) then (if (x21 == (rd v3 x16).Goal) = true then (if (0 ≤ x16 ∧ x16 < (List.length (List.set x14 (Int.toNat x16) x21) : Int)) then (some (Sum.inr ((List.set (List.set x14 (Int.toNat x16) x21) (Int.toNat x16) (-2)), (w64 (x15 + 1))))) else none) else (some (Sum.inr ((List.set x14 (Int.toNat x16) x21), (w64 (x15 + 1)))))) else none) else none) else (some (Sum.inr (x14, x15)))))
def law24_MarchStays.l1 : Nat → Int → Int → (List api_Unit) → (List Int) → ((List api_Unit) × (List api_Move) × (List Int) × Int) → List Int → Int → Int → Option Bool
  | 0, _, _, _, _, _, _, _, _ => none
  | k17 + 1, v1, v2, v3, v4, v5, x14, x15, x16 => if x16 < (List.length v3 : Int) then (((if (0 ≤ x16 ∧ x16 < (List.length v4 : Int)) then (if (rd v4 x16) ≤ 3 then (if (0 ≤ x16 ∧ x16 < (List.length v3 : Int)) then ((where_Step.f v1 v2 ((rd v3 x16).Cell) (rd v4 x16)).bind fun v23 => some v23) else none) else (some (-1))) else none).bind fun x21 => law24_MarchStays.l2 fuel v3 v5 x14 x15 x16 x21 false 0).bind fun zz => match zz with | Sum.inl q => some q | Sum.inr (x18, x19) => law24_MarchStays.l1 k17 v1 v2 v3 v4 v5 x18 x19 (w64 (x16 + 1))) else ((law24_told.f).bind fun v31 => some (v31 && (x15 == (List.length v5.2.1 : Int))))
def law24_MarchStays.l0 : Nat → Int → Int → (List api_Unit) → (List Int) → ((List api_Unit) × (List api_Move) × (List Int) × Int) → List Int → Int → Option Bool
  | 0, _, _, _, _, _, _, _ => none
  | k10 + 1, v1, v2, v3, v4, v5, x8, x9 => if x9 < (List.length v3 : Int) then (if (0 ≤ x9 ∧ x9 < (List.length v3 : Int)) then (if (0 ≤ x9 ∧ x9 < (List.length x8 : Int)) then (law24_MarchStays.l0 k10 v1 v2 v3 v4 v5 (List.set x8 (Int.toNat x9) ((rd v3 x9).Cell)) (w64 (x9 + 1))) else none) else none) else (law24_MarchStays.l1 fuel v1 v2 v3 v4 v5 x8 0 0)
def law24_MarchStays.f (w : Int) (h : Int) (k : (List Int)) : Option Bool := (ref1_Within.f w 1 8).bind fun v1 => (ref1_Within.f h 1 8).bind fun v2 => (ref21_Made.f v1 v2 k).bind fun v3 => (law24_dirs.f v3 k).bind fun v4 => (march_Go.f v1 v2 v3 v4).bind fun v5 => if (v5.2.2.2 != 0) = true then (some false) else (if (0 ≤ (List.length v3 : Int) ∧ (List.length v3 : Int) ≤ 1099511627776) then (law24_MarchStays.l0 fuel v1 v2 v3 v4 v5 (List.replicate (Int.toNat (List.length v3 : Int)) (0 : Int)) 0) else none)
set_option maxHeartbeats 4000000 in
theorem law24_MarchStays.c {a_k : Option Addr} {n_k : Nat} (w : Int) (h : Int) (k : (List Int)) (r : Bool) (F : Hp) (H : law24_MarchStays.f w h k = some r) (h_k : SliceR (Fl.int .i64) k a_k F) (c_k : List.length k ≤ n_k) :
    CallsL Try.prog 5 [(.int .i64 w), (.int .i64 h), (.slice a_k (List.length k) n_k)] [F] (fun _ : Unit => (.bool r)) (fun _ => [F]) := by
  unfold law24_MarchStays.f at H
  refine calls_atL [(0, (.int .i64 w)), (1, (.int .i64 h)), (2, (.slice a_k (List.length k) n_k))] Try.func5 rfl rfl ⟨rfl, rfl, rfl, trivial⟩ (fun W => ?_)
  refine at_seq ?_
  refine at_region [0] rfl ?_
  refine at_s T rfl ?_
  refine at_end ?_
  refine at_sub [(0, (.int .i64 w)), (1, (.int .i64 h)), (2, (.slice a_k (List.length k) n_k))] ⟨rfl, rfl, rfl, trivial⟩ ?_
  refine at_then ?_
  refine at_seq ?_
  refine at_region [0, 1, 2, 3, 4, 5] rfl ?_
  refine at_s T rfl ?_
  obtain ⟨v1, V1, H⟩ := bind_e H
  refine at_cons (at_c (B := fun _ => []) [] rfl rfl rfl rfl has12 rfl rfl (ref1_Within.c w 1 8 v1 _ V1) (fun _ => ?_))
  refine at_s T rfl ?_
  obtain ⟨v2, V2, H⟩ := bind_e H
  refine at_cons (at_c (B := fun _ => []) [] rfl rfl rfl rfl has12 rfl rfl (ref1_Within.c h 1 8 v2 _ V2) (fun _ => ?_))
  iterate 2 refine at_s T rfl ?_
  refine at_end ?_
  refine at_sub [(0, (.int .i64 v1)), (1, (.int .i64 v2)), (2, (.slice a_k (List.length k) n_k))] ⟨rfl, rfl, rfl, trivial⟩ ?_
  refine at_then ?_
  refine at_seq ?_
  refine at_region [0, 1, 2, 3, 4] rfl ?_
  iterate 3 refine at_s T rfl ?_
  obtain ⟨v3, V3, H⟩ := bind_e H
  refine at_cons (at_cR (ref21_Made.R v3) [] [] rfl rfl rfl rfl has13 rfl rfl (ref21_Made.c v1 v2 k v3 _ V3 (ro_of h_k (j := 0) rfl) c_k) ?_)
  rintro _ _ ⟨a1, n1, H1, s1, rfl, rfl⟩
  refine at_s T rfl ?_
  refine at_end ?_
  refine at_sub [(0, (.int .i64 v1)), (1, (.int .i64 v2)), (2, (.slice a_k (List.length k) n_k)), (7, (.slice a1 (List.length v3) n1))] ⟨rfl, rfl, rfl, rfl, trivial⟩ ?_
  refine at_then ?_
  refine at_seq ?_
  refine at_region [0, 1, 2, 3] rfl ?_
  iterate 2 refine at_s T rfl ?_
  obtain ⟨v4, V4, H⟩ := bind_e H
  refine at_cons (at_cR (law24_dirs.R v4) [] [] rfl rfl rfl rfl has14 rfl rfl (law24_dirs.c v3 k v4 _ V4 (own_of s1 (j := 1) rfl) s1.cap_le (ro_of h_k (j := 0) rfl) c_k) ?_)
  rintro _ _ ⟨a2, n2, H2, s2, rfl, rfl⟩
  refine at_s T rfl ?_
  refine at_end ?_
  refine at_sub [(0, (.int .i64 v1)), (1, (.int .i64 v2)), (7, (.slice a1 (List.length v3) n1)), (8, (.slice a2 (List.length v4) n2))] ⟨rfl, rfl, rfl, rfl, trivial⟩ ?_
  refine at_then ?_
  refine at_seq ?_
  refine at_region [0, 1, 2, 3, 4, 5, 6, 7, 8, 9, 10, 11, 12, 13] rfl ?_
  iterate 4 refine at_s T rfl ?_
  obtain ⟨v5, V5, H⟩ := bind_e H
  refine at_cons (at_cR (march_Go.R v5) [] [] rfl rfl rfl rfl has15 rfl rfl (march_Go.c v1 v2 v3 v4 v5 _ V5 (own_of s1 (j := 1) rfl) s1.cap_le (own_of s2 (j := 2) rfl) s2.cap_le) ?_)
  rintro _ _ ⟨a3, n3, H3, a4, n4, H4, a5, n5, H5, s3, s4, s5, rfl, rfl⟩
  iterate 9 refine at_s T rfl ?_
  refine at_end ?_
  refine at_to [(0, (.int .i64 v1)), (1, (.int .i64 v2)), (7, (.slice a1 (List.length v3) n1)), (8, (.slice a2 (List.length v4) n2)), (10, (.slice a4 (List.length v5.2.1) n4)), (12, (.int .i64 v5.2.2.2))] [0, 0, 0, 1] [F, H1, H2, H4] ⟨rfl, rfl, rfl, rfl, rfl, rfl, trivial⟩ rfl ?_
  refine at_then ?_
  refine at_seq ?_
  refine at_seq ?_
  refine at_region [0, 1] rfl ?_
  iterate 2 refine at_s T rfl ?_
  refine at_end ?_
  refine at_sub [(0, (.int .i64 v1)), (1, (.int .i64 v2)), (7, (.slice a1 (List.length v3) n1)), (8, (.slice a2 (List.length v4) n2)), (10, (.slice a4 (List.length v5.2.1) n4)), (43, (.bool (v5.2.2.2 != 0)))] ⟨rfl, rfl, rfl, rfl, rfl, rfl, trivial⟩ ?_
  refine at_then ?_
  refine at_cond rfl (fun c6 => ?_) (fun c6 => ?_)
  · replace H := if_t c6 H
    refine at_seq ?_
    refine at_region [0] rfl ?_
    refine at_s T rfl ?_
    refine at_end ?_
    refine at_to [(6, (.bool false))] [0] [F] ⟨rfl, trivial⟩ rfl ?_
    refine at_then ?_
    refine at_ret ?_
    refine at_rt ?_
    obtain rfl := Option.some.inj H
    exact at_post (T := T) rfl (.tmp rfl .nil) (fun w o => ⟨(), rfl, own_to [0] rfl o⟩)
  · replace H := if_f (bf c6) H
    refine at_skip ?_
    refine at_then ?_
    refine at_seq ?_
    refine at_region [0, 1, 2, 3] rfl ?_
    iterate 2 refine at_s T rfl ?_
    obtain ⟨c7, H⟩ := chk_e H
    refine at_cons (at_mk (k := (Fl.int .i64)) T (0 : Int) rfl rfl rfl rfl rfl rfl rfl rfl c7 rfl (fun a6 n6 H6 s6 => ?_))
    refine at_s T rfl ?_
    refine at_end ?_
    refine at_sub [(0, (.int .i64 v1)), (1, (.int .i64 v2)), (7, (.slice a1 (List.length v3) n1)), (8, (.slice a2 (List.length v4) n2)), (10, (.slice a4 (List.length v5.2.1) n4)), (13, (.slice a6 (List.length (List.replicate (Int.toNat (List.length v3 : Int)) (0 : Int))) n6))] ⟨rfl, rfl, rfl, rfl, rfl, rfl, trivial⟩ ?_
    refine at_then ?_
    refine at_seq ?_
    refine at_seq ?_
    refine at_region [0] rfl ?_
    refine at_s T rfl ?_
    refine at_end ?_
    refine at_sub [(0, (.int .i64 v1)), (1, (.int .i64 v2)), (7, (.slice a1 (List.length v3) n1)), (8, (.slice a2 (List.length v4) n2)), (10, (.slice a4 (List.length v5.2.1) n4)), (13, (.slice a6 (List.length (List.replicate (Int.toNat (List.length v3 : Int)) (0 : Int))) n6)), (14, (.int .i64 0))] ⟨rfl, rfl, rfl, rfl, rfl, rfl, rfl, trivial⟩ ?_
    refine at_then ?_
    refine at_block ?_
    refine at_loopL (σ := Nat × List Int × Int × Option Addr × Nat × Hp) (fun ⟨k10, x8, x9, a8, n8, H8⟩ => law24_MarchStays.l0 k10 v1 v2 v3 v4 v5 x8 x9 = some r ∧ SliceO (Fl.int .i64) 3 x8 a8 n8 H8) (fun ⟨k10, x8, x9, a8, n8, H8⟩ => [(0, (.int .i64 v1)), (1, (.int .i64 v2)), (7, (.slice a1 (List.length v3) n1)), (8, (.slice a2 (List.length v4) n2)), (10, (.slice a4 (List.length v5.2.1) n4)), (13, (.slice a8 (List.length x8) n8)), (14, (.int .i64 x9))]) (fun ⟨k10, x8, x9, a8, n8, H8⟩ => [F, H1, H2, H4, H8]) (fun s => s.1) (fuel, (List.replicate (Int.toNat (List.length v3 : Int)) (0 : Int)), 0, a6, n6, H6) [0, 0, 0, 0, 0] ⟨H, s6⟩ ⟨rfl, rfl, rfl, rfl, rfl, rfl, rfl, trivial⟩ rfl ?_
    rintro ⟨k10, x8, x9, a8, n8, H8⟩ ⟨Z8, s8⟩
    replace Z8 : law24_MarchStays.l0 k10 v1 v2 v3 v4 v5 x8 x9 = some r := Z8
    rcases k10 with _ | k10
    · rw [law24_MarchStays.l0] at Z8; cases Z8
    · rw [law24_MarchStays.l0] at Z8
      refine at_seq ?_
      refine at_seq ?_
      refine at_region [0, 1, 2, 3] rfl ?_
      iterate 4 refine at_s T rfl ?_
      refine at_end ?_
      refine at_sub [(0, (.int .i64 v1)), (1, (.int .i64 v2)), (7, (.slice a1 (List.length v3) n1)), (8, (.slice a2 (List.length v4) n2)), (10, (.slice a4 (List.length v5.2.1) n4)), (13, (.slice a8 (List.length x8) n8)), (14, (.int .i64 x9)), (50, (.bool (decide (x9 < (List.length v3 : Int)))))] ⟨rfl, rfl, rfl, rfl, rfl, rfl, rfl, rfl, trivial⟩ ?_
      refine at_then ?_
      refine at_cond rfl (fun c9 => ?_) (fun c9 => ?_)
      · replace Z8 := if_t (of_decide_eq_true c9) Z8
        refine at_skip ?_
        refine at_then ?_
        refine at_seq ?_
        refine at_block ?_
        refine at_region [0, 1, 2, 3, 4, 5, 6, 7, 8] rfl ?_
        iterate 4 refine at_s T rfl ?_
        obtain ⟨c10, Z8⟩ := chk_e Z8
        obtain ⟨q9, o9, e9⟩ := s1.r.addr c10.1 c10.2
        refine at_v rfl (g_index T rfl rfl rfl rfl rfl e9 c10.1 c10.2) ?_
        refine at_s T rfl ?_
        refine at_v rfl (g_load T rfl rfl rfl rfl (in_elem1 (k := k_api_Unit) (own_of s1 (j := 1) rfl) e9 c10 1 rfl)) ?_
        obtain ⟨c11, Z8⟩ := chk_e Z8
        obtain ⟨q10, o10, e10⟩ := s8.r.addr c11.1 c11.2
        refine at_v rfl (g_index T rfl rfl rfl rfl rfl e10 c11.1 c11.2) ?_
        refine at_cons (at_se (k := (Fl.int .i64)) T 4 0 ((rd v3 x9).Cell) rfl rfl rfl rfl rfl rfl s8 e10 c11 rfl rfl rfl (fun H11 s11 => ?_))
        refine at_to [(0, (.int .i64 v1)), (1, (.int .i64 v2)), (7, (.slice a1 (List.length v3) n1)), (8, (.slice a2 (List.length v4) n2)), (10, (.slice a4 (List.length v5.2.1) n4)), (13, (.slice a8 (List.length (List.set x8 (Int.toNat x9) ((rd v3 x9).Cell))) n8)), (14, (.int .i64 x9))] [0, 0, 0, 0, 0] [F, H1, H2, H4, H11] ⟨rfl, rfl, rfl, rfl, rfl, (by first | rfl | (simp only [List.length_set]; rfl)), rfl, trivial⟩ rfl ?_
        refine at_end ?_
        refine at_sub [(0, (.int .i64 v1)), (1, (.int .i64 v2)), (7, (.slice a1 (List.length v3) n1)), (8, (.slice a2 (List.length v4) n2)), (10, (.slice a4 (List.length v5.2.1) n4)), (13, (.slice a8 (List.length (List.set x8 (Int.toNat x9) ((rd v3 x9).Cell))) n8)), (14, (.int .i64 x9))] ⟨rfl, rfl, rfl, rfl, rfl, rfl, rfl, trivial⟩ ?_
        refine at_nb ?_
        refine at_then ?_
        refine at_region [0, 1, 2] rfl ?_
        iterate 3 refine at_s T rfl ?_
        refine at_end ?_
        refine at_sub [(0, (.int .i64 v1)), (1, (.int .i64 v2)), (7, (.slice a1 (List.length v3) n1)), (8, (.slice a2 (List.length v4) n2)), (10, (.slice a4 (List.length v5.2.1) n4)), (13, (.slice a8 (List.length (List.set x8 (Int.toNat x9) ((rd v3 x9).Cell))) n8)), (14, (.int .i64 (w64 (x9 + 1))))] ⟨rfl, rfl, rfl, rfl, rfl, rfl, rfl, trivial⟩ ?_
        refine at_then ?_
        exact at_roundL (k10, (List.set x8 (Int.toNat x9) ((rd v3 x9).Cell)), (w64 (x9 + 1)), a8, n8, H11) [0, 0, 0, 0, 0] ⟨Z8, s11⟩ (Nat.lt_succ_self _) ⟨rfl, rfl, rfl, rfl, rfl, rfl, rfl, trivial⟩ rfl
      · replace Z8 := if_f (of_decide_eq_false c9) Z8
        refine at_exit ?_
        refine at_xt ?_
        refine at_xt ?_
        refine at_xb ?_
        refine at_then ?_
        refine at_seq ?_
        refine at_region [0] rfl ?_
        refine at_s T rfl ?_
        refine at_end ?_
        refine at_sub [(0, (.int .i64 v1)), (1, (.int .i64 v2)), (7, (.slice a1 (List.length v3) n1)), (8, (.slice a2 (List.length v4) n2)), (10, (.slice a4 (List.length v5.2.1) n4)), (13, (.slice a8 (List.length x8) n8)), (15, (.int .i64 0))] ⟨rfl, rfl, rfl, rfl, rfl, rfl, rfl, trivial⟩ ?_
        refine at_then ?_
        refine at_seq ?_
        refine at_seq ?_
        refine at_region [0] rfl ?_
        refine at_s T rfl ?_
        refine at_end ?_
        refine at_sub [(0, (.int .i64 v1)), (1, (.int .i64 v2)), (7, (.slice a1 (List.length v3) n1)), (8, (.slice a2 (List.length v4) n2)), (10, (.slice a4 (List.length v5.2.1) n4)), (13, (.slice a8 (List.length x8) n8)), (15, (.int .i64 0)), (16, (.int .i64 0))] ⟨rfl, rfl, rfl, rfl, rfl, rfl, rfl, rfl, trivial⟩ ?_
        refine at_then ?_
        refine at_block ?_
        refine at_loopL (σ := Nat × List Int × Int × Int × Option Addr × Nat × Hp) (fun ⟨k17, x14, x15, x16, a13, n13, H13⟩ => law24_MarchStays.l1 k17 v1 v2 v3 v4 v5 x14 x15 x16 = some r ∧ SliceO (Fl.int .i64) 3 x14 a13 n13 H13) (fun ⟨k17, x14, x15, x16, a13, n13, H13⟩ => [(0, (.int .i64 v1)), (1, (.int .i64 v2)), (7, (.slice a1 (List.length v3) n1)), (8, (.slice a2 (List.length v4) n2)), (10, (.slice a4 (List.length v5.2.1) n4)), (13, (.slice a13 (List.length x14) n13)), (15, (.int .i64 x15)), (16, (.int .i64 x16))]) (fun ⟨k17, x14, x15, x16, a13, n13, H13⟩ => [F, H1, H2, H4, H13]) (fun s => s.1) (fuel, x8, 0, 0, a8, n8, H8) [0, 0, 0, 0, 0] ⟨Z8, s8⟩ ⟨rfl, rfl, rfl, rfl, rfl, rfl, rfl, rfl, trivial⟩ rfl ?_
        rintro ⟨k17, x14, x15, x16, a13, n13, H13⟩ ⟨Z12, s13⟩
        replace Z12 : law24_MarchStays.l1 k17 v1 v2 v3 v4 v5 x14 x15 x16 = some r := Z12
        rcases k17 with _ | k17
        · rw [law24_MarchStays.l1] at Z12; cases Z12
        · rw [law24_MarchStays.l1] at Z12
          refine at_seq ?_
          refine at_seq ?_
          refine at_region [0, 1, 2, 3] rfl ?_
          iterate 4 refine at_s T rfl ?_
          refine at_end ?_
          refine at_sub [(0, (.int .i64 v1)), (1, (.int .i64 v2)), (7, (.slice a1 (List.length v3) n1)), (8, (.slice a2 (List.length v4) n2)), (10, (.slice a4 (List.length v5.2.1) n4)), (13, (.slice a13 (List.length x14) n13)), (15, (.int .i64 x15)), (16, (.int .i64 x16)), (64, (.bool (decide (x16 < (List.length v3 : Int)))))] ⟨rfl, rfl, rfl, rfl, rfl, rfl, rfl, rfl, rfl, trivial⟩ ?_
          refine at_then ?_
          refine at_cond rfl (fun c13 => ?_) (fun c13 => ?_)
          · replace Z12 := if_t (of_decide_eq_true c13) Z12
            refine at_skip ?_
            refine at_then ?_
            obtain ⟨z20, Z14, Z12⟩ := bind_e Z12
            refine at_seq_mid (σ := List Int × Int × Option Addr × Nat × Hp) (fun ⟨x18, x19, a14, n14, H14⟩ => (Sum.inr (x18, x19)) = z20 ∧ SliceO (Fl.int .i64) 3 x18 a14 n14 H14) (fun ⟨x18, x19, a14, n14, H14⟩ => [(0, (.int .i64 v1)), (1, (.int .i64 v2)), (7, (.slice a1 (List.length v3) n1)), (8, (.slice a2 (List.length v4) n2)), (10, (.slice a4 (List.length v5.2.1) n4)), (13, (.slice a14 (List.length x18) n14)), (15, (.int .i64 x19)), (16, (.int .i64 x16))]) (fun ⟨x18, x19, a14, n14, H14⟩ => [F, H1, H2, H4, H14]) ?_ ?_
            · refine at_block ?_
              refine at_seq ?_
              refine at_region [0] rfl ?_
              refine at_s T rfl ?_
              refine at_end ?_
              refine at_sub [(0, (.int .i64 v1)), (1, (.int .i64 v2)), (7, (.slice a1 (List.length v3) n1)), (8, (.slice a2 (List.length v4) n2)), (10, (.slice a4 (List.length v5.2.1) n4)), (13, (.slice a13 (List.length x14) n13)), (15, (.int .i64 x15)), (16, (.int .i64 x16)), (17, (.int .i64 (-1)))] ⟨rfl, rfl, rfl, rfl, rfl, rfl, rfl, rfl, rfl, trivial⟩ ?_
              refine at_then ?_
              obtain ⟨z22, Z15, Z14⟩ := bind_e Z14
              refine at_seq_mid (σ := Int) (fun x21 => x21 = z22) (fun x21 => [(0, (.int .i64 v1)), (1, (.int .i64 v2)), (7, (.slice a1 (List.length v3) n1)), (8, (.slice a2 (List.length v4) n2)), (10, (.slice a4 (List.length v5.2.1) n4)), (13, (.slice a13 (List.length x14) n13)), (15, (.int .i64 x15)), (16, (.int .i64 x16)), (17, (.int .i64 x21))]) (fun x21 => [F, H1, H2, H4, H13]) ?_ ?_
              · refine at_seq ?_
                refine at_region [0, 1, 2, 3, 4] rfl ?_
                iterate 2 refine at_s T rfl ?_
                obtain ⟨c16, Z15⟩ := chk_e Z15
                obtain ⟨q15, o15, e15⟩ := s2.r.addr c16.1 c16.2
                refine at_v rfl (g_index T rfl rfl rfl rfl rfl e15 c16.1 c16.2) ?_
                refine at_v rfl (g_load T rfl rfl rfl rfl (in_elem1 (k := (Fl.int .i64)) (own_of s2 (j := 2) rfl) e15 c16 0 rfl)) ?_
                refine at_s T rfl ?_
                refine at_end ?_
                refine at_sub [(0, (.int .i64 v1)), (1, (.int .i64 v2)), (7, (.slice a1 (List.length v3) n1)), (8, (.slice a2 (List.length v4) n2)), (10, (.slice a4 (List.length v5.2.1) n4)), (13, (.slice a13 (List.length x14) n13)), (15, (.int .i64 x15)), (16, (.int .i64 x16)), (17, (.int .i64 (-1))), (71, (.bool (decide ((rd v4 x16) ≤ 3))))] ⟨rfl, rfl, rfl, rfl, rfl, rfl, rfl, rfl, rfl, rfl, trivial⟩ ?_
                refine at_then ?_
                refine at_cond rfl (fun c17 => ?_) (fun c17 => ?_)
                · replace Z15 := if_t (of_decide_eq_true c17) Z15
                  refine at_region_q mix (by kernel_rfl) ?_
                  iterate 4 refine atq_s T rfl ?_
                  obtain ⟨c18, Z15⟩ := chk_e Z15
                  obtain ⟨q16, o16, e16⟩ := s1.r.addr c18.1 c18.2
                  refine atq_v rfl rfl rfl (g_index T rfl rfl rfl rfl rfl e16 c18.1 c18.2) ?_
                  refine atq_s T rfl ?_
                  refine atq_v rfl rfl rfl (g_load T rfl rfl rfl rfl (in_elem1 (k := k_api_Unit) (own_of s1 (j := 1) rfl) e16 c18 1 rfl)) ?_
                  iterate 2 refine atq_s T rfl ?_
                  refine atq_v rfl rfl rfl (g_index T rfl rfl rfl rfl rfl e15 c16.1 c16.2) ?_
                  refine atq_v rfl rfl rfl (g_load T rfl rfl rfl rfl (in_elem1 (k := (Fl.int .i64)) (own_of s2 (j := 2) rfl) e15 c16 0 rfl)) ?_
                  obtain ⟨v23, V19, Z15⟩ := bind_e Z15
                  refine atq_c rfl rfl rfl rfl rfl rfl has23 rfl (where_Step.c v1 v2 ((rd v3 x16).Cell) (rd v4 x16) v23 _ V19) ?_
                  refine atq_s T rfl ?_
                  refine atq_end ?_
                  refine at_sub [(0, (.int .i64 v1)), (1, (.int .i64 v2)), (7, (.slice a1 (List.length v3) n1)), (8, (.slice a2 (List.length v4) n2)), (10, (.slice a4 (List.length v5.2.1) n4)), (13, (.slice a13 (List.length x14) n13)), (15, (.int .i64 x15)), (16, (.int .i64 x16)), (17, (.int .i64 v23))] ⟨rfl, rfl, rfl, rfl, rfl, rfl, rfl, rfl, rfl, trivial⟩ ?_
                  refine at_then ?_
                  obtain rfl := Option.some.inj Z15
                  exact at_mid v23 [0, 0, 0, 0, 0] rfl ⟨rfl, rfl, rfl, rfl, rfl, rfl, rfl, rfl, rfl, trivial⟩ rfl
                · replace Z15 := if_f (of_decide_eq_false c17) Z15
                  refine at_skip ?_
                  refine at_then ?_
                  obtain rfl := Option.some.inj Z15
                  exact at_mid (-1) [0, 0, 0, 0, 0] rfl ⟨rfl, rfl, rfl, rfl, rfl, rfl, rfl, rfl, rfl, trivial⟩ rfl
              · rintro x21 rfl
                refine at_seq ?_
                refine at_region [0] rfl ?_
                refine at_s T rfl ?_
                refine at_end ?_
                refine at_sub [(0, (.int .i64 v1)), (1, (.int .i64 v2)), (7, (.slice a1 (List.length v3) n1)), (8, (.slice a2 (List.length v4) n2)), (10, (.slice a4 (List.length v5.2.1) n4)), (13, (.slice a13 (List.length x14) n13)), (15, (.int .i64 x15)), (16, (.int .i64 x16)), (17, (.int .i64 x21)), (18, (.bool false))] ⟨rfl, rfl, rfl, rfl, rfl, rfl, rfl, rfl, rfl, rfl, trivial⟩ ?_
                refine at_then ?_
                refine at_seq ?_
                refine at_seq ?_
                refine at_region [0] rfl ?_
                refine at_s T rfl ?_
                refine at_end ?_
                refine at_sub [(0, (.int .i64 v1)), (1, (.int .i64 v2)), (7, (.slice a1 (List.length v3) n1)), (8, (.slice a2 (List.length v4) n2)), (10, (.slice a4 (List.length v5.2.1) n4)), (13, (.slice a13 (List.length x14) n13)), (15, (.int .i64 x15)), (16, (.int .i64 x16)), (17, (.int .i64 x21)), (18, (.bool false)), (19, (.int .i64 0))] ⟨rfl, rfl, rfl, rfl, rfl, rfl, rfl, rfl, rfl, rfl, rfl, trivial⟩ ?_
                refine at_then ?_
                refine at_block ?_
                refine at_loopL (σ := Nat × Bool × Int) (fun ⟨k28, x26, x27⟩ => law24_MarchStays.l2 k28 v3 v5 x14 x15 x16 x21 x26 x27 = some z20) (fun ⟨k28, x26, x27⟩ => [(0, (.int .i64 v1)), (1, (.int .i64 v2)), (7, (.slice a1 (List.length v3) n1)), (8, (.slice a2 (List.length v4) n2)), (10, (.slice a4 (List.length v5.2.1) n4)), (13, (.slice a13 (List.length x14) n13)), (15, (.int .i64 x15)), (16, (.int .i64 x16)), (17, (.int .i64 x21)), (18, (.bool x26)), (19, (.int .i64 x27))]) (fun ⟨k28, x26, x27⟩ => [F, H1, H2, H4, H13]) (fun s => s.1) (fuel, false, 0) [0, 0, 0, 0, 0] Z14 ⟨rfl, rfl, rfl, rfl, rfl, rfl, rfl, rfl, rfl, rfl, rfl, trivial⟩ rfl ?_
                rintro ⟨k28, x26, x27⟩ Z20
                replace Z20 : law24_MarchStays.l2 k28 v3 v5 x14 x15 x16 x21 x26 x27 = some z20 := Z20
                rcases k28 with _ | k28
                · rw [law24_MarchStays.l2] at Z20; cases Z20
                · rw [law24_MarchStays.l2] at Z20
                  refine at_seq ?_
                  refine at_seq ?_
                  refine at_region [0, 1, 2, 3] rfl ?_
                  iterate 4 refine at_s T rfl ?_
                  refine at_end ?_
                  refine at_sub [(0, (.int .i64 v1)), (1, (.int .i64 v2)), (7, (.slice a1 (List.length v3) n1)), (8, (.slice a2 (List.length v4) n2)), (10, (.slice a4 (List.length v5.2.1) n4)), (13, (.slice a13 (List.length x14) n13)), (15, (.int .i64 x15)), (16, (.int .i64 x16)), (17, (.int .i64 x21)), (18, (.bool x26)), (19, (.int .i64 x27)), (87, (.bool (decide (x27 < (List.length v3 : Int)))))] ⟨rfl, rfl, rfl, rfl, rfl, rfl, rfl, rfl, rfl, rfl, rfl, rfl, trivial⟩ ?_
                  refine at_then ?_
                  refine at_cond rfl (fun c21 => ?_) (fun c21 => ?_)
                  · replace Z20 := if_t (of_decide_eq_true c21) Z20
                    refine at_skip ?_
                    refine at_then ?_
                    refine at_seq ?_
                    refine at_block ?_
                    refine at_region [0, 1, 2, 3, 4, 5, 6, 7, 8, 9] rfl ?_
                    iterate 2 refine at_s T rfl ?_
                    refine at_case (s := 91) rfl (fun c22 => ?_) (fun c22 => ?_)
                    · replace Z20 := if_t c22 Z20
                      iterate 8 refine at_s T rfl ?_
                      refine at_end ?_
                      refine at_sub [(0, (.int .i64 v1)), (1, (.int .i64 v2)), (7, (.slice a1 (List.length v3) n1)), (8, (.slice a2 (List.length v4) n2)), (10, (.slice a4 (List.length v5.2.1) n4)), (13, (.slice a13 (List.length x14) n13)), (15, (.int .i64 x15)), (16, (.int .i64 x16)), (17, (.int .i64 x21)), (18, (.bool true)), (19, (.int .i64 x27))] ⟨rfl, rfl, rfl, rfl, rfl, rfl, rfl, rfl, rfl, rfl, rfl, trivial⟩ ?_
                      refine at_nb ?_
                      refine at_then ?_
                      refine at_region [0, 1, 2] rfl ?_
                      iterate 3 refine at_s T rfl ?_
                      refine at_end ?_
                      refine at_sub [(0, (.int .i64 v1)), (1, (.int .i64 v2)), (7, (.slice a1 (List.length v3) n1)), (8, (.slice a2 (List.length v4) n2)), (10, (.slice a4 (List.length v5.2.1) n4)), (13, (.slice a13 (List.length x14) n13)), (15, (.int .i64 x15)), (16, (.int .i64 x16)), (17, (.int .i64 x21)), (18, (.bool true)), (19, (.int .i64 (w64 (x27 + 1))))] ⟨rfl, rfl, rfl, rfl, rfl, rfl, rfl, rfl, rfl, rfl, rfl, trivial⟩ ?_
                      refine at_then ?_
                      exact at_roundL (k28, true, (w64 (x27 + 1))) [0, 0, 0, 0, 0] Z20 (Nat.lt_succ_self _) ⟨rfl, rfl, rfl, rfl, rfl, rfl, rfl, rfl, rfl, rfl, rfl, trivial⟩ rfl
                    · replace Z20 := if_f (bf c22) Z20
                      iterate 2 refine at_s T rfl ?_
                      obtain ⟨c23, Z20⟩ := chk_e Z20
                      obtain ⟨q17, o17, e17⟩ := s13.r.addr c23.1 c23.2
                      refine at_v rfl (g_index T rfl rfl rfl rfl rfl e17 c23.1 c23.2) ?_
                      refine at_v rfl (g_load T rfl rfl rfl rfl (in_elem1 (k := (Fl.int .i64)) (own_of s13 (j := 4) rfl) e17 c23 0 rfl)) ?_
                      iterate 4 refine at_s T rfl ?_
                      refine at_end ?_
                      refine at_sub [(0, (.int .i64 v1)), (1, (.int .i64 v2)), (7, (.slice a1 (List.length v3) n1)), (8, (.slice a2 (List.length v4) n2)), (10, (.slice a4 (List.length v5.2.1) n4)), (13, (.slice a13 (List.length x14) n13)), (15, (.int .i64 x15)), (16, (.int .i64 x16)), (17, (.int .i64 x21)), (18, (.bool ((rd x14 x27) == x21))), (19, (.int .i64 x27))] ⟨rfl, rfl, rfl, rfl, rfl, rfl, rfl, rfl, rfl, rfl, rfl, trivial⟩ ?_
                      refine at_nb ?_
                      refine at_then ?_
                      refine at_region [0, 1, 2] rfl ?_
                      iterate 3 refine at_s T rfl ?_
                      refine at_end ?_
                      refine at_sub [(0, (.int .i64 v1)), (1, (.int .i64 v2)), (7, (.slice a1 (List.length v3) n1)), (8, (.slice a2 (List.length v4) n2)), (10, (.slice a4 (List.length v5.2.1) n4)), (13, (.slice a13 (List.length x14) n13)), (15, (.int .i64 x15)), (16, (.int .i64 x16)), (17, (.int .i64 x21)), (18, (.bool ((rd x14 x27) == x21))), (19, (.int .i64 (w64 (x27 + 1))))] ⟨rfl, rfl, rfl, rfl, rfl, rfl, rfl, rfl, rfl, rfl, rfl, trivial⟩ ?_
                      refine at_then ?_
                      exact at_roundL (k28, ((rd x14 x27) == x21), (w64 (x27 + 1))) [0, 0, 0, 0, 0] Z20 (Nat.lt_succ_self _) ⟨rfl, rfl, rfl, rfl, rfl, rfl, rfl, rfl, rfl, rfl, rfl, trivial⟩ rfl
                  · replace Z20 := if_f (of_decide_eq_false c21) Z20
                    refine at_exit ?_
                    refine at_xt ?_
                    refine at_xt ?_
                    refine at_xb ?_
                    refine at_then ?_
                    obtain ⟨z30, Z24, Z20⟩ := bind_e Z20
                    refine at_seq_mid (σ := Bool) (fun x29 => x29 = z30) (fun x29 => [(0, (.int .i64 v1)), (1, (.int .i64 v2)), (7, (.slice a1 (List.length v3) n1)), (8, (.slice a2 (List.length v4) n2)), (10, (.slice a4 (List.length v5.2.1) n4)), (13, (.slice a13 (List.length x14) n13)), (15, (.int .i64 x15)), (16, (.int .i64 x16)), (17, (.int .i64 x21)), (18, (.bool x26)), (20, (.bool x29))]) (fun x29 => [F, H1, H2, H4, H13]) ?_ ?_
                    · refine at_region_q mix (by kernel_rfl) ?_
                      iterate 5 refine atq_s T rfl ?_
                      refine atq_case (s := 103) rfl (fun c25 => ?_) (fun c25 => ?_)
                      · replace Z24 := if_t (of_decide_eq_true c25) Z24
                        iterate 2 refine atq_s T rfl ?_
                        obtain ⟨c26, Z24⟩ := chk_e Z24
                        obtain ⟨q18, o18, e18⟩ := s4.r.addr c26.1 c26.2
                        refine atq_v rfl rfl rfl (g_index T rfl rfl rfl rfl rfl e18 c26.1 c26.2) ?_
                        refine atq_s T rfl ?_
                        refine atq_v rfl rfl rfl (g_load T rfl rfl rfl rfl (in_elem1 (k := k_api_Move) (own_of s4 (j := 3) rfl) e18 c26 0 rfl)) ?_
                        iterate 2 refine atq_s T rfl ?_
                        obtain ⟨c27, Z24⟩ := chk_e Z24
                        obtain ⟨q19, o19, e19⟩ := s1.r.addr c27.1 c27.2
                        refine atq_v rfl rfl rfl (g_index T rfl rfl rfl rfl rfl e19 c27.1 c27.2) ?_
                        refine atq_s T rfl ?_
                        refine atq_v rfl rfl rfl (g_load T rfl rfl rfl rfl (in_elem1 (k := k_api_Unit) (own_of s1 (j := 1) rfl) e19 c27 0 rfl)) ?_
                        iterate 3 refine atq_s T rfl ?_
                        refine atq_end ?_
                        refine at_sub [(0, (.int .i64 v1)), (1, (.int .i64 v2)), (7, (.slice a1 (List.length v3) n1)), (8, (.slice a2 (List.length v4) n2)), (10, (.slice a4 (List.length v5.2.1) n4)), (13, (.slice a13 (List.length x14) n13)), (15, (.int .i64 x15)), (16, (.int .i64 x16)), (17, (.int .i64 x21)), (18, (.bool x26)), (20, (.bool ((rd v5.2.1 x15).Id == (rd v3 x16).Id)))] ⟨rfl, rfl, rfl, rfl, rfl, rfl, rfl, rfl, rfl, rfl, rfl, trivial⟩ ?_
                        refine at_then ?_
                        obtain rfl := Option.some.inj Z24
                        exact at_mid ((rd v5.2.1 x15).Id == (rd v3 x16).Id) [0, 0, 0, 0, 0] rfl ⟨rfl, rfl, rfl, rfl, rfl, rfl, rfl, rfl, rfl, rfl, rfl, trivial⟩ rfl
                      · replace Z24 := if_f (of_decide_eq_false c25) Z24
                        iterate 13 refine atq_s T rfl ?_
                        refine atq_end ?_
                        refine at_sub [(0, (.int .i64 v1)), (1, (.int .i64 v2)), (7, (.slice a1 (List.length v3) n1)), (8, (.slice a2 (List.length v4) n2)), (10, (.slice a4 (List.length v5.2.1) n4)), (13, (.slice a13 (List.length x14) n13)), (15, (.int .i64 x15)), (16, (.int .i64 x16)), (17, (.int .i64 x21)), (18, (.bool x26)), (20, (.bool false))] ⟨rfl, rfl, rfl, rfl, rfl, rfl, rfl, rfl, rfl, rfl, rfl, trivial⟩ ?_
                        refine at_then ?_
                        obtain rfl := Option.some.inj Z24
                        exact at_mid false [0, 0, 0, 0, 0] rfl ⟨rfl, rfl, rfl, rfl, rfl, rfl, rfl, rfl, rfl, rfl, rfl, trivial⟩ rfl
                    · rintro x29 rfl
                      refine at_seq ?_
                      refine at_seq ?_
                      refine at_region [0, 1, 2, 3, 4, 5, 6] rfl ?_
                      iterate 4 refine at_s T rfl ?_
                      refine at_grp T [4, 5] (s := 119) (c := (decide (x21 < 0))) [(0, (.int .i64 v1)), (1, (.int .i64 v2)), (7, (.slice a1 (List.length v3) n1)), (8, (.slice a2 (List.length v4) n2)), (10, (.slice a4 (List.length v5.2.1) n4)), (13, (.slice a13 (List.length x14) n13)), (15, (.int .i64 x15)), (16, (.int .i64 x16)), (17, (.int .i64 x21)), (20, (.bool x29)), (116, (.bool x29)), (121, (.bool ((decide (x21 < 0)) || x26)))] rfl rfl rfl (fun c28 => ⟨rfl, rfl, rfl, rfl, rfl, rfl, rfl, rfl, rfl, rfl, rfl, (by rw [c28]; rfl), trivial⟩) (fun c28 => ⟨rfl, rfl, rfl, rfl, rfl, rfl, rfl, rfl, rfl, rfl, rfl, (by rw [c28]; rfl), trivial⟩) ?_
                      refine at_s T rfl ?_
                      refine at_end ?_
                      refine at_sub [(0, (.int .i64 v1)), (1, (.int .i64 v2)), (7, (.slice a1 (List.length v3) n1)), (8, (.slice a2 (List.length v4) n2)), (10, (.slice a4 (List.length v5.2.1) n4)), (13, (.slice a13 (List.length x14) n13)), (15, (.int .i64 x15)), (16, (.int .i64 x16)), (17, (.int .i64 x21)), (20, (.bool x29)), (122, (.bool (x29 == ((decide (x21 < 0)) || x26))))] ⟨rfl, rfl, rfl, rfl, rfl, rfl, rfl, rfl, rfl, rfl, rfl, trivial⟩ ?_
                      refine at_then ?_
                      refine at_cond rfl (fun c29 => ?_) (fun c29 => ?_)
                      · replace Z20 := if_t c29 Z20
                        refine at_seq ?_
                        refine at_region [0] rfl ?_
                        refine at_s T rfl ?_
                        refine at_end ?_
                        refine at_to [(6, (.bool false))] [0] [F] ⟨rfl, trivial⟩ rfl ?_
                        refine at_then ?_
                        refine at_ret ?_
                        refine at_rt ?_
                        refine at_rb ?_
                        refine at_rt ?_
                        refine at_rt ?_
                        refine at_rb ?_
                        refine at_rt ?_
                        obtain rfl := Option.some.inj Z20
                        obtain rfl := Option.some.inj (show some false = some r from Z12)
                        exact at_post (T := T) rfl (.tmp rfl .nil) (fun w o => ⟨(), rfl, own_to [0] rfl o⟩)
                      · replace Z20 := if_f (bf c29) Z20
                        refine at_skip ?_
                        refine at_then ?_
                        refine at_seq ?_
                        refine at_region [0] rfl ?_
                        refine at_s T rfl ?_
                        refine at_end ?_
                        refine at_sub [(0, (.int .i64 v1)), (1, (.int .i64 v2)), (7, (.slice a1 (List.length v3) n1)), (8, (.slice a2 (List.length v4) n2)), (10, (.slice a4 (List.length v5.2.1) n4)), (13, (.slice a13 (List.length x14) n13)), (15, (.int .i64 x15)), (16, (.int .i64 x16)), (17, (.int .i64 x21)), (123, (.bool x29))] ⟨rfl, rfl, rfl, rfl, rfl, rfl, rfl, rfl, rfl, rfl, trivial⟩ ?_
                        refine at_then ?_
                        refine at_cond rfl (fun c30 => ?_) (fun c30 => ?_)
                        · replace Z20 := if_t c30 Z20
                          refine at_seq ?_
                          refine at_region [0, 1, 2] rfl ?_
                          iterate 3 refine at_s T rfl ?_
                          refine at_end ?_
                          refine at_sub [(0, (.int .i64 v1)), (1, (.int .i64 v2)), (7, (.slice a1 (List.length v3) n1)), (8, (.slice a2 (List.length v4) n2)), (10, (.slice a4 (List.length v5.2.1) n4)), (13, (.slice a13 (List.length x14) n13)), (15, (.int .i64 (w64 (x15 + 1)))), (16, (.int .i64 x16)), (17, (.int .i64 x21))] ⟨rfl, rfl, rfl, rfl, rfl, rfl, rfl, rfl, rfl, trivial⟩ ?_
                          refine at_then ?_
                          refine at_seq ?_
                          refine at_region [0, 1, 2, 3, 4] rfl ?_
                          iterate 3 refine at_s T rfl ?_
                          obtain ⟨c31, Z20⟩ := chk_e Z20
                          obtain ⟨q20, o20, e20⟩ := s13.r.addr c31.1 c31.2
                          refine at_v rfl (g_index T rfl rfl rfl rfl rfl e20 c31.1 c31.2) ?_
                          refine at_cons (at_se (k := (Fl.int .i64)) T 4 0 x21 rfl rfl rfl rfl rfl rfl s13 e20 c31 rfl rfl rfl (fun H21 s21 => ?_))
                          refine at_to [(0, (.int .i64 v1)), (1, (.int .i64 v2)), (7, (.slice a1 (List.length v3) n1)), (8, (.slice a2 (List.length v4) n2)), (10, (.slice a4 (List.length v5.2.1) n4)), (13, (.slice a13 (List.length (List.set x14 (Int.toNat x16) x21)) n13)), (15, (.int .i64 (w64 (x15 + 1)))), (16, (.int .i64 x16)), (17, (.int .i64 x21))] [0, 0, 0, 0, 0] [F, H1, H2, H4, H21] ⟨rfl, rfl, rfl, rfl, rfl, (by first | rfl | (simp only [List.length_set]; rfl)), rfl, rfl, rfl, trivial⟩ rfl ?_
                          refine at_end ?_
                          refine at_sub [(0, (.int .i64 v1)), (1, (.int .i64 v2)), (7, (.slice a1 (List.length v3) n1)), (8, (.slice a2 (List.length v4) n2)), (10, (.slice a4 (List.length v5.2.1) n4)), (13, (.slice a13 (List.length (List.set x14 (Int.toNat x16) x21)) n13)), (15, (.int .i64 (w64 (x15 + 1)))), (16, (.int .i64 x16)), (17, (.int .i64 x21))] ⟨rfl, rfl, rfl, rfl, rfl, rfl, rfl, rfl, rfl, trivial⟩ ?_
                          refine at_then ?_
                          refine at_seq ?_
                          refine at_region [0, 1, 2, 3, 4, 5, 6] rfl ?_
                          iterate 3 refine at_s T rfl ?_
                          obtain ⟨c32, Z20⟩ := chk_e Z20
                          obtain ⟨q22, o22, e22⟩ := s1.r.addr c32.1 c32.2
                          refine at_v rfl (g_index T rfl rfl rfl rfl rfl e22 c32.1 c32.2) ?_
                          refine at_s T rfl ?_
                          refine at_v rfl (g_load T rfl rfl rfl rfl (in_elem1 (k := k_api_Unit) (own_of s1 (j := 1) rfl) e22 c32 2 rfl)) ?_
                          refine at_s T rfl ?_
                          refine at_end ?_
                          refine at_sub [(0, (.int .i64 v1)), (1, (.int .i64 v2)), (7, (.slice a1 (List.length v3) n1)), (8, (.slice a2 (List.length v4) n2)), (10, (.slice a4 (List.length v5.2.1) n4)), (13, (.slice a13 (List.length (List.set x14 (Int.toNat x16) x21)) n13)), (15, (.int .i64 (w64 (x15 + 1)))), (16, (.int .i64 x16)), (136, (.bool (x21 == (rd v3 x16).Goal)))] ⟨rfl, rfl, rfl, rfl, rfl, rfl, rfl, rfl, rfl, trivial⟩ ?_
                          refine at_then ?_
                          refine at_cond rfl (fun c33 => ?_) (fun c33 => ?_)
                          · replace Z20 := if_t c33 Z20
                            refine at_region [0, 1, 2, 3] rfl ?_
                            iterate 2 refine at_s T rfl ?_
                            obtain ⟨c34, Z20⟩ := chk_e Z20
                            refine at_v rfl (g_index T rfl rfl rfl rfl rfl e20 c34.1 c34.2) ?_
                            refine at_cons (at_se (k := (Fl.int .i64)) T 4 0 (-2) rfl rfl rfl rfl rfl rfl s21 e20 c34 rfl rfl rfl (fun H23 s23 => ?_))
                            refine at_to [(0, (.int .i64 v1)), (1, (.int .i64 v2)), (7, (.slice a1 (List.length v3) n1)), (8, (.slice a2 (List.length v4) n2)), (10, (.slice a4 (List.length v5.2.1) n4)), (13, (.slice a13 (List.length (List.set (List.set x14 (Int.toNat x16) x21) (Int.toNat x16) (-2))) n13)), (15, (.int .i64 (w64 (x15 + 1)))), (16, (.int .i64 x16))] [0, 0, 0, 0, 0] [F, H1, H2, H4, H23] ⟨rfl, rfl, rfl, rfl, rfl, (by first | rfl | (simp only [List.length_set]; rfl)), rfl, rfl, trivial⟩ rfl ?_
                            refine at_end ?_
                            refine at_sub [(0, (.int .i64 v1)), (1, (.int .i64 v2)), (7, (.slice a1 (List.length v3) n1)), (8, (.slice a2 (List.length v4) n2)), (10, (.slice a4 (List.length v5.2.1) n4)), (13, (.slice a13 (List.length (List.set (List.set x14 (Int.toNat x16) x21) (Int.toNat x16) (-2))) n13)), (15, (.int .i64 (w64 (x15 + 1)))), (16, (.int .i64 x16))] ⟨rfl, rfl, rfl, rfl, rfl, rfl, rfl, rfl, trivial⟩ ?_
                            refine at_nb ?_
                            refine at_then ?_
                            obtain rfl := Option.some.inj Z20
                            exact at_mid ((List.set (List.set x14 (Int.toNat x16) x21) (Int.toNat x16) (-2)), (w64 (x15 + 1)), a13, n13, H23) [0, 0, 0, 0, 0] ⟨rfl, s23⟩ ⟨rfl, rfl, rfl, rfl, rfl, rfl, rfl, rfl, trivial⟩ rfl
                          · replace Z20 := if_f (bf c33) Z20
                            refine at_skip ?_
                            refine at_nb ?_
                            refine at_then ?_
                            obtain rfl := Option.some.inj Z20
                            exact at_mid ((List.set x14 (Int.toNat x16) x21), (w64 (x15 + 1)), a13, n13, H21) [0, 0, 0, 0, 0] ⟨rfl, s21⟩ ⟨rfl, rfl, rfl, rfl, rfl, rfl, rfl, rfl, trivial⟩ rfl
                        · replace Z20 := if_f (bf c30) Z20
                          refine at_skip ?_
                          refine at_nb ?_
                          refine at_then ?_
                          obtain rfl := Option.some.inj Z20
                          exact at_mid (x14, x15, a13, n13, H13) [0, 0, 0, 0, 0] ⟨rfl, s13⟩ ⟨rfl, rfl, rfl, rfl, rfl, rfl, rfl, rfl, trivial⟩ rfl
            · rintro ⟨x18, x19, a14, n14, H14⟩ ⟨rfl, s14⟩
              refine at_region [0, 1, 2] rfl ?_
              iterate 3 refine at_s T rfl ?_
              refine at_end ?_
              refine at_sub [(0, (.int .i64 v1)), (1, (.int .i64 v2)), (7, (.slice a1 (List.length v3) n1)), (8, (.slice a2 (List.length v4) n2)), (10, (.slice a4 (List.length v5.2.1) n4)), (13, (.slice a14 (List.length x18) n14)), (15, (.int .i64 x19)), (16, (.int .i64 (w64 (x16 + 1))))] ⟨rfl, rfl, rfl, rfl, rfl, rfl, rfl, rfl, trivial⟩ ?_
              refine at_then ?_
              exact at_roundL (k17, x18, x19, (w64 (x16 + 1)), a14, n14, H14) [0, 0, 0, 0, 0] ⟨Z12, s14⟩ (Nat.lt_succ_self _) ⟨rfl, rfl, rfl, rfl, rfl, rfl, rfl, rfl, trivial⟩ rfl
          · replace Z12 := if_f (of_decide_eq_false c13) Z12
            refine at_exit ?_
            refine at_xt ?_
            refine at_xt ?_
            refine at_xb ?_
            refine at_then ?_
            refine at_seq ?_
            refine at_region [0, 1, 2, 3, 4, 5, 6, 7] rfl ?_
            obtain ⟨v31, V35, Z12⟩ := bind_e Z12
            refine at_cons (at_c (B := fun _ => []) [] rfl rfl rfl rfl has20 rfl rfl (law24_told.c  v31 _ V35) (fun _ => ?_))
            refine at_s T rfl ?_
            refine at_grp T [2, 3, 4, 5, 6] (s := 141) (c := v31) [(146, (.bool (v31 && (x15 == (List.length v5.2.1 : Int)))))] rfl rfl rfl (fun c36 => ⟨(by rw [c36]; rfl), trivial⟩) (fun c36 => ⟨(by rw [c36]; rfl), trivial⟩) ?_
            refine at_s T rfl ?_
            refine at_end ?_
            refine at_to [(6, (.bool (v31 && (x15 == (List.length v5.2.1 : Int)))))] [0] [F] ⟨rfl, trivial⟩ rfl ?_
            refine at_then ?_
            refine at_ret ?_
            obtain rfl := Option.some.inj Z12
            exact at_post (T := T) rfl (.tmp rfl .nil) (fun w o => ⟨(), rfl, own_to [0] rfl o⟩)
def law24_MarchStays.Pure : Prop := ∀ (w : Int) (h : Int) (k : (List Int)), inI64 w → inI64 h → (∀ y ∈ k, inI64 y) → List.length k ≤ 9223372036854775807 → law24_MarchStays.f w h k = some true
end Go.Proofs.Ytkidcebfpengmaa
