import Derived.Test.YtkidcebfpengmaaT
import Derived.Test.YtkidcebfpengmaaFmarch
import Derived.Test.YtkidcebfpengmaaFref1
import Derived.Test.YtkidcebfpengmaaFref21
namespace Go.Proofs.Ytkidcebfpengmaa
open Go.Hx
set_option maxRecDepth 100000
set_option linter.unusedVariables false
/-! ### herdsman/herdsmanlaw24.dirs: function 14 -/
def law24_dirs.l0 : Nat → (List api_Unit) → (List Int) → List Int → Int → Option (List Int)
  | 0, _, _, _, _ => none
  | k5 + 1, l, k, x3, x4 => if x4 < (List.length l : Int) then (if (List.length k : Int) > 0 then (if (¬ (List.length k : Int) = 0) then (if (0 ≤ (Int.tmod x4 (List.length k : Int)) ∧ (Int.tmod x4 (List.length k : Int)) < (List.length k : Int)) then ((ref1_Within.f (w64 (Int.tdiv (rd k (Int.tmod x4 (List.length k : Int))) 3)) 0 5).bind fun v6 => if (List.length x3 + 1 ≤ 1099511627776) then (law24_dirs.l0 k5 l k (x3 ++ [v6]) (w64 (x4 + 1))) else none) else none) else none) else (if (List.length x3 + 1 ≤ 1099511627776) then (law24_dirs.l0 k5 l k (x3 ++ [1]) (w64 (x4 + 1))) else none)) else (some x3)
def law24_dirs.f (l : (List api_Unit)) (k : (List Int)) : Option (List Int) := law24_dirs.l0 fuel l k [] 0
def law24_dirs.R (r : (List Int)) (u : Value) (G : List Hp) : Prop := ∃ (a0 : Option Addr) (n0 : Nat) (H0 : Hp), SliceO (Fl.int .i64) 3 r a0 n0 H0 ∧ u = (.slice a0 (List.length r) n0) ∧ G = [H0]
set_option maxHeartbeats 4000000 in
theorem law24_dirs.c {a_l : Option Addr} {n_l : Nat} {a_k : Option Addr} {n_k : Nat} (l : (List api_Unit)) (k : (List Int)) (r : (List Int)) (F : Hp) (H : law24_dirs.f l k = some r) (h_l : SliceR k_api_Unit l a_l F) (c_l : List.length l ≤ n_l) (h_k : SliceR (Fl.int .i64) k a_k F) (c_k : List.length k ≤ n_k) :
    CallsL Try.prog 14 [(.slice a_l (List.length l) n_l), (.slice a_k (List.length k) n_k)] [F] (fun p : { p : Value × List Hp // law24_dirs.R r p.1 p.2 } => p.1.1) (fun p => (p.1.2 ++ []) ++ [F]) := by
  unfold law24_dirs.f at H
  refine calls_atL [(0, (.slice a_l (List.length l) n_l)), (1, (.slice a_k (List.length k) n_k))] Try.func14 rfl rfl ⟨rfl, rfl, trivial⟩ (fun W => ?_)
  refine at_seq ?_
  refine at_region [0] rfl ?_
  refine at_s T rfl ?_
  refine at_end ?_
  refine at_sub [(0, (.slice a_l (List.length l) n_l)), (1, (.slice a_k (List.length k) n_k))] ⟨rfl, rfl, trivial⟩ ?_
  refine at_then ?_
  refine at_seq ?_
  refine at_region [0] rfl ?_
  refine at_s T rfl ?_
  refine at_end ?_
  refine at_sub [(0, (.slice a_l (List.length l) n_l)), (1, (.slice a_k (List.length k) n_k)), (5, (.slice none 0 0))] ⟨rfl, rfl, rfl, trivial⟩ ?_
  refine at_then ?_
  refine at_seq ?_
  refine at_seq ?_
  refine at_region [0] rfl ?_
  refine at_s T rfl ?_
  refine at_end ?_
  refine at_sub [(0, (.slice a_l (List.length l) n_l)), (1, (.slice a_k (List.length k) n_k)), (5, (.slice none 0 0)), (6, (.int .i64 0))] ⟨rfl, rfl, rfl, rfl, trivial⟩ ?_
  refine at_then ?_
  refine at_block ?_
  refine at_addnil ?_
  refine at_loopL (σ := Nat × List Int × Int × Option Addr × Nat × Hp) (fun ⟨k5, x3, x4, a2, n2, H2⟩ => law24_dirs.l0 k5 l k x3 x4 = some r ∧ SliceO (Fl.int .i64) 3 x3 a2 n2 H2) (fun ⟨k5, x3, x4, a2, n2, H2⟩ => [(0, (.slice a_l (List.length l) n_l)), (1, (.slice a_k (List.length k) n_k)), (5, (.slice a2 (List.length x3) n2)), (6, (.int .i64 x4))]) (fun ⟨k5, x3, x4, a2, n2, H2⟩ => [F, H2]) (fun s => s.1) (fuel, [], 0, none, 0, []) [0, 0] ⟨H, SliceO.nil⟩ ⟨rfl, rfl, rfl, rfl, trivial⟩ rfl ?_
  rintro ⟨k5, x3, x4, a2, n2, H2⟩ ⟨Z1, s2⟩
  replace Z1 : law24_dirs.l0 k5 l k x3 x4 = some r := Z1
  rcases k5 with _ | k5
  · rw [law24_dirs.l0] at Z1; cases Z1
  · rw [law24_dirs.l0] at Z1
    refine at_seq ?_
    refine at_seq ?_
    refine at_region [0, 1, 2, 3] rfl ?_
    iterate 4 refine at_s T rfl ?_
    refine at_end ?_
    refine at_sub [(0, (.slice a_l (List.length l) n_l)), (1, (.slice a_k (List.length k) n_k)), (5, (.slice a2 (List.length x3) n2)), (6, (.int .i64 x4)), (11, (.bool (decide (x4 < (List.length l : Int)))))] ⟨rfl, rfl, rfl, rfl, rfl, trivial⟩ ?_
    refine at_then ?_
    refine at_cond rfl (fun c2 => ?_) (fun c2 => ?_)
    · replace Z1 := if_t (of_decide_eq_true c2) Z1
      refine at_skip ?_
      refine at_then ?_
      refine at_seq ?_
      refine at_block ?_
      refine at_seq ?_
      refine at_region [0] rfl ?_
      refine at_s T rfl ?_
      refine at_end ?_
      refine at_sub [(0, (.slice a_l (List.length l) n_l)), (1, (.slice a_k (List.length k) n_k)), (5, (.slice a2 (List.length x3) n2)), (6, (.int .i64 x4)), (7, (.int .i64 1))] ⟨rfl, rfl, rfl, rfl, rfl, trivial⟩ ?_
      refine at_then ?_
      refine at_seq ?_
      refine at_seq ?_
      refine at_region [0, 1, 2] rfl ?_
      iterate 3 refine at_s T rfl ?_
      refine at_end ?_
      refine at_sub [(0, (.slice a_l (List.length l) n_l)), (1, (.slice a_k (List.length k) n_k)), (5, (.slice a2 (List.length x3) n2)), (6, (.int .i64 x4)), (7, (.int .i64 1)), (16, (.bool (decide ((List.length k : Int) > 0))))] ⟨rfl, rfl, rfl, rfl, rfl, rfl, trivial⟩ ?_
      refine at_then ?_
      refine at_cond rfl (fun c3 => ?_) (fun c3 => ?_)
      · replace Z1 := if_t (of_decide_eq_true c3) Z1
        refine at_region [0, 1, 2, 3, 4, 5, 6, 7, 8, 9] rfl ?_
        iterate 4 refine at_s T rfl ?_
        obtain ⟨c4, Z1⟩ := chk_e Z1
        refine at_v rfl (g_rem rfl rfl rfl c4) ?_
        obtain ⟨c5, Z1⟩ := chk_e Z1
        obtain ⟨q3, o3, e3⟩ := h_k.addr c5.1 c5.2
        refine at_v rfl (g_index T rfl rfl rfl rfl rfl e3 c5.1 c5.2) ?_
        refine at_v rfl (g_load T rfl rfl rfl rfl (in_elem1 (k := (Fl.int .i64)) (ro_of h_k (j := 0) rfl) e3 c5 0 rfl)) ?_
        refine at_s T rfl ?_
        obtain ⟨v6, V6, Z1⟩ := bind_e Z1
        refine at_cons (at_c (B := fun _ => []) [] rfl rfl rfl rfl has12 rfl rfl (ref1_Within.c (w64 (Int.tdiv (rd k (Int.tmod x4 (List.length k : Int))) 3)) 0 5 v6 _ V6) (fun _ => ?_))
        refine at_s T rfl ?_
        refine at_end ?_
        refine at_sub [(0, (.slice a_l (List.length l) n_l)), (1, (.slice a_k (List.length k) n_k)), (5, (.slice a2 (List.length x3) n2)), (6, (.int .i64 x4)), (7, (.int .i64 v6))] ⟨rfl, rfl, rfl, rfl, rfl, trivial⟩ ?_
        refine at_then ?_
        refine at_region [0, 1, 2, 3, 4] rfl ?_
        iterate 2 refine at_s T rfl ?_
        refine at_cons (at_bs (k := (Fl.int .i64)) T [v6] rfl rfl rfl rfl rfl rfl rfl rfl rfl (fun a4 H4 s4 => ?_))
        obtain ⟨c7, Z1⟩ := chk_e Z1
        refine at_cons (at_ap (k := (Fl.int .i64)) (xs := x3) T (g := 1) rfl rfl rfl rfl rfl rfl rfl rfl rfl rfl s2 (own_of s4 (j := 2) rfl) c7 rfl (fun a5 n5 H5 s5 => ?_))
        refine at_s T rfl ?_
        refine at_end ?_
        refine at_to [(0, (.slice a_l (List.length l) n_l)), (1, (.slice a_k (List.length k) n_k)), (5, (.slice a5 (List.length (x3 ++ [v6])) n5)), (6, (.int .i64 x4))] [0, 0] [F, H5] ⟨rfl, rfl, rfl, rfl, trivial⟩ rfl ?_
        refine at_nb ?_
        refine at_then ?_
        refine at_region [0, 1, 2] rfl ?_
        iterate 3 refine at_s T rfl ?_
        refine at_end ?_
        refine at_sub [(0, (.slice a_l (List.length l) n_l)), (1, (.slice a_k (List.length k) n_k)), (5, (.slice a5 (List.length (x3 ++ [v6])) n5)), (6, (.int .i64 (w64 (x4 + 1))))] ⟨rfl, rfl, rfl, rfl, trivial⟩ ?_
        refine at_then ?_
        exact at_roundL (k5, (x3 ++ [v6]), (w64 (x4 + 1)), a5, n5, H5) [0, 0] ⟨Z1, s5⟩ (Nat.lt_succ_self _) ⟨rfl, rfl, rfl, rfl, trivial⟩ rfl
      · replace Z1 := if_f (of_decide_eq_false c3) Z1
        refine at_skip ?_
        refine at_then ?_
        refine at_region [0, 1, 2, 3, 4] rfl ?_
        iterate 2 refine at_s T rfl ?_
        refine at_cons (at_bs (k := (Fl.int .i64)) T [1] rfl rfl rfl rfl rfl rfl rfl rfl rfl (fun a6 H6 s6 => ?_))
        obtain ⟨c8, Z1⟩ := chk_e Z1
        refine at_cons (at_ap (k := (Fl.int .i64)) (xs := x3) T (g := 1) rfl rfl rfl rfl rfl rfl rfl rfl rfl rfl s2 (own_of s6 (j := 2) rfl) c8 rfl (fun a7 n7 H7 s7 => ?_))
        refine at_s T rfl ?_
        refine at_end ?_
        refine at_to [(0, (.slice a_l (List.length l) n_l)), (1, (.slice a_k (List.length k) n_k)), (5, (.slice a7 (List.length (x3 ++ [1])) n7)), (6, (.int .i64 x4))] [0, 0] [F, H7] ⟨rfl, rfl, rfl, rfl, trivial⟩ rfl ?_
        refine at_nb ?_
        refine at_then ?_
        refine at_region [0, 1, 2] rfl ?_
        iterate 3 refine at_s T rfl ?_
        refine at_end ?_
        refine at_sub [(0, (.slice a_l (List.length l) n_l)), (1, (.slice a_k (List.length k) n_k)), (5, (.slice a7 (List.length (x3 ++ [1])) n7)), (6, (.int .i64 (w64 (x4 + 1))))] ⟨rfl, rfl, rfl, rfl, trivial⟩ ?_
        refine at_then ?_
        exact at_roundL (k5, (x3 ++ [1]), (w64 (x4 + 1)), a7, n7, H7) [0, 0] ⟨Z1, s7⟩ (Nat.lt_succ_self _) ⟨rfl, rfl, rfl, rfl, trivial⟩ rfl
    · replace Z1 := if_f (of_decide_eq_false c2) Z1
      refine at_exit ?_
      refine at_xt ?_
      refine at_xt ?_
      refine at_xb ?_
      refine at_then ?_
      refine at_seq ?_
      refine at_region [0, 1] rfl ?_
      iterate 2 refine at_s T rfl ?_
      refine at_end ?_
      refine at_sub [(4, (.slice a2 (List.length x3) n2))] ⟨rfl, trivial⟩ ?_
      refine at_then ?_
      refine at_ret ?_
      obtain rfl := Option.some.inj Z1
      exact at_post (T := T) rfl (.tmp rfl .nil) (fun w o => ⟨⟨(_, _), ⟨a2, n2, H2, s2, rfl, rfl⟩⟩, rfl, own_to [1, 0] rfl o⟩)

/-! ### herdsman/herdsmanlaw24.told: function 20 -/
def law24_told.f : Option Bool := (march_Go.f 3 1 [(api_Unit.mk 0 0 2), (api_Unit.mk 1 1 2)] [1, 1]).bind fun v1 => (if ((v1.2.2.2 == 0) && ((List.length v1.1 : Int) == 1)) = true then (if (0 ≤ (0 : Int) ∧ (0 : Int) < (List.length v1.1 : Int)) then (if ((rd v1.1 0).Cell == 0) = true then ((ref21_Moves.f v1.2.1 [(api_Move.mk 1 2)]).bind fun v4 => if v4 = true then ((ref1_Ints.f v1.2.2.1 [1]).bind fun v5 => some v5) else (some false)) else (some false)) else none) else (some false)).bind fun x2 => some x2
set_option maxHeartbeats 4000000 in
theorem law24_told.c (r : Bool) (F : Hp) (H : law24_told.f = some r) :
    CallsL Try.prog 20 [] [F] (fun _ : Unit => (.bool r)) (fun _ => [F]) := by
  unfold law24_told.f at H
  refine calls_atL [] Try.func20 rfl rfl trivial (fun W => ?_)
  refine at_seq ?_
  refine at_region [0] rfl ?_
  refine at_s T rfl ?_
  refine at_end ?_
  refine at_sub [] trivial ?_
  refine at_then ?_
  refine at_seq ?_
  refine at_region [0, 1, 2, 3, 4, 5, 6, 7, 8, 9, 10, 11, 12, 13] rfl ?_
  iterate 2 refine at_s T rfl ?_
  refine at_cons (at_bs (k := k_api_Unit) T [(api_Unit.mk 0 0 2), (api_Unit.mk 1 1 2)] rfl rfl rfl rfl rfl rfl rfl rfl rfl (fun a1 H1 s1 => ?_))
  refine at_cons (at_bs (k := (Fl.int .i64)) T [1, 1] rfl rfl rfl rfl rfl rfl rfl rfl rfl (fun a2 H2 s2 => ?_))
  obtain ⟨v1, V1, H⟩ := bind_e H
  refine at_cons (at_cR (march_Go.R v1) [] [] rfl rfl rfl rfl has15 rfl rfl (march_Go.c 3 1 [(api_Unit.mk 0 0 2), (api_Unit.mk 1 1 2)] [1, 1] v1 _ V1 (own_of s1 (j := 1) rfl) s1.cap_le (own_of s2 (j := 2) rfl) s2.cap_le) ?_)
  rintro _ _ ⟨a3, n3, H3, a4, n4, H4, a5, n5, H5, s3, s4, s5, rfl, rfl⟩
  iterate 9 refine at_s T rfl ?_
  refine at_end ?_
  refine at_to [(1, (.slice a3 (List.length v1.1) n3)), (2, (.slice a4 (List.length v1.2.1) n4)), (3, (.slice a5 (List.length v1.2.2.1) n5)), (4, (.int .i64 v1.2.2.2))] [0, 2, 2, 2] [F, H3, H4, H5] ⟨rfl, rfl, rfl, rfl, trivial⟩ rfl ?_
  refine at_then ?_
  obtain ⟨z3, Z2, H⟩ := bind_e H
  refine at_seq_mid (σ := Bool) (fun x2 => x2 = z3) (fun x2 => [(0, (.bool x2))]) (fun x2 => [F]) ?_ ?_
  · refine at_region [0, 1, 2, 3, 4, 5, 6, 7, 8, 9, 10, 11, 12, 13, 14, 15, 16, 17, 18, 19, 20, 21, 22, 23, 24, 25] rfl ?_
    iterate 3 refine at_s T rfl ?_
    refine at_grp T [3, 4, 5, 6] (s := 17) (c := (v1.2.2.2 == 0)) [(1, (.slice a3 (List.length v1.1) n3)), (2, (.slice a4 (List.length v1.2.1) n4)), (3, (.slice a5 (List.length v1.2.2.1) n5)), (21, (.bool ((v1.2.2.2 == 0) && ((List.length v1.1 : Int) == 1))))] rfl rfl rfl (fun c3 => ⟨rfl, rfl, rfl, (by rw [c3]; rfl), trivial⟩) (fun c3 => ⟨rfl, rfl, rfl, (by rw [c3]; rfl), trivial⟩) ?_
    refine at_s T rfl ?_
    refine at_case (s := 22) rfl (fun c4 => ?_) (fun c4 => ?_)
    · replace Z2 := if_t c4 Z2
      refine at_s T rfl ?_
      obtain ⟨c5, Z2⟩ := chk_e Z2
      obtain ⟨q6, o6, e6⟩ := s3.r.addr c5.1 c5.2
      refine at_v rfl (g_index T rfl rfl rfl rfl rfl e6 c5.1 c5.2) ?_
      refine at_s T rfl ?_
      refine at_v rfl (g_load T rfl rfl rfl rfl (in_elem1 (k := k_api_Unit) (own_of s3 (j := 1) rfl) e6 c5 1 rfl)) ?_
      iterate 3 refine at_s T rfl ?_
      refine at_case (s := 29) rfl (fun c6 => ?_) (fun c6 => ?_)
      · replace Z2 := if_t c6 Z2
        iterate 2 refine at_s T rfl ?_
        refine at_cons (at_bs (k := k_api_Move) T [(api_Move.mk 1 2)] rfl rfl rfl rfl rfl rfl rfl rfl rfl (fun a7 H7 s7 => ?_))
        obtain ⟨v4, V7, Z2⟩ := bind_e Z2
        refine at_cons (at_c (B := fun _ => []) [] rfl rfl rfl rfl has22 rfl rfl (ref21_Moves.c v1.2.1 [(api_Move.mk 1 2)] v4 _ V7 (own_of s4 (j := 2) rfl) s4.cap_le (own_of s7 (j := 4) rfl) s7.cap_le) (fun _ => ?_))
        iterate 2 refine at_s T rfl ?_
        refine at_case (s := 35) rfl (fun c8 => ?_) (fun c8 => ?_)
        · replace Z2 := if_t c8 Z2
          refine at_s T rfl ?_
          refine at_cons (at_bs (k := (Fl.int .i64)) T [1] rfl rfl rfl rfl rfl rfl rfl rfl rfl (fun a8 H8 s8 => ?_))
          obtain ⟨v5, V9, Z2⟩ := bind_e Z2
          refine at_cons (at_c (B := fun _ => []) [] rfl rfl rfl rfl has17 rfl rfl (ref1_Ints.c v1.2.2.1 [1] v5 _ V9 (own_of s5 (j := 3) rfl) s5.cap_le (own_of s8 (j := 5) rfl) s8.cap_le) (fun _ => ?_))
          iterate 2 refine at_s T rfl ?_
          refine at_end ?_
          refine at_to [(0, (.bool v5))] [0] [F] ⟨rfl, trivial⟩ rfl ?_
          refine at_then ?_
          obtain rfl := Option.some.inj Z2
          exact at_mid v5 [0] rfl ⟨rfl, trivial⟩ rfl
        · replace Z2 := if_f (bf c8) Z2
          iterate 5 refine at_s T rfl ?_
          refine at_end ?_
          refine at_to [(0, (.bool false))] [0] [F] ⟨rfl, trivial⟩ rfl ?_
          refine at_then ?_
          obtain rfl := Option.some.inj Z2
          exact at_mid false [0] rfl ⟨rfl, trivial⟩ rfl
      · replace Z2 := if_f (bf c6) Z2
        iterate 11 refine at_s T rfl ?_
        refine at_end ?_
        refine at_to [(0, (.bool false))] [0] [F] ⟨rfl, trivial⟩ rfl ?_
        refine at_then ?_
        obtain rfl := Option.some.inj Z2
        exact at_mid false [0] rfl ⟨rfl, trivial⟩ rfl
    · replace Z2 := if_f (bf c4) Z2
      iterate 18 refine at_s T rfl ?_
      refine at_end ?_
      refine at_to [(0, (.bool false))] [0] [F] ⟨rfl, trivial⟩ rfl ?_
      refine at_then ?_
      obtain rfl := Option.some.inj Z2
      exact at_mid false [0] rfl ⟨rfl, trivial⟩ rfl
  · rintro x2 rfl
    refine at_ret ?_
    obtain rfl := Option.some.inj H
    exact at_post (T := T) rfl (.tmp rfl .nil) (fun w o => ⟨(), rfl, own_to [0] rfl o⟩)
end Go.Proofs.Ytkidcebfpengmaa
