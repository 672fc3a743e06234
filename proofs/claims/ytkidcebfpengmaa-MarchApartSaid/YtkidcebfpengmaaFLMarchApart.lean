import Derived.Test.YtkidcebfpengmaaT
import Derived.Test.YtkidcebfpengmaaFlaw24
import Derived.Test.YtkidcebfpengmaaFmarch
import Derived.Test.YtkidcebfpengmaaFref1
import Derived.Test.YtkidcebfpengmaaFref21
import Derived.Test.YtkidcebfpengmaaFwhere
namespace Go.Proofs.Ytkidcebfpengmaa
open Go.Hx
set_option maxRecDepth 100000
set_option linter.unusedVariables false
/-! ### herdsman/herdsmanlaw24.MarchApart: function 4 -/
def law24_MarchApart.l2 : Nat → Int → Int → (List api_Unit) → (List Int) → ((List api_Unit) × (List api_Move) × (List Int) × Int) → Int → Int → Int → Option Bool
  | 0, _, _, _, _, _, _, _, _ => none
  | k21 + 1, v1, v2, v3, v4, v5, x18, x19, x20 => if x20 < (List.length v3 : Int) then (if (0 ≤ x20 ∧ x20 < (List.length v3 : Int)) then ((if x18 < (List.length v5.2.1 : Int) then (if (0 ≤ x18 ∧ x18 < (List.length v5.2.1 : Int)) then (some ((rd v5.2.1 x18).Id == (rd v3 x20).Id)) else none) else (some false)).bind fun x22 => (if x22 = true then (if (0 ≤ x18 ∧ x18 < (List.length v5.2.1 : Int)) then ((if (0 ≤ x20 ∧ x20 < (List.length v4 : Int)) then (if (rd v4 x20) > 3 then (some true) else ((where_Step.f v1 v2 ((rd v3 x20).Cell) (rd v4 x20)).bind fun v29 => some ((rd v5.2.1 x18).To != v29))) else none).bind fun x27 => if x27 = true then (some (Sum.inl false)) else (some (Sum.inr ((w64 (x18 + 1)), (rd v5.2.1 x18).To)))) else none) else (some (Sum.inr (x18, (rd v3 x20).Cell)))).bind fun zz => match zz with | Sum.inl q => some q | Sum.inr (x24, x25) => (if x22 = true then (some (x25 == (rd v3 x20).Goal)) else (some false)).bind fun x30 => if x30 = true then ((if x19 ≥ (List.length v5.2.2.1 : Int) then (some true) else (if (0 ≤ x19 ∧ x19 < (List.length v5.2.2.1 : Int)) then (some ((rd v5.2.2.1 x19) != (rd v3 x20).Id)) else none)).bind fun x32 => if x32 = true then (some false) else (law24_MarchApart.l2 k21 v1 v2 v3 v4 v5 x24 (w64 (x19 + 1)) (w64 (x20 + 1)))) else ((if (w64 (x20 - x19)) ≥ (List.length v5.1 : Int) then (some true) else (if (0 ≤ (w64 (x20 - x19)) ∧ (w64 (x20 - x19)) < (List.length v5.1 : Int)) then (some (!(((rd v5.1 (w64 (x20 - x19))).Id == (rd v3 x20).Id) && (((rd v5.1 (w64 (x20 - x19))).Cell == x25) && (((rd v5.1 (w64 (x20 - x19))).Goal == (rd v3 x20).Goal) && true))))) else none)).bind fun x34 => if x34 = true then (some false) else (law24_MarchApart.l2 k21 v1 v2 v3 v4 v5 x24 x19 (w64 (x20 + 1))))) else none) else ((law24_told.f).bind fun v36 => some ((v36 && (x18 == (List.length v5.2.1 : Int))) && (x19 == (List.length v5.2.2.1 : Int))))
def law24_MarchApart.l1 : Nat → ((List api_Unit) × (List api_Move) × (List Int) × Int) → Int → Int → Option (Sum Bool Unit)
  | 0, _, _, _ => none
  | k12 + 1, v5, x7, x11 => if x11 < x7 then ((if (0 ≤ x11 ∧ x11 < (List.length v5.1 : Int)) then (if (0 ≤ x7 ∧ x7 < (List.length v5.1 : Int)) then (if ((rd v5.1 x11).Cell == (rd v5.1 x7).Cell) = true then (some true) else (some (decide ((rd v5.1 x11).Id ≥ (rd v5.1 x7).Id)))) else none) else none).bind fun x13 => if x13 = true then (some (Sum.inl false)) else (law24_MarchApart.l1 k12 v5 x7 (w64 (x11 + 1)))) else (some (Sum.inr ()))
def law24_MarchApart.l0 : Nat → Int → Int → (List api_Unit) → (List Int) → ((List api_Unit) × (List api_Move) × (List Int) × Int) → Int → Option Bool
  | 0, _, _, _, _, _, _ => none
  | k8 + 1, v1, v2, v3, v4, v5, x7 => if x7 < (List.length v5.1 : Int) then ((law24_MarchApart.l1 fuel v5 x7 0).bind fun zz => match zz with | Sum.inl q => some q | Sum.inr _ => law24_MarchApart.l0 k8 v1 v2 v3 v4 v5 (w64 (x7 + 1))) else (law24_MarchApart.l2 fuel v1 v2 v3 v4 v5 0 0 0)
def law24_MarchApart.f (w : Int) (h : Int) (k : (List Int)) : Option Bool := (ref1_Within.f w 1 8).bind fun v1 => (ref1_Within.f h 1 8).bind fun v2 => (ref21_Made.f v1 v2 k).bind fun v3 => (law24_dirs.f v3 k).bind fun v4 => (march_Go.f v1 v2 v3 v4).bind fun v5 => if ((((v5.2.2.2 != 0) || ((w64 ((List.length v5.1 : Int) + (List.length v5.2.2.1 : Int))) != (List.length v3 : Int))) || (decide ((List.length v5.2.1 : Int) > (List.length v3 : Int)))) || (decide ((List.length v5.2.2.1 : Int) > (List.length v5.2.1 : Int)))) = true then (some false) else (law24_MarchApart.l0 fuel v1 v2 v3 v4 v5 0)
set_option maxHeartbeats 4000000 in
theorem law24_MarchApart.c {a_k : Option Addr} {n_k : Nat} (w : Int) (h : Int) (k : (List Int)) (r : Bool) (F : Hp) (H : law24_MarchApart.f w h k = some r) (h_k : SliceR (Fl.int .i64) k a_k F) (c_k : List.length k ≤ n_k) :
    CallsL Try.prog 4 [(.int .i64 w), (.int .i64 h), (.slice a_k (List.length k) n_k)] [F] (fun _ : Unit => (.bool r)) (fun _ => [F]) := by
  unfold law24_MarchApart.f at H
  refine calls_atL [(0, (.int .i64 w)), (1, (.int .i64 h)), (2, (.slice a_k (List.length k) n_k))] Try.func4 rfl rfl ⟨rfl, rfl, rfl, trivial⟩ (fun W => ?_)
  refine at_seq ?_
  refine at_region [0] rfl ?_
  refine at_s T rfl ?_
  refine at_end ?_
  refine at_sub [(0, (.int .i64 w)), (1, (.int .i64 h)), (2, (.slice a_k (List.length k) n_k))] ⟨rfl, rfl, rfl, trivial⟩ ?_
  refine at_then ?_
  refine at_seq ?_
  refine at_region [0, 1, 2, 3, 4, 5] rfl ?_
  refine at_s T rfl ?_
  obtain ⟨v1, V1, H⟩ := bind_e H
  refine at_cons (at_c (B := fun _ => []) [] rfl rfl rfl rfl has12 rfl rfl (ref1_Within.c w 1 8 v1 _ V1) (fun _ => ?_))
  refine at_s T rfl ?_
  obtain ⟨v2, V2, H⟩ := bind_e H
  refine at_cons (at_c (B := fun _ => []) [] rfl rfl rfl rfl has12 rfl rfl (ref1_Within.c h 1 8 v2 _ V2) (fun _ => ?_))
  iterate 2 refine at_s T rfl ?_
  refine at_end ?_
  refine at_sub [(0, (.int .i64 v1)), (1, (.int .i64 v2)), (2, (.slice a_k (List.length k) n_k))] ⟨rfl, rfl, rfl, trivial⟩ ?_
  refine at_then ?_
  refine at_seq ?_
  refine at_region [0, 1, 2, 3, 4] rfl ?_
  iterate 3 refine at_s T rfl ?_
  obtain ⟨v3, V3, H⟩ := bind_e H
  refine at_cons (at_cR (ref21_Made.R v3) [] [] rfl rfl rfl rfl has13 rfl rfl (ref21_Made.c v1 v2 k v3 _ V3 (ro_of h_k (j := 0) rfl) c_k) ?_)
  rintro _ _ ⟨a1, n1, H1, s1, rfl, rfl⟩
  refine at_s T rfl ?_
  refine at_end ?_
  refine at_sub [(0, (.int .i64 v1)), (1, (.int .i64 v2)), (2, (.slice a_k (List.length k) n_k)), (7, (.slice a1 (List.length v3) n1))] ⟨rfl, rfl, rfl, rfl, trivial⟩ ?_
  refine at_then ?_
  refine at_seq ?_
  refine at_region [0, 1, 2, 3] rfl ?_
  iterate 2 refine at_s T rfl ?_
  obtain ⟨v4, V4, H⟩ := bind_e H
  refine at_cons (at_cR (law24_dirs.R v4) [] [] rfl rfl rfl rfl has14 rfl rfl (law24_dirs.c v3 k v4 _ V4 (own_of s1 (j := 1) rfl) s1.cap_le (ro_of h_k (j := 0) rfl) c_k) ?_)
  rintro _ _ ⟨a2, n2, H2, s2, rfl, rfl⟩
  refine at_s T rfl ?_
  refine at_end ?_
  refine at_sub [(0, (.int .i64 v1)), (1, (.int .i64 v2)), (7, (.slice a1 (List.length v3) n1)), (8, (.slice a2 (List.length v4) n2))] ⟨rfl, rfl, rfl, rfl, trivial⟩ ?_
  refine at_then ?_
  refine at_seq ?_
  refine at_region [0, 1, 2, 3, 4, 5, 6, 7, 8, 9, 10, 11, 12, 13] rfl ?_
  iterate 4 refine at_s T rfl ?_
  obtain ⟨v5, V5, H⟩ := bind_e H
  refine at_cons (at_cR (march_Go.R v5) [] [] rfl rfl rfl rfl has15 rfl rfl (march_Go.c v1 v2 v3 v4 v5 _ V5 (own_of s1 (j := 1) rfl) s1.cap_le (own_of s2 (j := 2) rfl) s2.cap_le) ?_)
  rintro _ _ ⟨a3, n3, H3, a4, n4, H4, a5, n5, H5, s3, s4, s5, rfl, rfl⟩
  iterate 9 refine at_s T rfl ?_
  refine at_end ?_
  refine at_sub [(0, (.int .i64 v1)), (1, (.int .i64 v2)), (7, (.slice a1 (List.length v3) n1)), (8, (.slice a2 (List.length v4) n2)), (9, (.slice a3 (List.length v5.1) n3)), (10, (.slice a4 (List.length v5.2.1) n4)), (11, (.slice a5 (List.length v5.2.2.1) n5)), (12, (.int .i64 v5.2.2.2))] ⟨rfl, rfl, rfl, rfl, rfl, rfl, rfl, rfl, trivial⟩ ?_
  refine at_then ?_
  refine at_seq ?_
  refine at_seq ?_
  refine at_region [0, 1, 2, 3, 4, 5, 6, 7, 8, 9, 10, 11, 12, 13, 14, 15, 16, 17, 18, 19, 20, 21, 22, 23, 24, 25] rfl ?_
  iterate 3 refine at_s T rfl ?_
  refine at_grp T [3, 4, 5, 6, 7, 8, 9, 10, 11] (s := 43) (c := (v5.2.2.2 != 0)) [(0, (.int .i64 v1)), (1, (.int .i64 v2)), (7, (.slice a1 (List.length v3) n1)), (8, (.slice a2 (List.length v4) n2)), (9, (.slice a3 (List.length v5.1) n3)), (10, (.slice a4 (List.length v5.2.1) n4)), (11, (.slice a5 (List.length v5.2.2.1) n5)), (52, (.bool ((v5.2.2.2 != 0) || ((w64 ((List.length v5.1 : Int) + (List.length v5.2.2.1 : Int))) != (List.length v3 : Int)))))] rfl rfl rfl (fun c6 => ⟨rfl, rfl, rfl, rfl, rfl, rfl, rfl, (by rw [c6]; rfl), trivial⟩) (fun c6 => ⟨rfl, rfl, rfl, rfl, rfl, rfl, rfl, (by rw [c6]; rfl), trivial⟩) ?_
  refine at_s T rfl ?_
  refine at_grp T [13, 14, 15, 16, 17, 18] (s := 53) (c := ((v5.2.2.2 != 0) || ((w64 ((List.length v5.1 : Int) + (List.length v5.2.2.1 : Int))) != (List.length v3 : Int)))) [(0, (.int .i64 v1)), (1, (.int .i64 v2)), (7, (.slice a1 (List.length v3) n1)), (8, (.slice a2 (List.length v4) n2)), (9, (.slice a3 (List.length v5.1) n3)), (10, (.slice a4 (List.length v5.2.1) n4)), (11, (.slice a5 (List.length v5.2.2.1) n5)), (59, (.bool (((v5.2.2.2 != 0) || ((w64 ((List.length v5.1 : Int) + (List.length v5.2.2.1 : Int))) != (List.length v3 : Int))) || (decide ((List.length v5.2.1 : Int) > (List.length v3 : Int))))))] rfl rfl rfl (fun c7 => ⟨rfl, rfl, rfl, rfl, rfl, rfl, rfl, (by rw [c7]; rfl), trivial⟩) (fun c7 => ⟨rfl, rfl, rfl, rfl, rfl, rfl, rfl, (by rw [c7]; rfl), trivial⟩) ?_
  refine at_s T rfl ?_
  refine at_grp T [20, 21, 22, 23, 24, 25] (s := 60) (c := (((v5.2.2.2 != 0) || ((w64 ((List.length v5.1 : Int) + (List.length v5.2.2.1 : Int))) != (List.length v3 : Int))) || (decide ((List.length v5.2.1 : Int) > (List.length v3 : Int))))) [(0, (.int .i64 v1)), (1, (.int .i64 v2)), (7, (.slice a1 (List.length v3) n1)), (8, (.slice a2 (List.length v4) n2)), (9, (.slice a3 (List.length v5.1) n3)), (10, (.slice a4 (List.length v5.2.1) n4)), (11, (.slice a5 (List.length v5.2.2.1) n5)), (66, (.bool ((((v5.2.2.2 != 0) || ((w64 ((List.length v5.1 : Int) + (List.length v5.2.2.1 : Int))) != (List.length v3 : Int))) || (decide ((List.length v5.2.1 : Int) > (List.length v3 : Int)))) || (decide ((List.length v5.2.2.1 : Int) > (List.length v5.2.1 : Int))))))] rfl rfl rfl (fun c8 => ⟨rfl, rfl, rfl, rfl, rfl, rfl, rfl, (by rw [c8]; rfl), trivial⟩) (fun c8 => ⟨rfl, rfl, rfl, rfl, rfl, rfl, rfl, (by rw [c8]; rfl), trivial⟩) ?_
  refine at_end ?_
  refine at_sub [(0, (.int .i64 v1)), (1, (.int .i64 v2)), (7, (.slice a1 (List.length v3) n1)), (8, (.slice a2 (List.length v4) n2)), (9, (.slice a3 (List.length v5.1) n3)), (10, (.slice a4 (List.length v5.2.1) n4)), (11, (.slice a5 (List.length v5.2.2.1) n5)), (66, (.bool ((((v5.2.2.2 != 0) || ((w64 ((List.length v5.1 : Int) + (List.length v5.2.2.1 : Int))) != (List.length v3 : Int))) || (decide ((List.length v5.2.1 : Int) > (List.length v3 : Int)))) || (decide ((List.length v5.2.2.1 : Int) > (List.length v5.2.1 : Int))))))] ⟨rfl, rfl, rfl, rfl, rfl, rfl, rfl, rfl, trivial⟩ ?_
  refine at_then ?_
  refine at_cond rfl (fun c9 => ?_) (fun c9 => ?_)
  · replace H := if_t c9 H
    refine at_seq ?_
    refine at_region [0] rfl ?_
    refine at_s T rfl ?_
    refine at_end ?_
    refine at_to [(6, (.bool false))] [0] [F] ⟨rfl, trivial⟩ rfl ?_
    refine at_then ?_
    refine at_ret ?_
    refine at_rt ?_
    obtain rfl := Option.some.inj H
    exact at_post (T := T) rfl (.tmp rfl .nil) (fun w o => ⟨(), rfl, own_to [0] rfl o⟩)
  · replace H := if_f (bf c9) H
    refine at_skip ?_
    refine at_then ?_
    refine at_seq ?_
    refine at_seq ?_
    refine at_region [0] rfl ?_
    refine at_s T rfl ?_
    refine at_end ?_
    refine at_sub [(0, (.int .i64 v1)), (1, (.int .i64 v2)), (7, (.slice a1 (List.length v3) n1)), (8, (.slice a2 (List.length v4) n2)), (9, (.slice a3 (List.length v5.1) n3)), (10, (.slice a4 (List.length v5.2.1) n4)), (11, (.slice a5 (List.length v5.2.2.1) n5)), (13, (.int .i64 0))] ⟨rfl, rfl, rfl, rfl, rfl, rfl, rfl, rfl, trivial⟩ ?_
    refine at_then ?_
    refine at_block ?_
    refine at_loopL (σ := Nat × Int) (fun ⟨k8, x7⟩ => law24_MarchApart.l0 k8 v1 v2 v3 v4 v5 x7 = some r) (fun ⟨k8, x7⟩ => [(0, (.int .i64 v1)), (1, (.int .i64 v2)), (7, (.slice a1 (List.length v3) n1)), (8, (.slice a2 (List.length v4) n2)), (9, (.slice a3 (List.length v5.1) n3)), (10, (.slice a4 (List.length v5.2.1) n4)), (11, (.slice a5 (List.length v5.2.2.1) n5)), (13, (.int .i64 x7))]) (fun ⟨k8, x7⟩ => [F, H1, H2, H3, H4, H5]) (fun s => s.1) (fuel, 0) [0, 0, 0, 0, 0, 0] H ⟨rfl, rfl, rfl, rfl, rfl, rfl, rfl, rfl, trivial⟩ rfl ?_
    rintro ⟨k8, x7⟩ Z10
    replace Z10 : law24_MarchApart.l0 k8 v1 v2 v3 v4 v5 x7 = some r := Z10
    rcases k8 with _ | k8
    · rw [law24_MarchApart.l0] at Z10; cases Z10
    · rw [law24_MarchApart.l0] at Z10
      refine at_seq ?_
      refine at_seq ?_
      refine at_region [0, 1, 2, 3] rfl ?_
      iterate 4 refine at_s T rfl ?_
      refine at_end ?_
      refine at_sub [(0, (.int .i64 v1)), (1, (.int .i64 v2)), (7, (.slice a1 (List.length v3) n1)), (8, (.slice a2 (List.length v4) n2)), (9, (.slice a3 (List.length v5.1) n3)), (10, (.slice a4 (List.length v5.2.1) n4)), (11, (.slice a5 (List.length v5.2.2.1) n5)), (13, (.int .i64 x7)), (70, (.bool (decide (x7 < (List.length v5.1 : Int)))))] ⟨rfl, rfl, rfl, rfl, rfl, rfl, rfl, rfl, rfl, trivial⟩ ?_
      refine at_then ?_
      refine at_cond rfl (fun c11 => ?_) (fun c11 => ?_)
      · replace Z10 := if_t (of_decide_eq_true c11) Z10
        refine at_skip ?_
        refine at_then ?_
        obtain ⟨z9, Z12, Z10⟩ := bind_e Z10
        refine at_seq_mid (σ := Unit) (fun ⟨⟩ => (Sum.inr ()) = z9) (fun ⟨⟩ => [(0, (.int .i64 v1)), (1, (.int .i64 v2)), (7, (.slice a1 (List.length v3) n1)), (8, (.slice a2 (List.length v4) n2)), (9, (.slice a3 (List.length v5.1) n3)), (10, (.slice a4 (List.length v5.2.1) n4)), (11, (.slice a5 (List.length v5.2.2.1) n5)), (13, (.int .i64 x7))]) (fun ⟨⟩ => [F, H1, H2, H3, H4, H5]) ?_ ?_
        · refine at_block ?_
          refine at_seq ?_
          refine at_region [0] rfl ?_
          refine at_s T rfl ?_
          refine at_end ?_
          refine at_sub [(0, (.int .i64 v1)), (1, (.int .i64 v2)), (7, (.slice a1 (List.length v3) n1)), (8, (.slice a2 (List.length v4) n2)), (9, (.slice a3 (List.length v5.1) n3)), (10, (.slice a4 (List.length v5.2.1) n4)), (11, (.slice a5 (List.length v5.2.2.1) n5)), (13, (.int .i64 x7)), (14, (.int .i64 0))] ⟨rfl, rfl, rfl, rfl, rfl, rfl, rfl, rfl, rfl, trivial⟩ ?_
          refine at_then ?_
          refine at_block ?_
          refine at_loopL (σ := Nat × Int) (fun ⟨k12, x11⟩ => law24_MarchApart.l1 k12 v5 x7 x11 = some z9) (fun ⟨k12, x11⟩ => [(0, (.int .i64 v1)), (1, (.int .i64 v2)), (7, (.slice a1 (List.length v3) n1)), (8, (.slice a2 (List.length v4) n2)), (9, (.slice a3 (List.length v5.1) n3)), (10, (.slice a4 (List.length v5.2.1) n4)), (11, (.slice a5 (List.length v5.2.2.1) n5)), (13, (.int .i64 x7)), (14, (.int .i64 x11))]) (fun ⟨k12, x11⟩ => [F, H1, H2, H3, H4, H5]) (fun s => s.1) (fuel, 0) [0, 0, 0, 0, 0, 0] Z12 ⟨rfl, rfl, rfl, rfl, rfl, rfl, rfl, rfl, rfl, trivial⟩ rfl ?_
          rintro ⟨k12, x11⟩ Z13
          replace Z13 : law24_MarchApart.l1 k12 v5 x7 x11 = some z9 := Z13
          rcases k12 with _ | k12
          · rw [law24_MarchApart.l1] at Z13; cases Z13
          · rw [law24_MarchApart.l1] at Z13
            refine at_seq ?_
            refine at_seq ?_
            refine at_region [0, 1, 2] rfl ?_
            iterate 3 refine at_s T rfl ?_
            refine at_end ?_
            refine at_sub [(0, (.int .i64 v1)), (1, (.int .i64 v2)), (7, (.slice a1 (List.length v3) n1)), (8, (.slice a2 (List.length v4) n2)), (9, (.slice a3 (List.length v5.1) n3)), (10, (.slice a4 (List.length v5.2.1) n4)), (11, (.slice a5 (List.length v5.2.2.1) n5)), (13, (.int .i64 x7)), (14, (.int .i64 x11)), (75, (.bool (decide (x11 < x7))))] ⟨rfl, rfl, rfl, rfl, rfl, rfl, rfl, rfl, rfl, rfl, trivial⟩ ?_
            refine at_then ?_
            refine at_cond rfl (fun c14 => ?_) (fun c14 => ?_)
            · replace Z13 := if_t (of_decide_eq_true c14) Z13
              refine at_skip ?_
              refine at_then ?_
              refine at_seq ?_
              refine at_block ?_
              obtain ⟨z14, Z15, Z13⟩ := bind_e Z13
              refine at_seq_mid (σ := Bool) (fun x13 => x13 = z14) (fun x13 => [(0, (.int .i64 v1)), (1, (.int .i64 v2)), (7, (.slice a1 (List.length v3) n1)), (8, (.slice a2 (List.length v4) n2)), (9, (.slice a3 (List.length v5.1) n3)), (10, (.slice a4 (List.length v5.2.1) n4)), (11, (.slice a5 (List.length v5.2.2.1) n5)), (13, (.int .i64 x7)), (14, (.int .i64 x11)), (101, (.bool x13))]) (fun x13 => [F, H1, H2, H3, H4, H5]) ?_ ?_
              · refine at_region_q mix (by kernel_rfl) ?_
                iterate 2 refine atq_s T rfl ?_
                obtain ⟨c16, Z15⟩ := chk_e Z15
                obtain ⟨q6, o6, e6⟩ := s3.r.addr c16.1 c16.2
                refine atq_v rfl rfl rfl (g_index T rfl rfl rfl rfl rfl e6 c16.1 c16.2) ?_
                refine atq_s T rfl ?_
                refine atq_v rfl rfl rfl (g_load T rfl rfl rfl rfl (in_elem1 (k := k_api_Unit) (own_of s3 (j := 3) rfl) e6 c16 1 rfl)) ?_
                iterate 2 refine atq_s T rfl ?_
                obtain ⟨c17, Z15⟩ := chk_e Z15
                refine atq_v rfl rfl rfl (g_index T rfl rfl rfl rfl rfl e6 c17.1 c17.2) ?_
                refine atq_s T rfl ?_
                refine atq_v rfl rfl rfl (g_load T rfl rfl rfl rfl (in_elem1 (k := k_api_Unit) (own_of s3 (j := 3) rfl) e6 c17 1 rfl)) ?_
                iterate 2 refine atq_s T rfl ?_
                refine atq_case (s := 89) rfl (fun c18 => ?_) (fun c18 => ?_)
                · replace Z15 := if_t c18 Z15
                  iterate 12 refine atq_s T rfl ?_
                  refine atq_end ?_
                  refine at_sub [(0, (.int .i64 v1)), (1, (.int .i64 v2)), (7, (.slice a1 (List.length v3) n1)), (8, (.slice a2 (List.length v4) n2)), (9, (.slice a3 (List.length v5.1) n3)), (10, (.slice a4 (List.length v5.2.1) n4)), (11, (.slice a5 (List.length v5.2.2.1) n5)), (13, (.int .i64 x7)), (14, (.int .i64 x11)), (101, (.bool true))] ⟨rfl, rfl, rfl, rfl, rfl, rfl, rfl, rfl, rfl, rfl, trivial⟩ ?_
                  refine at_then ?_
                  obtain rfl := Option.some.inj Z15
                  exact at_mid true [0, 0, 0, 0, 0, 0] rfl ⟨rfl, rfl, rfl, rfl, rfl, rfl, rfl, rfl, rfl, rfl, trivial⟩ rfl
                · replace Z15 := if_f (bf c18) Z15
                  iterate 2 refine atq_s T rfl ?_
                  refine atq_v rfl rfl rfl (g_index T rfl rfl rfl rfl rfl e6 c16.1 c16.2) ?_
                  refine atq_s T rfl ?_
                  refine atq_v rfl rfl rfl (g_load T rfl rfl rfl rfl (in_elem1 (k := k_api_Unit) (own_of s3 (j := 3) rfl) e6 c16 0 rfl)) ?_
                  iterate 2 refine atq_s T rfl ?_
                  refine atq_v rfl rfl rfl (g_index T rfl rfl rfl rfl rfl e6 c17.1 c17.2) ?_
                  refine atq_s T rfl ?_
                  refine atq_v rfl rfl rfl (g_load T rfl rfl rfl rfl (in_elem1 (k := k_api_Unit) (own_of s3 (j := 3) rfl) e6 c17 0 rfl)) ?_
                  iterate 2 refine atq_s T rfl ?_
                  refine atq_end ?_
                  refine at_sub [(0, (.int .i64 v1)), (1, (.int .i64 v2)), (7, (.slice a1 (List.length v3) n1)), (8, (.slice a2 (List.length v4) n2)), (9, (.slice a3 (List.length v5.1) n3)), (10, (.slice a4 (List.length v5.2.1) n4)), (11, (.slice a5 (List.length v5.2.2.1) n5)), (13, (.int .i64 x7)), (14, (.int .i64 x11)), (101, (.bool (decide ((rd v5.1 x11).Id ≥ (rd v5.1 x7).Id))))] ⟨rfl, rfl, rfl, rfl, rfl, rfl, rfl, rfl, rfl, rfl, trivial⟩ ?_
                  refine at_then ?_
                  obtain rfl := Option.some.inj Z15
                  exact at_mid (decide ((rd v5.1 x11).Id ≥ (rd v5.1 x7).Id)) [0, 0, 0, 0, 0, 0] rfl ⟨rfl, rfl, rfl, rfl, rfl, rfl, rfl, rfl, rfl, rfl, trivial⟩ rfl
              · rintro x13 rfl
                refine at_cond rfl (fun c19 => ?_) (fun c19 => ?_)
                · replace Z13 := if_t c19 Z13
                  refine at_seq ?_
                  refine at_region [0] rfl ?_
                  refine at_s T rfl ?_
                  refine at_end ?_
                  refine at_to [(6, (.bool false))] [0] [F] ⟨rfl, trivial⟩ rfl ?_
                  refine at_then ?_
                  refine at_ret ?_
                  refine at_rb ?_
                  refine at_rt ?_
                  refine at_rt ?_
                  refine at_rb ?_
                  refine at_rb ?_
                  refine at_rt ?_
                  refine at_rt ?_
                  refine at_rb ?_
                  refine at_rt ?_
                  obtain rfl := Option.some.inj Z13
                  obtain rfl := Option.some.inj (show some false = some r from Z10)
                  exact at_post (T := T) rfl (.tmp rfl .nil) (fun w o => ⟨(), rfl, own_to [0] rfl o⟩)
                · replace Z13 := if_f (bf c19) Z13
                  refine at_skip ?_
                  refine at_nb ?_
                  refine at_then ?_
                  refine at_region [0, 1, 2] rfl ?_
                  iterate 3 refine at_s T rfl ?_
                  refine at_end ?_
                  refine at_sub [(0, (.int .i64 v1)), (1, (.int .i64 v2)), (7, (.slice a1 (List.length v3) n1)), (8, (.slice a2 (List.length v4) n2)), (9, (.slice a3 (List.length v5.1) n3)), (10, (.slice a4 (List.length v5.2.1) n4)), (11, (.slice a5 (List.length v5.2.2.1) n5)), (13, (.int .i64 x7)), (14, (.int .i64 (w64 (x11 + 1))))] ⟨rfl, rfl, rfl, rfl, rfl, rfl, rfl, rfl, rfl, trivial⟩ ?_
                  refine at_then ?_
                  exact at_roundL (k12, (w64 (x11 + 1))) [0, 0, 0, 0, 0, 0] Z13 (Nat.lt_succ_self _) ⟨rfl, rfl, rfl, rfl, rfl, rfl, rfl, rfl, rfl, trivial⟩ rfl
            · replace Z13 := if_f (of_decide_eq_false c14) Z13
              refine at_exit ?_
              refine at_xt ?_
              refine at_xt ?_
              refine at_xb ?_
              refine at_nb ?_
              refine at_then ?_
              obtain rfl := Option.some.inj Z13
              exact at_mid () [0, 0, 0, 0, 0, 0] rfl ⟨rfl, rfl, rfl, rfl, rfl, rfl, rfl, rfl, trivial⟩ rfl
        · rintro ⟨⟩ rfl
          refine at_region [0, 1, 2] rfl ?_
          iterate 3 refine at_s T rfl ?_
          refine at_end ?_
          refine at_sub [(0, (.int .i64 v1)), (1, (.int .i64 v2)), (7, (.slice a1 (List.length v3) n1)), (8, (.slice a2 (List.length v4) n2)), (9, (.slice a3 (List.length v5.1) n3)), (10, (.slice a4 (List.length v5.2.1) n4)), (11, (.slice a5 (List.length v5.2.2.1) n5)), (13, (.int .i64 (w64 (x7 + 1))))] ⟨rfl, rfl, rfl, rfl, rfl, rfl, rfl, rfl, trivial⟩ ?_
          refine at_then ?_
          exact at_roundL (k8, (w64 (x7 + 1))) [0, 0, 0, 0, 0, 0] Z10 (Nat.lt_succ_self _) ⟨rfl, rfl, rfl, rfl, rfl, rfl, rfl, rfl, trivial⟩ rfl
      · replace Z10 := if_f (of_decide_eq_false c11) Z10
        refine at_exit ?_
        refine at_xt ?_
        refine at_xt ?_
        refine at_xb ?_
        refine at_then ?_
        refine at_seq ?_
        refine at_region [0, 1] rfl ?_
        iterate 2 refine at_s T rfl ?_
        refine at_end ?_
        refine at_sub [(0, (.int .i64 v1)), (1, (.int .i64 v2)), (7, (.slice a1 (List.length v3) n1)), (8, (.slice a2 (List.length v4) n2)), (9, (.slice a3 (List.length v5.1) n3)), (10, (.slice a4 (List.length v5.2.1) n4)), (11, (.slice a5 (List.length v5.2.2.1) n5)), (15, (.int .i64 0)), (16, (.int .i64 0))] ⟨rfl, rfl, rfl, rfl, rfl, rfl, rfl, rfl, rfl, trivial⟩ ?_
        refine at_then ?_
        refine at_seq ?_
        refine at_seq ?_
        refine at_region [0] rfl ?_
        refine at_s T rfl ?_
        refine at_end ?_
        refine at_sub [(0, (.int .i64 v1)), (1, (.int .i64 v2)), (7, (.slice a1 (List.length v3) n1)), (8, (.slice a2 (List.length v4) n2)), (9, (.slice a3 (List.length v5.1) n3)), (10, (.slice a4 (List.length v5.2.1) n4)), (11, (.slice a5 (List.length v5.2.2.1) n5)), (15, (.int .i64 0)), (16, (.int .i64 0)), (17, (.int .i64 0))] ⟨rfl, rfl, rfl, rfl, rfl, rfl, rfl, rfl, rfl, rfl, trivial⟩ ?_
        refine at_then ?_
        refine at_block ?_
        refine at_loopL (σ := Nat × Int × Int × Int) (fun ⟨k21, x18, x19, x20⟩ => law24_MarchApart.l2 k21 v1 v2 v3 v4 v5 x18 x19 x20 = some r) (fun ⟨k21, x18, x19, x20⟩ => [(0, (.int .i64 v1)), (1, (.int .i64 v2)), (7, (.slice a1 (List.length v3) n1)), (8, (.slice a2 (List.length v4) n2)), (9, (.slice a3 (List.length v5.1) n3)), (10, (.slice a4 (List.length v5.2.1) n4)), (11, (.slice a5 (List.length v5.2.2.1) n5)), (15, (.int .i64 x18)), (16, (.int .i64 x19)), (17, (.int .i64 x20))]) (fun ⟨k21, x18, x19, x20⟩ => [F, H1, H2, H3, H4, H5]) (fun s => s.1) (fuel, 0, 0, 0) [0, 0, 0, 0, 0, 0] Z10 ⟨rfl, rfl, rfl, rfl, rfl, rfl, rfl, rfl, rfl, rfl, trivial⟩ rfl ?_
        rintro ⟨k21, x18, x19, x20⟩ Z20
        replace Z20 : law24_MarchApart.l2 k21 v1 v2 v3 v4 v5 x18 x19 x20 = some r := Z20
        rcases k21 with _ | k21
        · rw [law24_MarchApart.l2] at Z20; cases Z20
        · rw [law24_MarchApart.l2] at Z20
          refine at_seq ?_
          refine at_seq ?_
          refine at_region [0, 1, 2, 3] rfl ?_
          iterate 4 refine at_s T rfl ?_
          refine at_end ?_
          refine at_sub [(0, (.int .i64 v1)), (1, (.int .i64 v2)), (7, (.slice a1 (List.length v3) n1)), (8, (.slice a2 (List.length v4) n2)), (9, (.slice a3 (List.length v5.1) n3)), (10, (.slice a4 (List.length v5.2.1) n4)), (11, (.slice a5 (List.length v5.2.2.1) n5)), (15, (.int .i64 x18)), (16, (.int .i64 x19)), (17, (.int .i64 x20)), (105, (.bool (decide (x20 < (List.length v3 : Int)))))] ⟨rfl, rfl, rfl, rfl, rfl, rfl, rfl, rfl, rfl, rfl, rfl, trivial⟩ ?_
          refine at_then ?_
          refine at_cond rfl (fun c21 => ?_) (fun c21 => ?_)
          · replace Z20 := if_t (of_decide_eq_true c21) Z20
            refine at_skip ?_
            refine at_then ?_
            refine at_seq ?_
            refine at_block ?_
            refine at_seq ?_
            refine at_region [0, 1, 2, 3, 4, 5] rfl ?_
            iterate 2 refine at_s T rfl ?_
            obtain ⟨c22, Z20⟩ := chk_e Z20
            obtain ⟨q7, o7, e7⟩ := s1.r.addr c22.1 c22.2
            refine at_v rfl (g_index T rfl rfl rfl rfl rfl e7 c22.1 c22.2) ?_
            refine at_s T rfl ?_
            refine at_v rfl (g_load T rfl rfl rfl rfl (in_elem1 (k := k_api_Unit) (own_of s1 (j := 1) rfl) e7 c22 1 rfl)) ?_
            refine at_s T rfl ?_
            refine at_end ?_
            refine at_sub [(0, (.int .i64 v1)), (1, (.int .i64 v2)), (7, (.slice a1 (List.length v3) n1)), (8, (.slice a2 (List.length v4) n2)), (9, (.slice a3 (List.length v5.1) n3)), (10, (.slice a4 (List.length v5.2.1) n4)), (11, (.slice a5 (List.length v5.2.2.1) n5)), (15, (.int .i64 x18)), (16, (.int .i64 x19)), (17, (.int .i64 x20)), (18, (.int .i64 (rd v3 x20).Cell))] ⟨rfl, rfl, rfl, rfl, rfl, rfl, rfl, rfl, rfl, rfl, rfl, trivial⟩ ?_
            refine at_then ?_
            obtain ⟨z23, Z23, Z20⟩ := bind_e Z20
            refine at_seq_mid (σ := Bool) (fun x22 => x22 = z23) (fun x22 => [(0, (.int .i64 v1)), (1, (.int .i64 v2)), (7, (.slice a1 (List.length v3) n1)), (8, (.slice a2 (List.length v4) n2)), (9, (.slice a3 (List.length v5.1) n3)), (10, (.slice a4 (List.length v5.2.1) n4)), (11, (.slice a5 (List.length v5.2.2.1) n5)), (15, (.int .i64 x18)), (16, (.int .i64 x19)), (17, (.int .i64 x20)), (18, (.int .i64 (rd v3 x20).Cell)), (19, (.bool x22))]) (fun x22 => [F, H1, H2, H3, H4, H5]) ?_ ?_
            · refine at_region_q mix (by kernel_rfl) ?_
              iterate 5 refine atq_s T rfl ?_
              refine atq_case (s := 117) rfl (fun c24 => ?_) (fun c24 => ?_)
              · replace Z23 := if_t (of_decide_eq_true c24) Z23
                iterate 2 refine atq_s T rfl ?_
                obtain ⟨c25, Z23⟩ := chk_e Z23
                obtain ⟨q8, o8, e8⟩ := s4.r.addr c25.1 c25.2
                refine atq_v rfl rfl rfl (g_index T rfl rfl rfl rfl rfl e8 c25.1 c25.2) ?_
                refine atq_s T rfl ?_
                refine atq_v rfl rfl rfl (g_load T rfl rfl rfl rfl (in_elem1 (k := k_api_Move) (own_of s4 (j := 4) rfl) e8 c25 0 rfl)) ?_
                iterate 2 refine atq_s T rfl ?_
                refine atq_v rfl rfl rfl (g_index T rfl rfl rfl rfl rfl e7 c22.1 c22.2) ?_
                refine atq_s T rfl ?_
                refine atq_v rfl rfl rfl (g_load T rfl rfl rfl rfl (in_elem1 (k := k_api_Unit) (own_of s1 (j := 1) rfl) e7 c22 0 rfl)) ?_
                iterate 3 refine atq_s T rfl ?_
                refine atq_end ?_
                refine at_sub [(0, (.int .i64 v1)), (1, (.int .i64 v2)), (7, (.slice a1 (List.length v3) n1)), (8, (.slice a2 (List.length v4) n2)), (9, (.slice a3 (List.length v5.1) n3)), (10, (.slice a4 (List.length v5.2.1) n4)), (11, (.slice a5 (List.length v5.2.2.1) n5)), (15, (.int .i64 x18)), (16, (.int .i64 x19)), (17, (.int .i64 x20)), (18, (.int .i64 (rd v3 x20).Cell)), (19, (.bool ((rd v5.2.1 x18).Id == (rd v3 x20).Id)))] ⟨rfl, rfl, rfl, rfl, rfl, rfl, rfl, rfl, rfl, rfl, rfl, rfl, trivial⟩ ?_
                refine at_then ?_
                obtain rfl := Option.some.inj Z23
                exact at_mid ((rd v5.2.1 x18).Id == (rd v3 x20).Id) [0, 0, 0, 0, 0, 0] rfl ⟨rfl, rfl, rfl, rfl, rfl, rfl, rfl, rfl, rfl, rfl, rfl, rfl, trivial⟩ rfl
              · replace Z23 := if_f (of_decide_eq_false c24) Z23
                iterate 13 refine atq_s T rfl ?_
                refine atq_end ?_
                refine at_sub [(0, (.int .i64 v1)), (1, (.int .i64 v2)), (7, (.slice a1 (List.length v3) n1)), (8, (.slice a2 (List.length v4) n2)), (9, (.slice a3 (List.length v5.1) n3)), (10, (.slice a4 (List.length v5.2.1) n4)), (11, (.slice a5 (List.length v5.2.2.1) n5)), (15, (.int .i64 x18)), (16, (.int .i64 x19)), (17, (.int .i64 x20)), (18, (.int .i64 (rd v3 x20).Cell)), (19, (.bool false))] ⟨rfl, rfl, rfl, rfl, rfl, rfl, rfl, rfl, rfl, rfl, rfl, rfl, trivial⟩ ?_
                refine at_then ?_
                obtain rfl := Option.some.inj Z23
                exact at_mid false [0, 0, 0, 0, 0, 0] rfl ⟨rfl, rfl, rfl, rfl, rfl, rfl, rfl, rfl, rfl, rfl, rfl, rfl, trivial⟩ rfl
            · rintro x22 rfl
              obtain ⟨z26, Z26, Z20⟩ := bind_e Z20
              refine at_seq_mid (σ := Int × Int) (fun ⟨x24, x25⟩ => (Sum.inr (x24, x25)) = z26) (fun ⟨x24, x25⟩ => [(0, (.int .i64 v1)), (1, (.int .i64 v2)), (7, (.slice a1 (List.length v3) n1)), (8, (.slice a2 (List.length v4) n2)), (9, (.slice a3 (List.length v5.1) n3)), (10, (.slice a4 (List.length v5.2.1) n4)), (11, (.slice a5 (List.length v5.2.2.1) n5)), (15, (.int .i64 x24)), (16, (.int .i64 x19)), (17, (.int .i64 x20)), (18, (.int .i64 x25)), (19, (.bool x22))]) (fun ⟨x24, x25⟩ => [F, H1, H2, H3, H4, H5]) ?_ ?_
              · refine at_seq ?_
                refine at_region [0] rfl ?_
                refine at_s T rfl ?_
                refine at_end ?_
                refine at_sub [(0, (.int .i64 v1)), (1, (.int .i64 v2)), (7, (.slice a1 (List.length v3) n1)), (8, (.slice a2 (List.length v4) n2)), (9, (.slice a3 (List.length v5.1) n3)), (10, (.slice a4 (List.length v5.2.1) n4)), (11, (.slice a5 (List.length v5.2.2.1) n5)), (15, (.int .i64 x18)), (16, (.int .i64 x19)), (17, (.int .i64 x20)), (18, (.int .i64 (rd v3 x20).Cell)), (19, (.bool x22)), (130, (.bool x22))] ⟨rfl, rfl, rfl, rfl, rfl, rfl, rfl, rfl, rfl, rfl, rfl, rfl, rfl, trivial⟩ ?_
                refine at_then ?_
                refine at_cond rfl (fun c27 => ?_) (fun c27 => ?_)
                · replace Z26 := if_t c27 Z26
                  refine at_seq ?_
                  refine at_region [0, 1, 2, 3, 4, 5] rfl ?_
                  iterate 2 refine at_s T rfl ?_
                  obtain ⟨c28, Z26⟩ := chk_e Z26
                  obtain ⟨q9, o9, e9⟩ := s4.r.addr c28.1 c28.2
                  refine at_v rfl (g_index T rfl rfl rfl rfl rfl e9 c28.1 c28.2) ?_
                  refine at_s T rfl ?_
                  refine at_v rfl (g_load T rfl rfl rfl rfl (in_elem1 (k := k_api_Move) (own_of s4 (j := 4) rfl) e9 c28 1 rfl)) ?_
                  refine at_s T rfl ?_
                  refine at_end ?_
                  refine at_sub [(0, (.int .i64 v1)), (1, (.int .i64 v2)), (7, (.slice a1 (List.length v3) n1)), (8, (.slice a2 (List.length v4) n2)), (9, (.slice a3 (List.length v5.1) n3)), (10, (.slice a4 (List.length v5.2.1) n4)), (11, (.slice a5 (List.length v5.2.2.1) n5)), (15, (.int .i64 x18)), (16, (.int .i64 x19)), (17, (.int .i64 x20)), (18, (.int .i64 (rd v5.2.1 x18).To)), (19, (.bool x22))] ⟨rfl, rfl, rfl, rfl, rfl, rfl, rfl, rfl, rfl, rfl, rfl, rfl, trivial⟩ ?_
                  refine at_then ?_
                  refine at_seq ?_
                  refine at_region [0, 1, 2] rfl ?_
                  iterate 3 refine at_s T rfl ?_
                  refine at_end ?_
                  refine at_sub [(0, (.int .i64 v1)), (1, (.int .i64 v2)), (7, (.slice a1 (List.length v3) n1)), (8, (.slice a2 (List.length v4) n2)), (9, (.slice a3 (List.length v5.1) n3)), (10, (.slice a4 (List.length v5.2.1) n4)), (11, (.slice a5 (List.length v5.2.2.1) n5)), (15, (.int .i64 (w64 (x18 + 1)))), (16, (.int .i64 x19)), (17, (.int .i64 x20)), (18, (.int .i64 (rd v5.2.1 x18).To)), (19, (.bool x22))] ⟨rfl, rfl, rfl, rfl, rfl, rfl, rfl, rfl, rfl, rfl, rfl, rfl, trivial⟩ ?_
                  refine at_then ?_
                  obtain ⟨z28, Z29, Z26⟩ := bind_e Z26
                  refine at_seq_mid (σ := Bool) (fun x27 => x27 = z28) (fun x27 => [(0, (.int .i64 v1)), (1, (.int .i64 v2)), (7, (.slice a1 (List.length v3) n1)), (8, (.slice a2 (List.length v4) n2)), (9, (.slice a3 (List.length v5.1) n3)), (10, (.slice a4 (List.length v5.2.1) n4)), (11, (.slice a5 (List.length v5.2.2.1) n5)), (15, (.int .i64 (w64 (x18 + 1)))), (16, (.int .i64 x19)), (17, (.int .i64 x20)), (18, (.int .i64 (rd v5.2.1 x18).To)), (19, (.bool x22)), (158, (.bool x27))]) (fun x27 => [F, H1, H2, H3, H4, H5]) ?_ ?_
                  · refine at_region_q mix (by kernel_rfl) ?_
                    iterate 2 refine atq_s T rfl ?_
                    obtain ⟨c30, Z29⟩ := chk_e Z29
                    obtain ⟨q10, o10, e10⟩ := s2.r.addr c30.1 c30.2
                    refine atq_v rfl rfl rfl (g_index T rfl rfl rfl rfl rfl e10 c30.1 c30.2) ?_
                    refine atq_v rfl rfl rfl (g_load T rfl rfl rfl rfl (in_elem1 (k := (Fl.int .i64)) (own_of s2 (j := 2) rfl) e10 c30 0 rfl)) ?_
                    iterate 2 refine atq_s T rfl ?_
                    refine atq_case (s := 143) rfl (fun c31 => ?_) (fun c31 => ?_)
                    · replace Z29 := if_t (of_decide_eq_true c31) Z29
                      iterate 15 refine atq_s T rfl ?_
                      refine atq_end ?_
                      refine at_sub [(0, (.int .i64 v1)), (1, (.int .i64 v2)), (7, (.slice a1 (List.length v3) n1)), (8, (.slice a2 (List.length v4) n2)), (9, (.slice a3 (List.length v5.1) n3)), (10, (.slice a4 (List.length v5.2.1) n4)), (11, (.slice a5 (List.length v5.2.2.1) n5)), (15, (.int .i64 (w64 (x18 + 1)))), (16, (.int .i64 x19)), (17, (.int .i64 x20)), (18, (.int .i64 (rd v5.2.1 x18).To)), (19, (.bool x22)), (158, (.bool true))] ⟨rfl, rfl, rfl, rfl, rfl, rfl, rfl, rfl, rfl, rfl, rfl, rfl, rfl, trivial⟩ ?_
                      refine at_then ?_
                      obtain rfl := Option.some.inj Z29
                      exact at_mid true [0, 0, 0, 0, 0, 0] rfl ⟨rfl, rfl, rfl, rfl, rfl, rfl, rfl, rfl, rfl, rfl, rfl, rfl, rfl, trivial⟩ rfl
                    · replace Z29 := if_f (of_decide_eq_false c31) Z29
                      iterate 5 refine atq_s T rfl ?_
                      refine atq_v rfl rfl rfl (g_index T rfl rfl rfl rfl rfl e7 c22.1 c22.2) ?_
                      refine atq_s T rfl ?_
                      refine atq_v rfl rfl rfl (g_load T rfl rfl rfl rfl (in_elem1 (k := k_api_Unit) (own_of s1 (j := 1) rfl) e7 c22 1 rfl)) ?_
                      iterate 2 refine atq_s T rfl ?_
                      refine atq_v rfl rfl rfl (g_index T rfl rfl rfl rfl rfl e10 c30.1 c30.2) ?_
                      refine atq_v rfl rfl rfl (g_load T rfl rfl rfl rfl (in_elem1 (k := (Fl.int .i64)) (own_of s2 (j := 2) rfl) e10 c30 0 rfl)) ?_
                      obtain ⟨v29, V32, Z29⟩ := bind_e Z29
                      refine atq_c rfl rfl rfl rfl rfl rfl has23 rfl (where_Step.c v1 v2 ((rd v3 x20).Cell) (rd v4 x20) v29 _ V32) ?_
                      iterate 2 refine atq_s T rfl ?_
                      refine atq_end ?_
                      refine at_sub [(0, (.int .i64 v1)), (1, (.int .i64 v2)), (7, (.slice a1 (List.length v3) n1)), (8, (.slice a2 (List.length v4) n2)), (9, (.slice a3 (List.length v5.1) n3)), (10, (.slice a4 (List.length v5.2.1) n4)), (11, (.slice a5 (List.length v5.2.2.1) n5)), (15, (.int .i64 (w64 (x18 + 1)))), (16, (.int .i64 x19)), (17, (.int .i64 x20)), (18, (.int .i64 (rd v5.2.1 x18).To)), (19, (.bool x22)), (158, (.bool ((rd v5.2.1 x18).To != v29)))] ⟨rfl, rfl, rfl, rfl, rfl, rfl, rfl, rfl, rfl, rfl, rfl, rfl, rfl, trivial⟩ ?_
                      refine at_then ?_
                      obtain rfl := Option.some.inj Z29
                      exact at_mid ((rd v5.2.1 x18).To != v29) [0, 0, 0, 0, 0, 0] rfl ⟨rfl, rfl, rfl, rfl, rfl, rfl, rfl, rfl, rfl, rfl, rfl, rfl, rfl, trivial⟩ rfl
                  · rintro x27 rfl
                    refine at_cond rfl (fun c33 => ?_) (fun c33 => ?_)
                    · replace Z26 := if_t c33 Z26
                      refine at_seq ?_
                      refine at_region [0] rfl ?_
                      refine at_s T rfl ?_
                      refine at_end ?_
                      refine at_to [(6, (.bool false))] [0] [F] ⟨rfl, trivial⟩ rfl ?_
                      refine at_then ?_
                      refine at_ret ?_
                      refine at_rt ?_
                      refine at_rb ?_
                      refine at_rt ?_
                      refine at_rt ?_
                      refine at_rb ?_
                      refine at_rt ?_
                      obtain rfl := Option.some.inj Z26
                      obtain rfl := Option.some.inj (show some false = some r from Z20)
                      exact at_post (T := T) rfl (.tmp rfl .nil) (fun w o => ⟨(), rfl, own_to [0] rfl o⟩)
                    · replace Z26 := if_f (bf c33) Z26
                      refine at_skip ?_
                      refine at_then ?_
                      obtain rfl := Option.some.inj Z26
                      exact at_mid ((w64 (x18 + 1)), (rd v5.2.1 x18).To) [0, 0, 0, 0, 0, 0] rfl ⟨rfl, rfl, rfl, rfl, rfl, rfl, rfl, rfl, rfl, rfl, rfl, rfl, trivial⟩ rfl
                · replace Z26 := if_f (bf c27) Z26
                  refine at_skip ?_
                  refine at_then ?_
                  obtain rfl := Option.some.inj Z26
                  exact at_mid (x18, (rd v3 x20).Cell) [0, 0, 0, 0, 0, 0] rfl ⟨rfl, rfl, rfl, rfl, rfl, rfl, rfl, rfl, rfl, rfl, rfl, rfl, trivial⟩ rfl
              · rintro ⟨x24, x25⟩ rfl
                obtain ⟨z31, Z34, Z20⟩ := bind_e Z20
                refine at_seq_mid (σ := Bool) (fun x30 => x30 = z31) (fun x30 => [(0, (.int .i64 v1)), (1, (.int .i64 v2)), (7, (.slice a1 (List.length v3) n1)), (8, (.slice a2 (List.length v4) n2)), (9, (.slice a3 (List.length v5.1) n3)), (10, (.slice a4 (List.length v5.2.1) n4)), (11, (.slice a5 (List.length v5.2.2.1) n5)), (15, (.int .i64 x24)), (16, (.int .i64 x19)), (17, (.int .i64 x20)), (18, (.int .i64 x25)), (168, (.bool x30))]) (fun x30 => [F, H1, H2, H3, H4, H5]) ?_ ?_
                · refine at_region [0, 1, 2, 3, 4, 5, 6, 7, 8, 9] rfl ?_
                  iterate 2 refine at_s T rfl ?_
                  refine at_case (s := 160) rfl (fun c35 => ?_) (fun c35 => ?_)
                  · replace Z34 := if_t c35 Z34
                    iterate 3 refine at_s T rfl ?_
                    refine at_v rfl (g_index T rfl rfl rfl rfl rfl e7 c22.1 c22.2) ?_
                    refine at_s T rfl ?_
                    refine at_v rfl (g_load T rfl rfl rfl rfl (in_elem1 (k := k_api_Unit) (own_of s1 (j := 1) rfl) e7 c22 2 rfl)) ?_
                    iterate 2 refine at_s T rfl ?_
                    refine at_end ?_
                    refine at_sub [(0, (.int .i64 v1)), (1, (.int .i64 v2)), (7, (.slice a1 (List.length v3) n1)), (8, (.slice a2 (List.length v4) n2)), (9, (.slice a3 (List.length v5.1) n3)), (10, (.slice a4 (List.length v5.2.1) n4)), (11, (.slice a5 (List.length v5.2.2.1) n5)), (15, (.int .i64 x24)), (16, (.int .i64 x19)), (17, (.int .i64 x20)), (18, (.int .i64 x25)), (168, (.bool (x25 == (rd v3 x20).Goal)))] ⟨rfl, rfl, rfl, rfl, rfl, rfl, rfl, rfl, rfl, rfl, rfl, rfl, trivial⟩ ?_
                    refine at_then ?_
                    obtain rfl := Option.some.inj Z34
                    exact at_mid (x25 == (rd v3 x20).Goal) [0, 0, 0, 0, 0, 0] rfl ⟨rfl, rfl, rfl, rfl, rfl, rfl, rfl, rfl, rfl, rfl, rfl, rfl, trivial⟩ rfl
                  · replace Z34 := if_f (bf c35) Z34
                    iterate 8 refine at_s T rfl ?_
                    refine at_end ?_
                    refine at_sub [(0, (.int .i64 v1)), (1, (.int .i64 v2)), (7, (.slice a1 (List.length v3) n1)), (8, (.slice a2 (List.length v4) n2)), (9, (.slice a3 (List.length v5.1) n3)), (10, (.slice a4 (List.length v5.2.1) n4)), (11, (.slice a5 (List.length v5.2.2.1) n5)), (15, (.int .i64 x24)), (16, (.int .i64 x19)), (17, (.int .i64 x20)), (18, (.int .i64 x25)), (168, (.bool false))] ⟨rfl, rfl, rfl, rfl, rfl, rfl, rfl, rfl, rfl, rfl, rfl, rfl, trivial⟩ ?_
                    refine at_then ?_
                    obtain rfl := Option.some.inj Z34
                    exact at_mid false [0, 0, 0, 0, 0, 0] rfl ⟨rfl, rfl, rfl, rfl, rfl, rfl, rfl, rfl, rfl, rfl, rfl, rfl, trivial⟩ rfl
                · rintro x30 rfl
                  refine at_cond rfl (fun c36 => ?_) (fun c36 => ?_)
                  · replace Z20 := if_t c36 Z20
                    refine at_seq ?_
                    obtain ⟨z33, Z37, Z20⟩ := bind_e Z20
                    refine at_seq_mid (σ := Bool) (fun x32 => x32 = z33) (fun x32 => [(0, (.int .i64 v1)), (1, (.int .i64 v2)), (7, (.slice a1 (List.length v3) n1)), (8, (.slice a2 (List.length v4) n2)), (9, (.slice a3 (List.length v5.1) n3)), (10, (.slice a4 (List.length v5.2.1) n4)), (11, (.slice a5 (List.length v5.2.2.1) n5)), (15, (.int .i64 x24)), (16, (.int .i64 x19)), (17, (.int .i64 x20)), (184, (.bool x32))]) (fun x32 => [F, H1, H2, H3, H4, H5]) ?_ ?_
                    · refine at_region_q mix (by kernel_rfl) ?_
                      iterate 5 refine atq_s T rfl ?_
                      refine atq_case (s := 173) rfl (fun c38 => ?_) (fun c38 => ?_)
                      · replace Z37 := if_t (of_decide_eq_true c38) Z37
                        iterate 11 refine atq_s T rfl ?_
                        refine atq_end ?_
                        refine at_sub [(0, (.int .i64 v1)), (1, (.int .i64 v2)), (7, (.slice a1 (List.length v3) n1)), (8, (.slice a2 (List.length v4) n2)), (9, (.slice a3 (List.length v5.1) n3)), (10, (.slice a4 (List.length v5.2.1) n4)), (11, (.slice a5 (List.length v5.2.2.1) n5)), (15, (.int .i64 x24)), (16, (.int .i64 x19)), (17, (.int .i64 x20)), (184, (.bool true))] ⟨rfl, rfl, rfl, rfl, rfl, rfl, rfl, rfl, rfl, rfl, rfl, trivial⟩ ?_
                        refine at_then ?_
                        obtain rfl := Option.some.inj Z37
                        exact at_mid true [0, 0, 0, 0, 0, 0] rfl ⟨rfl, rfl, rfl, rfl, rfl, rfl, rfl, rfl, rfl, rfl, rfl, trivial⟩ rfl
                      · replace Z37 := if_f (of_decide_eq_false c38) Z37
                        iterate 2 refine atq_s T rfl ?_
                        obtain ⟨c39, Z37⟩ := chk_e Z37
                        obtain ⟨q11, o11, e11⟩ := s5.r.addr c39.1 c39.2
                        refine atq_v rfl rfl rfl (g_index T rfl rfl rfl rfl rfl e11 c39.1 c39.2) ?_
                        refine atq_v rfl rfl rfl (g_load T rfl rfl rfl rfl (in_elem1 (k := (Fl.int .i64)) (own_of s5 (j := 5) rfl) e11 c39 0 rfl)) ?_
                        iterate 2 refine atq_s T rfl ?_
                        refine atq_v rfl rfl rfl (g_index T rfl rfl rfl rfl rfl e7 c22.1 c22.2) ?_
                        refine atq_s T rfl ?_
                        refine atq_v rfl rfl rfl (g_load T rfl rfl rfl rfl (in_elem1 (k := k_api_Unit) (own_of s1 (j := 1) rfl) e7 c22 0 rfl)) ?_
                        iterate 2 refine atq_s T rfl ?_
                        refine atq_end ?_
                        refine at_sub [(0, (.int .i64 v1)), (1, (.int .i64 v2)), (7, (.slice a1 (List.length v3) n1)), (8, (.slice a2 (List.length v4) n2)), (9, (.slice a3 (List.length v5.1) n3)), (10, (.slice a4 (List.length v5.2.1) n4)), (11, (.slice a5 (List.length v5.2.2.1) n5)), (15, (.int .i64 x24)), (16, (.int .i64 x19)), (17, (.int .i64 x20)), (184, (.bool ((rd v5.2.2.1 x19) != (rd v3 x20).Id)))] ⟨rfl, rfl, rfl, rfl, rfl, rfl, rfl, rfl, rfl, rfl, rfl, trivial⟩ ?_
                        refine at_then ?_
                        obtain rfl := Option.some.inj Z37
                        exact at_mid ((rd v5.2.2.1 x19) != (rd v3 x20).Id) [0, 0, 0, 0, 0, 0] rfl ⟨rfl, rfl, rfl, rfl, rfl, rfl, rfl, rfl, rfl, rfl, rfl, trivial⟩ rfl
                    · rintro x32 rfl
                      refine at_cond rfl (fun c40 => ?_) (fun c40 => ?_)
                      · replace Z20 := if_t c40 Z20
                        refine at_seq ?_
                        refine at_region [0] rfl ?_
                        refine at_s T rfl ?_
                        refine at_end ?_
                        refine at_to [(6, (.bool false))] [0] [F] ⟨rfl, trivial⟩ rfl ?_
                        refine at_then ?_
                        refine at_ret ?_
                        refine at_rt ?_
                        refine at_rb ?_
                        refine at_rt ?_
                        refine at_rt ?_
                        refine at_rb ?_
                        refine at_rt ?_
                        obtain rfl := Option.some.inj Z20
                        exact at_post (T := T) rfl (.tmp rfl .nil) (fun w o => ⟨(), rfl, own_to [0] rfl o⟩)
                      · replace Z20 := if_f (bf c40) Z20
                        refine at_skip ?_
                        refine at_then ?_
                        refine at_region [0, 1, 2] rfl ?_
                        iterate 3 refine at_s T rfl ?_
                        refine at_end ?_
                        refine at_sub [(0, (.int .i64 v1)), (1, (.int .i64 v2)), (7, (.slice a1 (List.length v3) n1)), (8, (.slice a2 (List.length v4) n2)), (9, (.slice a3 (List.length v5.1) n3)), (10, (.slice a4 (List.length v5.2.1) n4)), (11, (.slice a5 (List.length v5.2.2.1) n5)), (15, (.int .i64 x24)), (16, (.int .i64 (w64 (x19 + 1)))), (17, (.int .i64 x20))] ⟨rfl, rfl, rfl, rfl, rfl, rfl, rfl, rfl, rfl, rfl, trivial⟩ ?_
                        refine at_nb ?_
                        refine at_then ?_
                        refine at_region [0, 1, 2] rfl ?_
                        iterate 3 refine at_s T rfl ?_
                        refine at_end ?_
                        refine at_sub [(0, (.int .i64 v1)), (1, (.int .i64 v2)), (7, (.slice a1 (List.length v3) n1)), (8, (.slice a2 (List.length v4) n2)), (9, (.slice a3 (List.length v5.1) n3)), (10, (.slice a4 (List.length v5.2.1) n4)), (11, (.slice a5 (List.length v5.2.2.1) n5)), (15, (.int .i64 x24)), (16, (.int .i64 (w64 (x19 + 1)))), (17, (.int .i64 (w64 (x20 + 1))))] ⟨rfl, rfl, rfl, rfl, rfl, rfl, rfl, rfl, rfl, rfl, trivial⟩ ?_
                        refine at_then ?_
                        exact at_roundL (k21, x24, (w64 (x19 + 1)), (w64 (x20 + 1))) [0, 0, 0, 0, 0, 0] Z20 (Nat.lt_succ_self _) ⟨rfl, rfl, rfl, rfl, rfl, rfl, rfl, rfl, rfl, rfl, trivial⟩ rfl
                  · replace Z20 := if_f (bf c36) Z20
                    obtain ⟨z35, Z41, Z20⟩ := bind_e Z20
                    refine at_seq_mid (σ := Bool) (fun x34 => x34 = z35) (fun x34 => [(0, (.int .i64 v1)), (1, (.int .i64 v2)), (7, (.slice a1 (List.length v3) n1)), (8, (.slice a2 (List.length v4) n2)), (9, (.slice a3 (List.length v5.1) n3)), (10, (.slice a4 (List.length v5.2.1) n4)), (11, (.slice a5 (List.length v5.2.2.1) n5)), (15, (.int .i64 x24)), (16, (.int .i64 x19)), (17, (.int .i64 x20)), (213, (.bool x34))]) (fun x34 => [F, H1, H2, H3, H4, H5]) ?_ ?_
                    · refine at_region_q mix (by kernel_rfl) ?_
                      iterate 7 refine atq_s T rfl ?_
                      refine atq_case (s := 193) rfl (fun c42 => ?_) (fun c42 => ?_)
                      · replace Z41 := if_t (of_decide_eq_true c42) Z41
                        iterate 20 refine atq_s T rfl ?_
                        refine atq_end ?_
                        refine at_sub [(0, (.int .i64 v1)), (1, (.int .i64 v2)), (7, (.slice a1 (List.length v3) n1)), (8, (.slice a2 (List.length v4) n2)), (9, (.slice a3 (List.length v5.1) n3)), (10, (.slice a4 (List.length v5.2.1) n4)), (11, (.slice a5 (List.length v5.2.2.1) n5)), (15, (.int .i64 x24)), (16, (.int .i64 x19)), (17, (.int .i64 x20)), (213, (.bool true))] ⟨rfl, rfl, rfl, rfl, rfl, rfl, rfl, rfl, rfl, rfl, rfl, trivial⟩ ?_
                        refine at_then ?_
                        obtain rfl := Option.some.inj Z41
                        exact at_mid true [0, 0, 0, 0, 0, 0] rfl ⟨rfl, rfl, rfl, rfl, rfl, rfl, rfl, rfl, rfl, rfl, rfl, trivial⟩ rfl
                      · replace Z41 := if_f (of_decide_eq_false c42) Z41
                        iterate 4 refine atq_s T rfl ?_
                        obtain ⟨c43, Z41⟩ := chk_e Z41
                        obtain ⟨q12, o12, e12⟩ := s3.r.addr c43.1 c43.2
                        refine atq_v rfl rfl rfl (g_index T rfl rfl rfl rfl rfl e12 c43.1 c43.2) ?_
                        refine atq_v rfl rfl rfl (g_loadA T (cs := [(.int .i64 (rd v5.1 (w64 (x20 - x19))).Id), (.int .i64 (rd v5.1 (w64 (x20 - x19))).Cell), (.int .i64 (rd v5.1 (w64 (x20 - x19))).Goal)]) rfl rfl rfl rfl rfl rfl (in_elemA (k := k_api_Unit) (own_of s3 (j := 3) rfl) e12 c43 rfl)) ?_
                        iterate 2 refine atq_s T rfl ?_
                        refine atq_v rfl rfl rfl (g_index T rfl rfl rfl rfl rfl e7 c22.1 c22.2) ?_
                        refine atq_s T rfl ?_
                        refine atq_v rfl rfl rfl (g_load T rfl rfl rfl rfl (in_elem1 (k := k_api_Unit) (own_of s1 (j := 1) rfl) e7 c22 0 rfl)) ?_
                        iterate 3 refine atq_s T rfl ?_
                        refine atq_v rfl rfl rfl (g_index T rfl rfl rfl rfl rfl e7 c22.1 c22.2) ?_
                        refine atq_s T rfl ?_
                        refine atq_v rfl rfl rfl (g_load T rfl rfl rfl rfl (in_elem1 (k := k_api_Unit) (own_of s1 (j := 1) rfl) e7 c22 2 rfl)) ?_
                        refine atq_s T rfl ?_
                        refine atq_v rfl rfl rfl (g_aeqn T (((rd v5.1 (w64 (x20 - x19))).Id == (rd v3 x20).Id) && (((rd v5.1 (w64 (x20 - x19))).Cell == x25) && (((rd v5.1 (w64 (x20 - x19))).Goal == (rd v3 x20).Goal) && true))) rfl rfl rfl rfl sq40 (by kernel_rfl) rfl) ?_
                        refine atq_s T rfl ?_
                        refine atq_end ?_
                        refine at_sub [(0, (.int .i64 v1)), (1, (.int .i64 v2)), (7, (.slice a1 (List.length v3) n1)), (8, (.slice a2 (List.length v4) n2)), (9, (.slice a3 (List.length v5.1) n3)), (10, (.slice a4 (List.length v5.2.1) n4)), (11, (.slice a5 (List.length v5.2.2.1) n5)), (15, (.int .i64 x24)), (16, (.int .i64 x19)), (17, (.int .i64 x20)), (213, (.bool (!(((rd v5.1 (w64 (x20 - x19))).Id == (rd v3 x20).Id) && (((rd v5.1 (w64 (x20 - x19))).Cell == x25) && (((rd v5.1 (w64 (x20 - x19))).Goal == (rd v3 x20).Goal) && true))))))] ⟨rfl, rfl, rfl, rfl, rfl, rfl, rfl, rfl, rfl, rfl, rfl, trivial⟩ ?_
                        refine at_then ?_
                        obtain rfl := Option.some.inj Z41
                        exact at_mid (!(((rd v5.1 (w64 (x20 - x19))).Id == (rd v3 x20).Id) && (((rd v5.1 (w64 (x20 - x19))).Cell == x25) && (((rd v5.1 (w64 (x20 - x19))).Goal == (rd v3 x20).Goal) && true)))) [0, 0, 0, 0, 0, 0] rfl ⟨rfl, rfl, rfl, rfl, rfl, rfl, rfl, rfl, rfl, rfl, rfl, trivial⟩ rfl
                    · rintro x34 rfl
                      refine at_cond rfl (fun c44 => ?_) (fun c44 => ?_)
                      · replace Z20 := if_t c44 Z20
                        refine at_seq ?_
                        refine at_region [0] rfl ?_
                        refine at_s T rfl ?_
                        refine at_end ?_
                        refine at_to [(6, (.bool false))] [0] [F] ⟨rfl, trivial⟩ rfl ?_
                        refine at_then ?_
                        refine at_ret ?_
                        refine at_rb ?_
                        refine at_rt ?_
                        refine at_rt ?_
                        refine at_rb ?_
                        refine at_rt ?_
                        obtain rfl := Option.some.inj Z20
                        exact at_post (T := T) rfl (.tmp rfl .nil) (fun w o => ⟨(), rfl, own_to [0] rfl o⟩)
                      · replace Z20 := if_f (bf c44) Z20
                        refine at_skip ?_
                        refine at_nb ?_
                        refine at_then ?_
                        refine at_region [0, 1, 2] rfl ?_
                        iterate 3 refine at_s T rfl ?_
                        refine at_end ?_
                        refine at_sub [(0, (.int .i64 v1)), (1, (.int .i64 v2)), (7, (.slice a1 (List.length v3) n1)), (8, (.slice a2 (List.length v4) n2)), (9, (.slice a3 (List.length v5.1) n3)), (10, (.slice a4 (List.length v5.2.1) n4)), (11, (.slice a5 (List.length v5.2.2.1) n5)), (15, (.int .i64 x24)), (16, (.int .i64 x19)), (17, (.int .i64 (w64 (x20 + 1))))] ⟨rfl, rfl, rfl, rfl, rfl, rfl, rfl, rfl, rfl, rfl, trivial⟩ ?_
                        refine at_then ?_
                        exact at_roundL (k21, x24, x19, (w64 (x20 + 1))) [0, 0, 0, 0, 0, 0] Z20 (Nat.lt_succ_self _) ⟨rfl, rfl, rfl, rfl, rfl, rfl, rfl, rfl, rfl, rfl, trivial⟩ rfl
          · replace Z20 := if_f (of_decide_eq_false c21) Z20
            refine at_exit ?_
            refine at_xt ?_
            refine at_xt ?_
            refine at_xb ?_
            refine at_then ?_
            refine at_seq ?_
            refine at_region [0, 1, 2, 3, 4, 5, 6, 7, 8, 9, 10, 11, 12, 13] rfl ?_
            obtain ⟨v36, V45, Z20⟩ := bind_e Z20
            refine at_cons (at_c (B := fun _ => []) [] rfl rfl rfl rfl has20 rfl rfl (law24_told.c  v36 _ V45) (fun _ => ?_))
            refine at_s T rfl ?_
            refine at_grp T [2, 3, 4, 5, 6] (s := 215) (c := v36) [(11, (.slice a5 (List.length v5.2.2.1) n5)), (16, (.int .i64 x19)), (220, (.bool (v36 && (x18 == (List.length v5.2.1 : Int)))))] rfl rfl rfl (fun c46 => ⟨rfl, rfl, (by rw [c46]; rfl), trivial⟩) (fun c46 => ⟨rfl, rfl, (by rw [c46]; rfl), trivial⟩) ?_
            refine at_s T rfl ?_
            refine at_grp T [8, 9, 10, 11, 12] (s := 221) (c := (v36 && (x18 == (List.length v5.2.1 : Int)))) [(226, (.bool ((v36 && (x18 == (List.length v5.2.1 : Int))) && (x19 == (List.length v5.2.2.1 : Int)))))] rfl rfl rfl (fun c47 => ⟨(by rw [c47]; rfl), trivial⟩) (fun c47 => ⟨(by rw [c47]; rfl), trivial⟩) ?_
            refine at_s T rfl ?_
            refine at_end ?_
            refine at_to [(6, (.bool ((v36 && (x18 == (List.length v5.2.1 : Int))) && (x19 == (List.length v5.2.2.1 : Int)))))] [0] [F] ⟨rfl, trivial⟩ rfl ?_
            refine at_then ?_
            refine at_ret ?_
            obtain rfl := Option.some.inj Z20
            exact at_post (T := T) rfl (.tmp rfl .nil) (fun w o => ⟨(), rfl, own_to [0] rfl o⟩)
def law24_MarchApart.Pure : Prop := ∀ (w : Int) (h : Int) (k : (List Int)), inI64 w → inI64 h → (∀ y ∈ k, inI64 y) → List.length k ≤ 9223372036854775807 → law24_MarchApart.f w h k = some true
end Go.Proofs.Ytkidcebfpengmaa
