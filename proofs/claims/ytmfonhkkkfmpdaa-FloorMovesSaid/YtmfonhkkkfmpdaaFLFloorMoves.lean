import Derived.Test.YtmfonhkkkfmpdaaT
import Derived.Test.YtmfonhkkkfmpdaaFfloor
import Derived.Test.YtmfonhkkkfmpdaaFlaw22
import Derived.Test.YtmfonhkkkfmpdaaFref1
namespace Go.Proofs.Ytmfonhkkkfmpdaa
open Go.Hx
set_option maxRecDepth 100000
set_option linter.unusedVariables false
/-! ### herdsman/herdsmanlaw22.FloorMoves: function 4 -/
def law22_FloorMoves.l2 : Nat → List Int → List Int → Int → Int → Option Bool
  | 0, _, _, _, _ => none
  | k42 + 1, x24, x39, x40, x41 => if x41 < (List.length x24 : Int) then ((if (0 ≤ x41 ∧ x41 < (List.length x24 : Int)) then ((floor_Floor_Who.f (floor_Floor.mk x39 x40) (rd x24 x41)).bind fun v47 => if (v47 != x41) = true then (some (x39, x40, true)) else ((floor_Floor_Take.f (floor_Floor.mk x39 x40) (rd x24 x41)).bind fun v48 => if (v48.1 != x41) = true then (some (v48.2.words, v48.2.count, true)) else (if (0 ≤ x41 ∧ x41 < (List.length x24 : Int)) then ((floor_Floor_Take.f v48.2 (rd x24 x41)).bind fun v49 => some (v49.2.words, v49.2.count, (v49.1 != (-1)))) else none))) else none).bind fun (x43, x44, x45) => if x45 = true then (some false) else (law22_FloorMoves.l2 k42 x24 x43 x44 (w64 (x41 + 1)))) else (((law22_told.f).bind fun v52 => if v52 = true then ((floor_Floor_Count.f (floor_Floor.mk x39 x40)).bind fun v53 => some (v53 == 0)) else (some false)).bind fun x50 => some x50)
def law22_FloorMoves.l1 : Nat → (List herdsmanlaw22_Ask) → Int → List Int → Int → List Int → Int → Option Bool
  | 0, _, _, _, _, _, _ => none
  | k26 + 1, l, v1, x22, x23, x24, x25 => if ((decide (x25 < (List.length l : Int))) && (decide (x25 < 60))) = true then ((if (0 ≤ x25 ∧ x25 < (List.length l : Int)) then ((ref1_Within.f ((rd l x25).A) 0 (w64 ((List.length x24 : Int) - 1))).bind fun v31 => (ref1_Within.f ((rd l x25).B) 0 (w64 (v1 - 1))).bind fun v32 => (floor_Floor_Who.f (floor_Floor.mk x22 x23) v32).bind fun v33 => if (0 ≤ v31 ∧ v31 < (List.length x24 : Int)) then ((floor_Floor_Shift.f (floor_Floor.mk x22 x23) (rd x24 v31) v32).bind fun v34 => if (!(v34.1 == (v33 == (-1)))) = true then (some (Sum.inl false)) else (if (v33 == (-1)) = true then (if (0 ≤ v31 ∧ v31 < (List.length x24 : Int)) then ((floor_Floor_Who.f v34.2 (rd x24 v31)).bind fun v35 => if (v35 != (-1)) = true then (some (Sum.inl false)) else (some (Sum.inr (v34.2.words, v34.2.count, (List.set x24 (Int.toNat v31) v32))))) else none) else (some (Sum.inr (v34.2.words, v34.2.count, x24))))) else none) else none).bind fun zz => match zz with | Sum.inl q => some q | Sum.inr (x27, x28, x29) => law22_FloorMoves.l1 k26 l v1 x27 x28 x29 (w64 (x25 + 1))) else (law22_FloorMoves.l2 fuel x24 x22 x23 0)
def law22_FloorMoves.l0 : Nat → (List herdsmanlaw22_Ask) → Int → List Int → Int → List Int → Int → Option Bool
  | 0, _, _, _, _, _, _ => none
  | k11 + 1, l, v1, x7, x8, x9, x10 => if x10 < (w64 (Int.tdiv v1 2)) then (((floor_Floor_Put.f (floor_Floor.mk x7 x8) (w64 (2 * x10)) x10).bind fun v16 => if (!v16.1) = true then (some (v16.2.words, v16.2.count, true)) else ((floor_Floor_Put.f v16.2 (w64 (2 * x10)) 77).bind fun v17 => some (v17.2.words, v17.2.count, v17.1))).bind fun (x12, x13, x14) => if x14 = true then (some false) else (if (List.length x9 + 1 ≤ 1099511627776) then (law22_FloorMoves.l0 k11 l v1 x12 x13 (x9 ++ [(w64 (2 * x10))]) (w64 (x10 + 1))) else none)) else (law22_FloorMoves.l1 fuel l v1 x7 x8 x9 0)
def law22_FloorMoves.f (n : Int) (l : (List herdsmanlaw22_Ask)) : Option Bool := (ref1_Within.f n 2 30).bind fun v1 => (floor_New.f v1).bind fun v2 => optm v2 (some false) (fun yv2 => law22_FloorMoves.l0 fuel l v1 yv2.words yv2.count [] 0)
set_option maxHeartbeats 4000000 in
theorem law22_FloorMoves.c {a_l : Option Addr} {n_l : Nat} (n : Int) (l : (List herdsmanlaw22_Ask)) (r : Bool) (F : Hp) (H : law22_FloorMoves.f n l = some r) (h_l : SliceR k_herdsmanlaw22_Ask l a_l F) (c_l : List.length l ≤ n_l) :
    CallsL Try.prog 4 [(.int .i64 n), (.slice a_l (List.length l) n_l)] [F] (fun _ : Unit => (.bool r)) (fun _ => [F]) := by
  unfold law22_FloorMoves.f at H
  refine calls_atL [(0, (.int .i64 n)), (1, (.slice a_l (List.length l) n_l))] Try.func4 rfl rfl ⟨rfl, rfl, trivial⟩ (fun W => ?_)
  refine at_seq ?_
  refine at_region [0] rfl ?_
  refine at_s T rfl ?_
  refine at_end ?_
  refine at_sub [(0, (.int .i64 n)), (1, (.slice a_l (List.length l) n_l))] ⟨rfl, rfl, trivial⟩ ?_
  refine at_then ?_
  refine at_seq ?_
  refine at_region [0, 1, 2] rfl ?_
  refine at_s T rfl ?_
  obtain ⟨v1, V1, H⟩ := bind_e H
  refine at_cons (at_c (B := fun _ => []) [] rfl rfl rfl rfl has15 rfl rfl (ref1_Within.c n 2 30 v1 _ V1) (fun _ => ?_))
  refine at_s T rfl ?_
  refine at_end ?_
  refine at_sub [(1, (.slice a_l (List.length l) n_l)), (5, (.int .i64 v1))] ⟨rfl, rfl, trivial⟩ ?_
  refine at_then ?_
  refine at_seq ?_
  refine at_region [0, 1, 2] rfl ?_
  refine at_s T rfl ?_
  obtain ⟨v2, V2, H⟩ := bind_e H
  refine at_cons (at_cR (floor_New.R v2) [] [] rfl rfl rfl rfl has16 rfl rfl (floor_New.c v1 v2 _ V2) ?_)
  rintro _ _ ⟨_, _, O3, rfl, rfl⟩
  rcases v2 with _ | yv2
  · replace H := optm_n rfl H
    obtain ⟨rfl, rfl⟩ := O3
    refine at_s T rfl ?_
    refine at_end ?_
    refine at_sub [(1, (.slice a_l (List.length l) n_l)), (5, (.int .i64 v1)), (6, (.pointer none))] ⟨rfl, rfl, rfl, trivial⟩ ?_
    refine at_then ?_
    refine at_seq ?_
    refine at_seq ?_
    refine at_region [0, 1] rfl ?_
    iterate 2 refine at_s T rfl ?_
    refine at_end ?_
    refine at_sub [(1, (.slice a_l (List.length l) n_l)), (5, (.int .i64 v1)), (6, (.pointer none)), (19, (.bool true))] ⟨rfl, rfl, rfl, rfl, trivial⟩ ?_
    refine at_then ?_
    refine at_cond_t rfl ?_
    refine at_seq ?_
    refine at_region [0] rfl ?_
    refine at_s T rfl ?_
    refine at_end ?_
    refine at_sub [(4, (.bool false))] ⟨rfl, trivial⟩ ?_
    refine at_then ?_
    refine at_ret ?_
    refine at_rt ?_
    obtain rfl := Option.some.inj H
    exact at_post (T := T) rfl (.tmp rfl .nil) (fun w o => ⟨(), rfl, own_to [0] rfl o⟩)
  · replace H := optm_s rfl H
    obtain ⟨b1, a2, n2, H2, s2, rfl, rfl⟩ := O3
    refine at_s T rfl ?_
    refine at_end ?_
    refine at_sub [(1, (.slice a_l (List.length l) n_l)), (5, (.int .i64 v1)), (6, (.pointer (some ⟨b1, 0, none⟩)))] ⟨rfl, rfl, rfl, trivial⟩ ?_
    refine at_then ?_
    refine at_seq ?_
    refine at_seq ?_
    refine at_region [0, 1] rfl ?_
    iterate 2 refine at_s T rfl ?_
    refine at_end ?_
    refine at_sub [(1, (.slice a_l (List.length l) n_l)), (5, (.int .i64 v1)), (6, (.pointer (some ⟨b1, 0, none⟩))), (19, (.bool false))] ⟨rfl, rfl, rfl, rfl, trivial⟩ ?_
    refine at_then ?_
    refine at_cond_f rfl ?_
    refine at_skip ?_
    refine at_then ?_
    refine at_seq ?_
    refine at_region [0] rfl ?_
    refine at_s T rfl ?_
    refine at_end ?_
    refine at_sub [(1, (.slice a_l (List.length l) n_l)), (5, (.int .i64 v1)), (6, (.pointer (some ⟨b1, 0, none⟩))), (7, (.slice none 0 0))] ⟨rfl, rfl, rfl, rfl, trivial⟩ ?_
    refine at_then ?_
    refine at_seq ?_
    refine at_seq ?_
    refine at_region [0] rfl ?_
    refine at_s T rfl ?_
    refine at_end ?_
    refine at_sub [(1, (.slice a_l (List.length l) n_l)), (5, (.int .i64 v1)), (6, (.pointer (some ⟨b1, 0, none⟩))), (7, (.slice none 0 0)), (8, (.int .i64 0))] ⟨rfl, rfl, rfl, rfl, rfl, trivial⟩ ?_
    refine at_then ?_
    refine at_block ?_
    refine at_addnil ?_
    refine at_loopL (σ := Nat × List Int × Int × List Int × Int × Option Addr × Nat × Hp × Option Addr × Nat × Hp) (fun ⟨k11, x7, x8, x9, x10, a5, n5, H5, a6, n6, H6⟩ => law22_FloorMoves.l0 k11 l v1 x7 x8 x9 x10 = some r ∧ SliceO (Fl.int .u32) 30 x7 a5 n5 H5 ∧ SliceO (Fl.int .i64) 3 x9 a6 n6 H6) (fun ⟨k11, x7, x8, x9, x10, a5, n5, H5, a6, n6, H6⟩ => [(1, (.slice a_l (List.length l) n_l)), (5, (.int .i64 v1)), (6, (.pointer (some ⟨b1, 0, none⟩))), (7, (.slice a6 (List.length x9) n6)), (8, (.int .i64 x10))]) (fun ⟨k11, x7, x8, x9, x10, a5, n5, H5, a6, n6, H6⟩ => [F, [(b1, Obj.cells #[(.slice a5 (List.length x7) n5), (.int .i64 x8)] 76 (0, 0))], H5, H6]) (fun s => s.1) (fuel, yv2.words, yv2.count, [], 0, a2, n2, H2, none, 0, []) [0, 0, 0, 0] ⟨H, s2, SliceO.nil⟩ ⟨rfl, rfl, rfl, rfl, rfl, trivial⟩ rfl ?_
    rintro ⟨k11, x7, x8, x9, x10, a5, n5, H5, a6, n6, H6⟩ ⟨Z4, s5, s6⟩
    replace Z4 : law22_FloorMoves.l0 k11 l v1 x7 x8 x9 x10 = some r := Z4
    rcases k11 with _ | k11
    · rw [law22_FloorMoves.l0] at Z4; cases Z4
    · rw [law22_FloorMoves.l0] at Z4
      refine at_seq ?_
      refine at_seq ?_
      refine at_region [0, 1, 2, 3] rfl ?_
      iterate 4 refine at_s T rfl ?_
      refine at_end ?_
      refine at_sub [(1, (.slice a_l (List.length l) n_l)), (5, (.int .i64 v1)), (6, (.pointer (some ⟨b1, 0, none⟩))), (7, (.slice a6 (List.length x9) n6)), (8, (.int .i64 x10)), (23, (.bool (decide (x10 < (w64 (Int.tdiv v1 2))))))] ⟨rfl, rfl, rfl, rfl, rfl, rfl, trivial⟩ ?_
      refine at_then ?_
      refine at_cond rfl (fun c5 => ?_) (fun c5 => ?_)
      · replace Z4 := if_t (of_decide_eq_true c5) Z4
        refine at_skip ?_
        refine at_then ?_
        refine at_seq ?_
        refine at_block ?_
        refine at_seq ?_
        obtain ⟨z15, Z6, Z4⟩ := bind_e Z4
        refine at_seq_mid (σ := List Int × Int × Bool × Option Addr × Nat × Hp) (fun ⟨x12, x13, x14, a7, n7, H7⟩ => (x12, x13, x14) = z15 ∧ SliceO (Fl.int .u32) 30 x12 a7 n7 H7) (fun ⟨x12, x13, x14, a7, n7, H7⟩ => [(1, (.slice a_l (List.length l) n_l)), (5, (.int .i64 v1)), (6, (.pointer (some ⟨b1, 0, none⟩))), (7, (.slice a6 (List.length x9) n6)), (8, (.int .i64 x10)), (37, (.bool x14))]) (fun ⟨x12, x13, x14, a7, n7, H7⟩ => [F, [(b1, Obj.cells #[(.slice a7 (List.length x12) n7), (.int .i64 x13)] 76 (0, 0))], H7, H6]) ?_ ?_
        · refine at_region [0, 1, 2, 3, 4, 5, 6, 7, 8, 9, 10, 11] rfl ?_
          iterate 4 refine at_s T rfl ?_
          obtain ⟨v16, V7, Z6⟩ := bind_e Z6
          refine at_cons (at_cR (As := [[(b1, Obj.cells #[(.slice a5 (List.length x7) n5), (.int .i64 x8)] 76 (0, 0))], H5]) (R := [F, H6]) (floor_Floor_Put.R b1 v16) [] [1, 1] rfl rfl rfl rfl has20 rfl rfl (floor_Floor_Put.c (floor_Floor.mk x7 x8) (w64 (2 * x10)) x10 v16 _ V7 s5) ?_)
          rintro _ _ ⟨a8, n8, H8, s8, rfl, rfl⟩
          iterate 2 refine at_s T rfl ?_
          refine at_case (s := 32) rfl (fun c8 => ?_) (fun c8 => ?_)
          · replace Z6 := if_t c8 Z6
            iterate 5 refine at_s T rfl ?_
            refine at_end ?_
            refine at_sub [(1, (.slice a_l (List.length l) n_l)), (5, (.int .i64 v1)), (6, (.pointer (some ⟨b1, 0, none⟩))), (7, (.slice a6 (List.length x9) n6)), (8, (.int .i64 x10)), (37, (.bool true))] ⟨rfl, rfl, rfl, rfl, rfl, rfl, trivial⟩ ?_
            refine at_then ?_
            obtain rfl := Option.some.inj Z6
            exact at_mid (v16.2.words, v16.2.count, true, a8, n8, H8) [0, 1, 1, 0] ⟨rfl, s8⟩ ⟨rfl, rfl, rfl, rfl, rfl, rfl, trivial⟩ rfl
          · replace Z6 := if_f (bf c8) Z6
            iterate 3 refine at_s T rfl ?_
            obtain ⟨v17, V9, Z6⟩ := bind_e Z6
            refine at_cons (at_cR (As := [[(b1, Obj.cells #[(.slice a8 (List.length v16.2.words) n8), (.int .i64 v16.2.count)] 76 (0, 0))], H8]) (R := [F, H6]) (floor_Floor_Put.R b1 v17) [] [2, 2] rfl rfl rfl rfl has20 rfl rfl (floor_Floor_Put.c v16.2 (w64 (2 * x10)) 77 v17 _ V9 s8) ?_)
            rintro _ _ ⟨a9, n9, H9, s9, rfl, rfl⟩
            refine at_s T rfl ?_
            refine at_end ?_
            refine at_sub [(1, (.slice a_l (List.length l) n_l)), (5, (.int .i64 v1)), (6, (.pointer (some ⟨b1, 0, none⟩))), (7, (.slice a6 (List.length x9) n6)), (8, (.int .i64 x10)), (37, (.bool v17.1))] ⟨rfl, rfl, rfl, rfl, rfl, rfl, trivial⟩ ?_
            refine at_then ?_
            obtain rfl := Option.some.inj Z6
            exact at_mid (v17.2.words, v17.2.count, v17.1, a9, n9, H9) [0, 1, 1, 0] ⟨rfl, s9⟩ ⟨rfl, rfl, rfl, rfl, rfl, rfl, trivial⟩ rfl
        · rintro ⟨x12, x13, x14, a7, n7, H7⟩ ⟨rfl, s7⟩
          refine at_cond rfl (fun c10 => ?_) (fun c10 => ?_)
          · replace Z4 := if_t c10 Z4
            refine at_seq ?_
            refine at_region [0] rfl ?_
            refine at_s T rfl ?_
            refine at_end ?_
            refine at_to [(4, (.bool false))] [0] [F] ⟨rfl, trivial⟩ rfl ?_
            refine at_then ?_
            refine at_ret ?_
            refine at_rt ?_
            refine at_rb ?_
            refine at_rt ?_
            refine at_rt ?_
            refine at_rb ?_
            refine at_rt ?_
            obtain rfl := Option.some.inj Z4
            exact at_post (T := T) rfl (.tmp rfl .nil) (fun w o => ⟨(), rfl, own_to [0] rfl o⟩)
          · replace Z4 := if_f (bf c10) Z4
            refine at_skip ?_
            refine at_then ?_
            refine at_region [0, 1, 2, 3, 4, 5] rfl ?_
            iterate 3 refine at_s T rfl ?_
            refine at_cons (at_bs (k := (Fl.int .i64)) T [(w64 (2 * x10))] rfl rfl rfl rfl rfl rfl rfl rfl rfl (fun a10 H10 s10 => ?_))
            obtain ⟨c11, Z4⟩ := chk_e Z4
            refine at_cons (at_ap (k := (Fl.int .i64)) (xs := x9) T (g := 3) rfl rfl rfl rfl rfl rfl rfl rfl rfl rfl s6 (own_of s10 (j := 4) rfl) c11 rfl (fun a11 n11 H11 s11 => ?_))
            refine at_s T rfl ?_
            refine at_end ?_
            refine at_to [(1, (.slice a_l (List.length l) n_l)), (5, (.int .i64 v1)), (6, (.pointer (some ⟨b1, 0, none⟩))), (7, (.slice a11 (List.length (x9 ++ [(w64 (2 * x10))])) n11)), (8, (.int .i64 x10))] [0, 0, 0, 0] [F, [(b1, Obj.cells #[(.slice a7 (List.length x12) n7), (.int .i64 x13)] 76 (0, 0))], H7, H11] ⟨rfl, rfl, rfl, rfl, rfl, trivial⟩ rfl ?_
            refine at_nb ?_
            refine at_then ?_
            refine at_region [0, 1, 2] rfl ?_
            iterate 3 refine at_s T rfl ?_
            refine at_end ?_
            refine at_sub [(1, (.slice a_l (List.length l) n_l)), (5, (.int .i64 v1)), (6, (.pointer (some ⟨b1, 0, none⟩))), (7, (.slice a11 (List.length (x9 ++ [(w64 (2 * x10))])) n11)), (8, (.int .i64 (w64 (x10 + 1))))] ⟨rfl, rfl, rfl, rfl, rfl, trivial⟩ ?_
            refine at_then ?_
            exact at_roundL (k11, x12, x13, (x9 ++ [(w64 (2 * x10))]), (w64 (x10 + 1)), a7, n7, H7, a11, n11, H11) [0, 0, 0, 0] ⟨Z4, s7, s11⟩ (Nat.lt_succ_self _) ⟨rfl, rfl, rfl, rfl, rfl, trivial⟩ rfl
      · replace Z4 := if_f (of_decide_eq_false c5) Z4
        refine at_exit ?_
        refine at_xt ?_
        refine at_xt ?_
        refine at_xb ?_
        refine at_then ?_
        refine at_seq ?_
        refine at_seq ?_
        refine at_region [0] rfl ?_
        refine at_s T rfl ?_
        refine at_end ?_
        refine at_sub [(1, (.slice a_l (List.length l) n_l)), (5, (.int .i64 v1)), (6, (.pointer (some ⟨b1, 0, none⟩))), (7, (.slice a6 (List.length x9) n6)), (9, (.int .i64 0))] ⟨rfl, rfl, rfl, rfl, rfl, trivial⟩ ?_
        refine at_then ?_
        refine at_block ?_
        refine at_loopL (σ := Nat × List Int × Int × List Int × Int × Option Addr × Nat × Hp × Option Addr × Nat × Hp) (fun ⟨k26, x22, x23, x24, x25, a14, n14, H14, a15, n15, H15⟩ => law22_FloorMoves.l1 k26 l v1 x22 x23 x24 x25 = some r ∧ SliceO (Fl.int .u32) 30 x22 a14 n14 H14 ∧ SliceO (Fl.int .i64) 3 x24 a15 n15 H15) (fun ⟨k26, x22, x23, x24, x25, a14, n14, H14, a15, n15, H15⟩ => [(1, (.slice a_l (List.length l) n_l)), (5, (.int .i64 v1)), (6, (.pointer (some ⟨b1, 0, none⟩))), (7, (.slice a15 (List.length x24) n15)), (9, (.int .i64 x25))]) (fun ⟨k26, x22, x23, x24, x25, a14, n14, H14, a15, n15, H15⟩ => [F, [(b1, Obj.cells #[(.slice a14 (List.length x22) n14), (.int .i64 x23)] 76 (0, 0))], H14, H15]) (fun s => s.1) (fuel, x7, x8, x9, 0, a5, n5, H5, a6, n6, H6) [0, 0, 0, 0] ⟨Z4, s5, s6⟩ ⟨rfl, rfl, rfl, rfl, rfl, trivial⟩ rfl ?_
        rintro ⟨k26, x22, x23, x24, x25, a14, n14, H14, a15, n15, H15⟩ ⟨Z12, s14, s15⟩
        replace Z12 : law22_FloorMoves.l1 k26 l v1 x22 x23 x24 x25 = some r := Z12
        rcases k26 with _ | k26
        · rw [law22_FloorMoves.l1] at Z12; cases Z12
        · rw [law22_FloorMoves.l1] at Z12
          refine at_seq ?_
          refine at_seq ?_
          refine at_region [0, 1, 2, 3, 4, 5, 6, 7] rfl ?_
          iterate 5 refine at_s T rfl ?_
          refine at_grp T [5, 6, 7] (s := 47) (c := (decide (x25 < (List.length l : Int)))) [(1, (.slice a_l (List.length l) n_l)), (5, (.int .i64 v1)), (6, (.pointer (some ⟨b1, 0, none⟩))), (7, (.slice a15 (List.length x24) n15)), (9, (.int .i64 x25)), (50, (.bool ((decide (x25 < (List.length l : Int))) && (decide (x25 < 60)))))] rfl rfl rfl (fun c13 => ⟨rfl, rfl, rfl, rfl, rfl, (by rw [c13]; rfl), trivial⟩) (fun c13 => ⟨rfl, rfl, rfl, rfl, rfl, (by rw [c13]; rfl), trivial⟩) ?_
          refine at_end ?_
          refine at_sub [(1, (.slice a_l (List.length l) n_l)), (5, (.int .i64 v1)), (6, (.pointer (some ⟨b1, 0, none⟩))), (7, (.slice a15 (List.length x24) n15)), (9, (.int .i64 x25)), (50, (.bool ((decide (x25 < (List.length l : Int))) && (decide (x25 < 60)))))] ⟨rfl, rfl, rfl, rfl, rfl, rfl, trivial⟩ ?_
          refine at_then ?_
          refine at_cond rfl (fun c14 => ?_) (fun c14 => ?_)
          · replace Z12 := if_t c14 Z12
            refine at_skip ?_
            refine at_then ?_
            obtain ⟨z30, Z15, Z12⟩ := bind_e Z12
            refine at_seq_mid (σ := List Int × Int × List Int × Option Addr × Nat × Hp × Option Addr × Nat × Hp) (fun ⟨x27, x28, x29, a16, n16, H16, a17, n17, H17⟩ => (Sum.inr (x27, x28, x29)) = z30 ∧ SliceO (Fl.int .u32) 30 x27 a16 n16 H16 ∧ SliceO (Fl.int .i64) 3 x29 a17 n17 H17) (fun ⟨x27, x28, x29, a16, n16, H16, a17, n17, H17⟩ => [(1, (.slice a_l (List.length l) n_l)), (5, (.int .i64 v1)), (6, (.pointer (some ⟨b1, 0, none⟩))), (7, (.slice a17 (List.length x29) n17)), (9, (.int .i64 x25))]) (fun ⟨x27, x28, x29, a16, n16, H16, a17, n17, H17⟩ => [F, [(b1, Obj.cells #[(.slice a16 (List.length x27) n16), (.int .i64 x28)] 76 (0, 0))], H16, H17]) ?_ ?_
            · refine at_block ?_
              refine at_seq ?_
              refine at_region_q mix (by kernel_rfl) ?_
              iterate 2 refine atq_s T rfl ?_
              obtain ⟨c16, Z15⟩ := chk_e Z15
              obtain ⟨q18, o18, e18⟩ := h_l.addr c16.1 c16.2
              refine atq_v rfl rfl rfl (g_index T rfl rfl rfl rfl rfl e18 c16.1 c16.2) ?_
              refine atq_s T rfl ?_
              refine atq_v rfl rfl rfl (g_load T rfl rfl rfl rfl (in_elem1 (k := k_herdsmanlaw22_Ask) (ro_of h_l (j := 0) rfl) e18 c16 1 rfl)) ?_
              iterate 3 refine atq_s T rfl ?_
              obtain ⟨v31, V17, Z15⟩ := bind_e Z15
              refine atq_c rfl rfl rfl rfl rfl rfl has15 rfl (ref1_Within.c ((rd l x25).A) 0 (w64 ((List.length x24 : Int) - 1)) v31 _ V17) ?_
              iterate 2 refine atq_s T rfl ?_
              refine atq_v rfl rfl rfl (g_index T rfl rfl rfl rfl rfl e18 c16.1 c16.2) ?_
              refine atq_s T rfl ?_
              refine atq_v rfl rfl rfl (g_load T rfl rfl rfl rfl (in_elem1 (k := k_herdsmanlaw22_Ask) (ro_of h_l (j := 0) rfl) e18 c16 2 rfl)) ?_
              iterate 2 refine atq_s T rfl ?_
              obtain ⟨v32, V18, Z15⟩ := bind_e Z15
              refine atq_c rfl rfl rfl rfl rfl rfl has15 rfl (ref1_Within.c ((rd l x25).B) 0 (w64 (v1 - 1)) v32 _ V18) ?_
              iterate 2 refine atq_s T rfl ?_
              refine atq_end ?_
              refine at_sub [(1, (.slice a_l (List.length l) n_l)), (5, (.int .i64 v1)), (6, (.pointer (some ⟨b1, 0, none⟩))), (7, (.slice a15 (List.length x24) n15)), (9, (.int .i64 x25)), (10, (.int .i64 v31)), (11, (.int .i64 v32))] ⟨rfl, rfl, rfl, rfl, rfl, rfl, rfl, trivial⟩ ?_
              refine at_then ?_
              refine at_seq ?_
              refine at_region [0, 1, 2, 3, 4] rfl ?_
              iterate 2 refine at_s T rfl ?_
              obtain ⟨v33, V19, Z15⟩ := bind_e Z15
              refine at_cons (at_c (As := [[(b1, Obj.cells #[(.slice a14 (List.length x22) n14), (.int .i64 x23)] 76 (0, 0))], H14]) (R := [F, H15]) (B := fun _ => [[(b1, Obj.cells #[(.slice a14 (List.length x22) n14), (.int .i64 x23)] 76 (0, 0))], H14]) [1, 1] rfl rfl rfl rfl has21 rfl rfl (floor_Floor_Who.c (floor_Floor.mk x22 x23) v32 v33 _ V19 s14) (fun _ => ?_))
              iterate 2 refine at_s T rfl ?_
              refine at_end ?_
              refine at_sub [(1, (.slice a_l (List.length l) n_l)), (5, (.int .i64 v1)), (6, (.pointer (some ⟨b1, 0, none⟩))), (7, (.slice a15 (List.length x24) n15)), (9, (.int .i64 x25)), (10, (.int .i64 v31)), (11, (.int .i64 v32)), (12, (.bool (v33 == (-1))))] ⟨rfl, rfl, rfl, rfl, rfl, rfl, rfl, rfl, trivial⟩ ?_
              refine at_then ?_
              refine at_seq ?_
              refine at_seq ?_
              refine at_region [0, 1, 2, 3, 4, 5, 6, 7, 8] rfl ?_
              iterate 3 refine at_s T rfl ?_
              obtain ⟨c20, Z15⟩ := chk_e Z15
              obtain ⟨q19, o19, e19⟩ := s15.r.addr c20.1 c20.2
              refine at_v rfl (g_index T rfl rfl rfl rfl rfl e19 c20.1 c20.2) ?_
              refine at_v rfl (g_load T rfl rfl rfl rfl (in_elem1 (k := (Fl.int .i64)) (own_of s15 (j := 1) rfl) e19 c20 0 rfl)) ?_
              refine at_s T rfl ?_
              obtain ⟨v34, V21, Z15⟩ := bind_e Z15
              refine at_cons (at_cR (As := [[(b1, Obj.cells #[(.slice a14 (List.length x22) n14), (.int .i64 x23)] 76 (0, 0))], H14]) (R := [F, H15]) (floor_Floor_Shift.R b1 v34) [] [2, 2] rfl rfl rfl rfl has19 rfl rfl (floor_Floor_Shift.c (floor_Floor.mk x22 x23) (rd x24 v31) v32 v34 _ V21 s14) ?_)
              rintro _ _ ⟨a20, n20, H20, s20, rfl, rfl⟩
              iterate 2 refine at_s T rfl ?_
              refine at_end ?_
              refine at_sub [(1, (.slice a_l (List.length l) n_l)), (5, (.int .i64 v1)), (6, (.pointer (some ⟨b1, 0, none⟩))), (7, (.slice a15 (List.length x24) n15)), (9, (.int .i64 x25)), (10, (.int .i64 v31)), (11, (.int .i64 v32)), (12, (.bool (v33 == (-1)))), (82, (.bool (!(v34.1 == (v33 == (-1))))))] ⟨rfl, rfl, rfl, rfl, rfl, rfl, rfl, rfl, rfl, trivial⟩ ?_
              refine at_then ?_
              refine at_cond rfl (fun c22 => ?_) (fun c22 => ?_)
              · replace Z15 := if_t c22 Z15
                refine at_seq ?_
                refine at_region [0] rfl ?_
                refine at_s T rfl ?_
                refine at_end ?_
                refine at_to [(4, (.bool false))] [0] [F] ⟨rfl, trivial⟩ rfl ?_
                refine at_then ?_
                refine at_ret ?_
                refine at_rt ?_
                refine at_rb ?_
                refine at_rt ?_
                refine at_rt ?_
                refine at_rb ?_
                refine at_rt ?_
                obtain rfl := Option.some.inj Z15
                obtain rfl := Option.some.inj (show some false = some r from Z12)
                exact at_post (T := T) rfl (.tmp rfl .nil) (fun w o => ⟨(), rfl, own_to [0] rfl o⟩)
              · replace Z15 := if_f (bf c22) Z15
                refine at_skip ?_
                refine at_then ?_
                refine at_seq ?_
                refine at_region [0] rfl ?_
                refine at_s T rfl ?_
                refine at_end ?_
                refine at_sub [(1, (.slice a_l (List.length l) n_l)), (5, (.int .i64 v1)), (6, (.pointer (some ⟨b1, 0, none⟩))), (7, (.slice a15 (List.length x24) n15)), (9, (.int .i64 x25)), (10, (.int .i64 v31)), (11, (.int .i64 v32)), (83, (.bool (v33 == (-1))))] ⟨rfl, rfl, rfl, rfl, rfl, rfl, rfl, rfl, trivial⟩ ?_
                refine at_then ?_
                refine at_cond rfl (fun c23 => ?_) (fun c23 => ?_)
                · replace Z15 := if_t c23 Z15
                  refine at_seq ?_
                  refine at_seq ?_
                  refine at_region [0, 1, 2, 3, 4, 5, 6] rfl ?_
                  iterate 3 refine at_s T rfl ?_
                  obtain ⟨c24, Z15⟩ := chk_e Z15
                  obtain ⟨q21, o21, e21⟩ := s15.r.addr c24.1 c24.2
                  refine at_v rfl (g_index T rfl rfl rfl rfl rfl e21 c24.1 c24.2) ?_
                  refine at_v rfl (g_load T rfl rfl rfl rfl (in_elem1 (k := (Fl.int .i64)) (own_of s15 (j := 1) rfl) e21 c24 0 rfl)) ?_
                  obtain ⟨v35, V25, Z15⟩ := bind_e Z15
                  refine at_cons (at_c (As := [[(b1, Obj.cells #[(.slice a20 (List.length v34.2.words) n20), (.int .i64 v34.2.count)] 76 (0, 0))], H20]) (R := [F, H15]) (B := fun _ => [[(b1, Obj.cells #[(.slice a20 (List.length v34.2.words) n20), (.int .i64 v34.2.count)] 76 (0, 0))], H20]) [2, 2] rfl rfl rfl rfl has21 rfl rfl (floor_Floor_Who.c v34.2 (rd x24 v31) v35 _ V25 s20) (fun _ => ?_))
                  refine at_s T rfl ?_
                  refine at_end ?_
                  refine at_sub [(1, (.slice a_l (List.length l) n_l)), (5, (.int .i64 v1)), (6, (.pointer (some ⟨b1, 0, none⟩))), (7, (.slice a15 (List.length x24) n15)), (9, (.int .i64 x25)), (10, (.int .i64 v31)), (11, (.int .i64 v32)), (90, (.bool (v35 != (-1))))] ⟨rfl, rfl, rfl, rfl, rfl, rfl, rfl, rfl, trivial⟩ ?_
                  refine at_then ?_
                  refine at_cond rfl (fun c26 => ?_) (fun c26 => ?_)
                  · replace Z15 := if_t c26 Z15
                    refine at_seq ?_
                    refine at_region [0] rfl ?_
                    refine at_s T rfl ?_
                    refine at_end ?_
                    refine at_to [(4, (.bool false))] [0] [F] ⟨rfl, trivial⟩ rfl ?_
                    refine at_then ?_
                    refine at_ret ?_
                    refine at_rt ?_
                    refine at_rb ?_
                    refine at_rt ?_
                    refine at_rt ?_
                    refine at_rb ?_
                    refine at_rt ?_
                    obtain rfl := Option.some.inj Z15
                    obtain rfl := Option.some.inj (show some false = some r from Z12)
                    exact at_post (T := T) rfl (.tmp rfl .nil) (fun w o => ⟨(), rfl, own_to [0] rfl o⟩)
                  · replace Z15 := if_f (bf c26) Z15
                    refine at_skip ?_
                    refine at_then ?_
                    refine at_region [0, 1, 2, 3, 4] rfl ?_
                    iterate 3 refine at_s T rfl ?_
                    refine at_v rfl (g_index T rfl rfl rfl rfl rfl e21 c24.1 c24.2) ?_
                    refine at_cons (at_se (k := (Fl.int .i64)) T 1 0 v32 rfl rfl rfl rfl rfl rfl s15 e21 c24 rfl rfl rfl (fun H22 s22 => ?_))
                    refine at_to [(1, (.slice a_l (List.length l) n_l)), (5, (.int .i64 v1)), (6, (.pointer (some ⟨b1, 0, none⟩))), (7, (.slice a15 (List.length (List.set x24 (Int.toNat v31) v32)) n15)), (9, (.int .i64 x25))] [0, 0, 0, 0] [F, H22, [(b1, Obj.cells #[(.slice a20 (List.length v34.2.words) n20), (.int .i64 v34.2.count)] 76 (0, 0))], H20] ⟨rfl, rfl, rfl, (by simp only [List.length_set]; rfl), rfl, trivial⟩ rfl ?_
                    refine at_end ?_
                    refine at_sub [(1, (.slice a_l (List.length l) n_l)), (5, (.int .i64 v1)), (6, (.pointer (some ⟨b1, 0, none⟩))), (7, (.slice a15 (List.length (List.set x24 (Int.toNat v31) v32)) n15)), (9, (.int .i64 x25))] ⟨rfl, rfl, rfl, rfl, rfl, trivial⟩ ?_
                    refine at_nb ?_
                    refine at_then ?_
                    obtain rfl := Option.some.inj Z15
                    exact at_mid (v34.2.words, v34.2.count, (List.set x24 (Int.toNat v31) v32), a20, n20, H20, a15, n15, H22) [0, 1, 1, 0] ⟨rfl, s20, s22⟩ ⟨rfl, rfl, rfl, rfl, rfl, trivial⟩ rfl
                · replace Z15 := if_f (bf c23) Z15
                  refine at_skip ?_
                  refine at_nb ?_
                  refine at_then ?_
                  obtain rfl := Option.some.inj Z15
                  exact at_mid (v34.2.words, v34.2.count, x24, a20, n20, H20, a15, n15, H15) [0, 1, 1, 0] ⟨rfl, s20, s15⟩ ⟨rfl, rfl, rfl, rfl, rfl, trivial⟩ rfl
            · rintro ⟨x27, x28, x29, a16, n16, H16, a17, n17, H17⟩ ⟨rfl, s16, s17⟩
              refine at_region [0, 1, 2] rfl ?_
              iterate 3 refine at_s T rfl ?_
              refine at_end ?_
              refine at_sub [(1, (.slice a_l (List.length l) n_l)), (5, (.int .i64 v1)), (6, (.pointer (some ⟨b1, 0, none⟩))), (7, (.slice a17 (List.length x29) n17)), (9, (.int .i64 (w64 (x25 + 1))))] ⟨rfl, rfl, rfl, rfl, rfl, trivial⟩ ?_
              refine at_then ?_
              exact at_roundL (k26, x27, x28, x29, (w64 (x25 + 1)), a16, n16, H16, a17, n17, H17) [0, 0, 0, 0] ⟨Z12, s16, s17⟩ (Nat.lt_succ_self _) ⟨rfl, rfl, rfl, rfl, rfl, trivial⟩ rfl
          · replace Z12 := if_f (bf c14) Z12
            refine at_exit ?_
            refine at_xt ?_
            refine at_xt ?_
            refine at_xb ?_
            refine at_then ?_
            refine at_seq ?_
            refine at_seq ?_
            refine at_region [0] rfl ?_
            refine at_s T rfl ?_
            refine at_end ?_
            refine at_sub [(6, (.pointer (some ⟨b1, 0, none⟩))), (7, (.slice a15 (List.length x24) n15)), (13, (.int .i64 0))] ⟨rfl, rfl, rfl, trivial⟩ ?_
            refine at_then ?_
            refine at_block ?_
            refine at_loopL (σ := Nat × List Int × Int × Int × Option Addr × Nat × Hp) (fun ⟨k42, x39, x40, x41, a24, n24, H24⟩ => law22_FloorMoves.l2 k42 x24 x39 x40 x41 = some r ∧ SliceO (Fl.int .u32) 30 x39 a24 n24 H24) (fun ⟨k42, x39, x40, x41, a24, n24, H24⟩ => [(6, (.pointer (some ⟨b1, 0, none⟩))), (7, (.slice a15 (List.length x24) n15)), (13, (.int .i64 x41))]) (fun ⟨k42, x39, x40, x41, a24, n24, H24⟩ => [F, [(b1, Obj.cells #[(.slice a24 (List.length x39) n24), (.int .i64 x40)] 76 (0, 0))], H24, H15]) (fun s => s.1) (fuel, x22, x23, 0, a14, n14, H14) [0, 0, 0, 0] ⟨Z12, s14⟩ ⟨rfl, rfl, rfl, trivial⟩ rfl ?_
            rintro ⟨k42, x39, x40, x41, a24, n24, H24⟩ ⟨Z27, s24⟩
            replace Z27 : law22_FloorMoves.l2 k42 x24 x39 x40 x41 = some r := Z27
            rcases k42 with _ | k42
            · rw [law22_FloorMoves.l2] at Z27; cases Z27
            · rw [law22_FloorMoves.l2] at Z27
              refine at_seq ?_
              refine at_seq ?_
              refine at_region [0, 1, 2, 3] rfl ?_
              iterate 4 refine at_s T rfl ?_
              refine at_end ?_
              refine at_sub [(6, (.pointer (some ⟨b1, 0, none⟩))), (7, (.slice a15 (List.length x24) n15)), (13, (.int .i64 x41)), (98, (.bool (decide (x41 < (List.length x24 : Int)))))] ⟨rfl, rfl, rfl, rfl, trivial⟩ ?_
              refine at_then ?_
              refine at_cond rfl (fun c28 => ?_) (fun c28 => ?_)
              · replace Z27 := if_t (of_decide_eq_true c28) Z27
                refine at_skip ?_
                refine at_then ?_
                refine at_seq ?_
                refine at_block ?_
                obtain ⟨z46, Z29, Z27⟩ := bind_e Z27
                refine at_seq_mid (σ := List Int × Int × Bool × Option Addr × Nat × Hp) (fun ⟨x43, x44, x45, a25, n25, H25⟩ => (x43, x44, x45) = z46 ∧ SliceO (Fl.int .u32) 30 x43 a25 n25 H25) (fun ⟨x43, x44, x45, a25, n25, H25⟩ => [(6, (.pointer (some ⟨b1, 0, none⟩))), (7, (.slice a15 (List.length x24) n15)), (13, (.int .i64 x41)), (127, (.bool x45))]) (fun ⟨x43, x44, x45, a25, n25, H25⟩ => [F, [(b1, Obj.cells #[(.slice a25 (List.length x43) n25), (.int .i64 x44)] 76 (0, 0))], H25, H15]) ?_ ?_
                · refine at_region [0, 1, 2, 3, 4, 5, 6, 7, 8, 9, 10, 11, 12, 13, 14, 15, 16, 17, 18, 19, 20, 21, 22, 23, 24, 25, 26] rfl ?_
                  iterate 3 refine at_s T rfl ?_
                  obtain ⟨c30, Z29⟩ := chk_e Z29
                  obtain ⟨q26, o26, e26⟩ := s15.r.addr c30.1 c30.2
                  refine at_v rfl (g_index T rfl rfl rfl rfl rfl e26 c30.1 c30.2) ?_
                  refine at_v rfl (g_load T rfl rfl rfl rfl (in_elem1 (k := (Fl.int .i64)) (own_of s15 (j := 3) rfl) e26 c30 0 rfl)) ?_
                  obtain ⟨v47, V31, Z29⟩ := bind_e Z29
                  refine at_cons (at_c (As := [[(b1, Obj.cells #[(.slice a24 (List.length x39) n24), (.int .i64 x40)] 76 (0, 0))], H24]) (R := [F, H15]) (B := fun _ => [[(b1, Obj.cells #[(.slice a24 (List.length x39) n24), (.int .i64 x40)] 76 (0, 0))], H24]) [1, 1] rfl rfl rfl rfl has21 rfl rfl (floor_Floor_Who.c (floor_Floor.mk x39 x40) (rd x24 x41) v47 _ V31 s24) (fun _ => ?_))
                  iterate 3 refine at_s T rfl ?_
                  refine at_case (s := 109) rfl (fun c32 => ?_) (fun c32 => ?_)
                  · replace Z29 := if_t c32 Z29
                    iterate 18 refine at_s T rfl ?_
                    refine at_end ?_
                    refine at_sub [(6, (.pointer (some ⟨b1, 0, none⟩))), (7, (.slice a15 (List.length x24) n15)), (13, (.int .i64 x41)), (127, (.bool true))] ⟨rfl, rfl, rfl, rfl, trivial⟩ ?_
                    refine at_then ?_
                    obtain rfl := Option.some.inj Z29
                    exact at_mid (x39, x40, true, a24, n24, H24) [0, 1, 1, 0] ⟨rfl, s24⟩ ⟨rfl, rfl, rfl, rfl, trivial⟩ rfl
                  · replace Z29 := if_f (bf c32) Z29
                    iterate 3 refine at_s T rfl ?_
                    refine at_v rfl (g_index T rfl rfl rfl rfl rfl e26 c30.1 c30.2) ?_
                    refine at_v rfl (g_load T rfl rfl rfl rfl (in_elem1 (k := (Fl.int .i64)) (own_of s15 (j := 1) rfl) e26 c30 0 rfl)) ?_
                    obtain ⟨v48, V33, Z29⟩ := bind_e Z29
                    refine at_cons (at_cR (As := [[(b1, Obj.cells #[(.slice a24 (List.length x39) n24), (.int .i64 x40)] 76 (0, 0))], H24]) (R := [F, H15]) (floor_Floor_Take.R b1 v48) [] [2, 2] rfl rfl rfl rfl has18 rfl rfl (floor_Floor_Take.c (floor_Floor.mk x39 x40) (rd x24 x41) v48 _ V33 s24) ?_)
                    rintro _ _ ⟨a27, n27, H27, s27, rfl, rfl⟩
                    iterate 4 refine at_s T rfl ?_
                    refine at_case (s := 119) rfl (fun c34 => ?_) (fun c34 => ?_)
                    · replace Z29 := if_t c34 Z29
                      iterate 8 refine at_s T rfl ?_
                      refine at_end ?_
                      refine at_sub [(6, (.pointer (some ⟨b1, 0, none⟩))), (7, (.slice a15 (List.length x24) n15)), (13, (.int .i64 x41)), (127, (.bool true))] ⟨rfl, rfl, rfl, rfl, trivial⟩ ?_
                      refine at_then ?_
                      obtain rfl := Option.some.inj Z29
                      exact at_mid (v48.2.words, v48.2.count, true, a27, n27, H27) [0, 1, 1, 0] ⟨rfl, s27⟩ ⟨rfl, rfl, rfl, rfl, trivial⟩ rfl
                    · replace Z29 := if_f (bf c34) Z29
                      iterate 3 refine at_s T rfl ?_
                      obtain ⟨c35, Z29⟩ := chk_e Z29
                      obtain ⟨q28, o28, e28⟩ := s15.r.addr c35.1 c35.2
                      refine at_v rfl (g_index T rfl rfl rfl rfl rfl e28 c35.1 c35.2) ?_
                      refine at_v rfl (g_load T rfl rfl rfl rfl (in_elem1 (k := (Fl.int .i64)) (own_of s15 (j := 1) rfl) e28 c35 0 rfl)) ?_
                      obtain ⟨v49, V36, Z29⟩ := bind_e Z29
                      refine at_cons (at_cR (As := [[(b1, Obj.cells #[(.slice a27 (List.length v48.2.words) n27), (.int .i64 v48.2.count)] 76 (0, 0))], H27]) (R := [F, H15]) (floor_Floor_Take.R b1 v49) [] [2, 2] rfl rfl rfl rfl has18 rfl rfl (floor_Floor_Take.c v48.2 (rd x24 x41) v49 _ V36 s27) ?_)
                      rintro _ _ ⟨a29, n29, H29, s29, rfl, rfl⟩
                      iterate 2 refine at_s T rfl ?_
                      refine at_end ?_
                      refine at_sub [(6, (.pointer (some ⟨b1, 0, none⟩))), (7, (.slice a15 (List.length x24) n15)), (13, (.int .i64 x41)), (127, (.bool (v49.1 != (-1))))] ⟨rfl, rfl, rfl, rfl, trivial⟩ ?_
                      refine at_then ?_
                      obtain rfl := Option.some.inj Z29
                      exact at_mid (v49.2.words, v49.2.count, (v49.1 != (-1)), a29, n29, H29) [0, 1, 1, 0] ⟨rfl, s29⟩ ⟨rfl, rfl, rfl, rfl, trivial⟩ rfl
                · rintro ⟨x43, x44, x45, a25, n25, H25⟩ ⟨rfl, s25⟩
                  refine at_cond rfl (fun c37 => ?_) (fun c37 => ?_)
                  · replace Z27 := if_t c37 Z27
                    refine at_seq ?_
                    refine at_region [0] rfl ?_
                    refine at_s T rfl ?_
                    refine at_end ?_
                    refine at_to [(4, (.bool false))] [0] [F] ⟨rfl, trivial⟩ rfl ?_
                    refine at_then ?_
                    refine at_ret ?_
                    refine at_rb ?_
                    refine at_rt ?_
                    refine at_rt ?_
                    refine at_rb ?_
                    refine at_rt ?_
                    obtain rfl := Option.some.inj Z27
                    exact at_post (T := T) rfl (.tmp rfl .nil) (fun w o => ⟨(), rfl, own_to [0] rfl o⟩)
                  · replace Z27 := if_f (bf c37) Z27
                    refine at_skip ?_
                    refine at_nb ?_
                    refine at_then ?_
                    refine at_region [0, 1, 2] rfl ?_
                    iterate 3 refine at_s T rfl ?_
                    refine at_end ?_
                    refine at_sub [(6, (.pointer (some ⟨b1, 0, none⟩))), (7, (.slice a15 (List.length x24) n15)), (13, (.int .i64 (w64 (x41 + 1))))] ⟨rfl, rfl, rfl, trivial⟩ ?_
                    refine at_then ?_
                    exact at_roundL (k42, x43, x44, (w64 (x41 + 1)), a25, n25, H25) [0, 0, 0, 0] ⟨Z27, s25⟩ (Nat.lt_succ_self _) ⟨rfl, rfl, rfl, trivial⟩ rfl
              · replace Z27 := if_f (of_decide_eq_false c28) Z27
                refine at_exit ?_
                refine at_xt ?_
                refine at_xt ?_
                refine at_xb ?_
                refine at_then ?_
                obtain ⟨z51, Z38, Z27⟩ := bind_e Z27
                refine at_seq_mid (σ := Bool) (fun x50 => x50 = z51) (fun x50 => [(4, (.bool x50))]) (fun x50 => [F]) ?_ ?_
                · refine at_region [0, 1, 2, 3, 4, 5, 6] rfl ?_
                  obtain ⟨v52, V39, Z38⟩ := bind_e Z38
                  refine at_cons (at_c (B := fun _ => []) [] rfl rfl rfl rfl has23 rfl rfl (law22_told.c  v52 _ V39) (fun _ => ?_))
                  refine at_s T rfl ?_
                  refine at_case (s := 129) rfl (fun c40 => ?_) (fun c40 => ?_)
                  · replace Z38 := if_t c40 Z38
                    refine at_s T rfl ?_
                    obtain ⟨v53, V41, Z38⟩ := bind_e Z38
                    refine at_cons (at_c (As := [[(b1, Obj.cells #[(.slice a24 (List.length x39) n24), (.int .i64 x40)] 76 (0, 0))], H24]) (R := [F, H15]) (B := fun _ => [[(b1, Obj.cells #[(.slice a24 (List.length x39) n24), (.int .i64 x40)] 76 (0, 0))], H24]) [1, 1] rfl rfl rfl rfl has22 rfl rfl (floor_Floor_Count.c (floor_Floor.mk x39 x40) v53 _ V41 s24) (fun _ => ?_))
                    iterate 3 refine at_s T rfl ?_
                    refine at_end ?_
                    refine at_to [(4, (.bool (v53 == 0)))] [0] [F] ⟨rfl, trivial⟩ rfl ?_
                    refine at_then ?_
                    obtain rfl := Option.some.inj Z38
                    exact at_mid (v53 == 0) [0] rfl ⟨rfl, trivial⟩ rfl
                  · replace Z38 := if_f (bf c40) Z38
                    iterate 5 refine at_s T rfl ?_
                    refine at_end ?_
                    refine at_to [(4, (.bool false))] [0] [F] ⟨rfl, trivial⟩ rfl ?_
                    refine at_then ?_
                    obtain rfl := Option.some.inj Z38
                    exact at_mid false [0] rfl ⟨rfl, trivial⟩ rfl
                · rintro x50 rfl
                  refine at_ret ?_
                  obtain rfl := Option.some.inj Z27
                  exact at_post (T := T) rfl (.tmp rfl .nil) (fun w o => ⟨(), rfl, own_to [0] rfl o⟩)
def law22_FloorMoves.Pure : Prop := ∀ (n : Int) (l : (List herdsmanlaw22_Ask)), inI64 n → (∀ y ∈ l, (inI64 y.Kind ∧ inI64 y.A ∧ inI64 y.B)) → law22_FloorMoves.f n l = some true
end Go.Proofs.Ytmfonhkkkfmpdaa
