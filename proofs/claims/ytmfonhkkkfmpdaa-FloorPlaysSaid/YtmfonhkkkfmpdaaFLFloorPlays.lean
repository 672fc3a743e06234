import Derived.Test.YtmfonhkkkfmpdaaT
import Derived.Test.YtmfonhkkkfmpdaaFfloor
import Derived.Test.YtmfonhkkkfmpdaaFlaw22
import Derived.Test.YtmfonhkkkfmpdaaFref1
import Derived.Test.YtmfonhkkkfmpdaaFref21
namespace Go.Proofs.Ytmfonhkkkfmpdaa
open Go.Hx
set_option maxRecDepth 100000
set_option linter.unusedVariables false
/-! ### herdsman/herdsmanlaw22.FloorPlays: function 3 -/
def law22_FloorPlays.l1 : Nat → Int → List Int → Int → List Int → Int → Int → Int → Int → Option (Sum Bool ((List Int) × Int × (List Int)))
  | 0, _, _, _, _, _, _, _, _ => none
  | k47 + 1, v1, x23, x16, x25, x41, x24, x45, x46 => if x46 < v1 then (if (0 ≤ x46 ∧ x46 < (List.length x25 : Int)) then (if ((rd x25 x46) != 0) = true then (law22_FloorPlays.l1 k47 v1 x23 x16 x25 x41 x24 (w64 (x45 + 1)) (w64 (x46 + 1))) else (law22_FloorPlays.l1 k47 v1 x23 x16 x25 x41 x24 x45 (w64 (x46 + 1)))) else none) else (((floor_Floor_Who.f (floor_Floor.mk x23 x24) x16).bind fun v50 => if (v50 != x41) = true then (some true) else ((floor_Floor_Count.f (floor_Floor.mk x23 x24)).bind fun v51 => some (v51 != x45))).bind fun x48 => if x48 = true then (some (Sum.inl false)) else (some (Sum.inr (x23, x24, x25))))
def law22_FloorPlays.l0 : Nat → (List herdsmanlaw22_Ask) → Bool → Int → List Int → Int → List Int → Int → Option Bool
  | 0, _, _, _, _, _, _, _ => none
  | k11 + 1, l, raw, v1, x7, x8, x9, x10 => if ((decide (x10 < (List.length l : Int))) && (decide (x10 < 60))) = true then ((if (0 ≤ x10 ∧ x10 < (List.length l : Int)) then ((if (!raw) = true then ((ref1_Within.f ((rd l x10).A) (-1) v1).bind fun v19 => (ref1_Within.f ((rd l x10).B) (-1) v1).bind fun v20 => some (v19, v20)) else (some ((rd l x10).A, (rd l x10).B))).bind fun (x16, x17) => (ref1_In.f x16 0 (w64 (v1 - 1))).bind fun v21 => (ref1_In.f x17 0 (w64 (v1 - 1))).bind fun v22 => ((ref1_Within.f ((rd l x10).Kind) 0 5).bind fun v27 => if (v27 == 3) = true then (if v21 = true then (if (0 ≤ x16 ∧ x16 < (List.length x9 : Int)) then ((floor_Floor_Take.f (floor_Floor.mk x7 x8) x16).bind fun v28 => if (v28.1 != (w64 ((w64 (rd x9 x16)) - 1))) = true then (some (Sum.inl false)) else (some (Sum.inr (v28.2.words, v28.2.count, (List.set x9 (Int.toNat x16) 0))))) else none) else ((floor_Floor_Take.f (floor_Floor.mk x7 x8) x16).bind fun v29 => if (v29.1 != (-1)) = true then (some (Sum.inl false)) else (some (Sum.inr (v29.2.words, v29.2.count, x9))))) else ((if (v27 == 4) = true then (some (v27 == 4)) else (some (v27 == 5))).bind fun x30 => if x30 = true then ((if (v21 && v22) = true then (if (0 ≤ x16 ∧ x16 < (List.length x9 : Int)) then (if ((rd x9 x16) != 0) = true then (if (0 ≤ x17 ∧ x17 < (List.length x9 : Int)) then (some ((rd x9 x17) == 0)) else none) else (some false)) else none) else (some false)).bind fun x32 => if x32 = true then (if (0 ≤ x16 ∧ x16 < (List.length x9 : Int)) then (if (0 ≤ x17 ∧ x17 < (List.length (List.set x9 (Int.toNat x16) 0) : Int)) then ((floor_Floor_Shift.f (floor_Floor.mk x7 x8) x16 x17).bind fun v34 => if (!(v34.1 == x32)) = true then (some (Sum.inl false)) else (some (Sum.inr (v34.2.words, v34.2.count, (List.set (List.set x9 (Int.toNat x16) 0) (Int.toNat x17) (rd x9 x16)))))) else none) else none) else ((floor_Floor_Shift.f (floor_Floor.mk x7 x8) x16 x17).bind fun v35 => if (!(v35.1 == x32)) = true then (some (Sum.inl false)) else (some (Sum.inr (v35.2.words, v35.2.count, x9))))) else ((if v21 = true then (if (0 ≤ x16 ∧ x16 < (List.length x9 : Int)) then (if ((rd x9 x16) == 0) = true then ((ref1_In.f x17 0 4294967294).bind fun v38 => some v38) else (some false)) else none) else (some false)).bind fun x36 => if x36 = true then (if (0 ≤ x16 ∧ x16 < (List.length x9 : Int)) then ((floor_Floor_Put.f (floor_Floor.mk x7 x8) x16 x17).bind fun v39 => if (!(v39.1 == x36)) = true then (some (Sum.inl false)) else (some (Sum.inr (v39.2.words, v39.2.count, (List.set x9 (Int.toNat x16) (wu32 (w64 (x17 + 1)))))))) else none) else ((floor_Floor_Put.f (floor_Floor.mk x7 x8) x16 x17).bind fun v40 => if (!(v40.1 == x36)) = true then (some (Sum.inl false)) else (some (Sum.inr (v40.2.words, v40.2.count, x9))))))).bind fun zz => match zz with | Sum.inl q => some (Sum.inl q) | Sum.inr (x23, x24, x25) => (if v21 = true then (if (0 ≤ x16 ∧ x16 < (List.length x25 : Int)) then (some (w64 ((w64 (rd x25 x16)) - 1))) else none) else (some (-1))).bind fun x41 => law22_FloorPlays.l1 fuel v1 x23 x16 x25 x41 x24 0 0) else none).bind fun zz => match zz with | Sum.inl q => some q | Sum.inr (x12, x13, x14) => law22_FloorPlays.l0 k11 l raw v1 x12 x13 x14 (w64 (x10 + 1))) else (((law22_told.f).bind fun v54 => if v54 = true then ((floor_Floor_Words.f (floor_Floor.mk x7 x8)).bind fun v55 => (ref21_SameWords.f v55 x9).bind fun v56 => some v56) else (some false)).bind fun x52 => some x52)
def law22_FloorPlays.f (n : Int) (l : (List herdsmanlaw22_Ask)) (raw : Bool) : Option Bool := (ref1_Within.f n 1 30).bind fun v1 => (floor_New.f v1).bind fun v2 => optm v2 (some false) (fun yv2 => if (0 ≤ v1 ∧ v1 ≤ 1099511627776) then (law22_FloorPlays.l0 fuel l raw v1 yv2.words yv2.count (List.replicate (Int.toNat v1) 0) 0) else none)
set_option maxHeartbeats 4000000 in
theorem law22_FloorPlays.c {a_l : Option Addr} {n_l : Nat} (n : Int) (l : (List herdsmanlaw22_Ask)) (raw : Bool) (r : Bool) (F : Hp) (H : law22_FloorPlays.f n l raw = some r) (h_l : SliceR k_herdsmanlaw22_Ask l a_l F) (c_l : List.length l ≤ n_l) :
    CallsL Try.prog 3 [(.int .i64 n), (.slice a_l (List.length l) n_l), (.bool raw)] [F] (fun _ : Unit => (.bool r)) (fun _ => [F]) := by
  unfold law22_FloorPlays.f at H
  refine calls_atL [(0, (.int .i64 n)), (1, (.slice a_l (List.length l) n_l)), (2, (.bool raw))] Try.func3 rfl rfl ⟨rfl, rfl, rfl, trivial⟩ (fun W => ?_)
  refine at_seq ?_
  refine at_region [0] rfl ?_
  refine at_s T rfl ?_
  refine at_end ?_
  refine at_sub [(0, (.int .i64 n)), (1, (.slice a_l (List.length l) n_l)), (2, (.bool raw))] ⟨rfl, rfl, rfl, trivial⟩ ?_
  refine at_then ?_
  refine at_seq ?_
  refine at_region [0, 1, 2] rfl ?_
  refine at_s T rfl ?_
  obtain ⟨v1, V1, H⟩ := bind_e H
  refine at_cons (at_c (B := fun _ => []) [] rfl rfl rfl rfl has15 rfl rfl (ref1_Within.c n 1 30 v1 _ V1) (fun _ => ?_))
  refine at_s T rfl ?_
  refine at_end ?_
  refine at_sub [(1, (.slice a_l (List.length l) n_l)), (2, (.bool raw)), (7, (.int .i64 v1))] ⟨rfl, rfl, rfl, trivial⟩ ?_
  refine at_then ?_
  refine at_seq ?_
  refine at_region [0, 1, 2] rfl ?_
  refine at_s T rfl ?_
  obtain ⟨v2, V2, H⟩ := bind_e H
  refine at_cons (at_cR (floor_New.R v2) [] [] rfl rfl rfl rfl has16 rfl rfl (floor_New.c v1 v2 _ V2) ?_)
  rintro _ _ ⟨_, _, O3, rfl, rfl⟩
  rcases v2 with _ | yv2
  · replace H := optm_n rfl H
    obtain ⟨rfl, rfl⟩ := O3
    refine at_s T rfl ?_
    refine at_end ?_
    refine at_sub [(1, (.slice a_l (List.length l) n_l)), (2, (.bool raw)), (7, (.int .i64 v1)), (8, (.pointer none))] ⟨rfl, rfl, rfl, rfl, trivial⟩ ?_
    refine at_then ?_
    refine at_seq ?_
    refine at_seq ?_
    refine at_region [0, 1] rfl ?_
    iterate 2 refine at_s T rfl ?_
    refine at_end ?_
    refine at_sub [(1, (.slice a_l (List.length l) n_l)), (2, (.bool raw)), (7, (.int .i64 v1)), (8, (.pointer none)), (25, (.bool true))] ⟨rfl, rfl, rfl, rfl, rfl, trivial⟩ ?_
    refine at_then ?_
    refine at_cond_t rfl ?_
    refine at_seq ?_
    refine at_region [0] rfl ?_
    refine at_s T rfl ?_
    refine at_end ?_
    refine at_sub [(6, (.bool false))] ⟨rfl, trivial⟩ ?_
    refine at_then ?_
    refine at_ret ?_
    refine at_rt ?_
    obtain rfl := Option.some.inj H
    exact at_post (T := T) rfl (.tmp rfl .nil) (fun w o => ⟨(), rfl, own_to [0] rfl o⟩)
  · replace H := optm_s rfl H
    obtain ⟨b1, a2, n2, H2, s2, rfl, rfl⟩ := O3
    refine at_s T rfl ?_
    refine at_end ?_
    refine at_sub [(1, (.slice a_l (List.length l) n_l)), (2, (.bool raw)), (7, (.int .i64 v1)), (8, (.pointer (some ⟨b1, 0, none⟩)))] ⟨rfl, rfl, rfl, rfl, trivial⟩ ?_
    refine at_then ?_
    refine at_seq ?_
    refine at_seq ?_
    refine at_region [0, 1] rfl ?_
    iterate 2 refine at_s T rfl ?_
    refine at_end ?_
    refine at_sub [(1, (.slice a_l (List.length l) n_l)), (2, (.bool raw)), (7, (.int .i64 v1)), (8, (.pointer (some ⟨b1, 0, none⟩))), (25, (.bool false))] ⟨rfl, rfl, rfl, rfl, rfl, trivial⟩ ?_
    refine at_then ?_
    refine at_cond_f rfl ?_
    refine at_skip ?_
    refine at_then ?_
    refine at_seq ?_
    refine at_region [0, 1, 2] rfl ?_
    refine at_s T rfl ?_
    obtain ⟨c4, H⟩ := chk_e H
    refine at_cons (at_mk (k := (Fl.int .u32)) T 0 rfl rfl rfl rfl rfl rfl rfl rfl c4 rfl (fun a3 n3 H3 s3 => ?_))
    refine at_s T rfl ?_
    refine at_end ?_
    refine at_sub [(1, (.slice a_l (List.length l) n_l)), (2, (.bool raw)), (7, (.int .i64 v1)), (8, (.pointer (some ⟨b1, 0, none⟩))), (9, (.slice a3 (List.length (List.replicate (Int.toNat v1) 0)) n3))] ⟨rfl, rfl, rfl, rfl, rfl, trivial⟩ ?_
    refine at_then ?_
    refine at_seq ?_
    refine at_seq ?_
    refine at_region [0] rfl ?_
    refine at_s T rfl ?_
    refine at_end ?_
    refine at_sub [(1, (.slice a_l (List.length l) n_l)), (2, (.bool raw)), (7, (.int .i64 v1)), (8, (.pointer (some ⟨b1, 0, none⟩))), (9, (.slice a3 (List.length (List.replicate (Int.toNat v1) 0)) n3)), (10, (.int .i64 0))] ⟨rfl, rfl, rfl, rfl, rfl, rfl, trivial⟩ ?_
    refine at_then ?_
    refine at_block ?_
    refine at_loopL (σ := Nat × List Int × Int × List Int × Int × Option Addr × Nat × Hp × Option Addr × Nat × Hp) (fun ⟨k11, x7, x8, x9, x10, a6, n6, H6, a7, n7, H7⟩ => law22_FloorPlays.l0 k11 l raw v1 x7 x8 x9 x10 = some r ∧ SliceO (Fl.int .u32) 30 x7 a6 n6 H6 ∧ SliceO (Fl.int .u32) 30 x9 a7 n7 H7) (fun ⟨k11, x7, x8, x9, x10, a6, n6, H6, a7, n7, H7⟩ => [(1, (.slice a_l (List.length l) n_l)), (2, (.bool raw)), (7, (.int .i64 v1)), (8, (.pointer (some ⟨b1, 0, none⟩))), (9, (.slice a7 (List.length x9) n7)), (10, (.int .i64 x10))]) (fun ⟨k11, x7, x8, x9, x10, a6, n6, H6, a7, n7, H7⟩ => [F, [(b1, Obj.cells #[(.slice a6 (List.length x7) n6), (.int .i64 x8)] 76 (0, 0))], H6, H7]) (fun s => s.1) (fuel, yv2.words, yv2.count, (List.replicate (Int.toNat v1) 0), 0, a2, n2, H2, a3, n3, H3) [0, 0, 0, 0] ⟨H, s2, s3⟩ ⟨rfl, rfl, rfl, rfl, rfl, rfl, trivial⟩ rfl ?_
    rintro ⟨k11, x7, x8, x9, x10, a6, n6, H6, a7, n7, H7⟩ ⟨Z5, s6, s7⟩
    replace Z5 : law22_FloorPlays.l0 k11 l raw v1 x7 x8 x9 x10 = some r := Z5
    rcases k11 with _ | k11
    · rw [law22_FloorPlays.l0] at Z5; cases Z5
    · rw [law22_FloorPlays.l0] at Z5
      refine at_seq ?_
      refine at_seq ?_
      refine at_region [0, 1, 2, 3, 4, 5, 6, 7] rfl ?_
      iterate 5 refine at_s T rfl ?_
      refine at_grp T [5, 6, 7] (s := 32) (c := (decide (x10 < (List.length l : Int)))) [(1, (.slice a_l (List.length l) n_l)), (2, (.bool raw)), (7, (.int .i64 v1)), (8, (.pointer (some ⟨b1, 0, none⟩))), (9, (.slice a7 (List.length x9) n7)), (10, (.int .i64 x10)), (35, (.bool ((decide (x10 < (List.length l : Int))) && (decide (x10 < 60)))))] rfl rfl rfl (fun c6 => ⟨rfl, rfl, rfl, rfl, rfl, rfl, (by rw [c6]; rfl), trivial⟩) (fun c6 => ⟨rfl, rfl, rfl, rfl, rfl, rfl, (by rw [c6]; rfl), trivial⟩) ?_
      refine at_end ?_
      refine at_sub [(1, (.slice a_l (List.length l) n_l)), (2, (.bool raw)), (7, (.int .i64 v1)), (8, (.pointer (some ⟨b1, 0, none⟩))), (9, (.slice a7 (List.length x9) n7)), (10, (.int .i64 x10)), (35, (.bool ((decide (x10 < (List.length l : Int))) && (decide (x10 < 60)))))] ⟨rfl, rfl, rfl, rfl, rfl, rfl, rfl, trivial⟩ ?_
      refine at_then ?_
      refine at_cond rfl (fun c7 => ?_) (fun c7 => ?_)
      · replace Z5 := if_t c7 Z5
        refine at_skip ?_
        refine at_then ?_
        obtain ⟨z15, Z8, Z5⟩ := bind_e Z5
        refine at_seq_mid (σ := List Int × Int × List Int × Option Addr × Nat × Hp × Option Addr × Nat × Hp) (fun ⟨x12, x13, x14, a8, n8, H8, a9, n9, H9⟩ => (Sum.inr (x12, x13, x14)) = z15 ∧ SliceO (Fl.int .u32) 30 x12 a8 n8 H8 ∧ SliceO (Fl.int .u32) 30 x14 a9 n9 H9) (fun ⟨x12, x13, x14, a8, n8, H8, a9, n9, H9⟩ => [(1, (.slice a_l (List.length l) n_l)), (2, (.bool raw)), (7, (.int .i64 v1)), (8, (.pointer (some ⟨b1, 0, none⟩))), (9, (.slice a9 (List.length x14) n9)), (10, (.int .i64 x10))]) (fun ⟨x12, x13, x14, a8, n8, H8, a9, n9, H9⟩ => [F, [(b1, Obj.cells #[(.slice a8 (List.length x12) n8), (.int .i64 x13)] 76 (0, 0))], H8, H9]) ?_ ?_
        · refine at_block ?_
          refine at_seq ?_
          refine at_region [0, 1, 2, 3, 4, 5] rfl ?_
          iterate 2 refine at_s T rfl ?_
          obtain ⟨c9, Z8⟩ := chk_e Z8
          obtain ⟨q10, o10, e10⟩ := h_l.addr c9.1 c9.2
          refine at_v rfl (g_index T rfl rfl rfl rfl rfl e10 c9.1 c9.2) ?_
          refine at_v rfl (g_loadA T (cs := [(.int .i64 (rd l x10).Kind), (.int .i64 (rd l x10).A), (.int .i64 (rd l x10).B)]) rfl rfl rfl rfl rfl rfl (in_elemA (k := k_herdsmanlaw22_Ask) (ro_of h_l (j := 0) rfl) e10 c9 rfl)) ?_
          refine at_cons (at_al T [(.int .i64 0), (.int .i64 0), (.int .i64 0)] rfl rfl rfl rfl (fun b11 => ?_))
          refine at_cons (at_st T 4 [(.int .i64 (rd l x10).Kind), (.int .i64 (rd l x10).A), (.int .i64 (rd l x10).B)] rfl rfl rfl rfl rfl rfl rfl rfl rfl rfl ?_)
          refine at_end ?_
          refine at_sub [(1, (.slice a_l (List.length l) n_l)), (2, (.bool raw)), (7, (.int .i64 v1)), (8, (.pointer (some ⟨b1, 0, none⟩))), (9, (.slice a7 (List.length x9) n7)), (10, (.int .i64 x10)), (11, (.pointer (some ⟨b11, 0, none⟩)))] ⟨rfl, rfl, rfl, rfl, rfl, rfl, rfl, trivial⟩ ?_
          refine at_then ?_
          obtain ⟨z18, Z10, Z8⟩ := bind_e Z8
          refine at_seq_mid (σ := Int × Int) (fun ⟨x16, x17⟩ => (x16, x17) = z18) (fun ⟨x16, x17⟩ => [(1, (.slice a_l (List.length l) n_l)), (2, (.bool raw)), (7, (.int .i64 v1)), (8, (.pointer (some ⟨b1, 0, none⟩))), (9, (.slice a7 (List.length x9) n7)), (10, (.int .i64 x10)), (11, (.pointer (some ⟨b11, 0, none⟩)))]) (fun ⟨x16, x17⟩ => [F, [(b1, Obj.cells #[(.slice a6 (List.length x7) n6), (.int .i64 x8)] 76 (0, 0))], H6, H7, [(b11, Obj.cells #[(.int .i64 (rd l x10).Kind), (.int .i64 x16), (.int .i64 x17)] 28 (0, 0))]]) ?_ ?_
          · refine at_seq ?_
            refine at_region [0, 1] rfl ?_
            iterate 2 refine at_s T rfl ?_
            refine at_end ?_
            refine at_sub [(1, (.slice a_l (List.length l) n_l)), (2, (.bool raw)), (7, (.int .i64 v1)), (8, (.pointer (some ⟨b1, 0, none⟩))), (9, (.slice a7 (List.length x9) n7)), (10, (.int .i64 x10)), (11, (.pointer (some ⟨b11, 0, none⟩))), (43, (.bool (!raw)))] ⟨rfl, rfl, rfl, rfl, rfl, rfl, rfl, rfl, trivial⟩ ?_
            refine at_then ?_
            refine at_cond rfl (fun c11 => ?_) (fun c11 => ?_)
            · replace Z10 := if_t c11 Z10
              refine at_region_m [[], [0], [], [0, 1, 2], [], [4], [], [0, 1, 2, 3, 4, 5, 6], [0, 1, 2, 3, 4, 5], [0, 1, 2, 3, 4, 5, 6, 7, 8], [0, 1, 2, 3, 4, 5, 6, 7, 8, 9], [0, 1, 2, 3, 4, 5, 6, 7, 8, 9, 10]] [9, 11] [F, [(b1, Obj.cells #[(.slice a6 (List.length x7) n6), (.int .i64 x8)] 76 (0, 0))], H6, H7, [(b11, Obj.cells #[(.int .i64 (rd l x10).Kind), (.int .i64 (rd l x10).A), (.int .i64 (rd l x10).B)] 28 (0, 0))]] mix (by kernel_rfl) (by repeat first | exact pf_body | refine pf_then ?_ | refine pf_block ?_) (fun hg pf => ?_)
              refine atm_s T 0 hg pf (by kernel_rfl) (still_o [0, 0, 0, 0, 0] rfl) rfl ?_
              refine atm_v 1 hg pf (by kernel_rfl) (still_o [0, 0, 0, 0, 0] rfl) rfl rfl (g_load T rfl rfl rfl rfl (in_var (j := 4) rfl rfl)) ?_
              refine atm_s T 2 hg pf (by kernel_rfl) (still_o [0, 0, 0, 0, 0] rfl) rfl ?_
              refine atm_s T 4 hg pf (by kernel_rfl) (still_o [0, 0, 0, 0, 0] rfl) rfl ?_
              refine atm_v 5 hg pf (by kernel_rfl) (still_o [0, 0, 0, 0, 0] rfl) rfl rfl (g_load T rfl rfl rfl rfl (in_var (j := 4) rfl rfl)) ?_
              refine atm_s T 6 hg pf (by kernel_rfl) (still_o [0, 0, 0, 0, 0] rfl) rfl ?_
              refine atm_one 3 (by kernel_rfl) ?_
              obtain ⟨v19, V12, Z10⟩ := bind_e Z10
              refine at_c (B := fun _ => []) [] rfl rfl rfl rfl has15 rfl rfl (ref1_Within.c ((rd l x10).A) (-1) v1 v19 _ V12) (fun _ => ?_)
              refine atm_next (still_o [0, 0, 0, 0, 0] rfl) ?_
              refine atm_s T 8 hg pf (by kernel_rfl) (still_o [0, 0, 0, 0, 0] rfl) rfl ?_
              refine atm_one 7 (by kernel_rfl) ?_
              obtain ⟨v20, V13, Z10⟩ := bind_e Z10
              refine at_c (B := fun _ => []) [] rfl rfl rfl rfl has15 rfl rfl (ref1_Within.c ((rd l x10).B) (-1) v1 v20 _ V13) (fun _ => ?_)
              refine atm_next (still_o [0, 0, 0, 0, 0] rfl) ?_
              refine atm_one 9 (by kernel_rfl) ?_
              refine at_st T 4 [(.int .i64 (rd l x10).Kind), (.int .i64 v19), (.int .i64 (rd l x10).B)] rfl rfl rfl rfl rfl rfl rfl rfl rfl rfl ?_
              refine atm_next (still_l (by kernel_rfl)) ?_
              refine atm_s T 10 hg pf (by kernel_rfl) (still_l (by kernel_rfl)) rfl ?_
              refine atm_one 11 (by kernel_rfl) ?_
              refine at_st T 4 [(.int .i64 (rd l x10).Kind), (.int .i64 v19), (.int .i64 v20)] rfl rfl rfl rfl rfl rfl rfl rfl rfl rfl ?_
              refine atm_next (still_l (by kernel_rfl)) ?_
              refine atm_end (by kernel_rfl) ?_
              refine at_sub [(1, (.slice a_l (List.length l) n_l)), (2, (.bool raw)), (7, (.int .i64 v1)), (8, (.pointer (some ⟨b1, 0, none⟩))), (9, (.slice a7 (List.length x9) n7)), (10, (.int .i64 x10)), (11, (.pointer (some ⟨b11, 0, none⟩)))] ⟨rfl, rfl, rfl, rfl, rfl, rfl, rfl, trivial⟩ ?_
              refine at_then ?_
              obtain rfl := Option.some.inj Z10
              exact at_mid (v19, v20) [0, 0, 0, 0, 0] rfl ⟨rfl, rfl, rfl, rfl, rfl, rfl, rfl, trivial⟩ rfl
            · replace Z10 := if_f (bf c11) Z10
              refine at_skip ?_
              refine at_then ?_
              obtain rfl := Option.some.inj Z10
              exact at_mid ((rd l x10).A, (rd l x10).B) [0, 0, 0, 0, 0] rfl ⟨rfl, rfl, rfl, rfl, rfl, rfl, rfl, trivial⟩ rfl
          · rintro ⟨x16, x17⟩ rfl
            refine at_seq ?_
            refine at_region_q mix (by kernel_rfl) ?_
            refine atq_s T rfl ?_
            refine atq_v rfl rfl rfl (g_load T rfl rfl rfl rfl (in_var (j := 4) rfl rfl)) ?_
            iterate 2 refine atq_s T rfl ?_
            obtain ⟨v21, V14, Z8⟩ := bind_e Z8
            refine atq_c rfl rfl rfl rfl rfl rfl has17 rfl (ref1_In.c x16 0 (w64 (v1 - 1)) v21 _ V14) ?_
            refine atq_s T rfl ?_
            refine atq_v rfl rfl rfl (g_load T rfl rfl rfl rfl (in_var (j := 4) rfl rfl)) ?_
            iterate 2 refine atq_s T rfl ?_
            obtain ⟨v22, V15, Z8⟩ := bind_e Z8
            refine atq_c rfl rfl rfl rfl rfl rfl has17 rfl (ref1_In.c x17 0 (w64 (v1 - 1)) v22 _ V15) ?_
            iterate 2 refine atq_s T rfl ?_
            refine atq_end ?_
            refine at_sub [(1, (.slice a_l (List.length l) n_l)), (2, (.bool raw)), (7, (.int .i64 v1)), (8, (.pointer (some ⟨b1, 0, none⟩))), (9, (.slice a7 (List.length x9) n7)), (10, (.int .i64 x10)), (11, (.pointer (some ⟨b11, 0, none⟩))), (12, (.bool v21)), (13, (.bool v22))] ⟨rfl, rfl, rfl, rfl, rfl, rfl, rfl, rfl, rfl, trivial⟩ ?_
            refine at_then ?_
            obtain ⟨z26, Z16, Z8⟩ := bind_e Z8
            refine at_seq_mid (σ := List Int × Int × List Int × Option Addr × Nat × Hp × Option Addr × Nat × Hp) (fun ⟨x23, x24, x25, a12, n12, H12, a13, n13, H13⟩ => (Sum.inr (x23, x24, x25)) = z26 ∧ SliceO (Fl.int .u32) 30 x23 a12 n12 H12 ∧ SliceO (Fl.int .u32) 30 x25 a13 n13 H13) (fun ⟨x23, x24, x25, a12, n12, H12, a13, n13, H13⟩ => [(1, (.slice a_l (List.length l) n_l)), (2, (.bool raw)), (7, (.int .i64 v1)), (8, (.pointer (some ⟨b1, 0, none⟩))), (9, (.slice a13 (List.length x25) n13)), (10, (.int .i64 x10)), (11, (.pointer (some ⟨b11, 0, none⟩))), (12, (.bool v21))]) (fun ⟨x23, x24, x25, a12, n12, H12, a13, n13, H13⟩ => [F, [(b1, Obj.cells #[(.slice a12 (List.length x23) n12), (.int .i64 x24)] 76 (0, 0))], H12, H13, [(b11, Obj.cells #[(.int .i64 (rd l x10).Kind), (.int .i64 x16), (.int .i64 x17)] 28 (0, 0))]]) ?_ ?_
            · refine at_seq ?_
              refine at_region [0, 1, 2] rfl ?_
              refine at_s T rfl ?_
              refine at_v rfl (g_load T rfl rfl rfl rfl (in_var (j := 4) rfl rfl)) ?_
              obtain ⟨v27, V17, Z16⟩ := bind_e Z16
              refine at_cons (at_c (B := fun _ => []) [] rfl rfl rfl rfl has15 rfl rfl (ref1_Within.c ((rd l x10).Kind) 0 5 v27 _ V17) (fun _ => ?_))
              refine at_end ?_
              refine at_sub [(1, (.slice a_l (List.length l) n_l)), (2, (.bool raw)), (7, (.int .i64 v1)), (8, (.pointer (some ⟨b1, 0, none⟩))), (9, (.slice a7 (List.length x9) n7)), (10, (.int .i64 x10)), (11, (.pointer (some ⟨b11, 0, none⟩))), (12, (.bool v21)), (13, (.bool v22)), (66, (.int .i64 v27))] ⟨rfl, rfl, rfl, rfl, rfl, rfl, rfl, rfl, rfl, rfl, trivial⟩ ?_
              refine at_then ?_
              refine at_block ?_
              refine at_seq ?_
              refine at_region [0, 1] rfl ?_
              iterate 2 refine at_s T rfl ?_
              refine at_end ?_
              refine at_sub [(1, (.slice a_l (List.length l) n_l)), (2, (.bool raw)), (7, (.int .i64 v1)), (8, (.pointer (some ⟨b1, 0, none⟩))), (9, (.slice a7 (List.length x9) n7)), (10, (.int .i64 x10)), (11, (.pointer (some ⟨b11, 0, none⟩))), (12, (.bool v21)), (13, (.bool v22)), (66, (.int .i64 v27)), (98, (.bool (v27 == 3)))] ⟨rfl, rfl, rfl, rfl, rfl, rfl, rfl, rfl, rfl, rfl, rfl, trivial⟩ ?_
              refine at_then ?_
              refine at_cond rfl (fun c18 => ?_) (fun c18 => ?_)
              · replace Z16 := if_t c18 Z16
                refine at_seq ?_
                refine at_region [0] rfl ?_
                refine at_s T rfl ?_
                refine at_end ?_
                refine at_sub [(1, (.slice a_l (List.length l) n_l)), (2, (.bool raw)), (7, (.int .i64 v1)), (8, (.pointer (some ⟨b1, 0, none⟩))), (9, (.slice a7 (List.length x9) n7)), (10, (.int .i64 x10)), (11, (.pointer (some ⟨b11, 0, none⟩))), (12, (.bool v21)), (14, (.int .i64 (-1)))] ⟨rfl, rfl, rfl, rfl, rfl, rfl, rfl, rfl, rfl, trivial⟩ ?_
                refine at_then ?_
                refine at_seq ?_
                refine at_seq ?_
                refine at_region [0] rfl ?_
                refine at_s T rfl ?_
                refine at_end ?_
                refine at_sub [(1, (.slice a_l (List.length l) n_l)), (2, (.bool raw)), (7, (.int .i64 v1)), (8, (.pointer (some ⟨b1, 0, none⟩))), (9, (.slice a7 (List.length x9) n7)), (10, (.int .i64 x10)), (11, (.pointer (some ⟨b11, 0, none⟩))), (12, (.bool v21)), (14, (.int .i64 (-1))), (100, (.bool v21))] ⟨rfl, rfl, rfl, rfl, rfl, rfl, rfl, rfl, rfl, rfl, trivial⟩ ?_
                refine at_then ?_
                refine at_cond rfl (fun c19 => ?_) (fun c19 => ?_)
                · replace Z16 := if_t c19 Z16
                  refine at_seq ?_
                  refine at_region [0, 1, 2, 3, 4, 5, 6, 7] rfl ?_
                  iterate 2 refine at_s T rfl ?_
                  refine at_v rfl (g_load T rfl rfl rfl rfl (in_var (j := 4) rfl rfl)) ?_
                  obtain ⟨c20, Z16⟩ := chk_e Z16
                  obtain ⟨q14, o14, e14⟩ := s7.r.addr c20.1 c20.2
                  refine at_v rfl (g_index T rfl rfl rfl rfl rfl e14 c20.1 c20.2) ?_
                  refine at_v rfl (g_load T rfl rfl rfl rfl (in_elem1 (k := (Fl.int .u32)) (own_of s7 (j := 3) rfl) e14 c20 0 rfl)) ?_
                  iterate 3 refine at_s T rfl ?_
                  refine at_end ?_
                  refine at_sub [(1, (.slice a_l (List.length l) n_l)), (2, (.bool raw)), (7, (.int .i64 v1)), (8, (.pointer (some ⟨b1, 0, none⟩))), (9, (.slice a7 (List.length x9) n7)), (10, (.int .i64 x10)), (11, (.pointer (some ⟨b11, 0, none⟩))), (12, (.bool v21)), (14, (.int .i64 (w64 ((w64 (rd x9 x16)) - 1))))] ⟨rfl, rfl, rfl, rfl, rfl, rfl, rfl, rfl, rfl, trivial⟩ ?_
                  refine at_then ?_
                  refine at_region [0, 1, 2, 3, 4] rfl ?_
                  iterate 2 refine at_s T rfl ?_
                  refine at_v rfl (g_load T rfl rfl rfl rfl (in_var (j := 4) rfl rfl)) ?_
                  refine at_v rfl (g_index T rfl rfl rfl rfl rfl e14 c20.1 c20.2) ?_
                  refine at_cons (at_se (k := (Fl.int .u32)) T 3 0 0 rfl rfl rfl rfl rfl rfl s7 e14 c20 rfl rfl rfl (fun H15 s15 => ?_))
                  refine at_to [(1, (.slice a_l (List.length l) n_l)), (2, (.bool raw)), (7, (.int .i64 v1)), (8, (.pointer (some ⟨b1, 0, none⟩))), (9, (.slice a7 (List.length (List.set x9 (Int.toNat x16) 0)) n7)), (10, (.int .i64 x10)), (11, (.pointer (some ⟨b11, 0, none⟩))), (12, (.bool v21)), (14, (.int .i64 (w64 ((w64 (rd x9 x16)) - 1))))] [0, 0, 0, 0, 0] [F, [(b1, Obj.cells #[(.slice a6 (List.length x7) n6), (.int .i64 x8)] 76 (0, 0))], H6, H15, [(b11, Obj.cells #[(.int .i64 (rd l x10).Kind), (.int .i64 x16), (.int .i64 x17)] 28 (0, 0))]] ⟨rfl, rfl, rfl, rfl, (by simp only [List.length_set]; rfl), rfl, rfl, rfl, rfl, trivial⟩ rfl ?_
                  refine at_end ?_
                  refine at_sub [(1, (.slice a_l (List.length l) n_l)), (2, (.bool raw)), (7, (.int .i64 v1)), (8, (.pointer (some ⟨b1, 0, none⟩))), (9, (.slice a7 (List.length (List.set x9 (Int.toNat x16) 0)) n7)), (10, (.int .i64 x10)), (11, (.pointer (some ⟨b11, 0, none⟩))), (12, (.bool v21)), (14, (.int .i64 (w64 ((w64 (rd x9 x16)) - 1))))] ⟨rfl, rfl, rfl, rfl, rfl, rfl, rfl, rfl, rfl, trivial⟩ ?_
                  refine at_then ?_
                  refine at_seq ?_
                  refine at_region [0, 1, 2, 3, 4, 5] rfl ?_
                  iterate 2 refine at_s T rfl ?_
                  refine at_v rfl (g_load T rfl rfl rfl rfl (in_var (j := 4) rfl rfl)) ?_
                  obtain ⟨v28, V21, Z16⟩ := bind_e Z16
                  refine at_cons (at_cR (As := [[(b1, Obj.cells #[(.slice a6 (List.length x7) n6), (.int .i64 x8)] 76 (0, 0))], H6]) (R := [F, H15, [(b11, Obj.cells #[(.int .i64 (rd l x10).Kind), (.int .i64 x16), (.int .i64 x17)] 28 (0, 0))]]) (floor_Floor_Take.R b1 v28) [] [1, 1] rfl rfl rfl rfl has18 rfl rfl (floor_Floor_Take.c (floor_Floor.mk x7 x8) x16 v28 _ V21 s6) ?_)
                  rintro _ _ ⟨a16, n16, H16, s16, rfl, rfl⟩
                  iterate 2 refine at_s T rfl ?_
                  refine at_end ?_
                  refine at_sub [(1, (.slice a_l (List.length l) n_l)), (2, (.bool raw)), (7, (.int .i64 v1)), (8, (.pointer (some ⟨b1, 0, none⟩))), (9, (.slice a7 (List.length (List.set x9 (Int.toNat x16) 0)) n7)), (10, (.int .i64 x10)), (11, (.pointer (some ⟨b11, 0, none⟩))), (12, (.bool v21)), (117, (.bool (v28.1 != (w64 ((w64 (rd x9 x16)) - 1)))))] ⟨rfl, rfl, rfl, rfl, rfl, rfl, rfl, rfl, rfl, trivial⟩ ?_
                  refine at_then ?_
                  refine at_cond rfl (fun c22 => ?_) (fun c22 => ?_)
                  · replace Z16 := if_t c22 Z16
                    refine at_seq ?_
                    refine at_region [0] rfl ?_
                    refine at_s T rfl ?_
                    refine at_end ?_
                    refine at_to [(6, (.bool false))] [0] [F] ⟨rfl, trivial⟩ rfl ?_
                    refine at_then ?_
                    refine at_ret ?_
                    refine at_rb ?_
                    refine at_rt ?_
                    refine at_rb ?_
                    refine at_rt ?_
                    refine at_rt ?_
                    refine at_rb ?_
                    refine at_rt ?_
                    obtain rfl := Option.some.inj Z16
                    obtain rfl := Option.some.inj (show some (Sum.inl false) = some z15 from Z8)
                    obtain rfl := Option.some.inj (show some false = some r from Z5)
                    exact at_post (T := T) rfl (.tmp rfl .nil) (fun w o => ⟨(), rfl, own_to [0] rfl o⟩)
                  · replace Z16 := if_f (bf c22) Z16
                    refine at_skip ?_
                    refine at_nb ?_
                    refine at_then ?_
                    obtain rfl := Option.some.inj Z16
                    exact at_mid (v28.2.words, v28.2.count, (List.set x9 (Int.toNat x16) 0), a16, n16, H16, a7, n7, H15) [0, 2, 2, 0, 0] ⟨rfl, s16, s15⟩ ⟨rfl, rfl, rfl, rfl, rfl, rfl, rfl, rfl, trivial⟩ rfl
                · replace Z16 := if_f (bf c19) Z16
                  refine at_skip ?_
                  refine at_then ?_
                  refine at_seq ?_
                  refine at_region [0, 1, 2, 3, 4, 5] rfl ?_
                  iterate 2 refine at_s T rfl ?_
                  refine at_v rfl (g_load T rfl rfl rfl rfl (in_var (j := 4) rfl rfl)) ?_
                  obtain ⟨v29, V23, Z16⟩ := bind_e Z16
                  refine at_cons (at_cR (As := [[(b1, Obj.cells #[(.slice a6 (List.length x7) n6), (.int .i64 x8)] 76 (0, 0))], H6]) (R := [F, H7, [(b11, Obj.cells #[(.int .i64 (rd l x10).Kind), (.int .i64 x16), (.int .i64 x17)] 28 (0, 0))]]) (floor_Floor_Take.R b1 v29) [] [1, 1] rfl rfl rfl rfl has18 rfl rfl (floor_Floor_Take.c (floor_Floor.mk x7 x8) x16 v29 _ V23 s6) ?_)
                  rintro _ _ ⟨a17, n17, H17, s17, rfl, rfl⟩
                  iterate 2 refine at_s T rfl ?_
                  refine at_end ?_
                  refine at_sub [(1, (.slice a_l (List.length l) n_l)), (2, (.bool raw)), (7, (.int .i64 v1)), (8, (.pointer (some ⟨b1, 0, none⟩))), (9, (.slice a7 (List.length x9) n7)), (10, (.int .i64 x10)), (11, (.pointer (some ⟨b11, 0, none⟩))), (12, (.bool v21)), (117, (.bool (v29.1 != (-1))))] ⟨rfl, rfl, rfl, rfl, rfl, rfl, rfl, rfl, rfl, trivial⟩ ?_
                  refine at_then ?_
                  refine at_cond rfl (fun c24 => ?_) (fun c24 => ?_)
                  · replace Z16 := if_t c24 Z16
                    refine at_seq ?_
                    refine at_region [0] rfl ?_
                    refine at_s T rfl ?_
                    refine at_end ?_
                    refine at_to [(6, (.bool false))] [0] [F] ⟨rfl, trivial⟩ rfl ?_
                    refine at_then ?_
                    refine at_ret ?_
                    refine at_rb ?_
                    refine at_rt ?_
                    refine at_rb ?_
                    refine at_rt ?_
                    refine at_rt ?_
                    refine at_rb ?_
                    refine at_rt ?_
                    obtain rfl := Option.some.inj Z16
                    obtain rfl := Option.some.inj (show some (Sum.inl false) = some z15 from Z8)
                    obtain rfl := Option.some.inj (show some false = some r from Z5)
                    exact at_post (T := T) rfl (.tmp rfl .nil) (fun w o => ⟨(), rfl, own_to [0] rfl o⟩)
                  · replace Z16 := if_f (bf c24) Z16
                    refine at_skip ?_
                    refine at_nb ?_
                    refine at_then ?_
                    obtain rfl := Option.some.inj Z16
                    exact at_mid (v29.2.words, v29.2.count, x9, a17, n17, H17, a7, n7, H7) [0, 2, 2, 0, 0] ⟨rfl, s17, s7⟩ ⟨rfl, rfl, rfl, rfl, rfl, rfl, rfl, rfl, trivial⟩ rfl
              · replace Z16 := if_f (bf c18) Z16
                obtain ⟨z31, Z25, Z16⟩ := bind_e Z16
                refine at_seq_mid (σ := Bool) (fun x30 => x30 = z31) (fun x30 => [(1, (.slice a_l (List.length l) n_l)), (2, (.bool raw)), (7, (.int .i64 v1)), (8, (.pointer (some ⟨b1, 0, none⟩))), (9, (.slice a7 (List.length x9) n7)), (10, (.int .i64 x10)), (11, (.pointer (some ⟨b11, 0, none⟩))), (12, (.bool v21)), (13, (.bool v22)), (118, (.bool x30))]) (fun x30 => [F, [(b1, Obj.cells #[(.slice a6 (List.length x7) n6), (.int .i64 x8)] 76 (0, 0))], H6, H7, [(b11, Obj.cells #[(.int .i64 (rd l x10).Kind), (.int .i64 x16), (.int .i64 x17)] 28 (0, 0))]]) ?_ ?_
                · refine at_seq ?_
                  refine at_region [0, 1] rfl ?_
                  iterate 2 refine at_s T rfl ?_
                  refine at_end ?_
                  refine at_sub [(1, (.slice a_l (List.length l) n_l)), (2, (.bool raw)), (7, (.int .i64 v1)), (8, (.pointer (some ⟨b1, 0, none⟩))), (9, (.slice a7 (List.length x9) n7)), (10, (.int .i64 x10)), (11, (.pointer (some ⟨b11, 0, none⟩))), (12, (.bool v21)), (13, (.bool v22)), (66, (.int .i64 v27)), (118, (.bool (v27 == 4)))] ⟨rfl, rfl, rfl, rfl, rfl, rfl, rfl, rfl, rfl, rfl, rfl, trivial⟩ ?_
                  refine at_then ?_
                  refine at_cond rfl (fun c26 => ?_) (fun c26 => ?_)
                  · replace Z25 := if_t c26 Z25
                    refine at_skip ?_
                    refine at_then ?_
                    obtain rfl := Option.some.inj Z25
                    exact at_mid (v27 == 4) [0, 0, 0, 0, 0] rfl ⟨rfl, rfl, rfl, rfl, rfl, rfl, rfl, rfl, rfl, rfl, trivial⟩ rfl
                  · replace Z25 := if_f (bf c26) Z25
                    refine at_region [0, 1] rfl ?_
                    iterate 2 refine at_s T rfl ?_
                    refine at_end ?_
                    refine at_sub [(1, (.slice a_l (List.length l) n_l)), (2, (.bool raw)), (7, (.int .i64 v1)), (8, (.pointer (some ⟨b1, 0, none⟩))), (9, (.slice a7 (List.length x9) n7)), (10, (.int .i64 x10)), (11, (.pointer (some ⟨b11, 0, none⟩))), (12, (.bool v21)), (13, (.bool v22)), (118, (.bool (v27 == 5)))] ⟨rfl, rfl, rfl, rfl, rfl, rfl, rfl, rfl, rfl, rfl, trivial⟩ ?_
                    refine at_then ?_
                    obtain rfl := Option.some.inj Z25
                    exact at_mid (v27 == 5) [0, 0, 0, 0, 0] rfl ⟨rfl, rfl, rfl, rfl, rfl, rfl, rfl, rfl, rfl, rfl, trivial⟩ rfl
                · rintro x30 rfl
                  refine at_cond rfl (fun c27 => ?_) (fun c27 => ?_)
                  · replace Z16 := if_t c27 Z16
                    obtain ⟨z33, Z28, Z16⟩ := bind_e Z16
                    refine at_seq_mid (σ := Bool) (fun x32 => x32 = z33) (fun x32 => [(1, (.slice a_l (List.length l) n_l)), (2, (.bool raw)), (7, (.int .i64 v1)), (8, (.pointer (some ⟨b1, 0, none⟩))), (9, (.slice a7 (List.length x9) n7)), (10, (.int .i64 x10)), (11, (.pointer (some ⟨b11, 0, none⟩))), (12, (.bool v21)), (15, (.bool x32))]) (fun x32 => [F, [(b1, Obj.cells #[(.slice a6 (List.length x7) n6), (.int .i64 x8)] 76 (0, 0))], H6, H7, [(b11, Obj.cells #[(.int .i64 (rd l x10).Kind), (.int .i64 x16), (.int .i64 x17)] 28 (0, 0))]]) ?_ ?_
                    · refine at_region [0, 1, 2, 3, 4, 5, 6, 7, 8, 9, 10, 11, 12, 13, 14, 15, 16, 17, 18, 19, 20] rfl ?_
                      iterate 2 refine at_s T rfl ?_
                      refine at_grp T [2, 3] (s := 122) (c := v21) [(1, (.slice a_l (List.length l) n_l)), (2, (.bool raw)), (7, (.int .i64 v1)), (8, (.pointer (some ⟨b1, 0, none⟩))), (9, (.slice a7 (List.length x9) n7)), (10, (.int .i64 x10)), (11, (.pointer (some ⟨b11, 0, none⟩))), (12, (.bool v21)), (124, (.bool (v21 && v22)))] rfl rfl rfl (fun c29 => ⟨rfl, rfl, rfl, rfl, rfl, rfl, rfl, rfl, (by rw [c29]; rfl), trivial⟩) (fun c29 => ⟨rfl, rfl, rfl, rfl, rfl, rfl, rfl, rfl, (by rw [c29]; rfl), trivial⟩) ?_
                      refine at_s T rfl ?_
                      refine at_case (s := 125) rfl (fun c30 => ?_) (fun c30 => ?_)
                      · replace Z28 := if_t c30 Z28
                        iterate 2 refine at_s T rfl ?_
                        refine at_v rfl (g_load T rfl rfl rfl rfl (in_var (j := 4) rfl rfl)) ?_
                        obtain ⟨c31, Z28⟩ := chk_e Z28
                        obtain ⟨q18, o18, e18⟩ := s7.r.addr c31.1 c31.2
                        refine at_v rfl (g_index T rfl rfl rfl rfl rfl e18 c31.1 c31.2) ?_
                        refine at_v rfl (g_load T rfl rfl rfl rfl (in_elem1 (k := (Fl.int .u32)) (own_of s7 (j := 3) rfl) e18 c31 0 rfl)) ?_
                        iterate 3 refine at_s T rfl ?_
                        refine at_case (s := 133) rfl (fun c32 => ?_) (fun c32 => ?_)
                        · replace Z28 := if_t c32 Z28
                          iterate 2 refine at_s T rfl ?_
                          refine at_v rfl (g_load T rfl rfl rfl rfl (in_var (j := 4) rfl rfl)) ?_
                          obtain ⟨c33, Z28⟩ := chk_e Z28
                          refine at_v rfl (g_index T rfl rfl rfl rfl rfl e18 c33.1 c33.2) ?_
                          refine at_v rfl (g_load T rfl rfl rfl rfl (in_elem1 (k := (Fl.int .u32)) (own_of s7 (j := 3) rfl) e18 c33 0 rfl)) ?_
                          iterate 3 refine at_s T rfl ?_
                          refine at_end ?_
                          refine at_sub [(1, (.slice a_l (List.length l) n_l)), (2, (.bool raw)), (7, (.int .i64 v1)), (8, (.pointer (some ⟨b1, 0, none⟩))), (9, (.slice a7 (List.length x9) n7)), (10, (.int .i64 x10)), (11, (.pointer (some ⟨b11, 0, none⟩))), (12, (.bool v21)), (15, (.bool ((rd x9 x17) == 0)))] ⟨rfl, rfl, rfl, rfl, rfl, rfl, rfl, rfl, rfl, trivial⟩ ?_
                          refine at_then ?_
                          obtain rfl := Option.some.inj Z28
                          exact at_mid ((rd x9 x17) == 0) [0, 0, 0, 0, 0] rfl ⟨rfl, rfl, rfl, rfl, rfl, rfl, rfl, rfl, rfl, trivial⟩ rfl
                        · replace Z28 := if_f (bf c32) Z28
                          iterate 8 refine at_s T rfl ?_
                          refine at_end ?_
                          refine at_sub [(1, (.slice a_l (List.length l) n_l)), (2, (.bool raw)), (7, (.int .i64 v1)), (8, (.pointer (some ⟨b1, 0, none⟩))), (9, (.slice a7 (List.length x9) n7)), (10, (.int .i64 x10)), (11, (.pointer (some ⟨b11, 0, none⟩))), (12, (.bool v21)), (15, (.bool false))] ⟨rfl, rfl, rfl, rfl, rfl, rfl, rfl, rfl, rfl, trivial⟩ ?_
                          refine at_then ?_
                          obtain rfl := Option.some.inj Z28
                          exact at_mid false [0, 0, 0, 0, 0] rfl ⟨rfl, rfl, rfl, rfl, rfl, rfl, rfl, rfl, rfl, trivial⟩ rfl
                      · replace Z28 := if_f (bf c30) Z28
                        iterate 16 refine at_s T rfl ?_
                        refine at_end ?_
                        refine at_sub [(1, (.slice a_l (List.length l) n_l)), (2, (.bool raw)), (7, (.int .i64 v1)), (8, (.pointer (some ⟨b1, 0, none⟩))), (9, (.slice a7 (List.length x9) n7)), (10, (.int .i64 x10)), (11, (.pointer (some ⟨b11, 0, none⟩))), (12, (.bool v21)), (15, (.bool false))] ⟨rfl, rfl, rfl, rfl, rfl, rfl, rfl, rfl, rfl, trivial⟩ ?_
                        refine at_then ?_
                        obtain rfl := Option.some.inj Z28
                        exact at_mid false [0, 0, 0, 0, 0] rfl ⟨rfl, rfl, rfl, rfl, rfl, rfl, rfl, rfl, rfl, trivial⟩ rfl
                    · rintro x32 rfl
                      refine at_seq ?_
                      refine at_seq ?_
                      refine at_region [0] rfl ?_
                      refine at_s T rfl ?_
                      refine at_end ?_
                      refine at_sub [(1, (.slice a_l (List.length l) n_l)), (2, (.bool raw)), (7, (.int .i64 v1)), (8, (.pointer (some ⟨b1, 0, none⟩))), (9, (.slice a7 (List.length x9) n7)), (10, (.int .i64 x10)), (11, (.pointer (some ⟨b11, 0, none⟩))), (12, (.bool v21)), (15, (.bool x32)), (141, (.bool x32))] ⟨rfl, rfl, rfl, rfl, rfl, rfl, rfl, rfl, rfl, rfl, trivial⟩ ?_
                      refine at_then ?_
                      refine at_cond rfl (fun c34 => ?_) (fun c34 => ?_)
                      · replace Z16 := if_t c34 Z16
                        refine at_region_m [[], [], [1], [], [], [4], [], [], [7], [6, 7, 8], [6, 7, 8, 9], [0, 1, 2, 6, 7, 8, 9, 10], [0, 1, 2, 6, 7, 8, 9, 10, 11], [0, 1, 2, 3, 4, 5, 6, 7, 8, 9, 10, 11, 12], [0, 1, 2, 3, 4, 5, 6, 7, 8, 9, 10, 11, 12, 13]] [14] [F, [(b1, Obj.cells #[(.slice a6 (List.length x7) n6), (.int .i64 x8)] 76 (0, 0))], H6, [(b11, Obj.cells #[(.int .i64 (rd l x10).Kind), (.int .i64 x16), (.int .i64 x17)] 28 (0, 0))]] mix (by kernel_rfl) (by repeat first | exact pf_body | refine pf_then ?_ | refine pf_block ?_) (fun hg pf => ?_)
                        refine atm_s T 0 hg pf (by kernel_rfl) (still_o [0, 0, 0, 1] rfl) rfl ?_
                        refine atm_s T 1 hg pf (by kernel_rfl) (still_o [0, 0, 0, 1] rfl) rfl ?_
                        refine atm_v 2 hg pf (by kernel_rfl) (still_o [0, 0, 0, 1] rfl) rfl rfl (g_load T rfl rfl rfl rfl (in_var (j := 3) rfl rfl)) ?_
                        refine atm_s T 3 hg pf (by kernel_rfl) (still_o [0, 0, 0, 1] rfl) rfl ?_
                        refine atm_s T 4 hg pf (by kernel_rfl) (still_o [0, 0, 0, 1] rfl) rfl ?_
                        refine atm_v 5 hg pf (by kernel_rfl) (still_o [0, 0, 0, 1] rfl) rfl rfl (g_load T rfl rfl rfl rfl (in_var (j := 3) rfl rfl)) ?_
                        refine atm_s T 6 hg pf (by kernel_rfl) (still_o [0, 0, 0, 1] rfl) rfl ?_
                        refine atm_s T 7 hg pf (by kernel_rfl) (still_o [0, 0, 0, 1] rfl) rfl ?_
                        refine atm_v 8 hg pf (by kernel_rfl) (still_o [0, 0, 0, 1] rfl) rfl rfl (g_load T rfl rfl rfl rfl (in_var (j := 3) rfl rfl)) ?_
                        obtain ⟨c35, Z16⟩ := chk_e Z16
                        obtain ⟨q19, o19, e19⟩ := s7.r.addr c35.1 c35.2
                        refine atm_v 9 hg pf (by kernel_rfl) (still_o [0, 0, 0, 1] rfl) rfl rfl (g_index T rfl rfl rfl rfl rfl e19 c35.1 c35.2) ?_
                        refine atm_one 10 (by kernel_rfl) ?_
                        refine at_g rfl (g_load T rfl rfl rfl rfl (in_elem1 (k := (Fl.int .u32)) (own_of s7 (j := 3) rfl) e19 c35 0 rfl)) ?_
                        refine atm_next (still_o [0, 0, 0, 1] rfl) ?_
                        refine atm_v 11 hg pf (by kernel_rfl) (still_o [0, 0, 0, 1] rfl) rfl rfl (g_index T rfl rfl rfl rfl rfl e19 c35.1 c35.2) ?_
                        refine atm_one 12 (by kernel_rfl) ?_
                        refine at_se (k := (Fl.int .u32)) T 3 0 0 rfl rfl rfl rfl rfl rfl s7 e19 c35 rfl rfl rfl (fun H20 s20 => ?_)
                        refine at_to [(1, (.slice a_l (List.length l) n_l)), (2, (.bool raw)), (7, (.int .i64 v1)), (8, (.pointer (some ⟨b1, 0, none⟩))), (9, (.slice a7 (List.length (List.set x9 (Int.toNat x16) 0)) n7)), (10, (.int .i64 x10)), (11, (.pointer (some ⟨b11, 0, none⟩))), (12, (.bool v21)), (15, (.bool x32)), (141, (.bool x32)), (142, (.slice a7 (List.length (List.set x9 (Int.toNat x16) 0)) n7)), (143, (.pointer (some ⟨b11, 1, none⟩))), (144, (.int .i64 x16)), (145, (.slice a7 (List.length (List.set x9 (Int.toNat x16) 0)) n7)), (146, (.pointer (some ⟨b11, 2, none⟩))), (147, (.int .i64 x17)), (148, (.slice a7 (List.length (List.set x9 (Int.toNat x16) 0)) n7)), (149, (.pointer (some ⟨b11, 1, none⟩))), (150, (.int .i64 x16)), (151, (.pointer (some ⟨q19, o19 + Int.toNat x16 * 1, none⟩))), (152, (.int .u32 (rd x9 x16))), (153, (.pointer (some ⟨q19, o19 + Int.toNat x16 * 1, none⟩)))] [0, 0, 0, 0, 0] [F, [(b1, Obj.cells #[(.slice a6 (List.length x7) n6), (.int .i64 x8)] 76 (0, 0))], H6, H20, [(b11, Obj.cells #[(.int .i64 (rd l x10).Kind), (.int .i64 x16), (.int .i64 x17)] 28 (0, 0))]] ⟨rfl, rfl, rfl, rfl, (by simp only [List.length_set]; rfl), rfl, rfl, rfl, rfl, rfl, (by simp only [List.length_set]; rfl), rfl, rfl, (by simp only [List.length_set]; rfl), rfl, rfl, (by simp only [List.length_set]; rfl), rfl, rfl, rfl, rfl, rfl, trivial⟩ rfl ?_
                        refine atm_next (still_o [0, 0, 0, 1] rfl) ?_
                        obtain ⟨c36, Z16⟩ := chk_e Z16
                        refine atm_v 13 hg pf (by kernel_rfl) (still_o [0, 0, 0, 1] rfl) rfl rfl (g_index T rfl rfl rfl rfl rfl e19 c36.1 c36.2) ?_
                        refine atm_one 14 (by kernel_rfl) ?_
                        refine at_se (k := (Fl.int .u32)) T 3 0 (rd x9 x16) rfl rfl rfl rfl rfl rfl s20 e19 c36 rfl rfl rfl (fun H21 s21 => ?_)
                        refine at_to [(1, (.slice a_l (List.length l) n_l)), (2, (.bool raw)), (7, (.int .i64 v1)), (8, (.pointer (some ⟨b1, 0, none⟩))), (9, (.slice a7 (List.length (List.set (List.set x9 (Int.toNat x16) 0) (Int.toNat x17) (rd x9 x16))) n7)), (10, (.int .i64 x10)), (11, (.pointer (some ⟨b11, 0, none⟩))), (12, (.bool v21)), (15, (.bool x32)), (141, (.bool x32)), (142, (.slice a7 (List.length (List.set (List.set x9 (Int.toNat x16) 0) (Int.toNat x17) (rd x9 x16))) n7)), (143, (.pointer (some ⟨b11, 1, none⟩))), (144, (.int .i64 x16)), (145, (.slice a7 (List.length (List.set (List.set x9 (Int.toNat x16) 0) (Int.toNat x17) (rd x9 x16))) n7)), (146, (.pointer (some ⟨b11, 2, none⟩))), (147, (.int .i64 x17)), (148, (.slice a7 (List.length (List.set (List.set x9 (Int.toNat x16) 0) (Int.toNat x17) (rd x9 x16))) n7)), (149, (.pointer (some ⟨b11, 1, none⟩))), (150, (.int .i64 x16)), (151, (.pointer (some ⟨q19, o19 + Int.toNat x16 * 1, none⟩))), (152, (.int .u32 (rd x9 x16))), (153, (.pointer (some ⟨q19, o19 + Int.toNat x16 * 1, none⟩))), (154, (.pointer (some ⟨q19, o19 + Int.toNat x17 * 1, none⟩)))] [0, 0, 0, 0, 0] [F, [(b1, Obj.cells #[(.slice a6 (List.length x7) n6), (.int .i64 x8)] 76 (0, 0))], H6, H21, [(b11, Obj.cells #[(.int .i64 (rd l x10).Kind), (.int .i64 x16), (.int .i64 x17)] 28 (0, 0))]] ⟨rfl, rfl, rfl, rfl, (by simp only [List.length_set]; rfl), rfl, rfl, rfl, rfl, rfl, (by simp only [List.length_set]; rfl), rfl, rfl, (by simp only [List.length_set]; rfl), rfl, rfl, (by simp only [List.length_set]; rfl), rfl, rfl, rfl, rfl, rfl, rfl, trivial⟩ rfl ?_
                        refine atm_next (still_l (by kernel_rfl)) ?_
                        refine atm_end (by kernel_rfl) ?_
                        refine at_sub [(1, (.slice a_l (List.length l) n_l)), (2, (.bool raw)), (7, (.int .i64 v1)), (8, (.pointer (some ⟨b1, 0, none⟩))), (9, (.slice a7 (List.length (List.set (List.set x9 (Int.toNat x16) 0) (Int.toNat x17) (rd x9 x16))) n7)), (10, (.int .i64 x10)), (11, (.pointer (some ⟨b11, 0, none⟩))), (12, (.bool v21)), (15, (.bool x32))] ⟨rfl, rfl, rfl, rfl, rfl, rfl, rfl, rfl, rfl, trivial⟩ ?_
                        refine at_then ?_
                        refine at_seq ?_
                        refine at_region [0, 1, 2, 3, 4, 5, 6, 7] rfl ?_
                        iterate 2 refine at_s T rfl ?_
                        refine at_v rfl (g_load T rfl rfl rfl rfl (in_var (j := 4) rfl rfl)) ?_
                        refine at_s T rfl ?_
                        refine at_v rfl (g_load T rfl rfl rfl rfl (in_var (j := 4) rfl rfl)) ?_
                        obtain ⟨v34, V37, Z16⟩ := bind_e Z16
                        refine at_cons (at_cR (As := [[(b1, Obj.cells #[(.slice a6 (List.length x7) n6), (.int .i64 x8)] 76 (0, 0))], H6]) (R := [F, H21, [(b11, Obj.cells #[(.int .i64 (rd l x10).Kind), (.int .i64 x16), (.int .i64 x17)] 28 (0, 0))]]) (floor_Floor_Shift.R b1 v34) [] [1, 1] rfl rfl rfl rfl has19 rfl rfl (floor_Floor_Shift.c (floor_Floor.mk x7 x8) x16 x17 v34 _ V37 s6) ?_)
                        rintro _ _ ⟨a22, n22, H22, s22, rfl, rfl⟩
                        iterate 2 refine at_s T rfl ?_
                        refine at_end ?_
                        refine at_sub [(1, (.slice a_l (List.length l) n_l)), (2, (.bool raw)), (7, (.int .i64 v1)), (8, (.pointer (some ⟨b1, 0, none⟩))), (9, (.slice a7 (List.length (List.set (List.set x9 (Int.toNat x16) 0) (Int.toNat x17) (rd x9 x16))) n7)), (10, (.int .i64 x10)), (11, (.pointer (some ⟨b11, 0, none⟩))), (12, (.bool v21)), (162, (.bool (!(v34.1 == x32))))] ⟨rfl, rfl, rfl, rfl, rfl, rfl, rfl, rfl, rfl, trivial⟩ ?_
                        refine at_then ?_
                        refine at_cond rfl (fun c38 => ?_) (fun c38 => ?_)
                        · replace Z16 := if_t c38 Z16
                          refine at_seq ?_
                          refine at_region [0] rfl ?_
                          refine at_s T rfl ?_
                          refine at_end ?_
                          refine at_to [(6, (.bool false))] [0] [F] ⟨rfl, trivial⟩ rfl ?_
                          refine at_then ?_
                          refine at_ret ?_
                          refine at_rb ?_
                          refine at_rt ?_
                          refine at_rb ?_
                          refine at_rt ?_
                          refine at_rt ?_
                          refine at_rb ?_
                          refine at_rt ?_
                          obtain rfl := Option.some.inj Z16
                          obtain rfl := Option.some.inj (show some (Sum.inl false) = some z15 from Z8)
                          obtain rfl := Option.some.inj (show some false = some r from Z5)
                          exact at_post (T := T) rfl (.tmp rfl .nil) (fun w o => ⟨(), rfl, own_to [0] rfl o⟩)
                        · replace Z16 := if_f (bf c38) Z16
                          refine at_skip ?_
                          refine at_nb ?_
                          refine at_then ?_
                          obtain rfl := Option.some.inj Z16
                          exact at_mid (v34.2.words, v34.2.count, (List.set (List.set x9 (Int.toNat x16) 0) (Int.toNat x17) (rd x9 x16)), a22, n22, H22, a7, n7, H21) [0, 2, 2, 0, 0] ⟨rfl, s22, s21⟩ ⟨rfl, rfl, rfl, rfl, rfl, rfl, rfl, rfl, trivial⟩ rfl
                      · replace Z16 := if_f (bf c34) Z16
                        refine at_skip ?_
                        refine at_then ?_
                        refine at_seq ?_
                        refine at_region [0, 1, 2, 3, 4, 5, 6, 7] rfl ?_
                        iterate 2 refine at_s T rfl ?_
                        refine at_v rfl (g_load T rfl rfl rfl rfl (in_var (j := 4) rfl rfl)) ?_
                        refine at_s T rfl ?_
                        refine at_v rfl (g_load T rfl rfl rfl rfl (in_var (j := 4) rfl rfl)) ?_
                        obtain ⟨v35, V39, Z16⟩ := bind_e Z16
                        refine at_cons (at_cR (As := [[(b1, Obj.cells #[(.slice a6 (List.length x7) n6), (.int .i64 x8)] 76 (0, 0))], H6]) (R := [F, H7, [(b11, Obj.cells #[(.int .i64 (rd l x10).Kind), (.int .i64 x16), (.int .i64 x17)] 28 (0, 0))]]) (floor_Floor_Shift.R b1 v35) [] [1, 1] rfl rfl rfl rfl has19 rfl rfl (floor_Floor_Shift.c (floor_Floor.mk x7 x8) x16 x17 v35 _ V39 s6) ?_)
                        rintro _ _ ⟨a23, n23, H23, s23, rfl, rfl⟩
                        iterate 2 refine at_s T rfl ?_
                        refine at_end ?_
                        refine at_sub [(1, (.slice a_l (List.length l) n_l)), (2, (.bool raw)), (7, (.int .i64 v1)), (8, (.pointer (some ⟨b1, 0, none⟩))), (9, (.slice a7 (List.length x9) n7)), (10, (.int .i64 x10)), (11, (.pointer (some ⟨b11, 0, none⟩))), (12, (.bool v21)), (162, (.bool (!(v35.1 == x32))))] ⟨rfl, rfl, rfl, rfl, rfl, rfl, rfl, rfl, rfl, trivial⟩ ?_
                        refine at_then ?_
                        refine at_cond rfl (fun c40 => ?_) (fun c40 => ?_)
                        · replace Z16 := if_t c40 Z16
                          refine at_seq ?_
                          refine at_region [0] rfl ?_
                          refine at_s T rfl ?_
                          refine at_end ?_
                          refine at_to [(6, (.bool false))] [0] [F] ⟨rfl, trivial⟩ rfl ?_
                          refine at_then ?_
                          refine at_ret ?_
                          refine at_rb ?_
                          refine at_rt ?_
                          refine at_rb ?_
                          refine at_rt ?_
                          refine at_rt ?_
                          refine at_rb ?_
                          refine at_rt ?_
                          obtain rfl := Option.some.inj Z16
                          obtain rfl := Option.some.inj (show some (Sum.inl false) = some z15 from Z8)
                          obtain rfl := Option.some.inj (show some false = some r from Z5)
                          exact at_post (T := T) rfl (.tmp rfl .nil) (fun w o => ⟨(), rfl, own_to [0] rfl o⟩)
                        · replace Z16 := if_f (bf c40) Z16
                          refine at_skip ?_
                          refine at_nb ?_
                          refine at_then ?_
                          obtain rfl := Option.some.inj Z16
                          exact at_mid (v35.2.words, v35.2.count, x9, a23, n23, H23, a7, n7, H7) [0, 2, 2, 0, 0] ⟨rfl, s23, s7⟩ ⟨rfl, rfl, rfl, rfl, rfl, rfl, rfl, rfl, trivial⟩ rfl
                  · replace Z16 := if_f (bf c27) Z16
                    obtain ⟨z37, Z41, Z16⟩ := bind_e Z16
                    refine at_seq_mid (σ := Bool) (fun x36 => x36 = z37) (fun x36 => [(1, (.slice a_l (List.length l) n_l)), (2, (.bool raw)), (7, (.int .i64 v1)), (8, (.pointer (some ⟨b1, 0, none⟩))), (9, (.slice a7 (List.length x9) n7)), (10, (.int .i64 x10)), (11, (.pointer (some ⟨b11, 0, none⟩))), (12, (.bool v21)), (16, (.bool x36))]) (fun x36 => [F, [(b1, Obj.cells #[(.slice a6 (List.length x7) n6), (.int .i64 x8)] 76 (0, 0))], H6, H7, [(b11, Obj.cells #[(.int .i64 (rd l x10).Kind), (.int .i64 x16), (.int .i64 x17)] 28 (0, 0))]]) ?_ ?_
                    · refine at_region [0, 1, 2, 3, 4, 5, 6, 7, 8, 9, 10, 11, 12, 13, 14] rfl ?_
                      iterate 2 refine at_s T rfl ?_
                      refine at_case (s := 68) rfl (fun c42 => ?_) (fun c42 => ?_)
                      · replace Z41 := if_t c42 Z41
                        iterate 2 refine at_s T rfl ?_
                        refine at_v rfl (g_load T rfl rfl rfl rfl (in_var (j := 4) rfl rfl)) ?_
                        obtain ⟨c43, Z41⟩ := chk_e Z41
                        obtain ⟨q24, o24, e24⟩ := s7.r.addr c43.1 c43.2
                        refine at_v rfl (g_index T rfl rfl rfl rfl rfl e24 c43.1 c43.2) ?_
                        refine at_v rfl (g_load T rfl rfl rfl rfl (in_elem1 (k := (Fl.int .u32)) (own_of s7 (j := 3) rfl) e24 c43 0 rfl)) ?_
                        iterate 3 refine at_s T rfl ?_
                        refine at_case (s := 76) rfl (fun c44 => ?_) (fun c44 => ?_)
                        · replace Z41 := if_t c44 Z41
                          refine at_s T rfl ?_
                          refine at_v rfl (g_load T rfl rfl rfl rfl (in_var (j := 4) rfl rfl)) ?_
                          obtain ⟨v38, V45, Z41⟩ := bind_e Z41
                          refine at_cons (at_c (B := fun _ => []) [] rfl rfl rfl rfl has17 rfl rfl (ref1_In.c x17 0 4294967294 v38 _ V45) (fun _ => ?_))
                          iterate 2 refine at_s T rfl ?_
                          refine at_end ?_
                          refine at_sub [(1, (.slice a_l (List.length l) n_l)), (2, (.bool raw)), (7, (.int .i64 v1)), (8, (.pointer (some ⟨b1, 0, none⟩))), (9, (.slice a7 (List.length x9) n7)), (10, (.int .i64 x10)), (11, (.pointer (some ⟨b11, 0, none⟩))), (12, (.bool v21)), (16, (.bool v38))] ⟨rfl, rfl, rfl, rfl, rfl, rfl, rfl, rfl, rfl, trivial⟩ ?_
                          refine at_then ?_
                          obtain rfl := Option.some.inj Z41
                          exact at_mid v38 [0, 0, 0, 0, 0] rfl ⟨rfl, rfl, rfl, rfl, rfl, rfl, rfl, rfl, rfl, trivial⟩ rfl
                        · replace Z41 := if_f (bf c44) Z41
                          iterate 5 refine at_s T rfl ?_
                          refine at_end ?_
                          refine at_sub [(1, (.slice a_l (List.length l) n_l)), (2, (.bool raw)), (7, (.int .i64 v1)), (8, (.pointer (some ⟨b1, 0, none⟩))), (9, (.slice a7 (List.length x9) n7)), (10, (.int .i64 x10)), (11, (.pointer (some ⟨b11, 0, none⟩))), (12, (.bool v21)), (16, (.bool false))] ⟨rfl, rfl, rfl, rfl, rfl, rfl, rfl, rfl, rfl, trivial⟩ ?_
                          refine at_then ?_
                          obtain rfl := Option.some.inj Z41
                          exact at_mid false [0, 0, 0, 0, 0] rfl ⟨rfl, rfl, rfl, rfl, rfl, rfl, rfl, rfl, rfl, trivial⟩ rfl
                      · replace Z41 := if_f (bf c42) Z41
                        iterate 13 refine at_s T rfl ?_
                        refine at_end ?_
                        refine at_sub [(1, (.slice a_l (List.length l) n_l)), (2, (.bool raw)), (7, (.int .i64 v1)), (8, (.pointer (some ⟨b1, 0, none⟩))), (9, (.slice a7 (List.length x9) n7)), (10, (.int .i64 x10)), (11, (.pointer (some ⟨b11, 0, none⟩))), (12, (.bool v21)), (16, (.bool false))] ⟨rfl, rfl, rfl, rfl, rfl, rfl, rfl, rfl, rfl, trivial⟩ ?_
                        refine at_then ?_
                        obtain rfl := Option.some.inj Z41
                        exact at_mid false [0, 0, 0, 0, 0] rfl ⟨rfl, rfl, rfl, rfl, rfl, rfl, rfl, rfl, rfl, trivial⟩ rfl
                    · rintro x36 rfl
                      refine at_seq ?_
                      refine at_seq ?_
                      refine at_region [0] rfl ?_
                      refine at_s T rfl ?_
                      refine at_end ?_
                      refine at_sub [(1, (.slice a_l (List.length l) n_l)), (2, (.bool raw)), (7, (.int .i64 v1)), (8, (.pointer (some ⟨b1, 0, none⟩))), (9, (.slice a7 (List.length x9) n7)), (10, (.int .i64 x10)), (11, (.pointer (some ⟨b11, 0, none⟩))), (12, (.bool v21)), (16, (.bool x36)), (81, (.bool x36))] ⟨rfl, rfl, rfl, rfl, rfl, rfl, rfl, rfl, rfl, rfl, trivial⟩ ?_
                      refine at_then ?_
                      refine at_cond rfl (fun c46 => ?_) (fun c46 => ?_)
                      · replace Z16 := if_t c46 Z16
                        refine at_region [0, 1, 2, 3, 4, 5, 6, 7, 8] rfl ?_
                        iterate 2 refine at_s T rfl ?_
                        refine at_v rfl (g_load T rfl rfl rfl rfl (in_var (j := 4) rfl rfl)) ?_
                        refine at_s T rfl ?_
                        refine at_v rfl (g_load T rfl rfl rfl rfl (in_var (j := 4) rfl rfl)) ?_
                        iterate 2 refine at_s T rfl ?_
                        obtain ⟨c47, Z16⟩ := chk_e Z16
                        obtain ⟨q25, o25, e25⟩ := s7.r.addr c47.1 c47.2
                        refine at_v rfl (g_index T rfl rfl rfl rfl rfl e25 c47.1 c47.2) ?_
                        refine at_cons (at_se (k := (Fl.int .u32)) T 3 0 (wu32 (w64 (x17 + 1))) rfl rfl rfl rfl rfl rfl s7 e25 c47 rfl rfl rfl (fun H26 s26 => ?_))
                        refine at_to [(1, (.slice a_l (List.length l) n_l)), (2, (.bool raw)), (7, (.int .i64 v1)), (8, (.pointer (some ⟨b1, 0, none⟩))), (9, (.slice a7 (List.length (List.set x9 (Int.toNat x16) (wu32 (w64 (x17 + 1))))) n7)), (10, (.int .i64 x10)), (11, (.pointer (some ⟨b11, 0, none⟩))), (12, (.bool v21)), (16, (.bool x36))] [0, 0, 0, 0, 0] [F, [(b1, Obj.cells #[(.slice a6 (List.length x7) n6), (.int .i64 x8)] 76 (0, 0))], H6, H26, [(b11, Obj.cells #[(.int .i64 (rd l x10).Kind), (.int .i64 x16), (.int .i64 x17)] 28 (0, 0))]] ⟨rfl, rfl, rfl, rfl, (by simp only [List.length_set]; rfl), rfl, rfl, rfl, rfl, trivial⟩ rfl ?_
                        refine at_end ?_
                        refine at_sub [(1, (.slice a_l (List.length l) n_l)), (2, (.bool raw)), (7, (.int .i64 v1)), (8, (.pointer (some ⟨b1, 0, none⟩))), (9, (.slice a7 (List.length (List.set x9 (Int.toNat x16) (wu32 (w64 (x17 + 1))))) n7)), (10, (.int .i64 x10)), (11, (.pointer (some ⟨b11, 0, none⟩))), (12, (.bool v21)), (16, (.bool x36))] ⟨rfl, rfl, rfl, rfl, rfl, rfl, rfl, rfl, rfl, trivial⟩ ?_
                        refine at_then ?_
                        refine at_seq ?_
                        refine at_region [0, 1, 2, 3, 4, 5, 6, 7] rfl ?_
                        iterate 2 refine at_s T rfl ?_
                        refine at_v rfl (g_load T rfl rfl rfl rfl (in_var (j := 4) rfl rfl)) ?_
                        refine at_s T rfl ?_
                        refine at_v rfl (g_load T rfl rfl rfl rfl (in_var (j := 4) rfl rfl)) ?_
                        obtain ⟨v39, V48, Z16⟩ := bind_e Z16
                        refine at_cons (at_cR (As := [[(b1, Obj.cells #[(.slice a6 (List.length x7) n6), (.int .i64 x8)] 76 (0, 0))], H6]) (R := [F, H26, [(b11, Obj.cells #[(.int .i64 (rd l x10).Kind), (.int .i64 x16), (.int .i64 x17)] 28 (0, 0))]]) (floor_Floor_Put.R b1 v39) [] [1, 1] rfl rfl rfl rfl has20 rfl rfl (floor_Floor_Put.c (floor_Floor.mk x7 x8) x16 x17 v39 _ V48 s6) ?_)
                        rintro _ _ ⟨a27, n27, H27, s27, rfl, rfl⟩
                        iterate 2 refine at_s T rfl ?_
                        refine at_end ?_
                        refine at_sub [(1, (.slice a_l (List.length l) n_l)), (2, (.bool raw)), (7, (.int .i64 v1)), (8, (.pointer (some ⟨b1, 0, none⟩))), (9, (.slice a7 (List.length (List.set x9 (Int.toNat x16) (wu32 (w64 (x17 + 1))))) n7)), (10, (.int .i64 x10)), (11, (.pointer (some ⟨b11, 0, none⟩))), (12, (.bool v21)), (97, (.bool (!(v39.1 == x36))))] ⟨rfl, rfl, rfl, rfl, rfl, rfl, rfl, rfl, rfl, trivial⟩ ?_
                        refine at_then ?_
                        refine at_cond rfl (fun c49 => ?_) (fun c49 => ?_)
                        · replace Z16 := if_t c49 Z16
                          refine at_seq ?_
                          refine at_region [0] rfl ?_
                          refine at_s T rfl ?_
                          refine at_end ?_
                          refine at_to [(6, (.bool false))] [0] [F] ⟨rfl, trivial⟩ rfl ?_
                          refine at_then ?_
                          refine at_ret ?_
                          refine at_rb ?_
                          refine at_rt ?_
                          refine at_rb ?_
                          refine at_rt ?_
                          refine at_rt ?_
                          refine at_rb ?_
                          refine at_rt ?_
                          obtain rfl := Option.some.inj Z16
                          obtain rfl := Option.some.inj (show some (Sum.inl false) = some z15 from Z8)
                          obtain rfl := Option.some.inj (show some false = some r from Z5)
                          exact at_post (T := T) rfl (.tmp rfl .nil) (fun w o => ⟨(), rfl, own_to [0] rfl o⟩)
                        · replace Z16 := if_f (bf c49) Z16
                          refine at_skip ?_
                          refine at_nb ?_
                          refine at_then ?_
                          obtain rfl := Option.some.inj Z16
                          exact at_mid (v39.2.words, v39.2.count, (List.set x9 (Int.toNat x16) (wu32 (w64 (x17 + 1)))), a27, n27, H27, a7, n7, H26) [0, 2, 2, 0, 0] ⟨rfl, s27, s26⟩ ⟨rfl, rfl, rfl, rfl, rfl, rfl, rfl, rfl, trivial⟩ rfl
                      · replace Z16 := if_f (bf c46) Z16
                        refine at_skip ?_
                        refine at_then ?_
                        refine at_seq ?_
                        refine at_region [0, 1, 2, 3, 4, 5, 6, 7] rfl ?_
                        iterate 2 refine at_s T rfl ?_
                        refine at_v rfl (g_load T rfl rfl rfl rfl (in_var (j := 4) rfl rfl)) ?_
                        refine at_s T rfl ?_
                        refine at_v rfl (g_load T rfl rfl rfl rfl (in_var (j := 4) rfl rfl)) ?_
                        obtain ⟨v40, V50, Z16⟩ := bind_e Z16
                        refine at_cons (at_cR (As := [[(b1, Obj.cells #[(.slice a6 (List.length x7) n6), (.int .i64 x8)] 76 (0, 0))], H6]) (R := [F, H7, [(b11, Obj.cells #[(.int .i64 (rd l x10).Kind), (.int .i64 x16), (.int .i64 x17)] 28 (0, 0))]]) (floor_Floor_Put.R b1 v40) [] [1, 1] rfl rfl rfl rfl has20 rfl rfl (floor_Floor_Put.c (floor_Floor.mk x7 x8) x16 x17 v40 _ V50 s6) ?_)
                        rintro _ _ ⟨a28, n28, H28, s28, rfl, rfl⟩
                        iterate 2 refine at_s T rfl ?_
                        refine at_end ?_
                        refine at_sub [(1, (.slice a_l (List.length l) n_l)), (2, (.bool raw)), (7, (.int .i64 v1)), (8, (.pointer (some ⟨b1, 0, none⟩))), (9, (.slice a7 (List.length x9) n7)), (10, (.int .i64 x10)), (11, (.pointer (some ⟨b11, 0, none⟩))), (12, (.bool v21)), (97, (.bool (!(v40.1 == x36))))] ⟨rfl, rfl, rfl, rfl, rfl, rfl, rfl, rfl, rfl, trivial⟩ ?_
                        refine at_then ?_
                        refine at_cond rfl (fun c51 => ?_) (fun c51 => ?_)
                        · replace Z16 := if_t c51 Z16
                          refine at_seq ?_
                          refine at_region [0] rfl ?_
                          refine at_s T rfl ?_
                          refine at_end ?_
                          refine at_to [(6, (.bool false))] [0] [F] ⟨rfl, trivial⟩ rfl ?_
                          refine at_then ?_
                          refine at_ret ?_
                          refine at_rb ?_
                          refine at_rt ?_
                          refine at_rb ?_
                          refine at_rt ?_
                          refine at_rt ?_
                          refine at_rb ?_
                          refine at_rt ?_
                          obtain rfl := Option.some.inj Z16
                          obtain rfl := Option.some.inj (show some (Sum.inl false) = some z15 from Z8)
                          obtain rfl := Option.some.inj (show some false = some r from Z5)
                          exact at_post (T := T) rfl (.tmp rfl .nil) (fun w o => ⟨(), rfl, own_to [0] rfl o⟩)
                        · replace Z16 := if_f (bf c51) Z16
                          refine at_skip ?_
                          refine at_nb ?_
                          refine at_then ?_
                          obtain rfl := Option.some.inj Z16
                          exact at_mid (v40.2.words, v40.2.count, x9, a28, n28, H28, a7, n7, H7) [0, 2, 2, 0, 0] ⟨rfl, s28, s7⟩ ⟨rfl, rfl, rfl, rfl, rfl, rfl, rfl, rfl, trivial⟩ rfl
            · rintro ⟨x23, x24, x25, a12, n12, H12, a13, n13, H13⟩ ⟨rfl, s12, s13⟩
              refine at_seq ?_
              refine at_region [0, 1] rfl ?_
              iterate 2 refine at_s T rfl ?_
              refine at_end ?_
              refine at_sub [(1, (.slice a_l (List.length l) n_l)), (2, (.bool raw)), (7, (.int .i64 v1)), (8, (.pointer (some ⟨b1, 0, none⟩))), (9, (.slice a13 (List.length x25) n13)), (10, (.int .i64 x10)), (11, (.pointer (some ⟨b11, 0, none⟩))), (12, (.bool v21)), (17, (.int .i64 (-1))), (18, (.int .i64 0))] ⟨rfl, rfl, rfl, rfl, rfl, rfl, rfl, rfl, rfl, rfl, trivial⟩ ?_
              refine at_then ?_
              obtain ⟨z42, Z52, Z8⟩ := bind_e Z8
              refine at_seq_mid (σ := Int) (fun x41 => x41 = z42) (fun x41 => [(1, (.slice a_l (List.length l) n_l)), (2, (.bool raw)), (7, (.int .i64 v1)), (8, (.pointer (some ⟨b1, 0, none⟩))), (9, (.slice a13 (List.length x25) n13)), (10, (.int .i64 x10)), (11, (.pointer (some ⟨b11, 0, none⟩))), (17, (.int .i64 x41)), (18, (.int .i64 0))]) (fun x41 => [F, [(b1, Obj.cells #[(.slice a12 (List.length x23) n12), (.int .i64 x24)] 76 (0, 0))], H12, H13, [(b11, Obj.cells #[(.int .i64 (rd l x10).Kind), (.int .i64 x16), (.int .i64 x17)] 28 (0, 0))]]) ?_ ?_
              · refine at_seq ?_
                refine at_region [0] rfl ?_
                refine at_s T rfl ?_
                refine at_end ?_
                refine at_sub [(1, (.slice a_l (List.length l) n_l)), (2, (.bool raw)), (7, (.int .i64 v1)), (8, (.pointer (some ⟨b1, 0, none⟩))), (9, (.slice a13 (List.length x25) n13)), (10, (.int .i64 x10)), (11, (.pointer (some ⟨b11, 0, none⟩))), (17, (.int .i64 (-1))), (18, (.int .i64 0)), (163, (.bool v21))] ⟨rfl, rfl, rfl, rfl, rfl, rfl, rfl, rfl, rfl, rfl, trivial⟩ ?_
                refine at_then ?_
                refine at_cond rfl (fun c53 => ?_) (fun c53 => ?_)
                · replace Z52 := if_t c53 Z52
                  refine at_region [0, 1, 2, 3, 4, 5, 6, 7] rfl ?_
                  iterate 2 refine at_s T rfl ?_
                  refine at_v rfl (g_load T rfl rfl rfl rfl (in_var (j := 4) rfl rfl)) ?_
                  obtain ⟨c54, Z52⟩ := chk_e Z52
                  obtain ⟨q29, o29, e29⟩ := s13.r.addr c54.1 c54.2
                  refine at_v rfl (g_index T rfl rfl rfl rfl rfl e29 c54.1 c54.2) ?_
                  refine at_v rfl (g_load T rfl rfl rfl rfl (in_elem1 (k := (Fl.int .u32)) (own_of s13 (j := 3) rfl) e29 c54 0 rfl)) ?_
                  iterate 3 refine at_s T rfl ?_
                  refine at_end ?_
                  refine at_sub [(1, (.slice a_l (List.length l) n_l)), (2, (.bool raw)), (7, (.int .i64 v1)), (8, (.pointer (some ⟨b1, 0, none⟩))), (9, (.slice a13 (List.length x25) n13)), (10, (.int .i64 x10)), (11, (.pointer (some ⟨b11, 0, none⟩))), (17, (.int .i64 (w64 ((w64 (rd x25 x16)) - 1)))), (18, (.int .i64 0))] ⟨rfl, rfl, rfl, rfl, rfl, rfl, rfl, rfl, rfl, trivial⟩ ?_
                  refine at_then ?_
                  obtain rfl := Option.some.inj Z52
                  exact at_mid (w64 ((w64 (rd x25 x16)) - 1)) [0, 0, 0, 0, 0] rfl ⟨rfl, rfl, rfl, rfl, rfl, rfl, rfl, rfl, rfl, trivial⟩ rfl
                · replace Z52 := if_f (bf c53) Z52
                  refine at_skip ?_
                  refine at_then ?_
                  obtain rfl := Option.some.inj Z52
                  exact at_mid (-1) [0, 0, 0, 0, 0] rfl ⟨rfl, rfl, rfl, rfl, rfl, rfl, rfl, rfl, rfl, trivial⟩ rfl
              · rintro x41 rfl
                refine at_seq ?_
                refine at_seq ?_
                refine at_region [0] rfl ?_
                refine at_s T rfl ?_
                refine at_end ?_
                refine at_sub [(1, (.slice a_l (List.length l) n_l)), (2, (.bool raw)), (7, (.int .i64 v1)), (8, (.pointer (some ⟨b1, 0, none⟩))), (9, (.slice a13 (List.length x25) n13)), (10, (.int .i64 x10)), (11, (.pointer (some ⟨b11, 0, none⟩))), (17, (.int .i64 x41)), (18, (.int .i64 0)), (19, (.int .i64 0))] ⟨rfl, rfl, rfl, rfl, rfl, rfl, rfl, rfl, rfl, rfl, trivial⟩ ?_
                refine at_then ?_
                refine at_block ?_
                refine at_loopL (σ := Nat × Int × Int) (fun ⟨k47, x45, x46⟩ => law22_FloorPlays.l1 k47 v1 x23 x16 x25 x41 x24 x45 x46 = some z15) (fun ⟨k47, x45, x46⟩ => [(1, (.slice a_l (List.length l) n_l)), (2, (.bool raw)), (7, (.int .i64 v1)), (8, (.pointer (some ⟨b1, 0, none⟩))), (9, (.slice a13 (List.length x25) n13)), (10, (.int .i64 x10)), (11, (.pointer (some ⟨b11, 0, none⟩))), (17, (.int .i64 x41)), (18, (.int .i64 x45)), (19, (.int .i64 x46))]) (fun ⟨k47, x45, x46⟩ => [F, [(b1, Obj.cells #[(.slice a12 (List.length x23) n12), (.int .i64 x24)] 76 (0, 0))], H12, H13, [(b11, Obj.cells #[(.int .i64 (rd l x10).Kind), (.int .i64 x16), (.int .i64 x17)] 28 (0, 0))]]) (fun s => s.1) (fuel, 0, 0) [0, 0, 0, 0, 0] Z8 ⟨rfl, rfl, rfl, rfl, rfl, rfl, rfl, rfl, rfl, rfl, trivial⟩ rfl ?_
                rintro ⟨k47, x45, x46⟩ Z55
                replace Z55 : law22_FloorPlays.l1 k47 v1 x23 x16 x25 x41 x24 x45 x46 = some z15 := Z55
                rcases k47 with _ | k47
                · rw [law22_FloorPlays.l1] at Z55; cases Z55
                · rw [law22_FloorPlays.l1] at Z55
                  refine at_seq ?_
                  refine at_seq ?_
                  refine at_region [0, 1, 2] rfl ?_
                  iterate 3 refine at_s T rfl ?_
                  refine at_end ?_
                  refine at_sub [(1, (.slice a_l (List.length l) n_l)), (2, (.bool raw)), (7, (.int .i64 v1)), (8, (.pointer (some ⟨b1, 0, none⟩))), (9, (.slice a13 (List.length x25) n13)), (10, (.int .i64 x10)), (11, (.pointer (some ⟨b11, 0, none⟩))), (17, (.int .i64 x41)), (18, (.int .i64 x45)), (19, (.int .i64 x46)), (173, (.bool (decide (x46 < v1))))] ⟨rfl, rfl, rfl, rfl, rfl, rfl, rfl, rfl, rfl, rfl, rfl, trivial⟩ ?_
                  refine at_then ?_
                  refine at_cond rfl (fun c56 => ?_) (fun c56 => ?_)
                  · replace Z55 := if_t (of_decide_eq_true c56) Z55
                    refine at_skip ?_
                    refine at_then ?_
                    refine at_seq ?_
                    refine at_block ?_
                    refine at_seq ?_
                    refine at_region [0, 1, 2, 3, 4] rfl ?_
                    iterate 2 refine at_s T rfl ?_
                    obtain ⟨c57, Z55⟩ := chk_e Z55
                    obtain ⟨q30, o30, e30⟩ := s13.r.addr c57.1 c57.2
                    refine at_v rfl (g_index T rfl rfl rfl rfl rfl e30 c57.1 c57.2) ?_
                    refine at_v rfl (g_load T rfl rfl rfl rfl (in_elem1 (k := (Fl.int .u32)) (own_of s13 (j := 3) rfl) e30 c57 0 rfl)) ?_
                    refine at_s T rfl ?_
                    refine at_end ?_
                    refine at_sub [(1, (.slice a_l (List.length l) n_l)), (2, (.bool raw)), (7, (.int .i64 v1)), (8, (.pointer (some ⟨b1, 0, none⟩))), (9, (.slice a13 (List.length x25) n13)), (10, (.int .i64 x10)), (11, (.pointer (some ⟨b11, 0, none⟩))), (17, (.int .i64 x41)), (18, (.int .i64 x45)), (19, (.int .i64 x46)), (180, (.bool ((rd x25 x46) != 0)))] ⟨rfl, rfl, rfl, rfl, rfl, rfl, rfl, rfl, rfl, rfl, rfl, trivial⟩ ?_
                    refine at_then ?_
                    refine at_cond rfl (fun c58 => ?_) (fun c58 => ?_)
                    · replace Z55 := if_t c58 Z55
                      refine at_region [0, 1, 2] rfl ?_
                      iterate 3 refine at_s T rfl ?_
                      refine at_end ?_
                      refine at_sub [(1, (.slice a_l (List.length l) n_l)), (2, (.bool raw)), (7, (.int .i64 v1)), (8, (.pointer (some ⟨b1, 0, none⟩))), (9, (.slice a13 (List.length x25) n13)), (10, (.int .i64 x10)), (11, (.pointer (some ⟨b11, 0, none⟩))), (17, (.int .i64 x41)), (18, (.int .i64 (w64 (x45 + 1)))), (19, (.int .i64 x46))] ⟨rfl, rfl, rfl, rfl, rfl, rfl, rfl, rfl, rfl, rfl, trivial⟩ ?_
                      refine at_nb ?_
                      refine at_then ?_
                      refine at_region [0, 1, 2] rfl ?_
                      iterate 3 refine at_s T rfl ?_
                      refine at_end ?_
                      refine at_sub [(1, (.slice a_l (List.length l) n_l)), (2, (.bool raw)), (7, (.int .i64 v1)), (8, (.pointer (some ⟨b1, 0, none⟩))), (9, (.slice a13 (List.length x25) n13)), (10, (.int .i64 x10)), (11, (.pointer (some ⟨b11, 0, none⟩))), (17, (.int .i64 x41)), (18, (.int .i64 (w64 (x45 + 1)))), (19, (.int .i64 (w64 (x46 + 1))))] ⟨rfl, rfl, rfl, rfl, rfl, rfl, rfl, rfl, rfl, rfl, trivial⟩ ?_
                      refine at_then ?_
                      exact at_roundL (k47, (w64 (x45 + 1)), (w64 (x46 + 1))) [0, 0, 0, 0, 0] Z55 (Nat.lt_succ_self _) ⟨rfl, rfl, rfl, rfl, rfl, rfl, rfl, rfl, rfl, rfl, trivial⟩ rfl
                    · replace Z55 := if_f (bf c58) Z55
                      refine at_skip ?_
                      refine at_nb ?_
                      refine at_then ?_
                      refine at_region [0, 1, 2] rfl ?_
                      iterate 3 refine at_s T rfl ?_
                      refine at_end ?_
                      refine at_sub [(1, (.slice a_l (List.length l) n_l)), (2, (.bool raw)), (7, (.int .i64 v1)), (8, (.pointer (some ⟨b1, 0, none⟩))), (9, (.slice a13 (List.length x25) n13)), (10, (.int .i64 x10)), (11, (.pointer (some ⟨b11, 0, none⟩))), (17, (.int .i64 x41)), (18, (.int .i64 x45)), (19, (.int .i64 (w64 (x46 + 1))))] ⟨rfl, rfl, rfl, rfl, rfl, rfl, rfl, rfl, rfl, rfl, trivial⟩ ?_
                      refine at_then ?_
                      exact at_roundL (k47, x45, (w64 (x46 + 1))) [0, 0, 0, 0, 0] Z55 (Nat.lt_succ_self _) ⟨rfl, rfl, rfl, rfl, rfl, rfl, rfl, rfl, rfl, rfl, trivial⟩ rfl
                  · replace Z55 := if_f (of_decide_eq_false c56) Z55
                    refine at_exit ?_
                    refine at_xt ?_
                    refine at_xt ?_
                    refine at_xb ?_
                    refine at_then ?_
                    obtain ⟨z49, Z59, Z55⟩ := bind_e Z55
                    refine at_seq_mid (σ := Bool) (fun x48 => x48 = z49) (fun x48 => [(1, (.slice a_l (List.length l) n_l)), (2, (.bool raw)), (7, (.int .i64 v1)), (8, (.pointer (some ⟨b1, 0, none⟩))), (9, (.slice a13 (List.length x25) n13)), (10, (.int .i64 x10)), (194, (.bool x48))]) (fun x48 => [F, [(b1, Obj.cells #[(.slice a12 (List.length x23) n12), (.int .i64 x24)] 76 (0, 0))], H12, H13]) ?_ ?_
                    · refine at_region [0, 1, 2, 3, 4, 5, 6, 7, 8, 9, 10, 11] rfl ?_
                      iterate 2 refine at_s T rfl ?_
                      refine at_v rfl (g_load T rfl rfl rfl rfl (in_var (j := 4) rfl rfl)) ?_
                      obtain ⟨v50, V60, Z59⟩ := bind_e Z59
                      refine at_cons (at_c (As := [[(b1, Obj.cells #[(.slice a12 (List.length x23) n12), (.int .i64 x24)] 76 (0, 0))], H12]) (R := [F, H13, [(b11, Obj.cells #[(.int .i64 (rd l x10).Kind), (.int .i64 x16), (.int .i64 x17)] 28 (0, 0))]]) (B := fun _ => [[(b1, Obj.cells #[(.slice a12 (List.length x23) n12), (.int .i64 x24)] 76 (0, 0))], H12]) [1, 1] rfl rfl rfl rfl has21 rfl rfl (floor_Floor_Who.c (floor_Floor.mk x23 x24) x16 v50 _ V60 s12) (fun _ => ?_))
                      iterate 3 refine at_s T rfl ?_
                      refine at_case (s := 189) rfl (fun c61 => ?_) (fun c61 => ?_)
                      · replace Z59 := if_t c61 Z59
                        iterate 5 refine at_s T rfl ?_
                        refine at_end ?_
                        refine at_to [(1, (.slice a_l (List.length l) n_l)), (2, (.bool raw)), (7, (.int .i64 v1)), (8, (.pointer (some ⟨b1, 0, none⟩))), (9, (.slice a13 (List.length x25) n13)), (10, (.int .i64 x10)), (194, (.bool true))] [0, 0, 1, 1] [F, H13, [(b1, Obj.cells #[(.slice a12 (List.length x23) n12), (.int .i64 x24)] 76 (0, 0))], H12] ⟨rfl, rfl, rfl, rfl, rfl, rfl, rfl, trivial⟩ rfl ?_
                        refine at_then ?_
                        obtain rfl := Option.some.inj Z59
                        exact at_mid true [0, 1, 1, 0] rfl ⟨rfl, rfl, rfl, rfl, rfl, rfl, rfl, trivial⟩ rfl
                      · replace Z59 := if_f (bf c61) Z59
                        refine at_s T rfl ?_
                        obtain ⟨v51, V62, Z59⟩ := bind_e Z59
                        refine at_cons (at_c (As := [[(b1, Obj.cells #[(.slice a12 (List.length x23) n12), (.int .i64 x24)] 76 (0, 0))], H12]) (R := [F, H13, [(b11, Obj.cells #[(.int .i64 (rd l x10).Kind), (.int .i64 x16), (.int .i64 x17)] 28 (0, 0))]]) (B := fun _ => [[(b1, Obj.cells #[(.slice a12 (List.length x23) n12), (.int .i64 x24)] 76 (0, 0))], H12]) [3, 3] rfl rfl rfl rfl has22 rfl rfl (floor_Floor_Count.c (floor_Floor.mk x23 x24) v51 _ V62 s12) (fun _ => ?_))
                        iterate 3 refine at_s T rfl ?_
                        refine at_end ?_
                        refine at_to [(1, (.slice a_l (List.length l) n_l)), (2, (.bool raw)), (7, (.int .i64 v1)), (8, (.pointer (some ⟨b1, 0, none⟩))), (9, (.slice a13 (List.length x25) n13)), (10, (.int .i64 x10)), (194, (.bool (v51 != x45)))] [0, 0, 1, 1] [F, H13, [(b1, Obj.cells #[(.slice a12 (List.length x23) n12), (.int .i64 x24)] 76 (0, 0))], H12] ⟨rfl, rfl, rfl, rfl, rfl, rfl, rfl, trivial⟩ rfl ?_
                        refine at_then ?_
                        obtain rfl := Option.some.inj Z59
                        exact at_mid (v51 != x45) [0, 1, 1, 0] rfl ⟨rfl, rfl, rfl, rfl, rfl, rfl, rfl, trivial⟩ rfl
                    · rintro x48 rfl
                      refine at_cond rfl (fun c63 => ?_) (fun c63 => ?_)
                      · replace Z55 := if_t c63 Z55
                        refine at_seq ?_
                        refine at_region [0] rfl ?_
                        refine at_s T rfl ?_
                        refine at_end ?_
                        refine at_to [(6, (.bool false))] [0] [F] ⟨rfl, trivial⟩ rfl ?_
                        refine at_then ?_
                        refine at_ret ?_
                        refine at_rb ?_
                        refine at_rt ?_
                        refine at_rt ?_
                        refine at_rb ?_
                        refine at_rt ?_
                        obtain rfl := Option.some.inj Z55
                        obtain rfl := Option.some.inj (show some false = some r from Z5)
                        exact at_post (T := T) rfl (.tmp rfl .nil) (fun w o => ⟨(), rfl, own_to [0] rfl o⟩)
                      · replace Z55 := if_f (bf c63) Z55
                        refine at_skip ?_
                        refine at_nb ?_
                        refine at_then ?_
                        obtain rfl := Option.some.inj Z55
                        exact at_mid (x23, x24, x25, a12, n12, H12, a13, n13, H13) [0, 0, 0, 0] ⟨rfl, s12, s13⟩ ⟨rfl, rfl, rfl, rfl, rfl, rfl, trivial⟩ rfl
        · rintro ⟨x12, x13, x14, a8, n8, H8, a9, n9, H9⟩ ⟨rfl, s8, s9⟩
          refine at_region [0, 1, 2] rfl ?_
          iterate 3 refine at_s T rfl ?_
          refine at_end ?_
          refine at_sub [(1, (.slice a_l (List.length l) n_l)), (2, (.bool raw)), (7, (.int .i64 v1)), (8, (.pointer (some ⟨b1, 0, none⟩))), (9, (.slice a9 (List.length x14) n9)), (10, (.int .i64 (w64 (x10 + 1))))] ⟨rfl, rfl, rfl, rfl, rfl, rfl, trivial⟩ ?_
          refine at_then ?_
          exact at_roundL (k11, x12, x13, x14, (w64 (x10 + 1)), a8, n8, H8, a9, n9, H9) [0, 0, 0, 0] ⟨Z5, s8, s9⟩ (Nat.lt_succ_self _) ⟨rfl, rfl, rfl, rfl, rfl, rfl, trivial⟩ rfl
      · replace Z5 := if_f (bf c7) Z5
        refine at_exit ?_
        refine at_xt ?_
        refine at_xt ?_
        refine at_xb ?_
        refine at_then ?_
        obtain ⟨z53, Z64, Z5⟩ := bind_e Z5
        refine at_seq_mid (σ := Bool) (fun x52 => x52 = z53) (fun x52 => [(6, (.bool x52))]) (fun x52 => [F]) ?_ ?_
        · refine at_region [0, 1, 2, 3, 4, 5, 6, 7] rfl ?_
          obtain ⟨v54, V65, Z64⟩ := bind_e Z64
          refine at_cons (at_c (B := fun _ => []) [] rfl rfl rfl rfl has23 rfl rfl (law22_told.c  v54 _ V65) (fun _ => ?_))
          refine at_s T rfl ?_
          refine at_case (s := 196) rfl (fun c66 => ?_) (fun c66 => ?_)
          · replace Z64 := if_t c66 Z64
            refine at_s T rfl ?_
            obtain ⟨v55, V67, Z64⟩ := bind_e Z64
            refine at_cons (at_cR (As := [[(b1, Obj.cells #[(.slice a6 (List.length x7) n6), (.int .i64 x8)] 76 (0, 0))], H6]) (R := [F, H7]) (floor_Floor_Words.R v55) [[(b1, Obj.cells #[(.slice a6 (List.length x7) n6), (.int .i64 x8)] 76 (0, 0))], H6] [1, 1] rfl rfl rfl rfl has25 rfl rfl (floor_Floor_Words.c (floor_Floor.mk x7 x8) v55 _ V67 s6) ?_)
            rintro _ _ ⟨a31, n31, H31, s31, rfl, rfl⟩
            refine at_s T rfl ?_
            obtain ⟨v56, V68, Z64⟩ := bind_e Z64
            refine at_cons (at_c (B := fun _ => []) [] rfl rfl rfl rfl has24 rfl rfl (ref21_SameWords.c v55 x9 v56 _ V68 (own_of s31 (j := 2) rfl) s31.cap_le (own_of s7 (j := 1) rfl) s7.cap_le) (fun _ => ?_))
            iterate 2 refine at_s T rfl ?_
            refine at_end ?_
            refine at_to [(6, (.bool v56))] [0] [F] ⟨rfl, trivial⟩ rfl ?_
            refine at_then ?_
            obtain rfl := Option.some.inj Z64
            exact at_mid v56 [0] rfl ⟨rfl, trivial⟩ rfl
          · replace Z64 := if_f (bf c66) Z64
            iterate 6 refine at_s T rfl ?_
            refine at_end ?_
            refine at_to [(6, (.bool false))] [0] [F] ⟨rfl, trivial⟩ rfl ?_
            refine at_then ?_
            obtain rfl := Option.some.inj Z64
            exact at_mid false [0] rfl ⟨rfl, trivial⟩ rfl
        · rintro x52 rfl
          refine at_ret ?_
          obtain rfl := Option.some.inj Z5
          exact at_post (T := T) rfl (.tmp rfl .nil) (fun w o => ⟨(), rfl, own_to [0] rfl o⟩)
def law22_FloorPlays.Pure : Prop := ∀ (n : Int) (l : (List herdsmanlaw22_Ask)) (raw : Bool), inI64 n → (∀ y ∈ l, (inI64 y.Kind ∧ inI64 y.A ∧ inI64 y.B)) → law22_FloorPlays.f n l raw = some true
end Go.Proofs.Ytmfonhkkkfmpdaa
