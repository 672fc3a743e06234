import Derived.Test.YtmddmofncblfpaaT
import Derived.Test.YtmddmofncblfpaaFlaw21
import Derived.Test.YtmddmofncblfpaaFref1
import Derived.Test.YtmddmofncblfpaaFunits
namespace Go.Proofs.Ytmddmofncblfpaa
open Go.Hx
set_option maxRecDepth 100000
set_option linter.unusedVariables false
/-! ### herdsman/herdsmanlaw21.UnitsNever: function 9 -/
def law21_UnitsNever.l1 : Nat → Int → (List Int) → Int → Int → Int → (List (Int × api_Unit)) → (List api_Unit) → List Int → Int → Int → Option (Sum Bool (Int × Int × (List (Int × api_Unit)) × (List Int) × Int))
  | 0, _, _, _, _, _, _, _, _, _, _ => none
  | k34 + 1, most, gone, x14, x22, x23, x24, v30, x25, x26, x33 => if x33 < (List.length v30 : Int) then (if (0 ≤ x33 ∧ x33 < (List.length v30 : Int)) then ((units_Units_Get.f (units_Units.mk x22 x23 x24 x25) ((rd v30 x33).Id)).bind fun v35 => (if (!v35.2) = true then (some true) else (if (!((v35.1.Id == (rd v30 x33).Id) && ((v35.1.Cell == (rd v30 x33).Cell) && ((v35.1.Goal == (rd v30 x33).Goal) && true)))) = true then (some true) else (if (v35.1.Goal != (w64 (0 - v35.1.Cell))) = true then (some true) else (if x33 > 0 then (if (0 ≤ (w64 (x33 - 1)) ∧ (w64 (x33 - 1)) < (List.length v30 : Int)) then (some (decide ((rd v30 (w64 (x33 - 1))).Id ≥ v35.1.Id))) else none) else (some false))))).bind fun x36 => if x36 = true then (some (Sum.inl false)) else (law21_UnitsNever.l1 k34 most gone x14 x22 x23 x24 v30 x25 x26 (w64 (x33 + 1)))) else none) else (if (0 ≤ x14 ∧ x14 < (List.length gone : Int)) then ((ref1_Within.f (rd gone x14) 0 (w64 ((List.length v30 : Int) - 1))).bind fun v38 => if (0 ≤ v38 ∧ v38 < (List.length v30 : Int)) then (if ((Int.tmod (rd gone x14) 3) != 0) = true then (((units_Units_Drop.f (units_Units.mk x22 x23 x24 x25) ((rd v30 v38).Id)).bind fun v45 => if (!v45.1) = true then (some (v45.2.most, v45.2.next, v45.2.live, v45.2.order, true)) else ((units_Units_Drop.f v45.2 ((rd v30 v38).Id)).bind fun v46 => if v46.1 = true then (some (v46.2.most, v46.2.next, v46.2.live, v46.2.order, true)) else ((units_Units_Aim.f v46.2 ((rd v30 v38).Id) 1).bind fun v47 => if v47.1 = true then (some (v47.2.most, v47.2.next, v47.2.live, v47.2.order, true)) else ((units_Units_Move.f v47.2 ((rd v30 v38).Id) 1).bind fun v48 => some (v48.2.most, v48.2.next, v48.2.live, v48.2.order, v48.1))))).bind fun (x39, x40, x41, x42, x43) => if x43 = true then (some (Sum.inl false)) else ((units_Units_Get.f (units_Units.mk x39 x40 x41 x42) ((rd v30 v38).Id)).bind fun v49 => if v49.2 = true then (some (Sum.inl false)) else (some (Sum.inr (x39, x40, x41, x42, x26))))) else (some (Sum.inr (x22, x23, x24, x25, x26)))) else none) else none)
def law21_UnitsNever.l0 : Nat → Int → (List Int) → Int → Int → Int → (List (Int × api_Unit)) → List Int → Int → Int → Option Bool
  | 0, _, _, _, _, _, _, _, _, _ => none
  | k15 + 1, most, gone, v1, x9, x10, x11, x12, x13, x14 => if ((decide (x14 < (List.length gone : Int))) && (decide (x14 < 60))) = true then ((((units_Units_Len.f (units_Units.mk x9 x10 x11 x12)).bind fun v28 => if v28 < v1 then ((units_Units_Add.f (units_Units.mk x9 x10 x11 x12) x14 (w64 (0 - x14))).bind fun v29 => if ((!v29.2.1) || (v29.1 != x13)) = true then (some (Sum.inl false)) else (some (Sum.inr (v29.2.2.most, v29.2.2.next, v29.2.2.live, v29.2.2.order, (w64 (x13 + 1)))))) else (some (Sum.inr (x9, x10, x11, x12, x13)))).bind fun zz => match zz with | Sum.inl q => some (Sum.inl q) | Sum.inr (x22, x23, x24, x25, x26) => (units_Units_All.f (units_Units.mk x22 x23 x24 x25)).bind fun v30 => (units_Units_Len.f (units_Units.mk x22 x23 x24 x25)).bind fun v31 => if ((((List.length v30 : Int) != v31) || ((List.length v30 : Int) == 0)) || (decide ((List.length v30 : Int) > v1))) = true then (some (Sum.inl false)) else (law21_UnitsNever.l1 fuel most gone x14 x22 x23 x24 v30 x25 x26 0)).bind fun zz => match zz with | Sum.inl q => some q | Sum.inr (x16, x17, x18, x19, x20) => law21_UnitsNever.l0 k15 most gone v1 x16 x17 x18 x19 x20 (w64 (x14 + 1))) else (((law21_told.f).bind fun v52 => if v52 = true then ((units_Units_Next.f (units_Units.mk x9 x10 x11 x12)).bind fun v53 => some (v53 == x13)) else (some false)).bind fun x50 => some x50)
def law21_UnitsNever.f (most : Int) (gone : (List Int)) : Option Bool := (ref1_Within.f most 1 6).bind fun v1 => (units_New.f v1).bind fun v2 => optm v2 (some false) (fun yv2 => law21_UnitsNever.l0 fuel most gone v1 yv2.most yv2.next yv2.live yv2.order 0 0)
set_option maxHeartbeats 4000000 in
theorem law21_UnitsNever.c {a_gone : Option Addr} {n_gone : Nat} (most : Int) (gone : (List Int)) (r : Bool) (F : Hp) (H : law21_UnitsNever.f most gone = some r) (h_gone : SliceR (Fl.int .i64) gone a_gone F) (c_gone : List.length gone ≤ n_gone) :
    CallsL Try.prog 9 [(.int .i64 most), (.slice a_gone (List.length gone) n_gone)] [F] (fun _ : Unit => (.bool r)) (fun _ => [F]) := by
  unfold law21_UnitsNever.f at H
  refine calls_atL [(0, (.int .i64 most)), (1, (.slice a_gone (List.length gone) n_gone))] Try.func9 rfl rfl ⟨rfl, rfl, trivial⟩ (fun W => ?_)
  refine at_seq ?_
  refine at_region [0] rfl ?_
  refine at_s T rfl ?_
  refine at_end ?_
  refine at_sub [(0, (.int .i64 most)), (1, (.slice a_gone (List.length gone) n_gone))] ⟨rfl, rfl, trivial⟩ ?_
  refine at_then ?_
  refine at_seq ?_
  refine at_region [0, 1, 2] rfl ?_
  refine at_s T rfl ?_
  obtain ⟨v1, V1, H⟩ := bind_e H
  refine at_cons (at_c (B := fun _ => []) [] rfl rfl rfl rfl has15 rfl rfl (ref1_Within.c most 1 6 v1 _ V1) (fun _ => ?_))
  refine at_s T rfl ?_
  refine at_end ?_
  refine at_sub [(1, (.slice a_gone (List.length gone) n_gone)), (5, (.int .i64 v1))] ⟨rfl, rfl, trivial⟩ ?_
  refine at_then ?_
  refine at_seq ?_
  refine at_region [0, 1, 2] rfl ?_
  refine at_s T rfl ?_
  obtain ⟨v2, V2, H⟩ := bind_e H
  refine at_cons (at_cR (units_New.R v2) [] [] rfl rfl rfl rfl has26 rfl rfl (units_New.c v1 v2 _ V2) ?_)
  rintro _ _ ⟨_, _, O3, rfl, rfl⟩
  rcases v2 with _ | yv2
  · replace H := optm_n rfl H
    obtain ⟨rfl, rfl⟩ := O3
    refine at_s T rfl ?_
    refine at_end ?_
    refine at_sub [(1, (.slice a_gone (List.length gone) n_gone)), (5, (.int .i64 v1)), (6, (.pointer none))] ⟨rfl, rfl, rfl, trivial⟩ ?_
    refine at_then ?_
    refine at_seq ?_
    refine at_seq ?_
    refine at_region [0, 1] rfl ?_
    iterate 2 refine at_s T rfl ?_
    refine at_end ?_
    refine at_sub [(1, (.slice a_gone (List.length gone) n_gone)), (5, (.int .i64 v1)), (6, (.pointer none)), (23, (.bool true))] ⟨rfl, rfl, rfl, rfl, trivial⟩ ?_
    refine at_then ?_
    refine at_cond_t rfl ?_
    refine at_seq ?_
    refine at_region [0] rfl ?_
    refine at_s T rfl ?_
    refine at_end ?_
    refine at_sub [(4, (.bool false))] ⟨rfl, trivial⟩ ?_
    refine at_then ?_
    refine at_ret ?_
    refine at_rt ?_
    obtain rfl := Option.some.inj H
    exact at_post (T := T) rfl (.tmp rfl .nil) (fun w o => ⟨(), rfl, own_to [0] rfl o⟩)
  · replace H := optm_s rfl H
    obtain ⟨b1, a2, H2, a3, n3, H3, s2, s3, rfl, rfl⟩ := O3
    refine at_s T rfl ?_
    refine at_end ?_
    refine at_sub [(1, (.slice a_gone (List.length gone) n_gone)), (5, (.int .i64 v1)), (6, (.pointer (some ⟨b1, 0, none⟩)))] ⟨rfl, rfl, rfl, trivial⟩ ?_
    refine at_then ?_
    refine at_seq ?_
    refine at_seq ?_
    refine at_region [0, 1] rfl ?_
    iterate 2 refine at_s T rfl ?_
    refine at_end ?_
    refine at_sub [(1, (.slice a_gone (List.length gone) n_gone)), (5, (.int .i64 v1)), (6, (.pointer (some ⟨b1, 0, none⟩))), (23, (.bool false))] ⟨rfl, rfl, rfl, rfl, trivial⟩ ?_
    refine at_then ?_
    refine at_cond_f rfl ?_
    refine at_skip ?_
    refine at_then ?_
    refine at_seq ?_
    refine at_region [0] rfl ?_
    refine at_s T rfl ?_
    refine at_end ?_
    refine at_sub [(1, (.slice a_gone (List.length gone) n_gone)), (5, (.int .i64 v1)), (6, (.pointer (some ⟨b1, 0, none⟩))), (7, (.int .i64 0))] ⟨rfl, rfl, rfl, rfl, trivial⟩ ?_
    refine at_then ?_
    refine at_seq ?_
    refine at_seq ?_
    refine at_region [0] rfl ?_
    refine at_s T rfl ?_
    refine at_end ?_
    refine at_sub [(1, (.slice a_gone (List.length gone) n_gone)), (5, (.int .i64 v1)), (6, (.pointer (some ⟨b1, 0, none⟩))), (7, (.int .i64 0)), (8, (.int .i64 0))] ⟨rfl, rfl, rfl, rfl, rfl, trivial⟩ ?_
    refine at_then ?_
    refine at_block ?_
    refine at_loopL (σ := Nat × Int × Int × (List (Int × api_Unit)) × List Int × Int × Int × Nat × Hp × Option Addr × Nat × Hp) (fun ⟨k15, x9, x10, x11, x12, x13, x14, a6, H6, a7, n7, H7⟩ => law21_UnitsNever.l0 k15 most gone v1 x9 x10 x11 x12 x13 x14 = some r ∧ MapO (Ky.int .i64 u3) (fun x : api_Unit => Value.agg #[.int .i64 x.Id, .int .i64 x.Cell, .int .i64 x.Goal]) x11 a6 H6 ∧ SliceO (Fl.int .i64) 3 x12 a7 n7 H7) (fun ⟨k15, x9, x10, x11, x12, x13, x14, a6, H6, a7, n7, H7⟩ => [(1, (.slice a_gone (List.length gone) n_gone)), (5, (.int .i64 v1)), (6, (.pointer (some ⟨b1, 0, none⟩))), (7, (.int .i64 x13)), (8, (.int .i64 x14))]) (fun ⟨k15, x9, x10, x11, x12, x13, x14, a6, H6, a7, n7, H7⟩ => [F, [(b1, Obj.cells #[(.int .i64 x9), (.int .i64 x10), (.map (some a6)), (.slice a7 (List.length x12) n7)] 80 (0, 0))], H6, H7]) (fun s => s.1) (fuel, yv2.most, yv2.next, yv2.live, yv2.order, 0, 0, a2, H2, a3, n3, H3) [0, 0, 0, 0] ⟨H, s2, s3⟩ ⟨rfl, rfl, rfl, rfl, rfl, trivial⟩ rfl ?_
    rintro ⟨k15, x9, x10, x11, x12, x13, x14, a6, H6, a7, n7, H7⟩ ⟨Z4, s6, s7⟩
    replace Z4 : law21_UnitsNever.l0 k15 most gone v1 x9 x10 x11 x12 x13 x14 = some r := Z4
    rcases k15 with _ | k15
    · rw [law21_UnitsNever.l0] at Z4; cases Z4
    · rw [law21_UnitsNever.l0] at Z4
      refine at_seq ?_
      refine at_seq ?_
      refine at_region [0, 1, 2, 3, 4, 5, 6, 7] rfl ?_
      iterate 5 refine at_s T rfl ?_
      refine at_grp T [5, 6, 7] (s := 28) (c := (decide (x14 < (List.length gone : Int)))) [(1, (.slice a_gone (List.length gone) n_gone)), (5, (.int .i64 v1)), (6, (.pointer (some ⟨b1, 0, none⟩))), (7, (.int .i64 x13)), (8, (.int .i64 x14)), (31, (.bool ((decide (x14 < (List.length gone : Int))) && (decide (x14 < 60)))))] rfl rfl rfl (fun c5 => ⟨rfl, rfl, rfl, rfl, rfl, (by rw [c5]; rfl), trivial⟩) (fun c5 => ⟨rfl, rfl, rfl, rfl, rfl, (by rw [c5]; rfl), trivial⟩) ?_
      refine at_end ?_
      refine at_sub [(1, (.slice a_gone (List.length gone) n_gone)), (5, (.int .i64 v1)), (6, (.pointer (some ⟨b1, 0, none⟩))), (7, (.int .i64 x13)), (8, (.int .i64 x14)), (31, (.bool ((decide (x14 < (List.length gone : Int))) && (decide (x14 < 60)))))] ⟨rfl, rfl, rfl, rfl, rfl, rfl, trivial⟩ ?_
      refine at_then ?_
      refine at_cond rfl (fun c6 => ?_) (fun c6 => ?_)
      · replace Z4 := if_t c6 Z4
        refine at_skip ?_
        refine at_then ?_
        obtain ⟨z21, Z7, Z4⟩ := bind_e Z4
        refine at_seq_mid (σ := Int × Int × (List (Int × api_Unit)) × List Int × Int × Nat × Hp × Option Addr × Nat × Hp) (fun ⟨x16, x17, x18, x19, x20, a8, H8, a9, n9, H9⟩ => (Sum.inr (x16, x17, x18, x19, x20)) = z21 ∧ MapO (Ky.int .i64 u3) (fun x : api_Unit => Value.agg #[.int .i64 x.Id, .int .i64 x.Cell, .int .i64 x.Goal]) x18 a8 H8 ∧ SliceO (Fl.int .i64) 3 x19 a9 n9 H9) (fun ⟨x16, x17, x18, x19, x20, a8, H8, a9, n9, H9⟩ => [(1, (.slice a_gone (List.length gone) n_gone)), (5, (.int .i64 v1)), (6, (.pointer (some ⟨b1, 0, none⟩))), (7, (.int .i64 x20)), (8, (.int .i64 x14))]) (fun ⟨x16, x17, x18, x19, x20, a8, H8, a9, n9, H9⟩ => [F, [(b1, Obj.cells #[(.int .i64 x16), (.int .i64 x17), (.map (some a8)), (.slice a9 (List.length x19) n9)] 80 (0, 0))], H8, H9]) ?_ ?_
        · refine at_block ?_
          obtain ⟨z27, Z8, Z7⟩ := bind_e Z7
          refine at_seq_mid (σ := Int × Int × (List (Int × api_Unit)) × List Int × Int × Nat × Hp × Option Addr × Nat × Hp) (fun ⟨x22, x23, x24, x25, x26, a10, H10, a11, n11, H11⟩ => (Sum.inr (x22, x23, x24, x25, x26)) = z27 ∧ MapO (Ky.int .i64 u3) (fun x : api_Unit => Value.agg #[.int .i64 x.Id, .int .i64 x.Cell, .int .i64 x.Goal]) x24 a10 H10 ∧ SliceO (Fl.int .i64) 3 x25 a11 n11 H11) (fun ⟨x22, x23, x24, x25, x26, a10, H10, a11, n11, H11⟩ => [(1, (.slice a_gone (List.length gone) n_gone)), (5, (.int .i64 v1)), (6, (.pointer (some ⟨b1, 0, none⟩))), (7, (.int .i64 x26)), (8, (.int .i64 x14))]) (fun ⟨x22, x23, x24, x25, x26, a10, H10, a11, n11, H11⟩ => [F, [(b1, Obj.cells #[(.int .i64 x22), (.int .i64 x23), (.map (some a10)), (.slice a11 (List.length x25) n11)] 80 (0, 0))], H10, H11]) ?_ ?_
          · refine at_seq ?_
            refine at_region [0, 1, 2, 3] rfl ?_
            refine at_s T rfl ?_
            obtain ⟨v28, V9, Z8⟩ := bind_e Z8
            refine at_cons (at_c (As := [[(b1, Obj.cells #[(.int .i64 x9), (.int .i64 x10), (.map (some a6)), (.slice a7 (List.length x12) n7)] 80 (0, 0))], H6, H7]) (R := [F]) (B := fun _ => [[(b1, Obj.cells #[(.int .i64 x9), (.int .i64 x10), (.map (some a6)), (.slice a7 (List.length x12) n7)] 80 (0, 0))], H6, H7]) [1, 1, 1] rfl rfl rfl rfl has39 rfl rfl (units_Units_Len.c (units_Units.mk x9 x10 x11 x12) v28 _ V9 s6 s7) (fun _ => ?_))
            iterate 2 refine at_s T rfl ?_
            refine at_end ?_
            refine at_sub [(1, (.slice a_gone (List.length gone) n_gone)), (5, (.int .i64 v1)), (6, (.pointer (some ⟨b1, 0, none⟩))), (7, (.int .i64 x13)), (8, (.int .i64 x14)), (37, (.bool (decide (v28 < v1))))] ⟨rfl, rfl, rfl, rfl, rfl, rfl, trivial⟩ ?_
            refine at_then ?_
            refine at_cond rfl (fun c10 => ?_) (fun c10 => ?_)
            · replace Z8 := if_t (of_decide_eq_true c10) Z8
              refine at_seq ?_
              refine at_region [0, 1, 2, 3, 4, 5, 6, 7, 8, 9] rfl ?_
              iterate 4 refine at_s T rfl ?_
              obtain ⟨v29, V11, Z8⟩ := bind_e Z8
              refine at_cons (at_cR (As := [[(b1, Obj.cells #[(.int .i64 x9), (.int .i64 x10), (.map (some a6)), (.slice a7 (List.length x12) n7)] 80 (0, 0))], H6, H7]) (R := [F]) (units_Units_Add.R b1 v29) [] [1, 1, 1] rfl rfl rfl rfl has27 rfl rfl (units_Units_Add.c (units_Units.mk x9 x10 x11 x12) x14 (w64 (0 - x14)) v29 _ V11 s6 s7) ?_)
              rintro _ _ ⟨a12, H12, a13, n13, H13, s12, s13, rfl, rfl⟩
              iterate 5 refine at_s T rfl ?_
              refine at_end ?_
              refine at_sub [(1, (.slice a_gone (List.length gone) n_gone)), (5, (.int .i64 v1)), (6, (.pointer (some ⟨b1, 0, none⟩))), (7, (.int .i64 x13)), (8, (.int .i64 x14)), (9, (.int .i64 v29.1)), (10, (.bool v29.2.1))] ⟨rfl, rfl, rfl, rfl, rfl, rfl, rfl, trivial⟩ ?_
              refine at_then ?_
              refine at_seq ?_
              refine at_seq ?_
              refine at_region [0, 1, 2, 3, 4, 5, 6] rfl ?_
              iterate 3 refine at_s T rfl ?_
              refine at_grp T [3, 4, 5, 6] (s := 48) (c := (!v29.2.1)) [(1, (.slice a_gone (List.length gone) n_gone)), (5, (.int .i64 v1)), (6, (.pointer (some ⟨b1, 0, none⟩))), (7, (.int .i64 x13)), (8, (.int .i64 x14)), (52, (.bool ((!v29.2.1) || (v29.1 != x13))))] rfl rfl rfl (fun c12 => ⟨rfl, rfl, rfl, rfl, rfl, (by rw [c12]; rfl), trivial⟩) (fun c12 => ⟨rfl, rfl, rfl, rfl, rfl, (by rw [c12]; rfl), trivial⟩) ?_
              refine at_end ?_
              refine at_sub [(1, (.slice a_gone (List.length gone) n_gone)), (5, (.int .i64 v1)), (6, (.pointer (some ⟨b1, 0, none⟩))), (7, (.int .i64 x13)), (8, (.int .i64 x14)), (52, (.bool ((!v29.2.1) || (v29.1 != x13))))] ⟨rfl, rfl, rfl, rfl, rfl, rfl, trivial⟩ ?_
              refine at_then ?_
              refine at_cond rfl (fun c13 => ?_) (fun c13 => ?_)
              · replace Z8 := if_t c13 Z8
                refine at_seq ?_
                refine at_region [0] rfl ?_
                refine at_s T rfl ?_
                refine at_end ?_
                refine at_to [(4, (.bool false))] [0] [F] ⟨rfl, trivial⟩ rfl ?_
                refine at_then ?_
                refine at_ret ?_
                refine at_rt ?_
                refine at_rt ?_
                refine at_rb ?_
                refine at_rt ?_
                refine at_rt ?_
                refine at_rb ?_
                refine at_rt ?_
                obtain rfl := Option.some.inj Z8
                obtain rfl := Option.some.inj (show some (Sum.inl false) = some z21 from Z7)
                obtain rfl := Option.some.inj (show some false = some r from Z4)
                exact at_post (T := T) rfl (.tmp rfl .nil) (fun w o => ⟨(), rfl, own_to [0] rfl o⟩)
              · replace Z8 := if_f (bf c13) Z8
                refine at_skip ?_
                refine at_then ?_
                refine at_region [0, 1, 2] rfl ?_
                iterate 3 refine at_s T rfl ?_
                refine at_end ?_
                refine at_sub [(1, (.slice a_gone (List.length gone) n_gone)), (5, (.int .i64 v1)), (6, (.pointer (some ⟨b1, 0, none⟩))), (7, (.int .i64 (w64 (x13 + 1)))), (8, (.int .i64 x14))] ⟨rfl, rfl, rfl, rfl, rfl, trivial⟩ ?_
                refine at_then ?_
                obtain rfl := Option.some.inj Z8
                exact at_mid (v29.2.2.most, v29.2.2.next, v29.2.2.live, v29.2.2.order, (w64 (x13 + 1)), a12, H12, a13, n13, H13) [0, 0, 0, 0] ⟨rfl, s12, s13⟩ ⟨rfl, rfl, rfl, rfl, rfl, trivial⟩ rfl
            · replace Z8 := if_f (of_decide_eq_false c10) Z8
              refine at_skip ?_
              refine at_then ?_
              obtain rfl := Option.some.inj Z8
              exact at_mid (x9, x10, x11, x12, x13, a6, H6, a7, n7, H7) [0, 0, 0, 0] ⟨rfl, s6, s7⟩ ⟨rfl, rfl, rfl, rfl, rfl, trivial⟩ rfl
          · rintro ⟨x22, x23, x24, x25, x26, a10, H10, a11, n11, H11⟩ ⟨rfl, s10, s11⟩
            refine at_seq ?_
            refine at_region [0, 1, 2] rfl ?_
            refine at_s T rfl ?_
            obtain ⟨v30, V14, Z7⟩ := bind_e Z7
            refine at_cons (at_cR (As := [[(b1, Obj.cells #[(.int .i64 x22), (.int .i64 x23), (.map (some a10)), (.slice a11 (List.length x25) n11)] 80 (0, 0))], H10, H11]) (R := [F]) (units_Units_All.R v30) [[(b1, Obj.cells #[(.int .i64 x22), (.int .i64 x23), (.map (some a10)), (.slice a11 (List.length x25) n11)] 80 (0, 0))], H10, H11] [1, 1, 1] rfl rfl rfl rfl has28 rfl rfl (units_Units_All.c (units_Units.mk x22 x23 x24 x25) v30 _ V14 s10 s11) ?_)
            rintro _ _ ⟨a14, n14, H14, s14, rfl, rfl⟩
            refine at_s T rfl ?_
            refine at_end ?_
            refine at_sub [(1, (.slice a_gone (List.length gone) n_gone)), (5, (.int .i64 v1)), (6, (.pointer (some ⟨b1, 0, none⟩))), (7, (.int .i64 x26)), (8, (.int .i64 x14)), (11, (.slice a14 (List.length v30) n14))] ⟨rfl, rfl, rfl, rfl, rfl, rfl, trivial⟩ ?_
            refine at_then ?_
            refine at_seq ?_
            refine at_seq ?_
            refine at_region [0, 1, 2, 3, 4, 5, 6, 7, 8, 9, 10, 11, 12, 13, 14, 15] rfl ?_
            iterate 3 refine at_s T rfl ?_
            obtain ⟨v31, V15, Z7⟩ := bind_e Z7
            refine at_cons (at_c (As := [[(b1, Obj.cells #[(.int .i64 x22), (.int .i64 x23), (.map (some a10)), (.slice a11 (List.length x25) n11)] 80 (0, 0))], H10, H11]) (R := [F, H14]) (B := fun _ => [[(b1, Obj.cells #[(.int .i64 x22), (.int .i64 x23), (.map (some a10)), (.slice a11 (List.length x25) n11)] 80 (0, 0))], H10, H11]) [2, 2, 2] rfl rfl rfl rfl has39 rfl rfl (units_Units_Len.c (units_Units.mk x22 x23 x24 x25) v31 _ V15 s10 s11) (fun _ => ?_))
            iterate 2 refine at_s T rfl ?_
            refine at_grp T [6, 7, 8, 9] (s := 62) (c := ((List.length v30 : Int) != v31)) [(1, (.slice a_gone (List.length gone) n_gone)), (5, (.int .i64 v1)), (6, (.pointer (some ⟨b1, 0, none⟩))), (7, (.int .i64 x26)), (8, (.int .i64 x14)), (11, (.slice a14 (List.length v30) n14)), (66, (.bool (((List.length v30 : Int) != v31) || ((List.length v30 : Int) == 0))))] rfl rfl rfl (fun c16 => ⟨rfl, rfl, rfl, rfl, rfl, rfl, (by rw [c16]; rfl), trivial⟩) (fun c16 => ⟨rfl, rfl, rfl, rfl, rfl, rfl, (by rw [c16]; rfl), trivial⟩) ?_
            refine at_s T rfl ?_
            refine at_grp T [11, 12, 13, 14, 15] (s := 67) (c := (((List.length v30 : Int) != v31) || ((List.length v30 : Int) == 0))) [(1, (.slice a_gone (List.length gone) n_gone)), (5, (.int .i64 v1)), (6, (.pointer (some ⟨b1, 0, none⟩))), (7, (.int .i64 x26)), (8, (.int .i64 x14)), (11, (.slice a14 (List.length v30) n14)), (72, (.bool ((((List.length v30 : Int) != v31) || ((List.length v30 : Int) == 0)) || (decide ((List.length v30 : Int) > v1)))))] rfl rfl rfl (fun c17 => ⟨rfl, rfl, rfl, rfl, rfl, rfl, (by rw [c17]; rfl), trivial⟩) (fun c17 => ⟨rfl, rfl, rfl, rfl, rfl, rfl, (by rw [c17]; rfl), trivial⟩) ?_
            refine at_end ?_
            refine at_sub [(1, (.slice a_gone (List.length gone) n_gone)), (5, (.int .i64 v1)), (6, (.pointer (some ⟨b1, 0, none⟩))), (7, (.int .i64 x26)), (8, (.int .i64 x14)), (11, (.slice a14 (List.length v30) n14)), (72, (.bool ((((List.length v30 : Int) != v31) || ((List.length v30 : Int) == 0)) || (decide ((List.length v30 : Int) > v1)))))] ⟨rfl, rfl, rfl, rfl, rfl, rfl, rfl, trivial⟩ ?_
            refine at_then ?_
            refine at_cond rfl (fun c18 => ?_) (fun c18 => ?_)
            · replace Z7 := if_t c18 Z7
              refine at_seq ?_
              refine at_region [0] rfl ?_
              refine at_s T rfl ?_
              refine at_end ?_
              refine at_to [(4, (.bool false))] [0] [F] ⟨rfl, trivial⟩ rfl ?_
              refine at_then ?_
              refine at_ret ?_
              refine at_rt ?_
              refine at_rb ?_
              refine at_rt ?_
              refine at_rt ?_
              refine at_rb ?_
              refine at_rt ?_
              obtain rfl := Option.some.inj Z7
              obtain rfl := Option.some.inj (show some false = some r from Z4)
              exact at_post (T := T) rfl (.tmp rfl .nil) (fun w o => ⟨(), rfl, own_to [0] rfl o⟩)
            · replace Z7 := if_f (bf c18) Z7
              refine at_skip ?_
              refine at_then ?_
              refine at_seq ?_
              refine at_seq ?_
              refine at_region [0] rfl ?_
              refine at_s T rfl ?_
              refine at_end ?_
              refine at_sub [(1, (.slice a_gone (List.length gone) n_gone)), (5, (.int .i64 v1)), (6, (.pointer (some ⟨b1, 0, none⟩))), (7, (.int .i64 x26)), (8, (.int .i64 x14)), (11, (.slice a14 (List.length v30) n14)), (12, (.int .i64 0))] ⟨rfl, rfl, rfl, rfl, rfl, rfl, rfl, trivial⟩ ?_
              refine at_then ?_
              refine at_block ?_
              refine at_loopL (σ := Nat × Int) (fun ⟨k34, x33⟩ => law21_UnitsNever.l1 k34 most gone x14 x22 x23 x24 v30 x25 x26 x33 = some z21) (fun ⟨k34, x33⟩ => [(1, (.slice a_gone (List.length gone) n_gone)), (5, (.int .i64 v1)), (6, (.pointer (some ⟨b1, 0, none⟩))), (7, (.int .i64 x26)), (8, (.int .i64 x14)), (11, (.slice a14 (List.length v30) n14)), (12, (.int .i64 x33))]) (fun ⟨k34, x33⟩ => [F, [(b1, Obj.cells #[(.int .i64 x22), (.int .i64 x23), (.map (some a10)), (.slice a11 (List.length x25) n11)] 80 (0, 0))], H10, H11, H14]) (fun s => s.1) (fuel, 0) [0, 1, 1, 1, 0] Z7 ⟨rfl, rfl, rfl, rfl, rfl, rfl, rfl, trivial⟩ rfl ?_
              rintro ⟨k34, x33⟩ Z19
              replace Z19 : law21_UnitsNever.l1 k34 most gone x14 x22 x23 x24 v30 x25 x26 x33 = some z21 := Z19
              rcases k34 with _ | k34
              · rw [law21_UnitsNever.l1] at Z19; cases Z19
              · rw [law21_UnitsNever.l1] at Z19
                refine at_seq ?_
                refine at_seq ?_
                refine at_region [0, 1, 2, 3] rfl ?_
                iterate 4 refine at_s T rfl ?_
                refine at_end ?_
                refine at_sub [(1, (.slice a_gone (List.length gone) n_gone)), (5, (.int .i64 v1)), (6, (.pointer (some ⟨b1, 0, none⟩))), (7, (.int .i64 x26)), (8, (.int .i64 x14)), (11, (.slice a14 (List.length v30) n14)), (12, (.int .i64 x33)), (76, (.bool (decide (x33 < (List.length v30 : Int)))))] ⟨rfl, rfl, rfl, rfl, rfl, rfl, rfl, rfl, trivial⟩ ?_
                refine at_then ?_
                refine at_cond rfl (fun c20 => ?_) (fun c20 => ?_)
                · replace Z19 := if_t (of_decide_eq_true c20) Z19
                  refine at_skip ?_
                  refine at_then ?_
                  refine at_seq ?_
                  refine at_block ?_
                  refine at_seq ?_
                  refine at_region [0, 1, 2, 3, 4, 5, 6, 7, 8, 9, 10, 11, 12] rfl ?_
                  iterate 3 refine at_s T rfl ?_
                  obtain ⟨c21, Z19⟩ := chk_e Z19
                  obtain ⟨q15, o15, e15⟩ := s14.r.addr c21.1 c21.2
                  refine at_v rfl (g_index T rfl rfl rfl rfl rfl e15 c21.1 c21.2) ?_
                  refine at_s T rfl ?_
                  refine at_v rfl (g_load T rfl rfl rfl rfl (in_elem1 (k := k_api_Unit) (own_of s14 (j := 4) rfl) e15 c21 0 rfl)) ?_
                  obtain ⟨v35, V22, Z19⟩ := bind_e Z19
                  refine at_cons (at_c (As := [[(b1, Obj.cells #[(.int .i64 x22), (.int .i64 x23), (.map (some a10)), (.slice a11 (List.length x25) n11)] 80 (0, 0))], H10, H11]) (R := [F, H14]) (B := fun _ => [[(b1, Obj.cells #[(.int .i64 x22), (.int .i64 x23), (.map (some a10)), (.slice a11 (List.length x25) n11)] 80 (0, 0))], H10, H11]) [1, 1, 1] rfl rfl rfl rfl has37 rfl rfl (units_Units_Get.c (units_Units.mk x22 x23 x24 x25) ((rd v30 x33).Id) v35 _ V22 s10 s11) (fun _ => ?_))
                  iterate 3 refine at_s T rfl ?_
                  refine at_cons (at_al T [(.int .i64 0), (.int .i64 0), (.int .i64 0)] rfl rfl rfl rfl (fun b16 => ?_))
                  refine at_cons (at_st T 5 [(.int .i64 v35.1.Id), (.int .i64 v35.1.Cell), (.int .i64 v35.1.Goal)] rfl rfl rfl rfl rfl rfl rfl rfl rfl rfl ?_)
                  refine at_s T rfl ?_
                  refine at_end ?_
                  refine at_sub [(1, (.slice a_gone (List.length gone) n_gone)), (5, (.int .i64 v1)), (6, (.pointer (some ⟨b1, 0, none⟩))), (7, (.int .i64 x26)), (8, (.int .i64 x14)), (11, (.slice a14 (List.length v30) n14)), (12, (.int .i64 x33)), (13, (.pointer (some ⟨b16, 0, none⟩))), (14, (.bool v35.2))] ⟨rfl, rfl, rfl, rfl, rfl, rfl, rfl, rfl, rfl, trivial⟩ ?_
                  refine at_then ?_
                  obtain ⟨z37, Z23, Z19⟩ := bind_e Z19
                  refine at_seq_mid (σ := Bool) (fun x36 => x36 = z37) (fun x36 => [(1, (.slice a_gone (List.length gone) n_gone)), (5, (.int .i64 v1)), (6, (.pointer (some ⟨b1, 0, none⟩))), (7, (.int .i64 x26)), (8, (.int .i64 x14)), (11, (.slice a14 (List.length v30) n14)), (12, (.int .i64 x33)), (121, (.bool x36))]) (fun x36 => [F, [(b1, Obj.cells #[(.int .i64 x22), (.int .i64 x23), (.map (some a10)), (.slice a11 (List.length x25) n11)] 80 (0, 0))], H10, H11, H14]) ?_ ?_
                  · refine at_region_q mix (by kernel_rfl) ?_
                    iterate 3 refine atq_s T rfl ?_
                    refine atq_case (s := 91) rfl (fun c24 => ?_) (fun c24 => ?_)
                    · replace Z23 := if_t c24 Z23
                      iterate 30 refine atq_s T rfl ?_
                      refine atq_end ?_
                      refine at_to [(1, (.slice a_gone (List.length gone) n_gone)), (5, (.int .i64 v1)), (6, (.pointer (some ⟨b1, 0, none⟩))), (7, (.int .i64 x26)), (8, (.int .i64 x14)), (11, (.slice a14 (List.length v30) n14)), (12, (.int .i64 x33)), (121, (.bool true))] [0, 0, 0, 0, 0] [F, H14, [(b1, Obj.cells #[(.int .i64 x22), (.int .i64 x23), (.map (some a10)), (.slice a11 (List.length x25) n11)] 80 (0, 0))], H10, H11] ⟨rfl, rfl, rfl, rfl, rfl, rfl, rfl, rfl, trivial⟩ rfl ?_
                      refine at_then ?_
                      obtain rfl := Option.some.inj Z23
                      exact at_mid true [0, 1, 1, 1, 0] rfl ⟨rfl, rfl, rfl, rfl, rfl, rfl, rfl, rfl, trivial⟩ rfl
                    · replace Z23 := if_f (bf c24) Z23
                      refine atq_v rfl rfl rfl (g_loadA T (cs := [(.int .i64 v35.1.Id), (.int .i64 v35.1.Cell), (.int .i64 v35.1.Goal)]) rfl rfl rfl rfl rfl rfl (in_varA (j := 5) rfl rfl)) ?_
                      iterate 2 refine atq_s T rfl ?_
                      refine atq_v rfl rfl rfl (g_index T rfl rfl rfl rfl rfl e15 c21.1 c21.2) ?_
                      refine atq_v rfl rfl rfl (g_loadA T (cs := [(.int .i64 (rd v30 x33).Id), (.int .i64 (rd v30 x33).Cell), (.int .i64 (rd v30 x33).Goal)]) rfl rfl rfl rfl rfl rfl (in_elemA (k := k_api_Unit) (own_of s14 (j := 1) rfl) e15 c21 rfl)) ?_
                      refine atq_v rfl rfl rfl (g_aeqn T ((v35.1.Id == (rd v30 x33).Id) && ((v35.1.Cell == (rd v30 x33).Cell) && ((v35.1.Goal == (rd v30 x33).Goal) && true))) rfl rfl rfl rfl sq47 (by kernel_rfl) rfl) ?_
                      iterate 2 refine atq_s T rfl ?_
                      refine atq_case (s := 99) rfl (fun c25 => ?_) (fun c25 => ?_)
                      · replace Z23 := if_t c25 Z23
                        iterate 22 refine atq_s T rfl ?_
                        refine atq_end ?_
                        refine at_to [(1, (.slice a_gone (List.length gone) n_gone)), (5, (.int .i64 v1)), (6, (.pointer (some ⟨b1, 0, none⟩))), (7, (.int .i64 x26)), (8, (.int .i64 x14)), (11, (.slice a14 (List.length v30) n14)), (12, (.int .i64 x33)), (121, (.bool true))] [0, 0, 0, 0, 0] [F, H14, [(b1, Obj.cells #[(.int .i64 x22), (.int .i64 x23), (.map (some a10)), (.slice a11 (List.length x25) n11)] 80 (0, 0))], H10, H11] ⟨rfl, rfl, rfl, rfl, rfl, rfl, rfl, rfl, trivial⟩ rfl ?_
                        refine at_then ?_
                        obtain rfl := Option.some.inj Z23
                        exact at_mid true [0, 1, 1, 1, 0] rfl ⟨rfl, rfl, rfl, rfl, rfl, rfl, rfl, rfl, trivial⟩ rfl
                      · replace Z23 := if_f (bf c25) Z23
                        refine atq_s T rfl ?_
                        refine atq_v rfl rfl rfl (g_load T rfl rfl rfl rfl (in_var (j := 5) rfl rfl)) ?_
                        refine atq_s T rfl ?_
                        refine atq_v rfl rfl rfl (g_load T rfl rfl rfl rfl (in_var (j := 5) rfl rfl)) ?_
                        iterate 4 refine atq_s T rfl ?_
                        refine atq_case (s := 107) rfl (fun c26 => ?_) (fun c26 => ?_)
                        · replace Z23 := if_t c26 Z23
                          iterate 14 refine atq_s T rfl ?_
                          refine atq_end ?_
                          refine at_to [(1, (.slice a_gone (List.length gone) n_gone)), (5, (.int .i64 v1)), (6, (.pointer (some ⟨b1, 0, none⟩))), (7, (.int .i64 x26)), (8, (.int .i64 x14)), (11, (.slice a14 (List.length v30) n14)), (12, (.int .i64 x33)), (121, (.bool true))] [0, 0, 0, 0, 0] [F, H14, [(b1, Obj.cells #[(.int .i64 x22), (.int .i64 x23), (.map (some a10)), (.slice a11 (List.length x25) n11)] 80 (0, 0))], H10, H11] ⟨rfl, rfl, rfl, rfl, rfl, rfl, rfl, rfl, trivial⟩ rfl ?_
                          refine at_then ?_
                          obtain rfl := Option.some.inj Z23
                          exact at_mid true [0, 1, 1, 1, 0] rfl ⟨rfl, rfl, rfl, rfl, rfl, rfl, rfl, rfl, trivial⟩ rfl
                        · replace Z23 := if_f (bf c26) Z23
                          iterate 3 refine atq_s T rfl ?_
                          refine atq_case (s := 110) rfl (fun c27 => ?_) (fun c27 => ?_)
                          · replace Z23 := if_t (of_decide_eq_true c27) Z23
                            iterate 3 refine atq_s T rfl ?_
                            obtain ⟨c28, Z23⟩ := chk_e Z23
                            refine atq_v rfl rfl rfl (g_index T rfl rfl rfl rfl rfl e15 c28.1 c28.2) ?_
                            refine atq_s T rfl ?_
                            refine atq_v rfl rfl rfl (g_load T rfl rfl rfl rfl (in_elem1 (k := k_api_Unit) (own_of s14 (j := 1) rfl) e15 c28 0 rfl)) ?_
                            refine atq_s T rfl ?_
                            refine atq_v rfl rfl rfl (g_load T rfl rfl rfl rfl (in_var (j := 5) rfl rfl)) ?_
                            iterate 3 refine atq_s T rfl ?_
                            refine atq_end ?_
                            refine at_to [(1, (.slice a_gone (List.length gone) n_gone)), (5, (.int .i64 v1)), (6, (.pointer (some ⟨b1, 0, none⟩))), (7, (.int .i64 x26)), (8, (.int .i64 x14)), (11, (.slice a14 (List.length v30) n14)), (12, (.int .i64 x33)), (121, (.bool (decide ((rd v30 (w64 (x33 - 1))).Id ≥ v35.1.Id))))] [0, 0, 0, 0, 0] [F, H14, [(b1, Obj.cells #[(.int .i64 x22), (.int .i64 x23), (.map (some a10)), (.slice a11 (List.length x25) n11)] 80 (0, 0))], H10, H11] ⟨rfl, rfl, rfl, rfl, rfl, rfl, rfl, rfl, trivial⟩ rfl ?_
                            refine at_then ?_
                            obtain rfl := Option.some.inj Z23
                            exact at_mid (decide ((rd v30 (w64 (x33 - 1))).Id ≥ v35.1.Id)) [0, 1, 1, 1, 0] rfl ⟨rfl, rfl, rfl, rfl, rfl, rfl, rfl, rfl, trivial⟩ rfl
                          · replace Z23 := if_f (of_decide_eq_false c27) Z23
                            iterate 11 refine atq_s T rfl ?_
                            refine atq_end ?_
                            refine at_to [(1, (.slice a_gone (List.length gone) n_gone)), (5, (.int .i64 v1)), (6, (.pointer (some ⟨b1, 0, none⟩))), (7, (.int .i64 x26)), (8, (.int .i64 x14)), (11, (.slice a14 (List.length v30) n14)), (12, (.int .i64 x33)), (121, (.bool false))] [0, 0, 0, 0, 0] [F, H14, [(b1, Obj.cells #[(.int .i64 x22), (.int .i64 x23), (.map (some a10)), (.slice a11 (List.length x25) n11)] 80 (0, 0))], H10, H11] ⟨rfl, rfl, rfl, rfl, rfl, rfl, rfl, rfl, trivial⟩ rfl ?_
                            refine at_then ?_
                            obtain rfl := Option.some.inj Z23
                            exact at_mid false [0, 1, 1, 1, 0] rfl ⟨rfl, rfl, rfl, rfl, rfl, rfl, rfl, rfl, trivial⟩ rfl
                  · rintro x36 rfl
                    refine at_cond rfl (fun c29 => ?_) (fun c29 => ?_)
                    · replace Z19 := if_t c29 Z19
                      refine at_seq ?_
                      refine at_region [0] rfl ?_
                      refine at_s T rfl ?_
                      refine at_end ?_
                      refine at_to [(4, (.bool false))] [0] [F] ⟨rfl, trivial⟩ rfl ?_
                      refine at_then ?_
                      refine at_ret ?_
                      refine at_rb ?_
                      refine at_rt ?_
                      refine at_rt ?_
                      refine at_rb ?_
                      refine at_rt ?_
                      refine at_rb ?_
                      refine at_rt ?_
                      refine at_rt ?_
                      refine at_rb ?_
                      refine at_rt ?_
                      obtain rfl := Option.some.inj Z19
                      obtain rfl := Option.some.inj (show some false = some r from Z4)
                      exact at_post (T := T) rfl (.tmp rfl .nil) (fun w o => ⟨(), rfl, own_to [0] rfl o⟩)
                    · replace Z19 := if_f (bf c29) Z19
                      refine at_skip ?_
                      refine at_nb ?_
                      refine at_then ?_
                      refine at_region [0, 1, 2] rfl ?_
                      iterate 3 refine at_s T rfl ?_
                      refine at_end ?_
                      refine at_sub [(1, (.slice a_gone (List.length gone) n_gone)), (5, (.int .i64 v1)), (6, (.pointer (some ⟨b1, 0, none⟩))), (7, (.int .i64 x26)), (8, (.int .i64 x14)), (11, (.slice a14 (List.length v30) n14)), (12, (.int .i64 (w64 (x33 + 1))))] ⟨rfl, rfl, rfl, rfl, rfl, rfl, rfl, trivial⟩ ?_
                      refine at_then ?_
                      exact at_roundL (k34, (w64 (x33 + 1))) [0, 0, 0, 0, 0] Z19 (Nat.lt_succ_self _) ⟨rfl, rfl, rfl, rfl, rfl, rfl, rfl, trivial⟩ rfl
                · replace Z19 := if_f (of_decide_eq_false c20) Z19
                  refine at_exit ?_
                  refine at_xt ?_
                  refine at_xt ?_
                  refine at_xb ?_
                  refine at_then ?_
                  refine at_seq ?_
                  refine at_region [0, 1, 2, 3, 4, 5, 6, 7, 8, 9, 10, 11, 12] rfl ?_
                  iterate 3 refine at_s T rfl ?_
                  obtain ⟨c30, Z19⟩ := chk_e Z19
                  obtain ⟨q17, o17, e17⟩ := h_gone.addr c30.1 c30.2
                  refine at_v rfl (g_index T rfl rfl rfl rfl rfl e17 c30.1 c30.2) ?_
                  refine at_v rfl (g_load T rfl rfl rfl rfl (in_elem1 (k := (Fl.int .i64)) (ro_of h_gone (j := 0) rfl) e17 c30 0 rfl)) ?_
                  iterate 3 refine at_s T rfl ?_
                  obtain ⟨v38, V31, Z19⟩ := bind_e Z19
                  refine at_cons (at_c (B := fun _ => []) [] rfl rfl rfl rfl has15 rfl rfl (ref1_Within.c (rd gone x14) 0 (w64 ((List.length v30 : Int) - 1)) v38 _ V31) (fun _ => ?_))
                  obtain ⟨c32, Z19⟩ := chk_e Z19
                  obtain ⟨q18, o18, e18⟩ := s14.r.addr c32.1 c32.2
                  refine at_v rfl (g_index T rfl rfl rfl rfl rfl e18 c32.1 c32.2) ?_
                  refine at_s T rfl ?_
                  refine at_v rfl (g_load T rfl rfl rfl rfl (in_elem1 (k := k_api_Unit) (own_of s14 (j := 4) rfl) e18 c32 0 rfl)) ?_
                  refine at_s T rfl ?_
                  refine at_end ?_
                  refine at_to [(1, (.slice a_gone (List.length gone) n_gone)), (5, (.int .i64 v1)), (6, (.pointer (some ⟨b1, 0, none⟩))), (7, (.int .i64 x26)), (8, (.int .i64 x14)), (15, (.int .i64 (rd v30 v38).Id))] [0, 0, 0, 0] [F, [(b1, Obj.cells #[(.int .i64 x22), (.int .i64 x23), (.map (some a10)), (.slice a11 (List.length x25) n11)] 80 (0, 0))], H10, H11] ⟨rfl, rfl, rfl, rfl, rfl, rfl, trivial⟩ rfl ?_
                  refine at_then ?_
                  refine at_seq ?_
                  refine at_region [0, 1, 2, 3, 4, 5] rfl ?_
                  iterate 2 refine at_s T rfl ?_
                  refine at_v rfl (g_index T rfl rfl rfl rfl rfl e17 c30.1 c30.2) ?_
                  refine at_v rfl (g_load T rfl rfl rfl rfl (in_elem1 (k := (Fl.int .i64)) (ro_of h_gone (j := 0) rfl) e17 c30 0 rfl)) ?_
                  iterate 2 refine at_s T rfl ?_
                  refine at_end ?_
                  refine at_sub [(1, (.slice a_gone (List.length gone) n_gone)), (5, (.int .i64 v1)), (6, (.pointer (some ⟨b1, 0, none⟩))), (7, (.int .i64 x26)), (8, (.int .i64 x14)), (15, (.int .i64 (rd v30 v38).Id)), (139, (.bool ((Int.tmod (rd gone x14) 3) != 0)))] ⟨rfl, rfl, rfl, rfl, rfl, rfl, rfl, trivial⟩ ?_
                  refine at_then ?_
                  refine at_cond rfl (fun c33 => ?_) (fun c33 => ?_)
                  · replace Z19 := if_t c33 Z19
                    refine at_seq ?_
                    obtain ⟨z44, Z34, Z19⟩ := bind_e Z19
                    refine at_seq_mid (σ := Int × Int × (List (Int × api_Unit)) × List Int × Bool × Nat × Hp × Option Addr × Nat × Hp) (fun ⟨x39, x40, x41, x42, x43, a19, H19, a20, n20, H20⟩ => (x39, x40, x41, x42, x43) = z44 ∧ MapO (Ky.int .i64 u3) (fun x : api_Unit => Value.agg #[.int .i64 x.Id, .int .i64 x.Cell, .int .i64 x.Goal]) x41 a19 H19 ∧ SliceO (Fl.int .i64) 3 x42 a20 n20 H20) (fun ⟨x39, x40, x41, x42, x43, a19, H19, a20, n20, H20⟩ => [(1, (.slice a_gone (List.length gone) n_gone)), (5, (.int .i64 v1)), (6, (.pointer (some ⟨b1, 0, none⟩))), (7, (.int .i64 x26)), (8, (.int .i64 x14)), (15, (.int .i64 (rd v30 v38).Id)), (158, (.bool x43))]) (fun ⟨x39, x40, x41, x42, x43, a19, H19, a20, n20, H20⟩ => [F, [(b1, Obj.cells #[(.int .i64 x39), (.int .i64 x40), (.map (some a19)), (.slice a20 (List.length x42) n20)] 80 (0, 0))], H19, H20]) ?_ ?_
                    · refine at_region [0, 1, 2, 3, 4, 5, 6, 7, 8, 9, 10, 11, 12, 13, 14, 15, 16, 17, 18] rfl ?_
                      iterate 2 refine at_s T rfl ?_
                      obtain ⟨v45, V35, Z34⟩ := bind_e Z34
                      refine at_cons (at_cR (As := [[(b1, Obj.cells #[(.int .i64 x22), (.int .i64 x23), (.map (some a10)), (.slice a11 (List.length x25) n11)] 80 (0, 0))], H10, H11]) (R := [F]) (units_Units_Drop.R b1 v45) [] [1, 1, 1] rfl rfl rfl rfl has35 rfl rfl (units_Units_Drop.c (units_Units.mk x22 x23 x24 x25) ((rd v30 v38).Id) v45 _ V35 s10 s11) ?_)
                      rintro _ _ ⟨a21, H21, a22, n22, H22, s21, s22, rfl, rfl⟩
                      iterate 2 refine at_s T rfl ?_
                      refine at_case (s := 144) rfl (fun c36 => ?_) (fun c36 => ?_)
                      · replace Z34 := if_t c36 Z34
                        iterate 14 refine at_s T rfl ?_
                        refine at_end ?_
                        refine at_sub [(1, (.slice a_gone (List.length gone) n_gone)), (5, (.int .i64 v1)), (6, (.pointer (some ⟨b1, 0, none⟩))), (7, (.int .i64 x26)), (8, (.int .i64 x14)), (15, (.int .i64 (rd v30 v38).Id)), (158, (.bool true))] ⟨rfl, rfl, rfl, rfl, rfl, rfl, rfl, trivial⟩ ?_
                        refine at_then ?_
                        obtain rfl := Option.some.inj Z34
                        exact at_mid (v45.2.most, v45.2.next, v45.2.live, v45.2.order, true, a21, H21, a22, n22, H22) [0, 0, 0, 0] ⟨rfl, s21, s22⟩ ⟨rfl, rfl, rfl, rfl, rfl, rfl, rfl, trivial⟩ rfl
                      · replace Z34 := if_f (bf c36) Z34
                        iterate 2 refine at_s T rfl ?_
                        obtain ⟨v46, V37, Z34⟩ := bind_e Z34
                        refine at_cons (at_cR (As := [[(b1, Obj.cells #[(.int .i64 v45.2.most), (.int .i64 v45.2.next), (.map (some a21)), (.slice a22 (List.length v45.2.order) n22)] 80 (0, 0))], H21, H22]) (R := [F]) (units_Units_Drop.R b1 v46) [] [1, 1, 1] rfl rfl rfl rfl has35 rfl rfl (units_Units_Drop.c v45.2 ((rd v30 v38).Id) v46 _ V37 s21 s22) ?_)
                        rintro _ _ ⟨a23, H23, a24, n24, H24, s23, s24, rfl, rfl⟩
                        iterate 2 refine at_s T rfl ?_
                        refine at_case (s := 149) rfl (fun c38 => ?_) (fun c38 => ?_)
                        · replace Z34 := if_t c38 Z34
                          iterate 9 refine at_s T rfl ?_
                          refine at_end ?_
                          refine at_sub [(1, (.slice a_gone (List.length gone) n_gone)), (5, (.int .i64 v1)), (6, (.pointer (some ⟨b1, 0, none⟩))), (7, (.int .i64 x26)), (8, (.int .i64 x14)), (15, (.int .i64 (rd v30 v38).Id)), (158, (.bool true))] ⟨rfl, rfl, rfl, rfl, rfl, rfl, rfl, trivial⟩ ?_
                          refine at_then ?_
                          obtain rfl := Option.some.inj Z34
                          exact at_mid (v46.2.most, v46.2.next, v46.2.live, v46.2.order, true, a23, H23, a24, n24, H24) [0, 0, 0, 0] ⟨rfl, s23, s24⟩ ⟨rfl, rfl, rfl, rfl, rfl, rfl, rfl, trivial⟩ rfl
                        · replace Z34 := if_f (bf c38) Z34
                          iterate 2 refine at_s T rfl ?_
                          obtain ⟨v47, V39, Z34⟩ := bind_e Z34
                          refine at_cons (at_cR (As := [[(b1, Obj.cells #[(.int .i64 v46.2.most), (.int .i64 v46.2.next), (.map (some a23)), (.slice a24 (List.length v46.2.order) n24)] 80 (0, 0))], H23, H24]) (R := [F]) (units_Units_Aim.R b1 v47) [] [1, 1, 1] rfl rfl rfl rfl has33 rfl rfl (units_Units_Aim.c v46.2 ((rd v30 v38).Id) 1 v47 _ V39 s23 s24) ?_)
                          rintro _ _ ⟨a25, H25, a26, n26, H26, s25, s26, rfl, rfl⟩
                          iterate 2 refine at_s T rfl ?_
                          refine at_case (s := 154) rfl (fun c40 => ?_) (fun c40 => ?_)
                          · replace Z34 := if_t c40 Z34
                            iterate 4 refine at_s T rfl ?_
                            refine at_end ?_
                            refine at_sub [(1, (.slice a_gone (List.length gone) n_gone)), (5, (.int .i64 v1)), (6, (.pointer (some ⟨b1, 0, none⟩))), (7, (.int .i64 x26)), (8, (.int .i64 x14)), (15, (.int .i64 (rd v30 v38).Id)), (158, (.bool true))] ⟨rfl, rfl, rfl, rfl, rfl, rfl, rfl, trivial⟩ ?_
                            refine at_then ?_
                            obtain rfl := Option.some.inj Z34
                            exact at_mid (v47.2.most, v47.2.next, v47.2.live, v47.2.order, true, a25, H25, a26, n26, H26) [0, 0, 0, 0] ⟨rfl, s25, s26⟩ ⟨rfl, rfl, rfl, rfl, rfl, rfl, rfl, trivial⟩ rfl
                          · replace Z34 := if_f (bf c40) Z34
                            iterate 2 refine at_s T rfl ?_
                            obtain ⟨v48, V41, Z34⟩ := bind_e Z34
                            refine at_cons (at_cR (As := [[(b1, Obj.cells #[(.int .i64 v47.2.most), (.int .i64 v47.2.next), (.map (some a25)), (.slice a26 (List.length v47.2.order) n26)] 80 (0, 0))], H25, H26]) (R := [F]) (units_Units_Move.R b1 v48) [] [1, 1, 1] rfl rfl rfl rfl has34 rfl rfl (units_Units_Move.c v47.2 ((rd v30 v38).Id) 1 v48 _ V41 s25 s26) ?_)
                            rintro _ _ ⟨a27, H27, a28, n28, H28, s27, s28, rfl, rfl⟩
                            refine at_s T rfl ?_
                            refine at_end ?_
                            refine at_sub [(1, (.slice a_gone (List.length gone) n_gone)), (5, (.int .i64 v1)), (6, (.pointer (some ⟨b1, 0, none⟩))), (7, (.int .i64 x26)), (8, (.int .i64 x14)), (15, (.int .i64 (rd v30 v38).Id)), (158, (.bool v48.1))] ⟨rfl, rfl, rfl, rfl, rfl, rfl, rfl, trivial⟩ ?_
                            refine at_then ?_
                            obtain rfl := Option.some.inj Z34
                            exact at_mid (v48.2.most, v48.2.next, v48.2.live, v48.2.order, v48.1, a27, H27, a28, n28, H28) [0, 0, 0, 0] ⟨rfl, s27, s28⟩ ⟨rfl, rfl, rfl, rfl, rfl, rfl, rfl, trivial⟩ rfl
                    · rintro ⟨x39, x40, x41, x42, x43, a19, H19, a20, n20, H20⟩ ⟨rfl, s19, s20⟩
                      refine at_cond rfl (fun c42 => ?_) (fun c42 => ?_)
                      · replace Z19 := if_t c42 Z19
                        refine at_seq ?_
                        refine at_region [0] rfl ?_
                        refine at_s T rfl ?_
                        refine at_end ?_
                        refine at_to [(4, (.bool false))] [0] [F] ⟨rfl, trivial⟩ rfl ?_
                        refine at_then ?_
                        refine at_ret ?_
                        refine at_rt ?_
                        refine at_rb ?_
                        refine at_rt ?_
                        refine at_rt ?_
                        refine at_rb ?_
                        refine at_rt ?_
                        obtain rfl := Option.some.inj Z19
                        obtain rfl := Option.some.inj (show some false = some r from Z4)
                        exact at_post (T := T) rfl (.tmp rfl .nil) (fun w o => ⟨(), rfl, own_to [0] rfl o⟩)
                      · replace Z19 := if_f (bf c42) Z19
                        refine at_skip ?_
                        refine at_then ?_
                        refine at_seq ?_
                        refine at_region [0, 1, 2, 3, 4, 5, 6, 7, 8] rfl ?_
                        iterate 2 refine at_s T rfl ?_
                        obtain ⟨v49, V43, Z19⟩ := bind_e Z19
                        refine at_cons (at_c (As := [[(b1, Obj.cells #[(.int .i64 x39), (.int .i64 x40), (.map (some a19)), (.slice a20 (List.length x42) n20)] 80 (0, 0))], H19, H20]) (R := [F]) (B := fun _ => [[(b1, Obj.cells #[(.int .i64 x39), (.int .i64 x40), (.map (some a19)), (.slice a20 (List.length x42) n20)] 80 (0, 0))], H19, H20]) [1, 1, 1] rfl rfl rfl rfl has37 rfl rfl (units_Units_Get.c (units_Units.mk x39 x40 x41 x42) ((rd v30 v38).Id) v49 _ V43 s19 s20) (fun _ => ?_))
                        iterate 3 refine at_s T rfl ?_
                        refine at_cons (at_al T [(.int .i64 0), (.int .i64 0), (.int .i64 0)] rfl rfl rfl rfl (fun b29 => ?_))
                        refine at_cons (at_st T 4 [(.int .i64 v49.1.Id), (.int .i64 v49.1.Cell), (.int .i64 v49.1.Goal)] rfl rfl rfl rfl rfl rfl rfl rfl rfl rfl ?_)
                        refine at_s T rfl ?_
                        refine at_end ?_
                        refine at_to [(1, (.slice a_gone (List.length gone) n_gone)), (5, (.int .i64 v1)), (6, (.pointer (some ⟨b1, 0, none⟩))), (7, (.int .i64 x26)), (8, (.int .i64 x14)), (17, (.bool v49.2))] [0, 0, 0, 0] [F, [(b1, Obj.cells #[(.int .i64 x39), (.int .i64 x40), (.map (some a19)), (.slice a20 (List.length x42) n20)] 80 (0, 0))], H19, H20] ⟨rfl, rfl, rfl, rfl, rfl, rfl, trivial⟩ rfl ?_
                        refine at_then ?_
                        refine at_seq ?_
                        refine at_region [0] rfl ?_
                        refine at_s T rfl ?_
                        refine at_end ?_
                        refine at_sub [(1, (.slice a_gone (List.length gone) n_gone)), (5, (.int .i64 v1)), (6, (.pointer (some ⟨b1, 0, none⟩))), (7, (.int .i64 x26)), (8, (.int .i64 x14)), (165, (.bool v49.2))] ⟨rfl, rfl, rfl, rfl, rfl, rfl, trivial⟩ ?_
                        refine at_then ?_
                        refine at_cond rfl (fun c44 => ?_) (fun c44 => ?_)
                        · replace Z19 := if_t c44 Z19
                          refine at_seq ?_
                          refine at_region [0] rfl ?_
                          refine at_s T rfl ?_
                          refine at_end ?_
                          refine at_to [(4, (.bool false))] [0] [F] ⟨rfl, trivial⟩ rfl ?_
                          refine at_then ?_
                          refine at_ret ?_
                          refine at_rb ?_
                          refine at_rt ?_
                          refine at_rt ?_
                          refine at_rb ?_
                          refine at_rt ?_
                          obtain rfl := Option.some.inj Z19
                          obtain rfl := Option.some.inj (show some false = some r from Z4)
                          exact at_post (T := T) rfl (.tmp rfl .nil) (fun w o => ⟨(), rfl, own_to [0] rfl o⟩)
                        · replace Z19 := if_f (bf c44) Z19
                          refine at_skip ?_
                          refine at_nb ?_
                          refine at_then ?_
                          obtain rfl := Option.some.inj Z19
                          exact at_mid (x39, x40, x41, x42, x26, a19, H19, a20, n20, H20) [0, 0, 0, 0] ⟨rfl, s19, s20⟩ ⟨rfl, rfl, rfl, rfl, rfl, trivial⟩ rfl
                  · replace Z19 := if_f (bf c33) Z19
                    refine at_skip ?_
                    refine at_nb ?_
                    refine at_then ?_
                    obtain rfl := Option.some.inj Z19
                    exact at_mid (x22, x23, x24, x25, x26, a10, H10, a11, n11, H11) [0, 0, 0, 0] ⟨rfl, s10, s11⟩ ⟨rfl, rfl, rfl, rfl, rfl, trivial⟩ rfl
        · rintro ⟨x16, x17, x18, x19, x20, a8, H8, a9, n9, H9⟩ ⟨rfl, s8, s9⟩
          refine at_region [0, 1, 2] rfl ?_
          iterate 3 refine at_s T rfl ?_
          refine at_end ?_
          refine at_sub [(1, (.slice a_gone (List.length gone) n_gone)), (5, (.int .i64 v1)), (6, (.pointer (some ⟨b1, 0, none⟩))), (7, (.int .i64 x20)), (8, (.int .i64 (w64 (x14 + 1))))] ⟨rfl, rfl, rfl, rfl, rfl, trivial⟩ ?_
          refine at_then ?_
          exact at_roundL (k15, x16, x17, x18, x19, x20, (w64 (x14 + 1)), a8, H8, a9, n9, H9) [0, 0, 0, 0] ⟨Z4, s8, s9⟩ (Nat.lt_succ_self _) ⟨rfl, rfl, rfl, rfl, rfl, trivial⟩ rfl
      · replace Z4 := if_f (bf c6) Z4
        refine at_exit ?_
        refine at_xt ?_
        refine at_xt ?_
        refine at_xb ?_
        refine at_then ?_
        obtain ⟨z51, Z45, Z4⟩ := bind_e Z4
        refine at_seq_mid (σ := Bool) (fun x50 => x50 = z51) (fun x50 => [(4, (.bool x50))]) (fun x50 => [F]) ?_ ?_
        · refine at_region [0, 1, 2, 3, 4, 5, 6, 7] rfl ?_
          obtain ⟨v52, V46, Z45⟩ := bind_e Z45
          refine at_cons (at_c (B := fun _ => []) [] rfl rfl rfl rfl has29 rfl rfl (law21_told.c  v52 _ V46) (fun _ => ?_))
          refine at_s T rfl ?_
          refine at_case (s := 167) rfl (fun c47 => ?_) (fun c47 => ?_)
          · replace Z45 := if_t c47 Z45
            refine at_s T rfl ?_
            obtain ⟨v53, V48, Z45⟩ := bind_e Z45
            refine at_cons (at_c (As := [[(b1, Obj.cells #[(.int .i64 x9), (.int .i64 x10), (.map (some a6)), (.slice a7 (List.length x12) n7)] 80 (0, 0))], H6, H7]) (R := [F]) (B := fun _ => [[(b1, Obj.cells #[(.int .i64 x9), (.int .i64 x10), (.map (some a6)), (.slice a7 (List.length x12) n7)] 80 (0, 0))], H6, H7]) [1, 1, 1] rfl rfl rfl rfl has40 rfl rfl (units_Units_Next.c (units_Units.mk x9 x10 x11 x12) v53 _ V48 s6 s7) (fun _ => ?_))
            iterate 4 refine at_s T rfl ?_
            refine at_end ?_
            refine at_to [(4, (.bool (v53 == x13)))] [0] [F] ⟨rfl, trivial⟩ rfl ?_
            refine at_then ?_
            obtain rfl := Option.some.inj Z45
            exact at_mid (v53 == x13) [0] rfl ⟨rfl, trivial⟩ rfl
          · replace Z45 := if_f (bf c47) Z45
            iterate 6 refine at_s T rfl ?_
            refine at_end ?_
            refine at_to [(4, (.bool false))] [0] [F] ⟨rfl, trivial⟩ rfl ?_
            refine at_then ?_
            obtain rfl := Option.some.inj Z45
            exact at_mid false [0] rfl ⟨rfl, trivial⟩ rfl
        · rintro x50 rfl
          refine at_ret ?_
          obtain rfl := Option.some.inj Z4
          exact at_post (T := T) rfl (.tmp rfl .nil) (fun w o => ⟨(), rfl, own_to [0] rfl o⟩)
def law21_UnitsNever.Pure : Prop := ∀ (most : Int) (gone : (List Int)), inI64 most → (∀ y ∈ gone, inI64 y) → law21_UnitsNever.f most gone = some true
end Go.Proofs.Ytmddmofncblfpaa
