import Derived.Test.YtmjcmkimhkjdeaaT
import Derived.Test.YtmjcmkimhkjdeaaFgrid
import Derived.Test.YtmjcmkimhkjdeaaFlaw5
namespace Go.Proofs.Ytmjcmkimhkjdeaa
open Go.Hx
set_option maxRecDepth 100000
set_option linter.unusedVariables false
/-! ### herdsman/herdsmanlaw5.GridNone: function 7 -/
def law5_GridNone.f (cell : Int) (cost : Int) (sector : Int) : Option Bool := (grid_Grid_Size_2.f).bind fun v1 => (grid_Grid_Tile_2.f sector).bind fun v2 => (grid_Grid_Map_2.f).bind fun v3 => ((law5_told.f).bind fun v6 => if ((v6 && (v1.1 == 0)) && (v1.2 == 0)) = true then ((grid_Grid_Cost_2.f cell).bind fun v7 => if (v7 == 0) = true then ((grid_Grid_Edit_2.f cell cost).bind fun v8 => if (v8 == 4) = true then ((grid_Grid_Epoch_2.f).bind fun v9 => if (v9 == 0) = true then ((grid_Grid_Version_2.f sector).bind fun v10 => if ((v10 == 0) && (!v2.2)) = true then (if ((List.length v2.1.C : Int) == 0) = true then (if ((List.length v3.C : Int) == 0) = true then (some (v3.W == 0)) else (some false)) else (some false)) else (some false)) else (some false)) else (some false)) else (some false)) else (some false)).bind fun x4 => some x4
set_option maxHeartbeats 4000000 in
theorem law5_GridNone.c (cell : Int) (cost : Int) (sector : Int) (r : Bool) (F : Hp) (H : law5_GridNone.f cell cost sector = some r) :
    CallsL Try.prog 7 [(.int .i64 cell), (.int .i64 cost), (.int .i64 sector)] [F] (fun _ : Unit => (.bool r)) (fun _ => [F]) := by
  unfold law5_GridNone.f at H
  refine calls_atL [(0, (.int .i64 cell)), (1, (.int .i64 cost)), (2, (.int .i64 sector))] Try.func7 rfl rfl ⟨rfl, rfl, rfl, trivial⟩ (fun W => ?_)
  refine at_seq ?_
  refine at_region [0] rfl ?_
  refine at_s T rfl ?_
  refine at_end ?_
  refine at_sub [(0, (.int .i64 cell)), (1, (.int .i64 cost)), (2, (.int .i64 sector))] ⟨rfl, rfl, rfl, trivial⟩ ?_
  refine at_then ?_
  refine at_seq ?_
  refine at_region [0] rfl ?_
  refine at_s T rfl ?_
  refine at_end ?_
  refine at_sub [(0, (.int .i64 cell)), (1, (.int .i64 cost)), (2, (.int .i64 sector)), (7, (.pointer none))] ⟨rfl, rfl, rfl, rfl, trivial⟩ ?_
  refine at_then ?_
  refine at_seq ?_
  refine at_region [0, 1, 2, 3, 4, 5, 6] rfl ?_
  refine at_s T rfl ?_
  obtain ⟨v1, V1, H⟩ := bind_e H
  refine at_cons (at_c (B := fun _ => []) [] rfl rfl rfl rfl has34 rfl rfl (grid_Grid_Size_2.c  v1 _ V1) (fun _ => ?_))
  iterate 5 refine at_s T rfl ?_
  refine at_end ?_
  refine at_sub [(0, (.int .i64 cell)), (1, (.int .i64 cost)), (2, (.int .i64 sector)), (7, (.pointer none)), (8, (.int .i64 v1.1)), (9, (.int .i64 v1.2))] ⟨rfl, rfl, rfl, rfl, rfl, rfl, trivial⟩ ?_
  refine at_then ?_
  refine at_seq ?_
  refine at_region [0, 1, 2, 3, 4, 5, 6, 7, 8] rfl ?_
  iterate 2 refine at_s T rfl ?_
  obtain ⟨v2, V2, H⟩ := bind_e H
  refine at_cons (at_cR (grid_Grid_Tile_2.R v2) [] [] rfl rfl rfl rfl has31 rfl rfl (grid_Grid_Tile_2.c sector v2 _ V2) ?_)
  rintro _ _ ⟨a1, n1, H1, s1, rfl, rfl⟩
  iterate 3 refine at_s T rfl ?_
  refine at_cons (at_al T [(.int .i64 0), (.int .i64 0), (.slice none 0 0)] rfl rfl rfl rfl (fun b2 => ?_))
  refine at_cons (at_st T 2 [(.int .i64 v2.1.W), (.int .i64 v2.1.H), (.slice a1 (List.length v2.1.C) n1)] rfl rfl rfl rfl rfl rfl rfl rfl rfl rfl ?_)
  refine at_s T rfl ?_
  refine at_end ?_
  refine at_sub [(0, (.int .i64 cell)), (1, (.int .i64 cost)), (2, (.int .i64 sector)), (7, (.pointer none)), (8, (.int .i64 v1.1)), (9, (.int .i64 v1.2)), (10, (.pointer (some ⟨b2, 0, none⟩))), (11, (.bool v2.2))] ⟨rfl, rfl, rfl, rfl, rfl, rfl, rfl, rfl, trivial⟩ ?_
  refine at_then ?_
  refine at_seq ?_
  refine at_region [0, 1, 2, 3] rfl ?_
  refine at_s T rfl ?_
  obtain ⟨v3, V3, H⟩ := bind_e H
  refine at_cons (at_cR (grid_Grid_Map_2.R v3) [] [] rfl rfl rfl rfl has27 rfl rfl (grid_Grid_Map_2.c  v3 _ V3) ?_)
  rintro _ _ ⟨a3, n3, H3, s3, rfl, rfl⟩
  refine at_cons (at_al T [(.int .i64 0), (.int .i64 0), (.slice none 0 0)] rfl rfl rfl rfl (fun b4 => ?_))
  refine at_cons (at_st T 4 [(.int .i64 v3.W), (.int .i64 v3.H), (.slice a3 (List.length v3.C) n3)] rfl rfl rfl rfl rfl rfl rfl rfl rfl rfl ?_)
  refine at_end ?_
  refine at_sub [(0, (.int .i64 cell)), (1, (.int .i64 cost)), (2, (.int .i64 sector)), (7, (.pointer none)), (8, (.int .i64 v1.1)), (9, (.int .i64 v1.2)), (10, (.pointer (some ⟨b2, 0, none⟩))), (11, (.bool v2.2)), (12, (.pointer (some ⟨b4, 0, none⟩)))] ⟨rfl, rfl, rfl, rfl, rfl, rfl, rfl, rfl, rfl, trivial⟩ ?_
  refine at_then ?_
  obtain ⟨z5, Z4, H⟩ := bind_e H
  refine at_seq_mid (σ := Bool) (fun x4 => x4 = z5) (fun x4 => [(6, (.bool x4))]) (fun x4 => [F]) ?_ ?_
  · refine at_region [0, 1, 2, 3, 4, 5, 6, 7, 8, 9, 10, 11, 12, 13, 14, 15, 16, 17, 18, 19, 20, 21, 22, 23, 24, 25, 26, 27, 28, 29, 30, 31, 32, 33, 34, 35, 36, 37, 38, 39, 40, 41, 42, 43, 44, 45, 46, 47, 48, 49, 50, 51, 52, 53, 54] rfl ?_
    obtain ⟨v6, V5, Z4⟩ := bind_e Z4
    refine at_cons (at_c (B := fun _ => []) [] rfl rfl rfl rfl has23 rfl rfl (law5_told.c  v6 _ V5) (fun _ => ?_))
    refine at_s T rfl ?_
    refine at_grp T [2, 3, 4] (s := 27) (c := v6) [(0, (.int .i64 cell)), (1, (.int .i64 cost)), (2, (.int .i64 sector)), (7, (.pointer none)), (9, (.int .i64 v1.2)), (10, (.pointer (some ⟨b2, 0, none⟩))), (11, (.bool v2.2)), (12, (.pointer (some ⟨b4, 0, none⟩))), (30, (.bool (v6 && (v1.1 == 0))))] rfl rfl rfl (fun c6 => ⟨rfl, rfl, rfl, rfl, rfl, rfl, rfl, rfl, (by rw [c6]; rfl), trivial⟩) (fun c6 => ⟨rfl, rfl, rfl, rfl, rfl, rfl, rfl, rfl, (by rw [c6]; rfl), trivial⟩) ?_
    refine at_s T rfl ?_
    refine at_grp T [6, 7, 8] (s := 31) (c := (v6 && (v1.1 == 0))) [(0, (.int .i64 cell)), (1, (.int .i64 cost)), (2, (.int .i64 sector)), (7, (.pointer none)), (10, (.pointer (some ⟨b2, 0, none⟩))), (11, (.bool v2.2)), (12, (.pointer (some ⟨b4, 0, none⟩))), (34, (.bool ((v6 && (v1.1 == 0)) && (v1.2 == 0))))] rfl rfl rfl (fun c7 => ⟨rfl, rfl, rfl, rfl, rfl, rfl, rfl, (by rw [c7]; rfl), trivial⟩) (fun c7 => ⟨rfl, rfl, rfl, rfl, rfl, rfl, rfl, (by rw [c7]; rfl), trivial⟩) ?_
    refine at_s T rfl ?_
    refine at_case (s := 35) rfl (fun c8 => ?_) (fun c8 => ?_)
    · replace Z4 := if_t c8 Z4
      iterate 2 refine at_s T rfl ?_
      obtain ⟨v7, V9, Z4⟩ := bind_e Z4
      refine at_cons (at_c (B := fun _ => []) [] rfl rfl rfl rfl has20 rfl rfl (grid_Grid_Cost_2.c cell v7 _ V9) (fun _ => ?_))
      iterate 3 refine at_s T rfl ?_
      refine at_case (s := 41) rfl (fun c10 => ?_) (fun c10 => ?_)
      · replace Z4 := if_t c10 Z4
        iterate 3 refine at_s T rfl ?_
        obtain ⟨v8, V11, Z4⟩ := bind_e Z4
        refine at_cons (at_c (B := fun _ => []) [] rfl rfl rfl rfl has21 rfl rfl (grid_Grid_Edit_2.c cell cost v8 _ V11) (fun _ => ?_))
        iterate 3 refine at_s T rfl ?_
        refine at_case (s := 48) rfl (fun c12 => ?_) (fun c12 => ?_)
        · replace Z4 := if_t c12 Z4
          refine at_s T rfl ?_
          obtain ⟨v9, V13, Z4⟩ := bind_e Z4
          refine at_cons (at_c (B := fun _ => []) [] rfl rfl rfl rfl has19 rfl rfl (grid_Grid_Epoch_2.c  v9 _ V13) (fun _ => ?_))
          iterate 3 refine at_s T rfl ?_
          refine at_case (s := 53) rfl (fun c14 => ?_) (fun c14 => ?_)
          · replace Z4 := if_t c14 Z4
            iterate 2 refine at_s T rfl ?_
            obtain ⟨v10, V15, Z4⟩ := bind_e Z4
            refine at_cons (at_c (B := fun _ => []) [] rfl rfl rfl rfl has18 rfl rfl (grid_Grid_Version_2.c sector v10 _ V15) (fun _ => ?_))
            iterate 3 refine at_s T rfl ?_
            refine at_grp T [34, 35, 36] (s := 59) (c := (v10 == 0)) [(10, (.pointer (some ⟨b2, 0, none⟩))), (12, (.pointer (some ⟨b4, 0, none⟩))), (62, (.bool ((v10 == 0) && (!v2.2))))] rfl rfl rfl (fun c16 => ⟨rfl, rfl, (by rw [c16]; rfl), trivial⟩) (fun c16 => ⟨rfl, rfl, (by rw [c16]; rfl), trivial⟩) ?_
            refine at_s T rfl ?_
            refine at_case (s := 63) rfl (fun c17 => ?_) (fun c17 => ?_)
            · replace Z4 := if_t c17 Z4
              refine at_s T rfl ?_
              refine at_v rfl (g_load T rfl rfl rfl rfl (in_var (j := 2) rfl rfl)) ?_
              iterate 4 refine at_s T rfl ?_
              refine at_case (s := 69) rfl (fun c18 => ?_) (fun c18 => ?_)
              · replace Z4 := if_t c18 Z4
                refine at_s T rfl ?_
                refine at_v rfl (g_load T rfl rfl rfl rfl (in_var (j := 4) rfl rfl)) ?_
                iterate 4 refine at_s T rfl ?_
                refine at_case (s := 75) rfl (fun c19 => ?_) (fun c19 => ?_)
                · replace Z4 := if_t c19 Z4
                  refine at_s T rfl ?_
                  refine at_v rfl (g_load T rfl rfl rfl rfl (in_var (j := 4) rfl rfl)) ?_
                  iterate 3 refine at_s T rfl ?_
                  refine at_end ?_
                  refine at_to [(6, (.bool (v3.W == 0)))] [0] [F] ⟨rfl, trivial⟩ rfl ?_
                  refine at_then ?_
                  obtain rfl := Option.some.inj Z4
                  exact at_mid (v3.W == 0) [0] rfl ⟨rfl, trivial⟩ rfl
                · replace Z4 := if_f (bf c19) Z4
                  iterate 5 refine at_s T rfl ?_
                  refine at_end ?_
                  refine at_to [(6, (.bool false))] [0] [F] ⟨rfl, trivial⟩ rfl ?_
                  refine at_then ?_
                  obtain rfl := Option.some.inj Z4
                  exact at_mid false [0] rfl ⟨rfl, trivial⟩ rfl
              · replace Z4 := if_f (bf c18) Z4
                iterate 11 refine at_s T rfl ?_
                refine at_end ?_
                refine at_to [(6, (.bool false))] [0] [F] ⟨rfl, trivial⟩ rfl ?_
                refine at_then ?_
                obtain rfl := Option.some.inj Z4
                exact at_mid false [0] rfl ⟨rfl, trivial⟩ rfl
            · replace Z4 := if_f (bf c17) Z4
              iterate 17 refine at_s T rfl ?_
              refine at_end ?_
              refine at_to [(6, (.bool false))] [0] [F] ⟨rfl, trivial⟩ rfl ?_
              refine at_then ?_
              obtain rfl := Option.some.inj Z4
              exact at_mid false [0] rfl ⟨rfl, trivial⟩ rfl
          · replace Z4 := if_f (bf c14) Z4
            iterate 27 refine at_s T rfl ?_
            refine at_end ?_
            refine at_to [(6, (.bool false))] [0] [F] ⟨rfl, trivial⟩ rfl ?_
            refine at_then ?_
            obtain rfl := Option.some.inj Z4
            exact at_mid false [0] rfl ⟨rfl, trivial⟩ rfl
        · replace Z4 := if_f (bf c12) Z4
          iterate 32 refine at_s T rfl ?_
          refine at_end ?_
          refine at_to [(6, (.bool false))] [0] [F] ⟨rfl, trivial⟩ rfl ?_
          refine at_then ?_
          obtain rfl := Option.some.inj Z4
          exact at_mid false [0] rfl ⟨rfl, trivial⟩ rfl
      · replace Z4 := if_f (bf c10) Z4
        iterate 39 refine at_s T rfl ?_
        refine at_end ?_
        refine at_to [(6, (.bool false))] [0] [F] ⟨rfl, trivial⟩ rfl ?_
        refine at_then ?_
        obtain rfl := Option.some.inj Z4
        exact at_mid false [0] rfl ⟨rfl, trivial⟩ rfl
    · replace Z4 := if_f (bf c8) Z4
      iterate 45 refine at_s T rfl ?_
      refine at_end ?_
      refine at_to [(6, (.bool false))] [0] [F] ⟨rfl, trivial⟩ rfl ?_
      refine at_then ?_
      obtain rfl := Option.some.inj Z4
      exact at_mid false [0] rfl ⟨rfl, trivial⟩ rfl
  · rintro x4 rfl
    refine at_ret ?_
    obtain rfl := Option.some.inj H
    exact at_post (T := T) rfl (.tmp rfl .nil) (fun w o => ⟨(), rfl, own_to [0] rfl o⟩)
def law5_GridNone.Pure : Prop := ∀ (cell : Int) (cost : Int) (sector : Int), inI64 cell → inI64 cost → inI64 sector → law5_GridNone.f cell cost sector = some true
end Go.Proofs.Ytmjcmkimhkjdeaa
