import Derived.Test.YtmddmofncblfpaaT
import Derived.Test.YtmddmofncblfpaaFlaw21
import Derived.Test.YtmddmofncblfpaaFunits
namespace Go.Proofs.Ytmddmofncblfpaa
open Go.Hx
set_option maxRecDepth 100000
set_option linter.unusedVariables false
/-! ### herdsman/herdsmanlaw21.UnitsNone: function 10 -/
def law21_UnitsNone.f (most : Int) (id : Int) (cell : Int) : Option Bool := (units_Units_Add_2.f cell id).bind fun v1 => (units_Units_Get_2.f id).bind fun v2 => (units_New.f most).bind fun v3 => optm v3 (((law21_told.f).bind fun v6 => if v6 = true then (if most < 1 then (if (((true == true) && (v1.1 == 0)) && (!v1.2)) = true then (if (((v2.1.Id == 0) && ((v2.1.Cell == 0) && ((v2.1.Goal == 0) && true))) && (!v2.2)) = true then ((units_Units_Aim_2.f id cell).bind fun v7 => if (!v7) = true then ((units_Units_Move_2.f id cell).bind fun v8 => if (!v8) = true then ((units_Units_Drop_2.f id).bind fun v9 => if (!v9) = true then ((units_Units_All_2.f).bind fun v10 => if ((List.length v10 : Int) == 0) = true then ((units_Units_Len_2.f).bind fun v11 => if (v11 == 0) = true then ((units_Units_Next_2.f).bind fun v12 => some (v12 == 0)) else (some false)) else (some false)) else (some false)) else (some false)) else (some false)) else (some false)) else (some false)) else (if (((true == (decide (most > 65536))) && (v1.1 == 0)) && (!v1.2)) = true then (if (((v2.1.Id == 0) && ((v2.1.Cell == 0) && ((v2.1.Goal == 0) && true))) && (!v2.2)) = true then ((units_Units_Aim_2.f id cell).bind fun v13 => if (!v13) = true then ((units_Units_Move_2.f id cell).bind fun v14 => if (!v14) = true then ((units_Units_Drop_2.f id).bind fun v15 => if (!v15) = true then ((units_Units_All_2.f).bind fun v16 => if ((List.length v16 : Int) == 0) = true then ((units_Units_Len_2.f).bind fun v17 => if (v17 == 0) = true then ((units_Units_Next_2.f).bind fun v18 => some (v18 == 0)) else (some false)) else (some false)) else (some false)) else (some false)) else (some false)) else (some false)) else (some false))) else (some false)).bind fun x4 => some x4) (fun yv3 => ((law21_told.f).bind fun v21 => if v21 = true then (if most < 1 then (if (((false == true) && (v1.1 == 0)) && (!v1.2)) = true then (if (((v2.1.Id == 0) && ((v2.1.Cell == 0) && ((v2.1.Goal == 0) && true))) && (!v2.2)) = true then ((units_Units_Aim_2.f id cell).bind fun v22 => if (!v22) = true then ((units_Units_Move_2.f id cell).bind fun v23 => if (!v23) = true then ((units_Units_Drop_2.f id).bind fun v24 => if (!v24) = true then ((units_Units_All_2.f).bind fun v25 => if ((List.length v25 : Int) == 0) = true then ((units_Units_Len_2.f).bind fun v26 => if (v26 == 0) = true then ((units_Units_Next_2.f).bind fun v27 => some (v27 == 0)) else (some false)) else (some false)) else (some false)) else (some false)) else (some false)) else (some false)) else (some false)) else (if (((false == (decide (most > 65536))) && (v1.1 == 0)) && (!v1.2)) = true then (if (((v2.1.Id == 0) && ((v2.1.Cell == 0) && ((v2.1.Goal == 0) && true))) && (!v2.2)) = true then ((units_Units_Aim_2.f id cell).bind fun v28 => if (!v28) = true then ((units_Units_Move_2.f id cell).bind fun v29 => if (!v29) = true then ((units_Units_Drop_2.f id).bind fun v30 => if (!v30) = true then ((units_Units_All_2.f).bind fun v31 => if ((List.length v31 : Int) == 0) = true then ((units_Units_Len_2.f).bind fun v32 => if (v32 == 0) = true then ((units_Units_Next_2.f).bind fun v33 => some (v33 == 0)) else (some false)) else (some false)) else (some false)) else (some false)) else (some false)) else (some false)) else (some false))) else (some false)).bind fun x19 => some x19)
set_option maxHeartbeats 4000000 in
theorem law21_UnitsNone.c (most : Int) (id : Int) (cell : Int) (r : Bool) (F : Hp) (H : law21_UnitsNone.f most id cell = some r) :
    CallsL Try.prog 10 [(.int .i64 most), (.int .i64 id), (.int .i64 cell)] [F] (fun _ : Unit => (.bool r)) (fun _ => [F]) := by
  unfold law21_UnitsNone.f at H
  refine calls_atL [(0, (.int .i64 most)), (1, (.int .i64 id)), (2, (.int .i64 cell))] Try.func10 rfl rfl ⟨rfl, rfl, rfl, trivial⟩ (fun W => ?_)
  refine at_seq ?_
  refine at_region [0] rfl ?_
  refine at_s T rfl ?_
  refine at_end ?_
  refine at_sub [(0, (.int .i64 most)), (1, (.int .i64 id)), (2, (.int .i64 cell))] ⟨rfl, rfl, rfl, trivial⟩ ?_
  refine at_then ?_
  refine at_seq ?_
  refine at_region [0] rfl ?_
  refine at_s T rfl ?_
  refine at_end ?_
  refine at_sub [(0, (.int .i64 most)), (1, (.int .i64 id)), (2, (.int .i64 cell)), (7, (.pointer none))] ⟨rfl, rfl, rfl, rfl, trivial⟩ ?_
  refine at_then ?_
  refine at_seq ?_
  refine at_region [0, 1, 2, 3, 4, 5, 6, 7, 8] rfl ?_
  iterate 3 refine at_s T rfl ?_
  obtain ⟨v1, V1, H⟩ := bind_e H
  refine at_cons (at_c (B := fun _ => []) [] rfl rfl rfl rfl has27 rfl rfl (units_Units_Add_2.c cell id v1 _ V1) (fun _ => ?_))
  iterate 5 refine at_s T rfl ?_
  refine at_end ?_
  refine at_sub [(0, (.int .i64 most)), (1, (.int .i64 id)), (2, (.int .i64 cell)), (7, (.pointer none)), (8, (.int .i64 v1.1)), (9, (.bool v1.2))] ⟨rfl, rfl, rfl, rfl, rfl, rfl, trivial⟩ ?_
  refine at_then ?_
  refine at_seq ?_
  refine at_region [0, 1, 2, 3, 4, 5, 6, 7, 8] rfl ?_
  iterate 2 refine at_s T rfl ?_
  obtain ⟨v2, V2, H⟩ := bind_e H
  refine at_cons (at_c (B := fun _ => []) [] rfl rfl rfl rfl has37 rfl rfl (units_Units_Get_2.c id v2 _ V2) (fun _ => ?_))
  iterate 3 refine at_s T rfl ?_
  refine at_cons (at_al T [(.int .i64 0), (.int .i64 0), (.int .i64 0)] rfl rfl rfl rfl (fun b1 => ?_))
  refine at_cons (at_st T 1 [(.int .i64 v2.1.Id), (.int .i64 v2.1.Cell), (.int .i64 v2.1.Goal)] rfl rfl rfl rfl rfl rfl rfl rfl rfl rfl ?_)
  refine at_s T rfl ?_
  refine at_end ?_
  refine at_sub [(0, (.int .i64 most)), (1, (.int .i64 id)), (2, (.int .i64 cell)), (7, (.pointer none)), (8, (.int .i64 v1.1)), (9, (.bool v1.2)), (10, (.pointer (some ⟨b1, 0, none⟩))), (11, (.bool v2.2))] ⟨rfl, rfl, rfl, rfl, rfl, rfl, rfl, rfl, trivial⟩ ?_
  refine at_then ?_
  refine at_seq ?_
  refine at_region [0, 1, 2] rfl ?_
  refine at_s T rfl ?_
  obtain ⟨v3, V3, H⟩ := bind_e H
  refine at_cons (at_cR (units_New.R v3) [] [] rfl rfl rfl rfl has26 rfl rfl (units_New.c most v3 _ V3) ?_)
  rintro _ _ ⟨_, _, O4, rfl, rfl⟩
  rcases v3 with _ | yv3
  · replace H := optm_n rfl H
    obtain ⟨rfl, rfl⟩ := O4
    refine at_s T rfl ?_
    refine at_end ?_
    refine at_sub [(0, (.int .i64 most)), (1, (.int .i64 id)), (2, (.int .i64 cell)), (7, (.pointer none)), (8, (.int .i64 v1.1)), (9, (.bool v1.2)), (10, (.pointer (some ⟨b1, 0, none⟩))), (11, (.bool v2.2)), (12, (.pointer none))] ⟨rfl, rfl, rfl, rfl, rfl, rfl, rfl, rfl, rfl, trivial⟩ ?_
    refine at_then ?_
    obtain ⟨z5, Z5, H⟩ := bind_e H
    refine at_seq_mid (σ := Bool) (fun x4 => x4 = z5) (fun x4 => [(6, (.bool x4))]) (fun x4 => [F]) ?_ ?_
    · refine at_region [0, 1, 2, 3, 4, 5, 6, 7, 8, 9, 10, 11, 12, 13, 14, 15, 16, 17, 18, 19, 20, 21, 22, 23, 24, 25, 26, 27, 28, 29, 30, 31, 32, 33, 34, 35, 36, 37, 38, 39, 40, 41, 42, 43, 44, 45, 46, 47, 48, 49, 50, 51, 52, 53, 54, 55, 56, 57, 58, 59, 60, 61, 62, 63, 64, 65] rfl ?_
      obtain ⟨v6, V6, Z5⟩ := bind_e Z5
      refine at_cons (at_c (B := fun _ => []) [] rfl rfl rfl rfl has29 rfl rfl (law21_told.c  v6 _ V6) (fun _ => ?_))
      refine at_s T rfl ?_
      refine at_case (s := 29) rfl (fun c7 => ?_) (fun c7 => ?_)
      · replace Z5 := if_t c7 Z5
        iterate 5 refine at_s T rfl ?_
        refine at_case (s := 34) rfl (fun c8 => ?_) (fun c8 => ?_)
        · replace Z5 := if_t (of_decide_eq_true c8) Z5
          iterate 6 refine at_s T rfl ?_
          refine at_grp T [13, 14, 15] (s := 40) (c := (true == true)) [(1, (.int .i64 id)), (2, (.int .i64 cell)), (7, (.pointer none)), (9, (.bool v1.2)), (10, (.pointer (some ⟨b1, 0, none⟩))), (11, (.bool v2.2)), (43, (.bool ((true == true) && (v1.1 == 0))))] rfl rfl rfl (fun c9 => ⟨rfl, rfl, rfl, rfl, rfl, rfl, (by rw [c9]; rfl), trivial⟩) (fun c9 => ⟨rfl, rfl, rfl, rfl, rfl, rfl, (by rw [c9]; rfl), trivial⟩) ?_
          refine at_s T rfl ?_
          refine at_grp T [17, 18, 19] (s := 44) (c := ((true == true) && (v1.1 == 0))) [(1, (.int .i64 id)), (2, (.int .i64 cell)), (7, (.pointer none)), (10, (.pointer (some ⟨b1, 0, none⟩))), (11, (.bool v2.2)), (47, (.bool (((true == true) && (v1.1 == 0)) && (!v1.2))))] rfl rfl rfl (fun c10 => ⟨rfl, rfl, rfl, rfl, rfl, (by rw [c10]; rfl), trivial⟩) (fun c10 => ⟨rfl, rfl, rfl, rfl, rfl, (by rw [c10]; rfl), trivial⟩) ?_
          refine at_s T rfl ?_
          refine at_case (s := 48) rfl (fun c11 => ?_) (fun c11 => ?_)
          · replace Z5 := if_t c11 Z5
            refine at_v rfl (g_loadA T (cs := [(.int .i64 v2.1.Id), (.int .i64 v2.1.Cell), (.int .i64 v2.1.Goal)]) rfl rfl rfl rfl rfl rfl (in_varA (j := 1) rfl rfl)) ?_
            refine at_s T rfl ?_
            refine at_v rfl (g_aeq T ((v2.1.Id == 0) && ((v2.1.Cell == 0) && ((v2.1.Goal == 0) && true))) rfl rfl rfl rfl sq47 (by kernel_rfl) rfl) ?_
            iterate 2 refine at_s T rfl ?_
            refine at_grp T [26, 27, 28] (s := 53) (c := ((v2.1.Id == 0) && ((v2.1.Cell == 0) && ((v2.1.Goal == 0) && true)))) [(1, (.int .i64 id)), (2, (.int .i64 cell)), (7, (.pointer none)), (56, (.bool (((v2.1.Id == 0) && ((v2.1.Cell == 0) && ((v2.1.Goal == 0) && true))) && (!v2.2))))] rfl rfl rfl (fun c12 => ⟨rfl, rfl, rfl, (by rw [c12]; rfl), trivial⟩) (fun c12 => ⟨rfl, rfl, rfl, (by rw [c12]; rfl), trivial⟩) ?_
            refine at_s T rfl ?_
            refine at_case (s := 57) rfl (fun c13 => ?_) (fun c13 => ?_)
            · replace Z5 := if_t c13 Z5
              iterate 3 refine at_s T rfl ?_
              obtain ⟨v7, V14, Z5⟩ := bind_e Z5
              refine at_cons (at_c (B := fun _ => []) [] rfl rfl rfl rfl has33 rfl rfl (units_Units_Aim_2.c id cell v7 _ V14) (fun _ => ?_))
              iterate 3 refine at_s T rfl ?_
              refine at_case (s := 64) rfl (fun c15 => ?_) (fun c15 => ?_)
              · replace Z5 := if_t c15 Z5
                iterate 3 refine at_s T rfl ?_
                obtain ⟨v8, V16, Z5⟩ := bind_e Z5
                refine at_cons (at_c (B := fun _ => []) [] rfl rfl rfl rfl has34 rfl rfl (units_Units_Move_2.c id cell v8 _ V16) (fun _ => ?_))
                iterate 3 refine at_s T rfl ?_
                refine at_case (s := 71) rfl (fun c17 => ?_) (fun c17 => ?_)
                · replace Z5 := if_t c17 Z5
                  iterate 2 refine at_s T rfl ?_
                  obtain ⟨v9, V18, Z5⟩ := bind_e Z5
                  refine at_cons (at_c (B := fun _ => []) [] rfl rfl rfl rfl has35 rfl rfl (units_Units_Drop_2.c id v9 _ V18) (fun _ => ?_))
                  iterate 3 refine at_s T rfl ?_
                  refine at_case (s := 77) rfl (fun c19 => ?_) (fun c19 => ?_)
                  · replace Z5 := if_t c19 Z5
                    refine at_s T rfl ?_
                    obtain ⟨v10, V20, Z5⟩ := bind_e Z5
                    refine at_cons (at_cR (units_Units_All_2.R v10) [] [] rfl rfl rfl rfl has28 rfl rfl (units_Units_All_2.c  v10 _ V20) ?_)
                    rintro _ _ ⟨a5, n5, H5, s5, rfl, rfl⟩
                    iterate 4 refine at_s T rfl ?_
                    refine at_case (s := 83) rfl (fun c21 => ?_) (fun c21 => ?_)
                    · replace Z5 := if_t c21 Z5
                      refine at_s T rfl ?_
                      obtain ⟨v11, V22, Z5⟩ := bind_e Z5
                      refine at_cons (at_c (B := fun _ => []) [] rfl rfl rfl rfl has39 rfl rfl (units_Units_Len_2.c  v11 _ V22) (fun _ => ?_))
                      iterate 3 refine at_s T rfl ?_
                      refine at_case (s := 88) rfl (fun c23 => ?_) (fun c23 => ?_)
                      · replace Z5 := if_t c23 Z5
                        refine at_s T rfl ?_
                        obtain ⟨v12, V24, Z5⟩ := bind_e Z5
                        refine at_cons (at_c (B := fun _ => []) [] rfl rfl rfl rfl has40 rfl rfl (units_Units_Next_2.c  v12 _ V24) (fun _ => ?_))
                        iterate 3 refine at_s T rfl ?_
                        refine at_end ?_
                        refine at_to [(6, (.bool (v12 == 0)))] [0] [F] ⟨rfl, trivial⟩ rfl ?_
                        refine at_then ?_
                        obtain rfl := Option.some.inj Z5
                        exact at_mid (v12 == 0) [0] rfl ⟨rfl, trivial⟩ rfl
                      · replace Z5 := if_f (bf c23) Z5
                        iterate 5 refine at_s T rfl ?_
                        refine at_end ?_
                        refine at_to [(6, (.bool false))] [0] [F] ⟨rfl, trivial⟩ rfl ?_
                        refine at_then ?_
                        obtain rfl := Option.some.inj Z5
                        exact at_mid false [0] rfl ⟨rfl, trivial⟩ rfl
                    · replace Z5 := if_f (bf c21) Z5
                      iterate 10 refine at_s T rfl ?_
                      refine at_end ?_
                      refine at_to [(6, (.bool false))] [0] [F] ⟨rfl, trivial⟩ rfl ?_
                      refine at_then ?_
                      obtain rfl := Option.some.inj Z5
                      exact at_mid false [0] rfl ⟨rfl, trivial⟩ rfl
                  · replace Z5 := if_f (bf c19) Z5
                    iterate 16 refine at_s T rfl ?_
                    refine at_end ?_
                    refine at_to [(6, (.bool false))] [0] [F] ⟨rfl, trivial⟩ rfl ?_
                    refine at_then ?_
                    obtain rfl := Option.some.inj Z5
                    exact at_mid false [0] rfl ⟨rfl, trivial⟩ rfl
                · replace Z5 := if_f (bf c17) Z5
                  iterate 22 refine at_s T rfl ?_
                  refine at_end ?_
                  refine at_to [(6, (.bool false))] [0] [F] ⟨rfl, trivial⟩ rfl ?_
                  refine at_then ?_
                  obtain rfl := Option.some.inj Z5
                  exact at_mid false [0] rfl ⟨rfl, trivial⟩ rfl
              · replace Z5 := if_f (bf c15) Z5
                iterate 29 refine at_s T rfl ?_
                refine at_end ?_
                refine at_to [(6, (.bool false))] [0] [F] ⟨rfl, trivial⟩ rfl ?_
                refine at_then ?_
                obtain rfl := Option.some.inj Z5
                exact at_mid false [0] rfl ⟨rfl, trivial⟩ rfl
            · replace Z5 := if_f (bf c13) Z5
              iterate 36 refine at_s T rfl ?_
              refine at_end ?_
              refine at_to [(6, (.bool false))] [0] [F] ⟨rfl, trivial⟩ rfl ?_
              refine at_then ?_
              obtain rfl := Option.some.inj Z5
              exact at_mid false [0] rfl ⟨rfl, trivial⟩ rfl
          · replace Z5 := if_f (bf c11) Z5
            iterate 45 refine at_s T rfl ?_
            refine at_end ?_
            refine at_to [(6, (.bool false))] [0] [F] ⟨rfl, trivial⟩ rfl ?_
            refine at_then ?_
            obtain rfl := Option.some.inj Z5
            exact at_mid false [0] rfl ⟨rfl, trivial⟩ rfl
        · replace Z5 := if_f (of_decide_eq_false c8) Z5
          iterate 6 refine at_s T rfl ?_
          refine at_grp T [13, 14, 15] (s := 40) (c := (true == (decide (most > 65536)))) [(1, (.int .i64 id)), (2, (.int .i64 cell)), (7, (.pointer none)), (9, (.bool v1.2)), (10, (.pointer (some ⟨b1, 0, none⟩))), (11, (.bool v2.2)), (43, (.bool ((true == (decide (most > 65536))) && (v1.1 == 0))))] rfl rfl rfl (fun c25 => ⟨rfl, rfl, rfl, rfl, rfl, rfl, (by rw [c25]; rfl), trivial⟩) (fun c25 => ⟨rfl, rfl, rfl, rfl, rfl, rfl, (by rw [c25]; rfl), trivial⟩) ?_
          refine at_s T rfl ?_
          refine at_grp T [17, 18, 19] (s := 44) (c := ((true == (decide (most > 65536))) && (v1.1 == 0))) [(1, (.int .i64 id)), (2, (.int .i64 cell)), (7, (.pointer none)), (10, (.pointer (some ⟨b1, 0, none⟩))), (11, (.bool v2.2)), (47, (.bool (((true == (decide (most > 65536))) && (v1.1 == 0)) && (!v1.2))))] rfl rfl rfl (fun c26 => ⟨rfl, rfl, rfl, rfl, rfl, (by rw [c26]; rfl), trivial⟩) (fun c26 => ⟨rfl, rfl, rfl, rfl, rfl, (by rw [c26]; rfl), trivial⟩) ?_
          refine at_s T rfl ?_
          refine at_case (s := 48) rfl (fun c27 => ?_) (fun c27 => ?_)
          · replace Z5 := if_t c27 Z5
            refine at_v rfl (g_loadA T (cs := [(.int .i64 v2.1.Id), (.int .i64 v2.1.Cell), (.int .i64 v2.1.Goal)]) rfl rfl rfl rfl rfl rfl (in_varA (j := 1) rfl rfl)) ?_
            refine at_s T rfl ?_
            refine at_v rfl (g_aeq T ((v2.1.Id == 0) && ((v2.1.Cell == 0) && ((v2.1.Goal == 0) && true))) rfl rfl rfl rfl sq47 (by kernel_rfl) rfl) ?_
            iterate 2 refine at_s T rfl ?_
            refine at_grp T [26, 27, 28] (s := 53) (c := ((v2.1.Id == 0) && ((v2.1.Cell == 0) && ((v2.1.Goal == 0) && true)))) [(1, (.int .i64 id)), (2, (.int .i64 cell)), (7, (.pointer none)), (56, (.bool (((v2.1.Id == 0) && ((v2.1.Cell == 0) && ((v2.1.Goal == 0) && true))) && (!v2.2))))] rfl rfl rfl (fun c28 => ⟨rfl, rfl, rfl, (by rw [c28]; rfl), trivial⟩) (fun c28 => ⟨rfl, rfl, rfl, (by rw [c28]; rfl), trivial⟩) ?_
            refine at_s T rfl ?_
            refine at_case (s := 57) rfl (fun c29 => ?_) (fun c29 => ?_)
            · replace Z5 := if_t c29 Z5
              iterate 3 refine at_s T rfl ?_
              obtain ⟨v13, V30, Z5⟩ := bind_e Z5
              refine at_cons (at_c (B := fun _ => []) [] rfl rfl rfl rfl has33 rfl rfl (units_Units_Aim_2.c id cell v13 _ V30) (fun _ => ?_))
              iterate 3 refine at_s T rfl ?_
              refine at_case (s := 64) rfl (fun c31 => ?_) (fun c31 => ?_)
              · replace Z5 := if_t c31 Z5
                iterate 3 refine at_s T rfl ?_
                obtain ⟨v14, V32, Z5⟩ := bind_e Z5
                refine at_cons (at_c (B := fun _ => []) [] rfl rfl rfl rfl has34 rfl rfl (units_Units_Move_2.c id cell v14 _ V32) (fun _ => ?_))
                iterate 3 refine at_s T rfl ?_
                refine at_case (s := 71) rfl (fun c33 => ?_) (fun c33 => ?_)
                · replace Z5 := if_t c33 Z5
                  iterate 2 refine at_s T rfl ?_
                  obtain ⟨v15, V34, Z5⟩ := bind_e Z5
                  refine at_cons (at_c (B := fun _ => []) [] rfl rfl rfl rfl has35 rfl rfl (units_Units_Drop_2.c id v15 _ V34) (fun _ => ?_))
                  iterate 3 refine at_s T rfl ?_
                  refine at_case (s := 77) rfl (fun c35 => ?_) (fun c35 => ?_)
                  · replace Z5 := if_t c35 Z5
                    refine at_s T rfl ?_
                    obtain ⟨v16, V36, Z5⟩ := bind_e Z5
                    refine at_cons (at_cR (units_Units_All_2.R v16) [] [] rfl rfl rfl rfl has28 rfl rfl (units_Units_All_2.c  v16 _ V36) ?_)
                    rintro _ _ ⟨a6, n6, H6, s6, rfl, rfl⟩
                    iterate 4 refine at_s T rfl ?_
                    refine at_case (s := 83) rfl (fun c37 => ?_) (fun c37 => ?_)
                    · replace Z5 := if_t c37 Z5
                      refine at_s T rfl ?_
                      obtain ⟨v17, V38, Z5⟩ := bind_e Z5
                      refine at_cons (at_c (B := fun _ => []) [] rfl rfl rfl rfl has39 rfl rfl (units_Units_Len_2.c  v17 _ V38) (fun _ => ?_))
                      iterate 3 refine at_s T rfl ?_
                      refine at_case (s := 88) rfl (fun c39 => ?_) (fun c39 => ?_)
                      · replace Z5 := if_t c39 Z5
                        refine at_s T rfl ?_
                        obtain ⟨v18, V40, Z5⟩ := bind_e Z5
                        refine at_cons (at_c (B := fun _ => []) [] rfl rfl rfl rfl has40 rfl rfl (units_Units_Next_2.c  v18 _ V40) (fun _ => ?_))
                        iterate 3 refine at_s T rfl ?_
                        refine at_end ?_
                        refine at_to [(6, (.bool (v18 == 0)))] [0] [F] ⟨rfl, trivial⟩ rfl ?_
                        refine at_then ?_
                        obtain rfl := Option.some.inj Z5
                        exact at_mid (v18 == 0) [0] rfl ⟨rfl, trivial⟩ rfl
                      · replace Z5 := if_f (bf c39) Z5
                        iterate 5 refine at_s T rfl ?_
                        refine at_end ?_
                        refine at_to [(6, (.bool false))] [0] [F] ⟨rfl, trivial⟩ rfl ?_
                        refine at_then ?_
                        obtain rfl := Option.some.inj Z5
                        exact at_mid false [0] rfl ⟨rfl, trivial⟩ rfl
                    · replace Z5 := if_f (bf c37) Z5
                      iterate 10 refine at_s T rfl ?_
                      refine at_end ?_
                      refine at_to [(6, (.bool false))] [0] [F] ⟨rfl, trivial⟩ rfl ?_
                      refine at_then ?_
                      obtain rfl := Option.some.inj Z5
                      exact at_mid false [0] rfl ⟨rfl, trivial⟩ rfl
                  · replace Z5 := if_f (bf c35) Z5
                    iterate 16 refine at_s T rfl ?_
                    refine at_end ?_
                    refine at_to [(6, (.bool false))] [0] [F] ⟨rfl, trivial⟩ rfl ?_
                    refine at_then ?_
                    obtain rfl := Option.some.inj Z5
                    exact at_mid false [0] rfl ⟨rfl, trivial⟩ rfl
                · replace Z5 := if_f (bf c33) Z5
                  iterate 22 refine at_s T rfl ?_
                  refine at_end ?_
                  refine at_to [(6, (.bool false))] [0] [F] ⟨rfl, trivial⟩ rfl ?_
                  refine at_then ?_
                  obtain rfl := Option.some.inj Z5
                  exact at_mid false [0] rfl ⟨rfl, trivial⟩ rfl
              · replace Z5 := if_f (bf c31) Z5
                iterate 29 refine at_s T rfl ?_
                refine at_end ?_
                refine at_to [(6, (.bool false))] [0] [F] ⟨rfl, trivial⟩ rfl ?_
                refine at_then ?_
                obtain rfl := Option.some.inj Z5
                exact at_mid false [0] rfl ⟨rfl, trivial⟩ rfl
            · replace Z5 := if_f (bf c29) Z5
              iterate 36 refine at_s T rfl ?_
              refine at_end ?_
              refine at_to [(6, (.bool false))] [0] [F] ⟨rfl, trivial⟩ rfl ?_
              refine at_then ?_
              obtain rfl := Option.some.inj Z5
              exact at_mid false [0] rfl ⟨rfl, trivial⟩ rfl
          · replace Z5 := if_f (bf c27) Z5
            iterate 45 refine at_s T rfl ?_
            refine at_end ?_
            refine at_to [(6, (.bool false))] [0] [F] ⟨rfl, trivial⟩ rfl ?_
            refine at_then ?_
            obtain rfl := Option.some.inj Z5
            exact at_mid false [0] rfl ⟨rfl, trivial⟩ rfl
      · replace Z5 := if_f (bf c7) Z5
        iterate 64 refine at_s T rfl ?_
        refine at_end ?_
        refine at_to [(6, (.bool false))] [0] [F] ⟨rfl, trivial⟩ rfl ?_
        refine at_then ?_
        obtain rfl := Option.some.inj Z5
        exact at_mid false [0] rfl ⟨rfl, trivial⟩ rfl
    · rintro x4 rfl
      refine at_ret ?_
      obtain rfl := Option.some.inj H
      exact at_post (T := T) rfl (.tmp rfl .nil) (fun w o => ⟨(), rfl, own_to [0] rfl o⟩)
  · replace H := optm_s rfl H
    obtain ⟨b2, a3, H3, a4, n4, H4, s3, s4, rfl, rfl⟩ := O4
    refine at_s T rfl ?_
    refine at_end ?_
    refine at_sub [(0, (.int .i64 most)), (1, (.int .i64 id)), (2, (.int .i64 cell)), (7, (.pointer none)), (8, (.int .i64 v1.1)), (9, (.bool v1.2)), (10, (.pointer (some ⟨b1, 0, none⟩))), (11, (.bool v2.2)), (12, (.pointer (some ⟨b2, 0, none⟩)))] ⟨rfl, rfl, rfl, rfl, rfl, rfl, rfl, rfl, rfl, trivial⟩ ?_
    refine at_then ?_
    obtain ⟨z20, Z41, H⟩ := bind_e H
    refine at_seq_mid (σ := Bool) (fun x19 => x19 = z20) (fun x19 => [(6, (.bool x19))]) (fun x19 => [F]) ?_ ?_
    · refine at_region [0, 1, 2, 3, 4, 5, 6, 7, 8, 9, 10, 11, 12, 13, 14, 15, 16, 17, 18, 19, 20, 21, 22, 23, 24, 25, 26, 27, 28, 29, 30, 31, 32, 33, 34, 35, 36, 37, 38, 39, 40, 41, 42, 43, 44, 45, 46, 47, 48, 49, 50, 51, 52, 53, 54, 55, 56, 57, 58, 59, 60, 61, 62, 63, 64, 65] rfl ?_
      obtain ⟨v21, V42, Z41⟩ := bind_e Z41
      refine at_cons (at_c (B := fun _ => []) [] rfl rfl rfl rfl has29 rfl rfl (law21_told.c  v21 _ V42) (fun _ => ?_))
      refine at_s T rfl ?_
      refine at_case (s := 29) rfl (fun c43 => ?_) (fun c43 => ?_)
      · replace Z41 := if_t c43 Z41
        iterate 5 refine at_s T rfl ?_
        refine at_case (s := 34) rfl (fun c44 => ?_) (fun c44 => ?_)
        · replace Z41 := if_t (of_decide_eq_true c44) Z41
          iterate 6 refine at_s T rfl ?_
          refine at_grp T [13, 14, 15] (s := 40) (c := (false == true)) [(1, (.int .i64 id)), (2, (.int .i64 cell)), (7, (.pointer none)), (9, (.bool v1.2)), (10, (.pointer (some ⟨b1, 0, none⟩))), (11, (.bool v2.2)), (43, (.bool ((false == true) && (v1.1 == 0))))] rfl rfl rfl (fun c45 => ⟨rfl, rfl, rfl, rfl, rfl, rfl, (by rw [c45]; rfl), trivial⟩) (fun c45 => ⟨rfl, rfl, rfl, rfl, rfl, rfl, (by rw [c45]; rfl), trivial⟩) ?_
          refine at_s T rfl ?_
          refine at_grp T [17, 18, 19] (s := 44) (c := ((false == true) && (v1.1 == 0))) [(1, (.int .i64 id)), (2, (.int .i64 cell)), (7, (.pointer none)), (10, (.pointer (some ⟨b1, 0, none⟩))), (11, (.bool v2.2)), (47, (.bool (((false == true) && (v1.1 == 0)) && (!v1.2))))] rfl rfl rfl (fun c46 => ⟨rfl, rfl, rfl, rfl, rfl, (by rw [c46]; rfl), trivial⟩) (fun c46 => ⟨rfl, rfl, rfl, rfl, rfl, (by rw [c46]; rfl), trivial⟩) ?_
          refine at_s T rfl ?_
          refine at_case (s := 48) rfl (fun c47 => ?_) (fun c47 => ?_)
          · replace Z41 := if_t c47 Z41
            refine at_v rfl (g_loadA T (cs := [(.int .i64 v2.1.Id), (.int .i64 v2.1.Cell), (.int .i64 v2.1.Goal)]) rfl rfl rfl rfl rfl rfl (in_varA (j := 1) rfl rfl)) ?_
            refine at_s T rfl ?_
            refine at_v rfl (g_aeq T ((v2.1.Id == 0) && ((v2.1.Cell == 0) && ((v2.1.Goal == 0) && true))) rfl rfl rfl rfl sq47 (by kernel_rfl) rfl) ?_
            iterate 2 refine at_s T rfl ?_
            refine at_grp T [26, 27, 28] (s := 53) (c := ((v2.1.Id == 0) && ((v2.1.Cell == 0) && ((v2.1.Goal == 0) && true)))) [(1, (.int .i64 id)), (2, (.int .i64 cell)), (7, (.pointer none)), (56, (.bool (((v2.1.Id == 0) && ((v2.1.Cell == 0) && ((v2.1.Goal == 0) && true))) && (!v2.2))))] rfl rfl rfl (fun c48 => ⟨rfl, rfl, rfl, (by rw [c48]; rfl), trivial⟩) (fun c48 => ⟨rfl, rfl, rfl, (by rw [c48]; rfl), trivial⟩) ?_
            refine at_s T rfl ?_
            refine at_case (s := 57) rfl (fun c49 => ?_) (fun c49 => ?_)
            · replace Z41 := if_t c49 Z41
              iterate 3 refine at_s T rfl ?_
              obtain ⟨v22, V50, Z41⟩ := bind_e Z41
              refine at_cons (at_c (B := fun _ => []) [] rfl rfl rfl rfl has33 rfl rfl (units_Units_Aim_2.c id cell v22 _ V50) (fun _ => ?_))
              iterate 3 refine at_s T rfl ?_
              refine at_case (s := 64) rfl (fun c51 => ?_) (fun c51 => ?_)
              · replace Z41 := if_t c51 Z41
                iterate 3 refine at_s T rfl ?_
                obtain ⟨v23, V52, Z41⟩ := bind_e Z41
                refine at_cons (at_c (B := fun _ => []) [] rfl rfl rfl rfl has34 rfl rfl (units_Units_Move_2.c id cell v23 _ V52) (fun _ => ?_))
                iterate 3 refine at_s T rfl ?_
                refine at_case (s := 71) rfl (fun c53 => ?_) (fun c53 => ?_)
                · replace Z41 := if_t c53 Z41
                  iterate 2 refine at_s T rfl ?_
                  obtain ⟨v24, V54, Z41⟩ := bind_e Z41
                  refine at_cons (at_c (B := fun _ => []) [] rfl rfl rfl rfl has35 rfl rfl (units_Units_Drop_2.c id v24 _ V54) (fun _ => ?_))
                  iterate 3 refine at_s T rfl ?_
                  refine at_case (s := 77) rfl (fun c55 => ?_) (fun c55 => ?_)
                  · replace Z41 := if_t c55 Z41
                    refine at_s T rfl ?_
                    obtain ⟨v25, V56, Z41⟩ := bind_e Z41
                    refine at_cons (at_cR (units_Units_All_2.R v25) [] [] rfl rfl rfl rfl has28 rfl rfl (units_Units_All_2.c  v25 _ V56) ?_)
                    rintro _ _ ⟨a7, n7, H7, s7, rfl, rfl⟩
                    iterate 4 refine at_s T rfl ?_
                    refine at_case (s := 83) rfl (fun c57 => ?_) (fun c57 => ?_)
                    · replace Z41 := if_t c57 Z41
                      refine at_s T rfl ?_
                      obtain ⟨v26, V58, Z41⟩ := bind_e Z41
                      refine at_cons (at_c (B := fun _ => []) [] rfl rfl rfl rfl has39 rfl rfl (units_Units_Len_2.c  v26 _ V58) (fun _ => ?_))
                      iterate 3 refine at_s T rfl ?_
                      refine at_case (s := 88) rfl (fun c59 => ?_) (fun c59 => ?_)
                      · replace Z41 := if_t c59 Z41
                        refine at_s T rfl ?_
                        obtain ⟨v27, V60, Z41⟩ := bind_e Z41
                        refine at_cons (at_c (B := fun _ => []) [] rfl rfl rfl rfl has40 rfl rfl (units_Units_Next_2.c  v27 _ V60) (fun _ => ?_))
                        iterate 3 refine at_s T rfl ?_
                        refine at_end ?_
                        refine at_to [(6, (.bool (v27 == 0)))] [0] [F] ⟨rfl, trivial⟩ rfl ?_
                        refine at_then ?_
                        obtain rfl := Option.some.inj Z41
                        exact at_mid (v27 == 0) [0] rfl ⟨rfl, trivial⟩ rfl
                      · replace Z41 := if_f (bf c59) Z41
                        iterate 5 refine at_s T rfl ?_
                        refine at_end ?_
                        refine at_to [(6, (.bool false))] [0] [F] ⟨rfl, trivial⟩ rfl ?_
                        refine at_then ?_
                        obtain rfl := Option.some.inj Z41
                        exact at_mid false [0] rfl ⟨rfl, trivial⟩ rfl
                    · replace Z41 := if_f (bf c57) Z41
                      iterate 10 refine at_s T rfl ?_
                      refine at_end ?_
                      refine at_to [(6, (.bool false))] [0] [F] ⟨rfl, trivial⟩ rfl ?_
                      refine at_then ?_
                      obtain rfl := Option.some.inj Z41
                      exact at_mid false [0] rfl ⟨rfl, trivial⟩ rfl
                  · replace Z41 := if_f (bf c55) Z41
                    iterate 16 refine at_s T rfl ?_
                    refine at_end ?_
                    refine at_to [(6, (.bool false))] [0] [F] ⟨rfl, trivial⟩ rfl ?_
                    refine at_then ?_
                    obtain rfl := Option.some.inj Z41
                    exact at_mid false [0] rfl ⟨rfl, trivial⟩ rfl
                · replace Z41 := if_f (bf c53) Z41
                  iterate 22 refine at_s T rfl ?_
                  refine at_end ?_
                  refine at_to [(6, (.bool false))] [0] [F] ⟨rfl, trivial⟩ rfl ?_
                  refine at_then ?_
                  obtain rfl := Option.some.inj Z41
                  exact at_mid false [0] rfl ⟨rfl, trivial⟩ rfl
              · replace Z41 := if_f (bf c51) Z41
                iterate 29 refine at_s T rfl ?_
                refine at_end ?_
                refine at_to [(6, (.bool false))] [0] [F] ⟨rfl, trivial⟩ rfl ?_
                refine at_then ?_
                obtain rfl := Option.some.inj Z41
                exact at_mid false [0] rfl ⟨rfl, trivial⟩ rfl
            · replace Z41 := if_f (bf c49) Z41
              iterate 36 refine at_s T rfl ?_
              refine at_end ?_
              refine at_to [(6, (.bool false))] [0] [F] ⟨rfl, trivial⟩ rfl ?_
              refine at_then ?_
              obtain rfl := Option.some.inj Z41
              exact at_mid false [0] rfl ⟨rfl, trivial⟩ rfl
          · replace Z41 := if_f (bf c47) Z41
            iterate 45 refine at_s T rfl ?_
            refine at_end ?_
            refine at_to [(6, (.bool false))] [0] [F] ⟨rfl, trivial⟩ rfl ?_
            refine at_then ?_
            obtain rfl := Option.some.inj Z41
            exact at_mid false [0] rfl ⟨rfl, trivial⟩ rfl
        · replace Z41 := if_f (of_decide_eq_false c44) Z41
          iterate 6 refine at_s T rfl ?_
          refine at_grp T [13, 14, 15] (s := 40) (c := (false == (decide (most > 65536)))) [(1, (.int .i64 id)), (2, (.int .i64 cell)), (7, (.pointer none)), (9, (.bool v1.2)), (10, (.pointer (some ⟨b1, 0, none⟩))), (11, (.bool v2.2)), (43, (.bool ((false == (decide (most > 65536))) && (v1.1 == 0))))] rfl rfl rfl (fun c61 => ⟨rfl, rfl, rfl, rfl, rfl, rfl, (by rw [c61]; rfl), trivial⟩) (fun c61 => ⟨rfl, rfl, rfl, rfl, rfl, rfl, (by rw [c61]; rfl), trivial⟩) ?_
          refine at_s T rfl ?_
          refine at_grp T [17, 18, 19] (s := 44) (c := ((false == (decide (most > 65536))) && (v1.1 == 0))) [(1, (.int .i64 id)), (2, (.int .i64 cell)), (7, (.pointer none)), (10, (.pointer (some ⟨b1, 0, none⟩))), (11, (.bool v2.2)), (47, (.bool (((false == (decide (most > 65536))) && (v1.1 == 0)) && (!v1.2))))] rfl rfl rfl (fun c62 => ⟨rfl, rfl, rfl, rfl, rfl, (by rw [c62]; rfl), trivial⟩) (fun c62 => ⟨rfl, rfl, rfl, rfl, rfl, (by rw [c62]; rfl), trivial⟩) ?_
          refine at_s T rfl ?_
          refine at_case (s := 48) rfl (fun c63 => ?_) (fun c63 => ?_)
          · replace Z41 := if_t c63 Z41
            refine at_v rfl (g_loadA T (cs := [(.int .i64 v2.1.Id), (.int .i64 v2.1.Cell), (.int .i64 v2.1.Goal)]) rfl rfl rfl rfl rfl rfl (in_varA (j := 1) rfl rfl)) ?_
            refine at_s T rfl ?_
            refine at_v rfl (g_aeq T ((v2.1.Id == 0) && ((v2.1.Cell == 0) && ((v2.1.Goal == 0) && true))) rfl rfl rfl rfl sq47 (by kernel_rfl) rfl) ?_
            iterate 2 refine at_s T rfl ?_
            refine at_grp T [26, 27, 28] (s := 53) (c := ((v2.1.Id == 0) && ((v2.1.Cell == 0) && ((v2.1.Goal == 0) && true)))) [(1, (.int .i64 id)), (2, (.int .i64 cell)), (7, (.pointer none)), (56, (.bool (((v2.1.Id == 0) && ((v2.1.Cell == 0) && ((v2.1.Goal == 0) && true))) && (!v2.2))))] rfl rfl rfl (fun c64 => ⟨rfl, rfl, rfl, (by rw [c64]; rfl), trivial⟩) (fun c64 => ⟨rfl, rfl, rfl, (by rw [c64]; rfl), trivial⟩) ?_
            refine at_s T rfl ?_
            refine at_case (s := 57) rfl (fun c65 => ?_) (fun c65 => ?_)
            · replace Z41 := if_t c65 Z41
              iterate 3 refine at_s T rfl ?_
              obtain ⟨v28, V66, Z41⟩ := bind_e Z41
              refine at_cons (at_c (B := fun _ => []) [] rfl rfl rfl rfl has33 rfl rfl (units_Units_Aim_2.c id cell v28 _ V66) (fun _ => ?_))
              iterate 3 refine at_s T rfl ?_
              refine at_case (s := 64) rfl (fun c67 => ?_) (fun c67 => ?_)
              · replace Z41 := if_t c67 Z41
                iterate 3 refine at_s T rfl ?_
                obtain ⟨v29, V68, Z41⟩ := bind_e Z41
                refine at_cons (at_c (B := fun _ => []) [] rfl rfl rfl rfl has34 rfl rfl (units_Units_Move_2.c id cell v29 _ V68) (fun _ => ?_))
                iterate 3 refine at_s T rfl ?_
                refine at_case (s := 71) rfl (fun c69 => ?_) (fun c69 => ?_)
                · replace Z41 := if_t c69 Z41
                  iterate 2 refine at_s T rfl ?_
                  obtain ⟨v30, V70, Z41⟩ := bind_e Z41
                  refine at_cons (at_c (B := fun _ => []) [] rfl rfl rfl rfl has35 rfl rfl (units_Units_Drop_2.c id v30 _ V70) (fun _ => ?_))
                  iterate 3 refine at_s T rfl ?_
                  refine at_case (s := 77) rfl (fun c71 => ?_) (fun c71 => ?_)
                  · replace Z41 := if_t c71 Z41
                    refine at_s T rfl ?_
                    obtain ⟨v31, V72, Z41⟩ := bind_e Z41
                    refine at_cons (at_cR (units_Units_All_2.R v31) [] [] rfl rfl rfl rfl has28 rfl rfl (units_Units_All_2.c  v31 _ V72) ?_)
                    rintro _ _ ⟨a8, n8, H8, s8, rfl, rfl⟩
                    iterate 4 refine at_s T rfl ?_
                    refine at_case (s := 83) rfl (fun c73 => ?_) (fun c73 => ?_)
                    · replace Z41 := if_t c73 Z41
                      refine at_s T rfl ?_
                      obtain ⟨v32, V74, Z41⟩ := bind_e Z41
                      refine at_cons (at_c (B := fun _ => []) [] rfl rfl rfl rfl has39 rfl rfl (units_Units_Len_2.c  v32 _ V74) (fun _ => ?_))
                      iterate 3 refine at_s T rfl ?_
                      refine at_case (s := 88) rfl (fun c75 => ?_) (fun c75 => ?_)
                      · replace Z41 := if_t c75 Z41
                        refine at_s T rfl ?_
                        obtain ⟨v33, V76, Z41⟩ := bind_e Z41
                        refine at_cons (at_c (B := fun _ => []) [] rfl rfl rfl rfl has40 rfl rfl (units_Units_Next_2.c  v33 _ V76) (fun _ => ?_))
                        iterate 3 refine at_s T rfl ?_
                        refine at_end ?_
                        refine at_to [(6, (.bool (v33 == 0)))] [0] [F] ⟨rfl, trivial⟩ rfl ?_
                        refine at_then ?_
                        obtain rfl := Option.some.inj Z41
                        exact at_mid (v33 == 0) [0] rfl ⟨rfl, trivial⟩ rfl
                      · replace Z41 := if_f (bf c75) Z41
                        iterate 5 refine at_s T rfl ?_
                        refine at_end ?_
                        refine at_to [(6, (.bool false))] [0] [F] ⟨rfl, trivial⟩ rfl ?_
                        refine at_then ?_
                        obtain rfl := Option.some.inj Z41
                        exact at_mid false [0] rfl ⟨rfl, trivial⟩ rfl
                    · replace Z41 := if_f (bf c73) Z41
                      iterate 10 refine at_s T rfl ?_
                      refine at_end ?_
                      refine at_to [(6, (.bool false))] [0] [F] ⟨rfl, trivial⟩ rfl ?_
                      refine at_then ?_
                      obtain rfl := Option.some.inj Z41
                      exact at_mid false [0] rfl ⟨rfl, trivial⟩ rfl
                  · replace Z41 := if_f (bf c71) Z41
                    iterate 16 refine at_s T rfl ?_
                    refine at_end ?_
                    refine at_to [(6, (.bool false))] [0] [F] ⟨rfl, trivial⟩ rfl ?_
                    refine at_then ?_
                    obtain rfl := Option.some.inj Z41
                    exact at_mid false [0] rfl ⟨rfl, trivial⟩ rfl
                · replace Z41 := if_f (bf c69) Z41
                  iterate 22 refine at_s T rfl ?_
                  refine at_end ?_
                  refine at_to [(6, (.bool false))] [0] [F] ⟨rfl, trivial⟩ rfl ?_
                  refine at_then ?_
                  obtain rfl := Option.some.inj Z41
                  exact at_mid false [0] rfl ⟨rfl, trivial⟩ rfl
              · replace Z41 := if_f (bf c67) Z41
                iterate 29 refine at_s T rfl ?_
                refine at_end ?_
                refine at_to [(6, (.bool false))] [0] [F] ⟨rfl, trivial⟩ rfl ?_
                refine at_then ?_
                obtain rfl := Option.some.inj Z41
                exact at_mid false [0] rfl ⟨rfl, trivial⟩ rfl
            · replace Z41 := if_f (bf c65) Z41
              iterate 36 refine at_s T rfl ?_
              refine at_end ?_
              refine at_to [(6, (.bool false))] [0] [F] ⟨rfl, trivial⟩ rfl ?_
              refine at_then ?_
              obtain rfl := Option.some.inj Z41
              exact at_mid false [0] rfl ⟨rfl, trivial⟩ rfl
          · replace Z41 := if_f (bf c63) Z41
            iterate 45 refine at_s T rfl ?_
            refine at_end ?_
            refine at_to [(6, (.bool false))] [0] [F] ⟨rfl, trivial⟩ rfl ?_
            refine at_then ?_
            obtain rfl := Option.some.inj Z41
            exact at_mid false [0] rfl ⟨rfl, trivial⟩ rfl
      · replace Z41 := if_f (bf c43) Z41
        iterate 64 refine at_s T rfl ?_
        refine at_end ?_
        refine at_to [(6, (.bool false))] [0] [F] ⟨rfl, trivial⟩ rfl ?_
        refine at_then ?_
        obtain rfl := Option.some.inj Z41
        exact at_mid false [0] rfl ⟨rfl, trivial⟩ rfl
    · rintro x19 rfl
      refine at_ret ?_
      obtain rfl := Option.some.inj H
      exact at_post (T := T) rfl (.tmp rfl .nil) (fun w o => ⟨(), rfl, own_to [0] rfl o⟩)
def law21_UnitsNone.Pure : Prop := ∀ (most : Int) (id : Int) (cell : Int), inI64 most → inI64 id → inI64 cell → law21_UnitsNone.f most id cell = some true
end Go.Proofs.Ytmddmofncblfpaa
