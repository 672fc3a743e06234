import Derived.Test.YtonjonpepfepfaaT
import Derived.Test.YtonjonpepfepfaaFref1
import Derived.Test.YtonjonpepfepfaaFwhere
namespace Go.Proofs.Ytonjonpepfepfaa
open Go.Hx
set_option maxRecDepth 100000
set_option linter.unusedVariables false
/-! ### herdsman/herdsmanlaw1.near: function 10 -/
def law1_near.f (w : Int) (h : Int) : Option (Int × Int) := if ((Int.tmod w 9) == 8) = true then ((ref1_Within.f w 1 1024).bind fun v1 => (ref1_Within.f h 1 1024).bind fun v2 => some (v1, v2)) else ((ref1_Within.f w 1 50).bind fun v3 => (ref1_Within.f h 1 50).bind fun v4 => some (v3, v4))
set_option maxHeartbeats 4000000 in
theorem law1_near.c (w : Int) (h : Int) (r : (Int × Int)) (F : Hp) (H : law1_near.f w h = some r) :
    CallsL Try.prog 10 [(.int .i64 w), (.int .i64 h)] [F] (fun _ : Unit => (.tuple #[(.int .i64 r.1), (.int .i64 r.2)])) (fun _ => [F]) := by
  unfold law1_near.f at H
  refine calls_atL [(0, (.int .i64 w)), (1, (.int .i64 h))] Try.func10 rfl rfl ⟨rfl, rfl, trivial⟩ (fun W => ?_)
  refine at_seq ?_
  refine at_region [0, 1] rfl ?_
  iterate 2 refine at_s T rfl ?_
  refine at_end ?_
  refine at_sub [(0, (.int .i64 w)), (1, (.int .i64 h))] ⟨rfl, rfl, trivial⟩ ?_
  refine at_then ?_
  refine at_seq ?_
  refine at_seq ?_
  refine at_region [0, 1, 2] rfl ?_
  iterate 3 refine at_s T rfl ?_
  refine at_end ?_
  refine at_sub [(0, (.int .i64 w)), (1, (.int .i64 h)), (8, (.bool ((Int.tmod w 9) == 8)))] ⟨rfl, rfl, rfl, trivial⟩ ?_
  refine at_then ?_
  refine at_cond rfl (fun c1 => ?_) (fun c1 => ?_)
  · replace H := if_t c1 H
    refine at_seq ?_
    refine at_region [0, 1, 2, 3, 4, 5] rfl ?_
    refine at_s T rfl ?_
    obtain ⟨v1, V2, H⟩ := bind_e H
    refine at_cons (at_c (B := fun _ => []) [] rfl rfl rfl rfl has11 rfl rfl (ref1_Within.c w 1 1024 v1 _ V2) (fun _ => ?_))
    refine at_s T rfl ?_
    obtain ⟨v2, V3, H⟩ := bind_e H
    refine at_cons (at_c (B := fun _ => []) [] rfl rfl rfl rfl has11 rfl rfl (ref1_Within.c h 1 1024 v2 _ V3) (fun _ => ?_))
    iterate 2 refine at_s T rfl ?_
    refine at_end ?_
    refine at_sub [(4, (.int .i64 v1)), (5, (.int .i64 v2))] ⟨rfl, rfl, trivial⟩ ?_
    refine at_then ?_
    refine at_ret ?_
    refine at_rt ?_
    obtain rfl := Option.some.inj H
    exact at_post (T := T) rfl (.tmp rfl (.tmp rfl .nil)) (fun w o => ⟨(), rfl, own_to [0] rfl o⟩)
  · replace H := if_f (bf c1) H
    refine at_skip ?_
    refine at_then ?_
    refine at_seq ?_
    refine at_region [0, 1, 2, 3, 4, 5] rfl ?_
    refine at_s T rfl ?_
    obtain ⟨v3, V4, H⟩ := bind_e H
    refine at_cons (at_c (B := fun _ => []) [] rfl rfl rfl rfl has11 rfl rfl (ref1_Within.c w 1 50 v3 _ V4) (fun _ => ?_))
    refine at_s T rfl ?_
    obtain ⟨v4, V5, H⟩ := bind_e H
    refine at_cons (at_c (B := fun _ => []) [] rfl rfl rfl rfl has11 rfl rfl (ref1_Within.c h 1 50 v4 _ V5) (fun _ => ?_))
    iterate 2 refine at_s T rfl ?_
    refine at_end ?_
    refine at_sub [(4, (.int .i64 v3)), (5, (.int .i64 v4))] ⟨rfl, rfl, trivial⟩ ?_
    refine at_then ?_
    refine at_ret ?_
    obtain rfl := Option.some.inj H
    exact at_post (T := T) rfl (.tmp rfl (.tmp rfl .nil)) (fun w o => ⟨(), rfl, own_to [0] rfl o⟩)

/-! ### herdsman/herdsmanlaw1.told: function 15 -/
def law1_told.f : Option Bool := (where_Sectors.f 20 3).bind fun v1 => (where_Size.f 20 3 1).bind fun v2 => (if ((((v1.1 == 2) && (v1.2 == 1)) && (v2.1 == 4)) && (v2.2 == 3)) = true then ((where_Cell.f 20 3 17 2).bind fun v5 => if (v5 == 57) = true then ((where_Sector.f 20 3 57).bind fun v6 => if (v6 == 1) = true then ((where_Local.f 20 3 57).bind fun v7 => if (v7 == 9) = true then ((where_Step.f 20 3 57 2).bind fun v8 => if (v8 == (-1)) = true then ((where_Step.f 20 3 57 3).bind fun v9 => some (v9 == 56)) else (some false)) else (some false)) else (some false)) else (some false)) else (some false)).bind fun x3 => some x3
set_option maxHeartbeats 4000000 in
theorem law1_told.c (r : Bool) (F : Hp) (H : law1_told.f = some r) :
    CallsL Try.prog 15 [] [F] (fun _ : Unit => (.bool r)) (fun _ => [F]) := by
  unfold law1_told.f at H
  refine calls_atL [] Try.func15 rfl rfl trivial (fun W => ?_)
  refine at_seq ?_
  refine at_region [0] rfl ?_
  refine at_s T rfl ?_
  refine at_end ?_
  refine at_sub [] trivial ?_
  refine at_then ?_
  refine at_seq ?_
  refine at_region [0, 1, 2, 3, 4, 5] rfl ?_
  obtain ⟨v1, V1, H⟩ := bind_e H
  refine at_cons (at_c (B := fun _ => []) [] rfl rfl rfl rfl has22 rfl rfl (where_Sectors.c 20 3 v1 _ V1) (fun _ => ?_))
  iterate 5 refine at_s T rfl ?_
  refine at_end ?_
  refine at_sub [(1, (.int .i64 v1.1)), (2, (.int .i64 v1.2))] ⟨rfl, rfl, trivial⟩ ?_
  refine at_then ?_
  refine at_seq ?_
  refine at_region [0, 1, 2, 3, 4, 5] rfl ?_
  obtain ⟨v2, V2, H⟩ := bind_e H
  refine at_cons (at_c (B := fun _ => []) [] rfl rfl rfl rfl has13 rfl rfl (where_Size.c 20 3 1 v2 _ V2) (fun _ => ?_))
  iterate 5 refine at_s T rfl ?_
  refine at_end ?_
  refine at_sub [(1, (.int .i64 v1.1)), (2, (.int .i64 v1.2)), (3, (.int .i64 v2.1)), (4, (.int .i64 v2.2))] ⟨rfl, rfl, rfl, rfl, trivial⟩ ?_
  refine at_then ?_
  obtain ⟨z4, Z3, H⟩ := bind_e H
  refine at_seq_mid (σ := Bool) (fun x3 => x3 = z4) (fun x3 => [(0, (.bool x3))]) (fun x3 => [F]) ?_ ?_
  · refine at_region [0, 1, 2, 3, 4, 5, 6, 7, 8, 9, 10, 11, 12, 13, 14, 15, 16, 17, 18, 19, 20, 21, 22, 23, 24, 25, 26, 27, 28, 29, 30, 31, 32, 33, 34] rfl ?_
    iterate 3 refine at_s T rfl ?_
    refine at_grp T [3, 4, 5] (s := 15) (c := (v1.1 == 2)) [(3, (.int .i64 v2.1)), (4, (.int .i64 v2.2)), (18, (.bool ((v1.1 == 2) && (v1.2 == 1))))] rfl rfl rfl (fun c4 => ⟨rfl, rfl, (by rw [c4]; rfl), trivial⟩) (fun c4 => ⟨rfl, rfl, (by rw [c4]; rfl), trivial⟩) ?_
    refine at_s T rfl ?_
    refine at_grp T [7, 8, 9] (s := 19) (c := ((v1.1 == 2) && (v1.2 == 1))) [(4, (.int .i64 v2.2)), (22, (.bool (((v1.1 == 2) && (v1.2 == 1)) && (v2.1 == 4))))] rfl rfl rfl (fun c5 => ⟨rfl, (by rw [c5]; rfl), trivial⟩) (fun c5 => ⟨rfl, (by rw [c5]; rfl), trivial⟩) ?_
    refine at_s T rfl ?_
    refine at_grp T [11, 12, 13] (s := 23) (c := (((v1.1 == 2) && (v1.2 == 1)) && (v2.1 == 4))) [(26, (.bool ((((v1.1 == 2) && (v1.2 == 1)) && (v2.1 == 4)) && (v2.2 == 3))))] rfl rfl rfl (fun c6 => ⟨(by rw [c6]; rfl), trivial⟩) (fun c6 => ⟨(by rw [c6]; rfl), trivial⟩) ?_
    refine at_s T rfl ?_
    refine at_case (s := 27) rfl (fun c7 => ?_) (fun c7 => ?_)
    · replace Z3 := if_t c7 Z3
      obtain ⟨v5, V8, Z3⟩ := bind_e Z3
      refine at_cons (at_c (B := fun _ => []) [] rfl rfl rfl rfl has21 rfl rfl (where_Cell.c 20 3 17 2 v5 _ V8) (fun _ => ?_))
      iterate 3 refine at_s T rfl ?_
      refine at_case (s := 31) rfl (fun c9 => ?_) (fun c9 => ?_)
      · replace Z3 := if_t c9 Z3
        obtain ⟨v6, V10, Z3⟩ := bind_e Z3
        refine at_cons (at_c (B := fun _ => []) [] rfl rfl rfl rfl has19 rfl rfl (where_Sector.c 20 3 57 v6 _ V10) (fun _ => ?_))
        iterate 3 refine at_s T rfl ?_
        refine at_case (s := 35) rfl (fun c11 => ?_) (fun c11 => ?_)
        · replace Z3 := if_t c11 Z3
          obtain ⟨v7, V12, Z3⟩ := bind_e Z3
          refine at_cons (at_c (B := fun _ => []) [] rfl rfl rfl rfl has20 rfl rfl (where_Local.c 20 3 57 v7 _ V12) (fun _ => ?_))
          iterate 3 refine at_s T rfl ?_
          refine at_case (s := 39) rfl (fun c13 => ?_) (fun c13 => ?_)
          · replace Z3 := if_t c13 Z3
            obtain ⟨v8, V14, Z3⟩ := bind_e Z3
            refine at_cons (at_c (B := fun _ => []) [] rfl rfl rfl rfl has28 rfl rfl (where_Step.c 20 3 57 2 v8 _ V14) (fun _ => ?_))
            iterate 3 refine at_s T rfl ?_
            refine at_case (s := 43) rfl (fun c15 => ?_) (fun c15 => ?_)
            · replace Z3 := if_t c15 Z3
              obtain ⟨v9, V16, Z3⟩ := bind_e Z3
              refine at_cons (at_c (B := fun _ => []) [] rfl rfl rfl rfl has28 rfl rfl (where_Step.c 20 3 57 3 v9 _ V16) (fun _ => ?_))
              iterate 3 refine at_s T rfl ?_
              refine at_end ?_
              refine at_sub [(0, (.bool (v9 == 56)))] ⟨rfl, trivial⟩ ?_
              refine at_then ?_
              obtain rfl := Option.some.inj Z3
              exact at_mid (v9 == 56) [0] rfl ⟨rfl, trivial⟩ rfl
            · replace Z3 := if_f (bf c15) Z3
              iterate 4 refine at_s T rfl ?_
              refine at_end ?_
              refine at_sub [(0, (.bool false))] ⟨rfl, trivial⟩ ?_
              refine at_then ?_
              obtain rfl := Option.some.inj Z3
              exact at_mid false [0] rfl ⟨rfl, trivial⟩ rfl
          · replace Z3 := if_f (bf c13) Z3
            iterate 8 refine at_s T rfl ?_
            refine at_end ?_
            refine at_sub [(0, (.bool false))] ⟨rfl, trivial⟩ ?_
            refine at_then ?_
            obtain rfl := Option.some.inj Z3
            exact at_mid false [0] rfl ⟨rfl, trivial⟩ rfl
        · replace Z3 := if_f (bf c11) Z3
          iterate 12 refine at_s T rfl ?_
          refine at_end ?_
          refine at_sub [(0, (.bool false))] ⟨rfl, trivial⟩ ?_
          refine at_then ?_
          obtain rfl := Option.some.inj Z3
          exact at_mid false [0] rfl ⟨rfl, trivial⟩ rfl
      · replace Z3 := if_f (bf c9) Z3
        iterate 16 refine at_s T rfl ?_
        refine at_end ?_
        refine at_sub [(0, (.bool false))] ⟨rfl, trivial⟩ ?_
        refine at_then ?_
        obtain rfl := Option.some.inj Z3
        exact at_mid false [0] rfl ⟨rfl, trivial⟩ rfl
    · replace Z3 := if_f (bf c7) Z3
      iterate 20 refine at_s T rfl ?_
      refine at_end ?_
      refine at_sub [(0, (.bool false))] ⟨rfl, trivial⟩ ?_
      refine at_then ?_
      obtain rfl := Option.some.inj Z3
      exact at_mid false [0] rfl ⟨rfl, trivial⟩ rfl
  · rintro x3 rfl
    refine at_ret ?_
    obtain rfl := Option.some.inj H
    exact at_post (T := T) rfl (.tmp rfl .nil) (fun w o => ⟨(), rfl, own_to [0] rfl o⟩)
end Go.Proofs.Ytonjonpepfepfaa
