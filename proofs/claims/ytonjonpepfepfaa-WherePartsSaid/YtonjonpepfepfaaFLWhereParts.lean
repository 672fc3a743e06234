import Derived.Test.YtonjonpepfepfaaT
import Derived.Test.YtonjonpepfepfaaFlaw1
import Derived.Test.YtonjonpepfepfaaFref1
import Derived.Test.YtonjonpepfepfaaFwhere
namespace Go.Proofs.Ytonjonpepfepfaa
open Go.Hx
set_option maxRecDepth 100000
set_option linter.unusedVariables false
/-! ### herdsman/herdsmanlaw1.WhereParts: function 3 -/
def law1_WhereParts.f (w : Int) (h : Int) (sector : Int) (p3 : Int) (raw : Bool) : Option Bool := (if (!raw) = true then ((law1_near.f w h).bind fun v6 => (ref1_Count.f v6.1 v6.2).bind fun v7 => (ref1_Within.f sector (-1) v7).bind fun v8 => (ref1_Within.f p3 (-1) 256).bind fun v9 => some (v6.1, v6.2, v8, v9)) else (some (w, h, sector, p3))).bind fun (x1, x2, x3, x4) => (where_Size.f x1 x2 x3).bind fun v10 => (ref1_Size.f x1 x2 x3).bind fun v11 => ((law1_told.f).bind fun v14 => if ((v14 && (v10.1 == v11.1)) && (v10.2 == v11.2)) = true then ((where_Global.f x1 x2 x3 x4).bind fun v15 => (ref1_Global.f x1 x2 x3 x4).bind fun v16 => some (v15 == v16)) else (some false)).bind fun x12 => some x12
set_option maxHeartbeats 4000000 in
theorem law1_WhereParts.c (w : Int) (h : Int) (sector : Int) (p3 : Int) (raw : Bool) (r : Bool) (F : Hp) (H : law1_WhereParts.f w h sector p3 raw = some r) :
    CallsL Try.prog 3 [(.int .i64 w), (.int .i64 h), (.int .i64 sector), (.int .i64 p3), (.bool raw)] [F] (fun _ : Unit => (.bool r)) (fun _ => [F]) := by
  unfold law1_WhereParts.f at H
  refine calls_atL [(0, (.int .i64 w)), (1, (.int .i64 h)), (2, (.int .i64 sector)), (3, (.int .i64 p3)), (4, (.bool raw))] Try.func3 rfl rfl ⟨rfl, rfl, rfl, rfl, rfl, trivial⟩ (fun W => ?_)
  refine at_seq ?_
  refine at_region [0] rfl ?_
  refine at_s T rfl ?_
  refine at_end ?_
  refine at_sub [(0, (.int .i64 w)), (1, (.int .i64 h)), (2, (.int .i64 sector)), (3, (.int .i64 p3)), (4, (.bool raw))] ⟨rfl, rfl, rfl, rfl, rfl, trivial⟩ ?_
  refine at_then ?_
  obtain ⟨z5, Z1, H⟩ := bind_e H
  refine at_seq_mid (σ := Int × Int × Int × Int) (fun ⟨x1, x2, x3, x4⟩ => (x1, x2, x3, x4) = z5) (fun ⟨x1, x2, x3, x4⟩ => [(0, (.int .i64 x1)), (1, (.int .i64 x2)), (2, (.int .i64 x3)), (3, (.int .i64 x4))]) (fun ⟨x1, x2, x3, x4⟩ => [F]) ?_ ?_
  · refine at_seq ?_
    refine at_region [0, 1] rfl ?_
    iterate 2 refine at_s T rfl ?_
    refine at_end ?_
    refine at_sub [(0, (.int .i64 w)), (1, (.int .i64 h)), (2, (.int .i64 sector)), (3, (.int .i64 p3)), (16, (.bool (!raw)))] ⟨rfl, rfl, rfl, rfl, rfl, trivial⟩ ?_
    refine at_then ?_
    refine at_cond rfl (fun c2 => ?_) (fun c2 => ?_)
    · replace Z1 := if_t c2 Z1
      refine at_seq ?_
      refine at_region [0, 1, 2, 3, 4, 5, 6, 7] rfl ?_
      iterate 2 refine at_s T rfl ?_
      obtain ⟨v6, V3, Z1⟩ := bind_e Z1
      refine at_cons (at_c (B := fun _ => []) [] rfl rfl rfl rfl has10 rfl rfl (law1_near.c w h v6 _ V3) (fun _ => ?_))
      iterate 5 refine at_s T rfl ?_
      refine at_end ?_
      refine at_sub [(0, (.int .i64 v6.1)), (1, (.int .i64 v6.2)), (2, (.int .i64 sector)), (3, (.int .i64 p3))] ⟨rfl, rfl, rfl, rfl, trivial⟩ ?_
      refine at_then ?_
      refine at_region [0, 1, 2, 3, 4, 5, 6, 7, 8] rfl ?_
      iterate 3 refine at_s T rfl ?_
      obtain ⟨v7, V4, Z1⟩ := bind_e Z1
      refine at_cons (at_c (B := fun _ => []) [] rfl rfl rfl rfl has12 rfl rfl (ref1_Count.c v6.1 v6.2 v7 _ V4) (fun _ => ?_))
      obtain ⟨v8, V5, Z1⟩ := bind_e Z1
      refine at_cons (at_c (B := fun _ => []) [] rfl rfl rfl rfl has11 rfl rfl (ref1_Within.c sector (-1) v7 v8 _ V5) (fun _ => ?_))
      refine at_s T rfl ?_
      obtain ⟨v9, V6, Z1⟩ := bind_e Z1
      refine at_cons (at_c (B := fun _ => []) [] rfl rfl rfl rfl has11 rfl rfl (ref1_Within.c p3 (-1) 256 v9 _ V6) (fun _ => ?_))
      iterate 2 refine at_s T rfl ?_
      refine at_end ?_
      refine at_sub [(0, (.int .i64 v6.1)), (1, (.int .i64 v6.2)), (2, (.int .i64 v8)), (3, (.int .i64 v9))] ⟨rfl, rfl, rfl, rfl, trivial⟩ ?_
      refine at_then ?_
      obtain rfl := Option.some.inj Z1
      exact at_mid (v6.1, v6.2, v8, v9) [0] rfl ⟨rfl, rfl, rfl, rfl, trivial⟩ rfl
    · replace Z1 := if_f (bf c2) Z1
      refine at_skip ?_
      refine at_then ?_
      obtain rfl := Option.some.inj Z1
      exact at_mid (w, h, sector, p3) [0] rfl ⟨rfl, rfl, rfl, rfl, trivial⟩ rfl
  · rintro ⟨x1, x2, x3, x4⟩ rfl
    refine at_seq ?_
    refine at_region [0, 1, 2, 3, 4, 5, 6, 7, 8] rfl ?_
    iterate 3 refine at_s T rfl ?_
    obtain ⟨v10, V7, H⟩ := bind_e H
    refine at_cons (at_c (B := fun _ => []) [] rfl rfl rfl rfl has13 rfl rfl (where_Size.c x1 x2 x3 v10 _ V7) (fun _ => ?_))
    iterate 5 refine at_s T rfl ?_
    refine at_end ?_
    refine at_sub [(0, (.int .i64 x1)), (1, (.int .i64 x2)), (2, (.int .i64 x3)), (3, (.int .i64 x4)), (11, (.int .i64 v10.1)), (12, (.int .i64 v10.2))] ⟨rfl, rfl, rfl, rfl, rfl, rfl, trivial⟩ ?_
    refine at_then ?_
    refine at_seq ?_
    refine at_region [0, 1, 2, 3, 4, 5, 6, 7, 8] rfl ?_
    iterate 3 refine at_s T rfl ?_
    obtain ⟨v11, V8, H⟩ := bind_e H
    refine at_cons (at_c (B := fun _ => []) [] rfl rfl rfl rfl has14 rfl rfl (ref1_Size.c x1 x2 x3 v11 _ V8) (fun _ => ?_))
    iterate 5 refine at_s T rfl ?_
    refine at_end ?_
    refine at_sub [(0, (.int .i64 x1)), (1, (.int .i64 x2)), (2, (.int .i64 x3)), (3, (.int .i64 x4)), (11, (.int .i64 v10.1)), (12, (.int .i64 v10.2)), (13, (.int .i64 v11.1)), (14, (.int .i64 v11.2))] ⟨rfl, rfl, rfl, rfl, rfl, rfl, rfl, rfl, trivial⟩ ?_
    refine at_then ?_
    obtain ⟨z13, Z9, H⟩ := bind_e H
    refine at_seq_mid (σ := Bool) (fun x12 => x12 = z13) (fun x12 => [(10, (.bool x12))]) (fun x12 => [F]) ?_ ?_
    · refine at_region [0, 1, 2, 3, 4, 5, 6, 7, 8, 9, 10, 11, 12, 13, 14, 15, 16, 17, 18, 19, 20, 21, 22, 23, 24] rfl ?_
      obtain ⟨v14, V10, Z9⟩ := bind_e Z9
      refine at_cons (at_c (B := fun _ => []) [] rfl rfl rfl rfl has15 rfl rfl (law1_told.c  v14 _ V10) (fun _ => ?_))
      refine at_s T rfl ?_
      refine at_grp T [2, 3, 4, 5] (s := 45) (c := v14) [(0, (.int .i64 x1)), (1, (.int .i64 x2)), (2, (.int .i64 x3)), (3, (.int .i64 x4)), (12, (.int .i64 v10.2)), (14, (.int .i64 v11.2)), (49, (.bool (v14 && (v10.1 == v11.1))))] rfl rfl rfl (fun c11 => ⟨rfl, rfl, rfl, rfl, rfl, rfl, (by rw [c11]; rfl), trivial⟩) (fun c11 => ⟨rfl, rfl, rfl, rfl, rfl, rfl, (by rw [c11]; rfl), trivial⟩) ?_
      refine at_s T rfl ?_
      refine at_grp T [7, 8, 9, 10] (s := 50) (c := (v14 && (v10.1 == v11.1))) [(0, (.int .i64 x1)), (1, (.int .i64 x2)), (2, (.int .i64 x3)), (3, (.int .i64 x4)), (54, (.bool ((v14 && (v10.1 == v11.1)) && (v10.2 == v11.2))))] rfl rfl rfl (fun c12 => ⟨rfl, rfl, rfl, rfl, (by rw [c12]; rfl), trivial⟩) (fun c12 => ⟨rfl, rfl, rfl, rfl, (by rw [c12]; rfl), trivial⟩) ?_
      refine at_s T rfl ?_
      refine at_case (s := 55) rfl (fun c13 => ?_) (fun c13 => ?_)
      · replace Z9 := if_t c13 Z9
        iterate 4 refine at_s T rfl ?_
        obtain ⟨v15, V14, Z9⟩ := bind_e Z9
        refine at_cons (at_c (B := fun _ => []) [] rfl rfl rfl rfl has16 rfl rfl (where_Global.c x1 x2 x3 x4 v15 _ V14) (fun _ => ?_))
        iterate 4 refine at_s T rfl ?_
        obtain ⟨v16, V15, Z9⟩ := bind_e Z9
        refine at_cons (at_c (B := fun _ => []) [] rfl rfl rfl rfl has17 rfl rfl (ref1_Global.c x1 x2 x3 x4 v16 _ V15) (fun _ => ?_))
        iterate 3 refine at_s T rfl ?_
        refine at_end ?_
        refine at_sub [(10, (.bool (v15 == v16)))] ⟨rfl, trivial⟩ ?_
        refine at_then ?_
        obtain rfl := Option.some.inj Z9
        exact at_mid (v15 == v16) [0] rfl ⟨rfl, trivial⟩ rfl
      · replace Z9 := if_f (bf c13) Z9
        iterate 13 refine at_s T rfl ?_
        refine at_end ?_
        refine at_sub [(10, (.bool false))] ⟨rfl, trivial⟩ ?_
        refine at_then ?_
        obtain rfl := Option.some.inj Z9
        exact at_mid false [0] rfl ⟨rfl, trivial⟩ rfl
    · rintro x12 rfl
      refine at_ret ?_
      obtain rfl := Option.some.inj H
      exact at_post (T := T) rfl (.tmp rfl .nil) (fun w o => ⟨(), rfl, own_to [0] rfl o⟩)
def law1_WhereParts.Pure : Prop := ∀ (w : Int) (h : Int) (sector : Int) (p3 : Int) (raw : Bool), inI64 w → inI64 h → inI64 sector → inI64 p3 → law1_WhereParts.f w h sector p3 raw = some true
end Go.Proofs.Ytonjonpepfepfaa
