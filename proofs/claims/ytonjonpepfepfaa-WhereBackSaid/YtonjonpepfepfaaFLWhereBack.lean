import Derived.Test.YtonjonpepfepfaaT
import Derived.Test.YtonjonpepfepfaaFlaw1
import Derived.Test.YtonjonpepfepfaaFref1
import Derived.Test.YtonjonpepfepfaaFwhere
namespace Go.Proofs.Ytonjonpepfepfaa
open Go.Hx
set_option maxRecDepth 100000
set_option linter.unusedVariables false
/-! ### herdsman/herdsmanlaw1.WhereBack: function 4 -/
def law1_WhereBack.f (w : Int) (h : Int) (c : Int) : Option Bool := (law1_near.f w h).bind fun v1 => (ref1_Within.f c 0 (w64 ((w64 (v1.1 * v1.2)) - 1))).bind fun v2 => (where_Place.f v1.1 v1.2 v2).bind fun v3 => (where_Sector.f v1.1 v1.2 v2).bind fun v4 => (where_Local.f v1.1 v1.2 v2).bind fun v5 => (where_Size.f v1.1 v1.2 v4).bind fun v6 => ((law1_told.f).bind fun v9 => if v9 = true then ((where_Cell.f v1.1 v1.2 v3.1 v3.2).bind fun v10 => if (v10 == v2) = true then ((where_Global.f v1.1 v1.2 v4 v5).bind fun v11 => some ((((v11 == v2) && (decide (v5 ≥ 0))) && (decide (v5 < (w64 (v6.1 * v6.2))))) && (v4 == (w64 ((w64 ((w64 (Int.tdiv v3.2 16)) * (w64 (Int.tdiv (w64 ((w64 (v1.1 + 16)) - 1)) 16)))) + (w64 (Int.tdiv v3.1 16))))))) else (some false)) else (some false)).bind fun x7 => some x7
set_option maxHeartbeats 4000000 in
theorem law1_WhereBack.c (w : Int) (h : Int) (c : Int) (r : Bool) (F : Hp) (H : law1_WhereBack.f w h c = some r) :
    CallsL Try.prog 4 [(.int .i64 w), (.int .i64 h), (.int .i64 c)] [F] (fun _ : Unit => (.bool r)) (fun _ => [F]) := by
  unfold law1_WhereBack.f at H
  refine calls_atL [(0, (.int .i64 w)), (1, (.int .i64 h)), (2, (.int .i64 c))] Try.func4 rfl rfl ⟨rfl, rfl, rfl, trivial⟩ (fun W => ?_)
  refine at_seq ?_
  refine at_region [0] rfl ?_
  refine at_s T rfl ?_
  refine at_end ?_
  refine at_sub [(0, (.int .i64 w)), (1, (.int .i64 h)), (2, (.int .i64 c))] ⟨rfl, rfl, rfl, trivial⟩ ?_
  refine at_then ?_
  refine at_seq ?_
  refine at_region [0, 1, 2, 3, 4, 5, 6, 7] rfl ?_
  iterate 2 refine at_s T rfl ?_
  obtain ⟨v1, V1, H⟩ := bind_e H
  refine at_cons (at_c (B := fun _ => []) [] rfl rfl rfl rfl has10 rfl rfl (law1_near.c w h v1 _ V1) (fun _ => ?_))
  iterate 5 refine at_s T rfl ?_
  refine at_end ?_
  refine at_sub [(0, (.int .i64 v1.1)), (1, (.int .i64 v1.2)), (2, (.int .i64 c))] ⟨rfl, rfl, rfl, trivial⟩ ?_
  refine at_then ?_
  refine at_seq ?_
  refine at_region [0, 1, 2, 3, 4, 5, 6] rfl ?_
  iterate 5 refine at_s T rfl ?_
  obtain ⟨v2, V2, H⟩ := bind_e H
  refine at_cons (at_c (B := fun _ => []) [] rfl rfl rfl rfl has11 rfl rfl (ref1_Within.c c 0 (w64 ((w64 (v1.1 * v1.2)) - 1)) v2 _ V2) (fun _ => ?_))
  refine at_s T rfl ?_
  refine at_end ?_
  refine at_sub [(0, (.int .i64 v1.1)), (1, (.int .i64 v1.2)), (2, (.int .i64 v2))] ⟨rfl, rfl, rfl, trivial⟩ ?_
  refine at_then ?_
  refine at_seq ?_
  refine at_region [0, 1, 2, 3, 4, 5, 6, 7, 8] rfl ?_
  iterate 3 refine at_s T rfl ?_
  obtain ⟨v3, V3, H⟩ := bind_e H
  refine at_cons (at_c (B := fun _ => []) [] rfl rfl rfl rfl has18 rfl rfl (where_Place.c v1.1 v1.2 v2 v3 _ V3) (fun _ => ?_))
  iterate 5 refine at_s T rfl ?_
  refine at_end ?_
  refine at_sub [(0, (.int .i64 v1.1)), (1, (.int .i64 v1.2)), (2, (.int .i64 v2)), (7, (.int .i64 v3.1)), (8, (.int .i64 v3.2))] ⟨rfl, rfl, rfl, rfl, rfl, trivial⟩ ?_
  refine at_then ?_
  refine at_seq ?_
  refine at_region [0, 1, 2, 3, 4, 5, 6, 7, 8, 9] rfl ?_
  iterate 3 refine at_s T rfl ?_
  obtain ⟨v4, V4, H⟩ := bind_e H
  refine at_cons (at_c (B := fun _ => []) [] rfl rfl rfl rfl has19 rfl rfl (where_Sector.c v1.1 v1.2 v2 v4 _ V4) (fun _ => ?_))
  iterate 3 refine at_s T rfl ?_
  obtain ⟨v5, V5, H⟩ := bind_e H
  refine at_cons (at_c (B := fun _ => []) [] rfl rfl rfl rfl has20 rfl rfl (where_Local.c v1.1 v1.2 v2 v5 _ V5) (fun _ => ?_))
  iterate 2 refine at_s T rfl ?_
  refine at_end ?_
  refine at_sub [(0, (.int .i64 v1.1)), (1, (.int .i64 v1.2)), (2, (.int .i64 v2)), (7, (.int .i64 v3.1)), (8, (.int .i64 v3.2)), (9, (.int .i64 v4)), (10, (.int .i64 v5))] ⟨rfl, rfl, rfl, rfl, rfl, rfl, rfl, trivial⟩ ?_
  refine at_then ?_
  refine at_seq ?_
  refine at_region [0, 1, 2, 3, 4, 5, 6, 7, 8] rfl ?_
  iterate 3 refine at_s T rfl ?_
  obtain ⟨v6, V6, H⟩ := bind_e H
  refine at_cons (at_c (B := fun _ => []) [] rfl rfl rfl rfl has13 rfl rfl (where_Size.c v1.1 v1.2 v4 v6 _ V6) (fun _ => ?_))
  iterate 5 refine at_s T rfl ?_
  refine at_end ?_
  refine at_sub [(0, (.int .i64 v1.1)), (1, (.int .i64 v1.2)), (2, (.int .i64 v2)), (7, (.int .i64 v3.1)), (8, (.int .i64 v3.2)), (9, (.int .i64 v4)), (10, (.int .i64 v5)), (11, (.int .i64 v6.1)), (12, (.int .i64 v6.2))] ⟨rfl, rfl, rfl, rfl, rfl, rfl, rfl, rfl, rfl, trivial⟩ ?_
  refine at_then ?_
  obtain ⟨z8, Z7, H⟩ := bind_e H
  refine at_seq_mid (σ := Bool) (fun x7 => x7 = z8) (fun x7 => [(6, (.bool x7))]) (fun x7 => [F]) ?_ ?_
  · refine at_region [0, 1, 2, 3, 4, 5, 6, 7, 8, 9, 10, 11, 12, 13, 14, 15, 16, 17, 18, 19, 20, 21, 22, 23, 24, 25, 26, 27, 28, 29, 30, 31, 32, 33, 34, 35, 36, 37, 38, 39, 40, 41, 42, 43, 44] rfl ?_
    obtain ⟨v9, V8, Z7⟩ := bind_e Z7
    refine at_cons (at_c (B := fun _ => []) [] rfl rfl rfl rfl has15 rfl rfl (law1_told.c  v9 _ V8) (fun _ => ?_))
    refine at_s T rfl ?_
    refine at_case (s := 48) rfl (fun c9 => ?_) (fun c9 => ?_)
    · replace Z7 := if_t c9 Z7
      iterate 4 refine at_s T rfl ?_
      obtain ⟨v10, V10, Z7⟩ := bind_e Z7
      refine at_cons (at_c (B := fun _ => []) [] rfl rfl rfl rfl has21 rfl rfl (where_Cell.c v1.1 v1.2 v3.1 v3.2 v10 _ V10) (fun _ => ?_))
      iterate 4 refine at_s T rfl ?_
      refine at_case (s := 57) rfl (fun c11 => ?_) (fun c11 => ?_)
      · replace Z7 := if_t c11 Z7
        iterate 4 refine at_s T rfl ?_
        obtain ⟨v11, V12, Z7⟩ := bind_e Z7
        refine at_cons (at_c (B := fun _ => []) [] rfl rfl rfl rfl has16 rfl rfl (where_Global.c v1.1 v1.2 v4 v5 v11 _ V12) (fun _ => ?_))
        iterate 4 refine at_s T rfl ?_
        refine at_grp T [20, 21, 22] (s := 66) (c := (v11 == v2)) [(0, (.int .i64 v1.1)), (7, (.int .i64 v3.1)), (8, (.int .i64 v3.2)), (9, (.int .i64 v4)), (10, (.int .i64 v5)), (11, (.int .i64 v6.1)), (12, (.int .i64 v6.2)), (69, (.bool ((v11 == v2) && (decide (v5 ≥ 0)))))] rfl rfl rfl (fun c13 => ⟨rfl, rfl, rfl, rfl, rfl, rfl, rfl, (by rw [c13]; rfl), trivial⟩) (fun c13 => ⟨rfl, rfl, rfl, rfl, rfl, rfl, rfl, (by rw [c13]; rfl), trivial⟩) ?_
        refine at_s T rfl ?_
        refine at_grp T [24, 25, 26, 27, 28, 29] (s := 70) (c := ((v11 == v2) && (decide (v5 ≥ 0)))) [(0, (.int .i64 v1.1)), (7, (.int .i64 v3.1)), (8, (.int .i64 v3.2)), (9, (.int .i64 v4)), (76, (.bool (((v11 == v2) && (decide (v5 ≥ 0))) && (decide (v5 < (w64 (v6.1 * v6.2)))))))] rfl rfl rfl (fun c14 => ⟨rfl, rfl, rfl, rfl, (by rw [c14]; rfl), trivial⟩) (fun c14 => ⟨rfl, rfl, rfl, rfl, (by rw [c14]; rfl), trivial⟩) ?_
        refine at_s T rfl ?_
        refine at_grp T [31, 32, 33, 34, 35, 36, 37, 38, 39, 40, 41, 42, 43] (s := 77) (c := (((v11 == v2) && (decide (v5 ≥ 0))) && (decide (v5 < (w64 (v6.1 * v6.2)))))) [(90, (.bool ((((v11 == v2) && (decide (v5 ≥ 0))) && (decide (v5 < (w64 (v6.1 * v6.2))))) && (v4 == (w64 ((w64 ((w64 (Int.tdiv v3.2 16)) * (w64 (Int.tdiv (w64 ((w64 (v1.1 + 16)) - 1)) 16)))) + (w64 (Int.tdiv v3.1 16))))))))] rfl rfl rfl (fun c15 => ⟨(by rw [c15]; rfl), trivial⟩) (fun c15 => ⟨(by rw [c15]; rfl), trivial⟩) ?_
        refine at_s T rfl ?_
        refine at_end ?_
        refine at_sub [(6, (.bool ((((v11 == v2) && (decide (v5 ≥ 0))) && (decide (v5 < (w64 (v6.1 * v6.2))))) && (v4 == (w64 ((w64 ((w64 (Int.tdiv v3.2 16)) * (w64 (Int.tdiv (w64 ((w64 (v1.1 + 16)) - 1)) 16)))) + (w64 (Int.tdiv v3.1 16))))))))] ⟨rfl, trivial⟩ ?_
        refine at_then ?_
        obtain rfl := Option.some.inj Z7
        exact at_mid ((((v11 == v2) && (decide (v5 ≥ 0))) && (decide (v5 < (w64 (v6.1 * v6.2))))) && (v4 == (w64 ((w64 ((w64 (Int.tdiv v3.2 16)) * (w64 (Int.tdiv (w64 ((w64 (v1.1 + 16)) - 1)) 16)))) + (w64 (Int.tdiv v3.1 16)))))) [0] rfl ⟨rfl, trivial⟩ rfl
      · replace Z7 := if_f (bf c11) Z7
        iterate 34 refine at_s T rfl ?_
        refine at_end ?_
        refine at_sub [(6, (.bool false))] ⟨rfl, trivial⟩ ?_
        refine at_then ?_
        obtain rfl := Option.some.inj Z7
        exact at_mid false [0] rfl ⟨rfl, trivial⟩ rfl
    · replace Z7 := if_f (bf c9) Z7
      iterate 43 refine at_s T rfl ?_
      refine at_end ?_
      refine at_sub [(6, (.bool false))] ⟨rfl, trivial⟩ ?_
      refine at_then ?_
      obtain rfl := Option.some.inj Z7
      exact at_mid false [0] rfl ⟨rfl, trivial⟩ rfl
  · rintro x7 rfl
    refine at_ret ?_
    obtain rfl := Option.some.inj H
    exact at_post (T := T) rfl (.tmp rfl .nil) (fun w o => ⟨(), rfl, own_to [0] rfl o⟩)
def law1_WhereBack.Pure : Prop := ∀ (w : Int) (h : Int) (c : Int), inI64 w → inI64 h → inI64 c → law1_WhereBack.f w h c = some true
end Go.Proofs.Ytonjonpepfepfaa
