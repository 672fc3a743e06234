import Derived.Test.YticdodeoljodiaaT
namespace Go.Proofs.Yticdodeoljodiaa
open Go.Hx
set_option maxRecDepth 100000
set_option linter.unusedVariables false
noncomputable section
/-! ### herdsman/where.May: function 77 -/
def where_May.f (w : Int) (h : Int) : Option Bool := some ((((decide (w ≥ 1)) && (decide (w ≤ 1024))) && (decide (h ≥ 1))) && (decide (h ≤ 1024)))
set_option maxHeartbeats 4000000 in
theorem where_May.c (w : Int) (h : Int) (r : Bool) (F : Hp) (H : where_May.f w h = some r) :
    CallsL Try.prog 77 [(.int .i64 w), (.int .i64 h)] [F] (fun _ : Unit => (.bool r)) (fun _ => [F]) := by
  unfold where_May.f at H
  refine calls_atL [(0, (.int .i64 w)), (1, (.int .i64 h))] Try.func77 rfl rfl ⟨rfl, rfl, trivial⟩ (fun W => ?_)
  refine at_seq ?_
  refine at_region [0] rfl ?_
  refine at_s T rfl ?_
  refine at_end ?_
  refine at_sub [(0, (.int .i64 w)), (1, (.int .i64 h))] ⟨rfl, rfl, trivial⟩ ?_
  refine at_then ?_
  refine at_seq ?_
  refine at_region [0, 1, 2, 3, 4, 5, 6, 7, 8, 9, 10, 11, 12, 13, 14] rfl ?_
  iterate 3 refine at_s T rfl ?_
  refine at_grp T [3, 4, 5] (s := 7) (c := (decide (w ≥ 1))) [(1, (.int .i64 h)), (10, (.bool ((decide (w ≥ 1)) && (decide (w ≤ 1024)))))] rfl rfl rfl (fun c1 => ⟨rfl, (by rw [c1]; rfl), trivial⟩) (fun c1 => ⟨rfl, (by rw [c1]; rfl), trivial⟩) ?_
  refine at_s T rfl ?_
  refine at_grp T [7, 8, 9] (s := 11) (c := ((decide (w ≥ 1)) && (decide (w ≤ 1024)))) [(1, (.int .i64 h)), (14, (.bool (((decide (w ≥ 1)) && (decide (w ≤ 1024))) && (decide (h ≥ 1)))))] rfl rfl rfl (fun c2 => ⟨rfl, (by rw [c2]; rfl), trivial⟩) (fun c2 => ⟨rfl, (by rw [c2]; rfl), trivial⟩) ?_
  refine at_s T rfl ?_
  refine at_grp T [11, 12, 13] (s := 15) (c := (((decide (w ≥ 1)) && (decide (w ≤ 1024))) && (decide (h ≥ 1)))) [(18, (.bool ((((decide (w ≥ 1)) && (decide (w ≤ 1024))) && (decide (h ≥ 1))) && (decide (h ≤ 1024)))))] rfl rfl rfl (fun c3 => ⟨(by rw [c3]; rfl), trivial⟩) (fun c3 => ⟨(by rw [c3]; rfl), trivial⟩) ?_
  refine at_s T rfl ?_
  refine at_end ?_
  refine at_sub [(4, (.bool ((((decide (w ≥ 1)) && (decide (w ≤ 1024))) && (decide (h ≥ 1))) && (decide (h ≤ 1024)))))] ⟨rfl, trivial⟩ ?_
  refine at_then ?_
  refine at_ret ?_
  obtain rfl := Option.some.inj H
  exact at_post (T := T) rfl (.tmp rfl .nil) (fun w o => ⟨(), rfl, own_to [0] rfl o⟩)

/-! ### herdsman/where.is: function 67 -/
def where_is.f (w : Int) (h : Int) (cell : Int) : Option Bool := (where_May.f w h).bind fun v1 => some ((v1 && (decide (cell ≥ 0))) && (decide (cell < (w64 (w * h)))))
set_option maxHeartbeats 4000000 in
theorem where_is.c (w : Int) (h : Int) (cell : Int) (r : Bool) (F : Hp) (H : where_is.f w h cell = some r) :
    CallsL Try.prog 67 [(.int .i64 w), (.int .i64 h), (.int .i64 cell)] [F] (fun _ : Unit => (.bool r)) (fun _ => [F]) := by
  unfold where_is.f at H
  refine calls_atL [(0, (.int .i64 w)), (1, (.int .i64 h)), (2, (.int .i64 cell))] Try.func67 rfl rfl ⟨rfl, rfl, rfl, trivial⟩ (fun W => ?_)
  refine at_seq ?_
  refine at_region [0] rfl ?_
  refine at_s T rfl ?_
  refine at_end ?_
  refine at_sub [(0, (.int .i64 w)), (1, (.int .i64 h)), (2, (.int .i64 cell))] ⟨rfl, rfl, rfl, trivial⟩ ?_
  refine at_then ?_
  refine at_seq ?_
  refine at_region [0, 1, 2, 3, 4, 5, 6, 7, 8, 9, 10, 11, 12, 13, 14] rfl ?_
  iterate 2 refine at_s T rfl ?_
  obtain ⟨v1, V1, H⟩ := bind_e H
  refine at_cons (at_c (B := fun _ => []) [] rfl rfl rfl rfl has77 rfl rfl (where_May.c w h v1 _ V1) (fun _ => ?_))
  refine at_s T rfl ?_
  refine at_grp T [4, 5, 6] (s := 10) (c := v1) [(0, (.int .i64 w)), (1, (.int .i64 h)), (2, (.int .i64 cell)), (13, (.bool (v1 && (decide (cell ≥ 0)))))] rfl rfl rfl (fun c2 => ⟨rfl, rfl, rfl, (by rw [c2]; rfl), trivial⟩) (fun c2 => ⟨rfl, rfl, rfl, (by rw [c2]; rfl), trivial⟩) ?_
  refine at_s T rfl ?_
  refine at_grp T [8, 9, 10, 11, 12, 13] (s := 14) (c := (v1 && (decide (cell ≥ 0)))) [(20, (.bool ((v1 && (decide (cell ≥ 0))) && (decide (cell < (w64 (w * h)))))))] rfl rfl rfl (fun c3 => ⟨(by rw [c3]; rfl), trivial⟩) (fun c3 => ⟨(by rw [c3]; rfl), trivial⟩) ?_
  refine at_s T rfl ?_
  refine at_end ?_
  refine at_sub [(6, (.bool ((v1 && (decide (cell ≥ 0))) && (decide (cell < (w64 (w * h)))))))] ⟨rfl, trivial⟩ ?_
  refine at_then ?_
  refine at_ret ?_
  obtain rfl := Option.some.inj H
  exact at_post (T := T) rfl (.tmp rfl .nil) (fun w o => ⟨(), rfl, own_to [0] rfl o⟩)

/-! ### herdsman/where.Place: function 66 -/
def where_Place.f (w : Int) (h : Int) (cell : Int) : Option (Int × Int) := (where_is.f w h cell).bind fun v1 => if (!v1) = true then (some ((-1), (-1))) else (if (¬ w = 0) then (if (¬ w = 0) then (some ((Int.tmod cell w), (w64 (Int.tdiv cell w)))) else none) else none)
set_option maxHeartbeats 4000000 in
theorem where_Place.c (w : Int) (h : Int) (cell : Int) (r : (Int × Int)) (F : Hp) (H : where_Place.f w h cell = some r) :
    CallsL Try.prog 66 [(.int .i64 w), (.int .i64 h), (.int .i64 cell)] [F] (fun _ : Unit => (.tuple #[(.int .i64 r.1), (.int .i64 r.2)])) (fun _ => [F]) := by
  unfold where_Place.f at H
  refine calls_atL [(0, (.int .i64 w)), (1, (.int .i64 h)), (2, (.int .i64 cell))] Try.func66 rfl rfl ⟨rfl, rfl, rfl, trivial⟩ (fun W => ?_)
  refine at_seq ?_
  refine at_region [0, 1] rfl ?_
  iterate 2 refine at_s T rfl ?_
  refine at_end ?_
  refine at_sub [(0, (.int .i64 w)), (1, (.int .i64 h)), (2, (.int .i64 cell))] ⟨rfl, rfl, rfl, trivial⟩ ?_
  refine at_then ?_
  refine at_seq ?_
  refine at_seq ?_
  refine at_region [0, 1, 2, 3, 4] rfl ?_
  iterate 3 refine at_s T rfl ?_
  obtain ⟨v1, V1, H⟩ := bind_e H
  refine at_cons (at_c (B := fun _ => []) [] rfl rfl rfl rfl has67 rfl rfl (where_is.c w h cell v1 _ V1) (fun _ => ?_))
  refine at_s T rfl ?_
  refine at_end ?_
  refine at_sub [(0, (.int .i64 w)), (2, (.int .i64 cell)), (12, (.bool (!v1)))] ⟨rfl, rfl, rfl, trivial⟩ ?_
  refine at_then ?_
  refine at_cond rfl (fun c2 => ?_) (fun c2 => ?_)
  · replace H := if_t c2 H
    refine at_seq ?_
    refine at_region [0, 1] rfl ?_
    iterate 2 refine at_s T rfl ?_
    refine at_end ?_
    refine at_sub [(6, (.int .i64 (-1))), (7, (.int .i64 (-1)))] ⟨rfl, rfl, trivial⟩ ?_
    refine at_then ?_
    refine at_ret ?_
    refine at_rt ?_
    obtain rfl := Option.some.inj H
    exact at_post (T := T) rfl (.tmp rfl (.tmp rfl .nil)) (fun w o => ⟨(), rfl, own_to [0] rfl o⟩)
  · replace H := if_f (bf c2) H
    refine at_skip ?_
    refine at_then ?_
    refine at_seq ?_
    refine at_region_q mix (by kernel_rfl) ?_
    iterate 2 refine atq_s T rfl ?_
    obtain ⟨c3, H⟩ := chk_e H
    refine atq_v rfl rfl rfl (g_rem rfl rfl rfl c3) ?_
    iterate 2 refine atq_s T rfl ?_
    obtain ⟨c4, H⟩ := chk_e H
    refine atq_v rfl rfl rfl (g_quo rfl rfl rfl c4) ?_
    iterate 2 refine atq_s T rfl ?_
    refine atq_end ?_
    refine at_sub [(6, (.int .i64 (Int.tmod cell w))), (7, (.int .i64 (w64 (Int.tdiv cell w))))] ⟨rfl, rfl, trivial⟩ ?_
    refine at_then ?_
    refine at_ret ?_
    obtain rfl := Option.some.inj H
    exact at_post (T := T) rfl (.tmp rfl (.tmp rfl .nil)) (fun w o => ⟨(), rfl, own_to [0] rfl o⟩)

/-! ### herdsman/where.Sectors: function 51 -/
def where_Sectors.f (w : Int) (h : Int) : Option (Int × Int) := (where_May.f w h).bind fun v1 => if (!v1) = true then (some (0, 0)) else (some ((w64 (Int.tdiv (w64 ((w64 (w + 16)) - 1)) 16)), (w64 (Int.tdiv (w64 ((w64 (h + 16)) - 1)) 16))))
set_option maxHeartbeats 4000000 in
theorem where_Sectors.c (w : Int) (h : Int) (r : (Int × Int)) (F : Hp) (H : where_Sectors.f w h = some r) :
    CallsL Try.prog 51 [(.int .i64 w), (.int .i64 h)] [F] (fun _ : Unit => (.tuple #[(.int .i64 r.1), (.int .i64 r.2)])) (fun _ => [F]) := by
  unfold where_Sectors.f at H
  refine calls_atL [(0, (.int .i64 w)), (1, (.int .i64 h))] Try.func51 rfl rfl ⟨rfl, rfl, trivial⟩ (fun W => ?_)
  refine at_seq ?_
  refine at_region [0, 1] rfl ?_
  iterate 2 refine at_s T rfl ?_
  refine at_end ?_
  refine at_sub [(0, (.int .i64 w)), (1, (.int .i64 h))] ⟨rfl, rfl, trivial⟩ ?_
  refine at_then ?_
  refine at_seq ?_
  refine at_seq ?_
  refine at_region [0, 1, 2, 3] rfl ?_
  iterate 2 refine at_s T rfl ?_
  obtain ⟨v1, V1, H⟩ := bind_e H
  refine at_cons (at_c (B := fun _ => []) [] rfl rfl rfl rfl has77 rfl rfl (where_May.c w h v1 _ V1) (fun _ => ?_))
  refine at_s T rfl ?_
  refine at_end ?_
  refine at_sub [(0, (.int .i64 w)), (1, (.int .i64 h)), (9, (.bool (!v1)))] ⟨rfl, rfl, rfl, trivial⟩ ?_
  refine at_then ?_
  refine at_cond rfl (fun c2 => ?_) (fun c2 => ?_)
  · replace H := if_t c2 H
    refine at_seq ?_
    refine at_region [0, 1] rfl ?_
    iterate 2 refine at_s T rfl ?_
    refine at_end ?_
    refine at_sub [(4, (.int .i64 0)), (5, (.int .i64 0))] ⟨rfl, rfl, trivial⟩ ?_
    refine at_then ?_
    refine at_ret ?_
    refine at_rt ?_
    obtain rfl := Option.some.inj H
    exact at_post (T := T) rfl (.tmp rfl (.tmp rfl .nil)) (fun w o => ⟨(), rfl, own_to [0] rfl o⟩)
  · replace H := if_f (bf c2) H
    refine at_skip ?_
    refine at_then ?_
    refine at_seq ?_
    refine at_region [0, 1, 2, 3, 4, 5, 6, 7, 8, 9] rfl ?_
    iterate 10 refine at_s T rfl ?_
    refine at_end ?_
    refine at_sub [(4, (.int .i64 (w64 (Int.tdiv (w64 ((w64 (w + 16)) - 1)) 16)))), (5, (.int .i64 (w64 (Int.tdiv (w64 ((w64 (h + 16)) - 1)) 16))))] ⟨rfl, rfl, trivial⟩ ?_
    refine at_then ?_
    refine at_ret ?_
    obtain rfl := Option.some.inj H
    exact at_post (T := T) rfl (.tmp rfl (.tmp rfl .nil)) (fun w o => ⟨(), rfl, own_to [0] rfl o⟩)

/-! ### herdsman/where.Sector: function 31 -/
def where_Sector.f (w : Int) (h : Int) (cell : Int) : Option Int := (where_Place.f w h cell).bind fun v1 => if v1.1 < 0 then (some (-1)) else ((where_Sectors.f w h).bind fun v2 => some (w64 ((w64 ((w64 (Int.tdiv v1.2 16)) * v2.1)) + (w64 (Int.tdiv v1.1 16)))))
set_option maxHeartbeats 4000000 in
theorem where_Sector.c (w : Int) (h : Int) (cell : Int) (r : Int) (F : Hp) (H : where_Sector.f w h cell = some r) :
    CallsL Try.prog 31 [(.int .i64 w), (.int .i64 h), (.int .i64 cell)] [F] (fun _ : Unit => (.int .i64 r)) (fun _ => [F]) := by
  unfold where_Sector.f at H
  refine calls_atL [(0, (.int .i64 w)), (1, (.int .i64 h)), (2, (.int .i64 cell))] Try.func31 rfl rfl ⟨rfl, rfl, rfl, trivial⟩ (fun W => ?_)
  refine at_seq ?_
  refine at_region [0] rfl ?_
  refine at_s T rfl ?_
  refine at_end ?_
  refine at_sub [(0, (.int .i64 w)), (1, (.int .i64 h)), (2, (.int .i64 cell))] ⟨rfl, rfl, rfl, trivial⟩ ?_
  refine at_then ?_
  refine at_seq ?_
  refine at_region [0, 1, 2, 3, 4, 5, 6, 7, 8] rfl ?_
  iterate 3 refine at_s T rfl ?_
  obtain ⟨v1, V1, H⟩ := bind_e H
  refine at_cons (at_c (B := fun _ => []) [] rfl rfl rfl rfl has66 rfl rfl (where_Place.c w h cell v1 _ V1) (fun _ => ?_))
  iterate 5 refine at_s T rfl ?_
  refine at_end ?_
  refine at_sub [(0, (.int .i64 w)), (1, (.int .i64 h)), (7, (.int .i64 v1.1)), (8, (.int .i64 v1.2))] ⟨rfl, rfl, rfl, rfl, trivial⟩ ?_
  refine at_then ?_
  refine at_seq ?_
  refine at_seq ?_
  refine at_region [0, 1] rfl ?_
  iterate 2 refine at_s T rfl ?_
  refine at_end ?_
  refine at_sub [(0, (.int .i64 w)), (1, (.int .i64 h)), (7, (.int .i64 v1.1)), (8, (.int .i64 v1.2)), (19, (.bool (decide (v1.1 < 0))))] ⟨rfl, rfl, rfl, rfl, rfl, trivial⟩ ?_
  refine at_then ?_
  refine at_cond rfl (fun c2 => ?_) (fun c2 => ?_)
  · replace H := if_t (of_decide_eq_true c2) H
    refine at_seq ?_
    refine at_region [0] rfl ?_
    refine at_s T rfl ?_
    refine at_end ?_
    refine at_sub [(6, (.int .i64 (-1)))] ⟨rfl, trivial⟩ ?_
    refine at_then ?_
    refine at_ret ?_
    refine at_rt ?_
    obtain rfl := Option.some.inj H
    exact at_post (T := T) rfl (.tmp rfl .nil) (fun w o => ⟨(), rfl, own_to [0] rfl o⟩)
  · replace H := if_f (of_decide_eq_false c2) H
    refine at_skip ?_
    refine at_then ?_
    refine at_seq ?_
    refine at_region [0, 1, 2, 3, 4, 5, 6, 7] rfl ?_
    iterate 2 refine at_s T rfl ?_
    obtain ⟨v2, V3, H⟩ := bind_e H
    refine at_cons (at_c (B := fun _ => []) [] rfl rfl rfl rfl has51 rfl rfl (where_Sectors.c w h v2 _ V3) (fun _ => ?_))
    iterate 5 refine at_s T rfl ?_
    refine at_end ?_
    refine at_sub [(7, (.int .i64 v1.1)), (8, (.int .i64 v1.2)), (9, (.int .i64 v2.1))] ⟨rfl, rfl, rfl, trivial⟩ ?_
    refine at_then ?_
    refine at_seq ?_
    refine at_region [0, 1, 2, 3, 4, 5, 6, 7] rfl ?_
    iterate 8 refine at_s T rfl ?_
    refine at_end ?_
    refine at_sub [(6, (.int .i64 (w64 ((w64 ((w64 (Int.tdiv v1.2 16)) * v2.1)) + (w64 (Int.tdiv v1.1 16))))))] ⟨rfl, trivial⟩ ?_
    refine at_then ?_
    refine at_ret ?_
    obtain rfl := Option.some.inj H
    exact at_post (T := T) rfl (.tmp rfl .nil) (fun w o => ⟨(), rfl, own_to [0] rfl o⟩)

/-! ### herdsman/where.Cell: function 81 -/
def where_Cell.f (w : Int) (h : Int) (x : Int) (y : Int) : Option Int := (where_May.f w h).bind fun v1 => if (((((!v1) || (decide (x < 0))) || (decide (x ≥ w))) || (decide (y < 0))) || (decide (y ≥ h))) = true then (some (-1)) else (some (w64 ((w64 (y * w)) + x)))
set_option maxHeartbeats 4000000 in
theorem where_Cell.c (w : Int) (h : Int) (x : Int) (y : Int) (r : Int) (F : Hp) (H : where_Cell.f w h x y = some r) :
    CallsL Try.prog 81 [(.int .i64 w), (.int .i64 h), (.int .i64 x), (.int .i64 y)] [F] (fun _ : Unit => (.int .i64 r)) (fun _ => [F]) := by
  unfold where_Cell.f at H
  refine calls_atL [(0, (.int .i64 w)), (1, (.int .i64 h)), (2, (.int .i64 x)), (3, (.int .i64 y))] Try.func81 rfl rfl ⟨rfl, rfl, rfl, rfl, trivial⟩ (fun W => ?_)
  refine at_seq ?_
  refine at_region [0] rfl ?_
  refine at_s T rfl ?_
  refine at_end ?_
  refine at_sub [(0, (.int .i64 w)), (1, (.int .i64 h)), (2, (.int .i64 x)), (3, (.int .i64 y))] ⟨rfl, rfl, rfl, rfl, trivial⟩ ?_
  refine at_then ?_
  refine at_seq ?_
  refine at_seq ?_
  refine at_region [0, 1, 2, 3, 4, 5, 6, 7, 8, 9, 10, 11, 12, 13, 14, 15, 16, 17, 18, 19, 20, 21] rfl ?_
  iterate 2 refine at_s T rfl ?_
  obtain ⟨v1, V1, H⟩ := bind_e H
  refine at_cons (at_c (B := fun _ => []) [] rfl rfl rfl rfl has77 rfl rfl (where_May.c w h v1 _ V1) (fun _ => ?_))
  iterate 2 refine at_s T rfl ?_
  refine at_grp T [5, 6, 7] (s := 13) (c := (!v1)) [(0, (.int .i64 w)), (1, (.int .i64 h)), (2, (.int .i64 x)), (3, (.int .i64 y)), (16, (.bool ((!v1) || (decide (x < 0)))))] rfl rfl rfl (fun c2 => ⟨rfl, rfl, rfl, rfl, (by rw [c2]; rfl), trivial⟩) (fun c2 => ⟨rfl, rfl, rfl, rfl, (by rw [c2]; rfl), trivial⟩) ?_
  refine at_s T rfl ?_
  refine at_grp T [9, 10, 11, 12] (s := 17) (c := ((!v1) || (decide (x < 0)))) [(0, (.int .i64 w)), (1, (.int .i64 h)), (2, (.int .i64 x)), (3, (.int .i64 y)), (21, (.bool (((!v1) || (decide (x < 0))) || (decide (x ≥ w)))))] rfl rfl rfl (fun c3 => ⟨rfl, rfl, rfl, rfl, (by rw [c3]; rfl), trivial⟩) (fun c3 => ⟨rfl, rfl, rfl, rfl, (by rw [c3]; rfl), trivial⟩) ?_
  refine at_s T rfl ?_
  refine at_grp T [14, 15, 16] (s := 22) (c := (((!v1) || (decide (x < 0))) || (decide (x ≥ w)))) [(0, (.int .i64 w)), (1, (.int .i64 h)), (2, (.int .i64 x)), (3, (.int .i64 y)), (25, (.bool ((((!v1) || (decide (x < 0))) || (decide (x ≥ w))) || (decide (y < 0)))))] rfl rfl rfl (fun c4 => ⟨rfl, rfl, rfl, rfl, (by rw [c4]; rfl), trivial⟩) (fun c4 => ⟨rfl, rfl, rfl, rfl, (by rw [c4]; rfl), trivial⟩) ?_
  refine at_s T rfl ?_
  refine at_grp T [18, 19, 20, 21] (s := 26) (c := ((((!v1) || (decide (x < 0))) || (decide (x ≥ w))) || (decide (y < 0)))) [(0, (.int .i64 w)), (2, (.int .i64 x)), (3, (.int .i64 y)), (30, (.bool (((((!v1) || (decide (x < 0))) || (decide (x ≥ w))) || (decide (y < 0))) || (decide (y ≥ h)))))] rfl rfl rfl (fun c5 => ⟨rfl, rfl, rfl, (by rw [c5]; rfl), trivial⟩) (fun c5 => ⟨rfl, rfl, rfl, (by rw [c5]; rfl), trivial⟩) ?_
  refine at_end ?_
  refine at_sub [(0, (.int .i64 w)), (2, (.int .i64 x)), (3, (.int .i64 y)), (30, (.bool (((((!v1) || (decide (x < 0))) || (decide (x ≥ w))) || (decide (y < 0))) || (decide (y ≥ h)))))] ⟨rfl, rfl, rfl, rfl, trivial⟩ ?_
  refine at_then ?_
  refine at_cond rfl (fun c6 => ?_) (fun c6 => ?_)
  · replace H := if_t c6 H
    refine at_seq ?_
    refine at_region [0] rfl ?_
    refine at_s T rfl ?_
    refine at_end ?_
    refine at_sub [(8, (.int .i64 (-1)))] ⟨rfl, trivial⟩ ?_
    refine at_then ?_
    refine at_ret ?_
    refine at_rt ?_
    obtain rfl := Option.some.inj H
    exact at_post (T := T) rfl (.tmp rfl .nil) (fun w o => ⟨(), rfl, own_to [0] rfl o⟩)
  · replace H := if_f (bf c6) H
    refine at_skip ?_
    refine at_then ?_
    refine at_seq ?_
    refine at_region [0, 1, 2, 3, 4, 5] rfl ?_
    iterate 6 refine at_s T rfl ?_
    refine at_end ?_
    refine at_sub [(8, (.int .i64 (w64 ((w64 (y * w)) + x))))] ⟨rfl, trivial⟩ ?_
    refine at_then ?_
    refine at_ret ?_
    obtain rfl := Option.some.inj H
    exact at_post (T := T) rfl (.tmp rfl .nil) (fun w o => ⟨(), rfl, own_to [0] rfl o⟩)

/-! ### herdsman/where.Step: function 68 -/
def where_Step.f (w : Int) (h : Int) (cell : Int) (side : Int) : Option Int := (where_Place.f w h cell).bind fun v1 => if v1.1 < 0 then (some (-1)) else ((if (side == 0) = true then (some (Sum.inr (v1.1, (w64 (v1.2 + (-1)))))) else (if (side == 2) = true then (some (Sum.inr (v1.1, (w64 (v1.2 + 1))))) else (if (side == 3) = true then (some (Sum.inr ((w64 (v1.1 + (-1))), v1.2))) else (if (side == 1) = true then (some (Sum.inr ((w64 (v1.1 + 1)), v1.2))) else (if (side == 4) = true then (some (Sum.inr (v1.1, v1.2))) else (some (Sum.inl (-1)))))))).bind fun zz => match zz with | Sum.inl q => some q | Sum.inr (x2, x3) => (where_Cell.f w h x2 x3).bind fun v5 => some v5)
set_option maxHeartbeats 4000000 in
theorem where_Step.c (w : Int) (h : Int) (cell : Int) (side : Int) (r : Int) (F : Hp) (H : where_Step.f w h cell side = some r) :
    CallsL Try.prog 68 [(.int .i64 w), (.int .i64 h), (.int .i64 cell), (.int .i64 side)] [F] (fun _ : Unit => (.int .i64 r)) (fun _ => [F]) := by
  unfold where_Step.f at H
  refine calls_atL [(0, (.int .i64 w)), (1, (.int .i64 h)), (2, (.int .i64 cell)), (3, (.int .i64 side))] Try.func68 rfl rfl ⟨rfl, rfl, rfl, rfl, trivial⟩ (fun W => ?_)
  refine at_seq ?_
  refine at_region [0] rfl ?_
  refine at_s T rfl ?_
  refine at_end ?_
  refine at_sub [(0, (.int .i64 w)), (1, (.int .i64 h)), (2, (.int .i64 cell)), (3, (.int .i64 side))] ⟨rfl, rfl, rfl, rfl, trivial⟩ ?_
  refine at_then ?_
  refine at_seq ?_
  refine at_region [0, 1, 2, 3, 4, 5, 6, 7, 8] rfl ?_
  iterate 3 refine at_s T rfl ?_
  obtain ⟨v1, V1, H⟩ := bind_e H
  refine at_cons (at_c (B := fun _ => []) [] rfl rfl rfl rfl has66 rfl rfl (where_Place.c w h cell v1 _ V1) (fun _ => ?_))
  iterate 5 refine at_s T rfl ?_
  refine at_end ?_
  refine at_sub [(0, (.int .i64 w)), (1, (.int .i64 h)), (3, (.int .i64 side)), (9, (.int .i64 v1.1)), (10, (.int .i64 v1.2))] ⟨rfl, rfl, rfl, rfl, rfl, trivial⟩ ?_
  refine at_then ?_
  refine at_seq ?_
  refine at_seq ?_
  refine at_region [0, 1] rfl ?_
  iterate 2 refine at_s T rfl ?_
  refine at_end ?_
  refine at_sub [(0, (.int .i64 w)), (1, (.int .i64 h)), (3, (.int .i64 side)), (9, (.int .i64 v1.1)), (10, (.int .i64 v1.2)), (20, (.bool (decide (v1.1 < 0))))] ⟨rfl, rfl, rfl, rfl, rfl, rfl, trivial⟩ ?_
  refine at_then ?_
  refine at_cond rfl (fun c2 => ?_) (fun c2 => ?_)
  · replace H := if_t (of_decide_eq_true c2) H
    refine at_seq ?_
    refine at_region [0] rfl ?_
    refine at_s T rfl ?_
    refine at_end ?_
    refine at_sub [(8, (.int .i64 (-1)))] ⟨rfl, trivial⟩ ?_
    refine at_then ?_
    refine at_ret ?_
    refine at_rt ?_
    obtain rfl := Option.some.inj H
    exact at_post (T := T) rfl (.tmp rfl .nil) (fun w o => ⟨(), rfl, own_to [0] rfl o⟩)
  · replace H := if_f (of_decide_eq_false c2) H
    refine at_skip ?_
    refine at_then ?_
    refine at_seq ?_
    refine at_region [0] rfl ?_
    refine at_s T rfl ?_
    refine at_end ?_
    refine at_sub [(0, (.int .i64 w)), (1, (.int .i64 h)), (3, (.int .i64 side)), (9, (.int .i64 v1.1)), (10, (.int .i64 v1.2)), (11, (.int .i64 1))] ⟨rfl, rfl, rfl, rfl, rfl, rfl, trivial⟩ ?_
    refine at_then ?_
    obtain ⟨z4, Z3, H⟩ := bind_e H
    refine at_seq_mid (σ := Int × Int) (fun ⟨x2, x3⟩ => (Sum.inr (x2, x3)) = z4) (fun ⟨x2, x3⟩ => [(0, (.int .i64 w)), (1, (.int .i64 h)), (9, (.int .i64 x2)), (10, (.int .i64 x3))]) (fun ⟨x2, x3⟩ => [F]) ?_ ?_
    · refine at_seq ?_
      refine at_region [0] rfl ?_
      refine at_s T rfl ?_
      refine at_end ?_
      refine at_sub [(0, (.int .i64 w)), (1, (.int .i64 h)), (9, (.int .i64 v1.1)), (10, (.int .i64 v1.2)), (11, (.int .i64 1)), (21, (.int .i64 side))] ⟨rfl, rfl, rfl, rfl, rfl, rfl, trivial⟩ ?_
      refine at_then ?_
      refine at_block ?_
      refine at_seq ?_
      refine at_block ?_
      refine at_seq ?_
      refine at_block ?_
      refine at_seq ?_
      refine at_block ?_
      refine at_seq ?_
      refine at_block ?_
      refine at_seq ?_
      refine at_block ?_
      refine at_seq ?_
      refine at_block ?_
      refine at_seq ?_
      refine at_seq ?_
      refine at_seq ?_
      refine at_region [0, 1] rfl ?_
      iterate 2 refine at_s T rfl ?_
      refine at_end ?_
      refine at_sub [(0, (.int .i64 w)), (1, (.int .i64 h)), (9, (.int .i64 v1.1)), (10, (.int .i64 v1.2)), (11, (.int .i64 1)), (21, (.int .i64 side)), (22, (.bool (side == 0)))] ⟨rfl, rfl, rfl, rfl, rfl, rfl, rfl, trivial⟩ ?_
      refine at_then ?_
      refine at_cond rfl (fun c4 => ?_) (fun c4 => ?_)
      · replace Z3 := if_t c4 Z3
        refine at_exit ?_
        refine at_xt ?_
        refine at_xt ?_
        refine at_xb ?_
        refine at_then ?_
        refine at_region [0] rfl ?_
        refine at_s T rfl ?_
        refine at_end ?_
        refine at_sub [(0, (.int .i64 w)), (1, (.int .i64 h)), (9, (.int .i64 v1.1)), (10, (.int .i64 v1.2)), (11, (.int .i64 (-1)))] ⟨rfl, rfl, rfl, rfl, rfl, trivial⟩ ?_
        refine at_nb ?_
        refine at_then ?_
        refine at_seq ?_
        refine at_region [0, 1, 2, 3] rfl ?_
        iterate 4 refine at_s T rfl ?_
        refine at_end ?_
        refine at_sub [(0, (.int .i64 w)), (1, (.int .i64 h)), (9, (.int .i64 v1.1)), (10, (.int .i64 (w64 (v1.2 + (-1)))))] ⟨rfl, rfl, rfl, rfl, trivial⟩ ?_
        refine at_then ?_
        refine at_exit ?_
        refine at_xn rfl ?_
        refine at_xt ?_
        refine at_xn rfl ?_
        refine at_xt ?_
        refine at_xn rfl ?_
        refine at_xt ?_
        refine at_xn rfl ?_
        refine at_xt ?_
        refine at_xb ?_
        refine at_then ?_
        obtain rfl := Option.some.inj Z3
        exact at_mid (v1.1, (w64 (v1.2 + (-1)))) [0] rfl ⟨rfl, rfl, rfl, rfl, trivial⟩ rfl
      · replace Z3 := if_f (bf c4) Z3
        refine at_skip ?_
        refine at_then ?_
        refine at_seq ?_
        refine at_seq ?_
        refine at_region [0, 1] rfl ?_
        iterate 2 refine at_s T rfl ?_
        refine at_end ?_
        refine at_sub [(0, (.int .i64 w)), (1, (.int .i64 h)), (9, (.int .i64 v1.1)), (10, (.int .i64 v1.2)), (11, (.int .i64 1)), (21, (.int .i64 side)), (24, (.bool (side == 2)))] ⟨rfl, rfl, rfl, rfl, rfl, rfl, rfl, trivial⟩ ?_
        refine at_then ?_
        refine at_cond rfl (fun c5 => ?_) (fun c5 => ?_)
        · replace Z3 := if_t c5 Z3
          refine at_exit ?_
          refine at_xt ?_
          refine at_xt ?_
          refine at_xn rfl ?_
          refine at_xt ?_
          refine at_xb ?_
          refine at_then ?_
          refine at_seq ?_
          refine at_region [0, 1, 2, 3] rfl ?_
          iterate 4 refine at_s T rfl ?_
          refine at_end ?_
          refine at_sub [(0, (.int .i64 w)), (1, (.int .i64 h)), (9, (.int .i64 v1.1)), (10, (.int .i64 (w64 (v1.2 + 1))))] ⟨rfl, rfl, rfl, rfl, trivial⟩ ?_
          refine at_then ?_
          refine at_exit ?_
          refine at_xn rfl ?_
          refine at_xt ?_
          refine at_xn rfl ?_
          refine at_xt ?_
          refine at_xn rfl ?_
          refine at_xt ?_
          refine at_xn rfl ?_
          refine at_xt ?_
          refine at_xb ?_
          refine at_then ?_
          obtain rfl := Option.some.inj Z3
          exact at_mid (v1.1, (w64 (v1.2 + 1))) [0] rfl ⟨rfl, rfl, rfl, rfl, trivial⟩ rfl
        · replace Z3 := if_f (bf c5) Z3
          refine at_skip ?_
          refine at_then ?_
          refine at_seq ?_
          refine at_seq ?_
          refine at_region [0, 1] rfl ?_
          iterate 2 refine at_s T rfl ?_
          refine at_end ?_
          refine at_sub [(0, (.int .i64 w)), (1, (.int .i64 h)), (9, (.int .i64 v1.1)), (10, (.int .i64 v1.2)), (11, (.int .i64 1)), (21, (.int .i64 side)), (26, (.bool (side == 3)))] ⟨rfl, rfl, rfl, rfl, rfl, rfl, rfl, trivial⟩ ?_
          refine at_then ?_
          refine at_cond rfl (fun c6 => ?_) (fun c6 => ?_)
          · replace Z3 := if_t c6 Z3
            refine at_exit ?_
            refine at_xt ?_
            refine at_xt ?_
            refine at_xn rfl ?_
            refine at_xt ?_
            refine at_xn rfl ?_
            refine at_xt ?_
            refine at_xb ?_
            refine at_then ?_
            refine at_region [0] rfl ?_
            refine at_s T rfl ?_
            refine at_end ?_
            refine at_sub [(0, (.int .i64 w)), (1, (.int .i64 h)), (9, (.int .i64 v1.1)), (10, (.int .i64 v1.2)), (11, (.int .i64 (-1)))] ⟨rfl, rfl, rfl, rfl, rfl, trivial⟩ ?_
            refine at_nb ?_
            refine at_then ?_
            refine at_seq ?_
            refine at_region [0, 1, 2, 3] rfl ?_
            iterate 4 refine at_s T rfl ?_
            refine at_end ?_
            refine at_sub [(0, (.int .i64 w)), (1, (.int .i64 h)), (9, (.int .i64 (w64 (v1.1 + (-1))))), (10, (.int .i64 v1.2))] ⟨rfl, rfl, rfl, rfl, trivial⟩ ?_
            refine at_then ?_
            refine at_exit ?_
            refine at_xn rfl ?_
            refine at_xt ?_
            refine at_xn rfl ?_
            refine at_xt ?_
            refine at_xb ?_
            refine at_then ?_
            obtain rfl := Option.some.inj Z3
            exact at_mid ((w64 (v1.1 + (-1))), v1.2) [0] rfl ⟨rfl, rfl, rfl, rfl, trivial⟩ rfl
          · replace Z3 := if_f (bf c6) Z3
            refine at_skip ?_
            refine at_then ?_
            refine at_seq ?_
            refine at_seq ?_
            refine at_region [0, 1] rfl ?_
            iterate 2 refine at_s T rfl ?_
            refine at_end ?_
            refine at_sub [(0, (.int .i64 w)), (1, (.int .i64 h)), (9, (.int .i64 v1.1)), (10, (.int .i64 v1.2)), (11, (.int .i64 1)), (21, (.int .i64 side)), (28, (.bool (side == 1)))] ⟨rfl, rfl, rfl, rfl, rfl, rfl, rfl, trivial⟩ ?_
            refine at_then ?_
            refine at_cond rfl (fun c7 => ?_) (fun c7 => ?_)
            · replace Z3 := if_t c7 Z3
              refine at_exit ?_
              refine at_xt ?_
              refine at_xt ?_
              refine at_xn rfl ?_
              refine at_xt ?_
              refine at_xn rfl ?_
              refine at_xt ?_
              refine at_xn rfl ?_
              refine at_xt ?_
              refine at_xb ?_
              refine at_then ?_
              refine at_seq ?_
              refine at_region [0, 1, 2, 3] rfl ?_
              iterate 4 refine at_s T rfl ?_
              refine at_end ?_
              refine at_sub [(0, (.int .i64 w)), (1, (.int .i64 h)), (9, (.int .i64 (w64 (v1.1 + 1)))), (10, (.int .i64 v1.2))] ⟨rfl, rfl, rfl, rfl, trivial⟩ ?_
              refine at_then ?_
              refine at_exit ?_
              refine at_xn rfl ?_
              refine at_xt ?_
              refine at_xn rfl ?_
              refine at_xt ?_
              refine at_xb ?_
              refine at_then ?_
              obtain rfl := Option.some.inj Z3
              exact at_mid ((w64 (v1.1 + 1)), v1.2) [0] rfl ⟨rfl, rfl, rfl, rfl, trivial⟩ rfl
            · replace Z3 := if_f (bf c7) Z3
              refine at_skip ?_
              refine at_then ?_
              refine at_seq ?_
              refine at_region [0, 1] rfl ?_
              iterate 2 refine at_s T rfl ?_
              refine at_end ?_
              refine at_sub [(0, (.int .i64 w)), (1, (.int .i64 h)), (9, (.int .i64 v1.1)), (10, (.int .i64 v1.2)), (30, (.bool (side == 4)))] ⟨rfl, rfl, rfl, rfl, rfl, trivial⟩ ?_
              refine at_then ?_
              refine at_cond rfl (fun c8 => ?_) (fun c8 => ?_)
              · replace Z3 := if_t c8 Z3
                refine at_exit ?_
                refine at_xt ?_
                refine at_xn rfl ?_
                refine at_xt ?_
                refine at_xn rfl ?_
                refine at_xt ?_
                refine at_xn rfl ?_
                refine at_xt ?_
                refine at_xn rfl ?_
                refine at_xt ?_
                refine at_xb ?_
                refine at_then ?_
                refine at_exit ?_
                refine at_xn rfl ?_
                refine at_xt ?_
                refine at_xb ?_
                refine at_then ?_
                obtain rfl := Option.some.inj Z3
                exact at_mid (v1.1, v1.2) [0] rfl ⟨rfl, rfl, rfl, rfl, trivial⟩ rfl
              · replace Z3 := if_f (bf c8) Z3
                refine at_skip ?_
                refine at_then ?_
                refine at_exit ?_
                refine at_xn rfl ?_
                refine at_xt ?_
                refine at_xn rfl ?_
                refine at_xt ?_
                refine at_xn rfl ?_
                refine at_xt ?_
                refine at_xn rfl ?_
                refine at_xt ?_
                refine at_xn rfl ?_
                refine at_xt ?_
                refine at_xb ?_
                refine at_then ?_
                refine at_seq ?_
                refine at_seq ?_
                refine at_region [0] rfl ?_
                refine at_s T rfl ?_
                refine at_end ?_
                refine at_sub [(8, (.int .i64 (-1)))] ⟨rfl, trivial⟩ ?_
                refine at_then ?_
                refine at_ret ?_
                refine at_rt ?_
                refine at_rb ?_
                refine at_rt ?_
                obtain rfl := Option.some.inj Z3
                obtain rfl := Option.some.inj (show some (-1) = some r from H)
                exact at_post (T := T) rfl (.tmp rfl .nil) (fun w o => ⟨(), rfl, own_to [0] rfl o⟩)
    · rintro ⟨x2, x3⟩ rfl
      refine at_seq ?_
      refine at_region [0, 1, 2, 3, 4, 5] rfl ?_
      iterate 4 refine at_s T rfl ?_
      obtain ⟨v5, V9, H⟩ := bind_e H
      refine at_cons (at_c (B := fun _ => []) [] rfl rfl rfl rfl has81 rfl rfl (where_Cell.c w h x2 x3 v5 _ V9) (fun _ => ?_))
      refine at_s T rfl ?_
      refine at_end ?_
      refine at_sub [(8, (.int .i64 v5))] ⟨rfl, trivial⟩ ?_
      refine at_then ?_
      refine at_ret ?_
      obtain rfl := Option.some.inj H
      exact at_post (T := T) rfl (.tmp rfl .nil) (fun w o => ⟨(), rfl, own_to [0] rfl o⟩)

/-! ### herdsman/where.Side: function 32 -/
def where_Side.l0 : Nat → Int → Int → Int → Int → Int → Option Int
  | 0, _, _, _, _, _ => none
  | k7 + 1, w, h, a, b, x6 => if x6 ≤ 4 then ((where_Step.f w h a x6).bind fun v8 => if (v8 == b) = true then (some x6) else (where_Side.l0 k7 w h a b (w64 (x6 + 1)))) else (some 5)
def where_Side.f (w : Int) (h : Int) (a : Int) (b : Int) : Option Int := ((where_is.f w h a).bind fun v3 => if (!v3) = true then (some true) else ((where_is.f w h b).bind fun v4 => some (!v4))).bind fun x1 => if x1 = true then (some 5) else (where_Side.l0 fuel w h a b 0)
set_option maxHeartbeats 4000000 in
theorem where_Side.c (w : Int) (h : Int) (a : Int) (b : Int) (r : Int) (F : Hp) (H : where_Side.f w h a b = some r) :
    CallsL Try.prog 32 [(.int .i64 w), (.int .i64 h), (.int .i64 a), (.int .i64 b)] [F] (fun _ : Unit => (.int .i64 r)) (fun _ => [F]) := by
  unfold where_Side.f at H
  refine calls_atL [(0, (.int .i64 w)), (1, (.int .i64 h)), (2, (.int .i64 a)), (3, (.int .i64 b))] Try.func32 rfl rfl ⟨rfl, rfl, rfl, rfl, trivial⟩ (fun W => ?_)
  refine at_seq ?_
  refine at_region [0] rfl ?_
  refine at_s T rfl ?_
  refine at_end ?_
  refine at_sub [(0, (.int .i64 w)), (1, (.int .i64 h)), (2, (.int .i64 a)), (3, (.int .i64 b))] ⟨rfl, rfl, rfl, rfl, trivial⟩ ?_
  refine at_then ?_
  refine at_seq ?_
  obtain ⟨z2, Z1, H⟩ := bind_e H
  refine at_seq_mid (σ := Bool) (fun x1 => x1 = z2) (fun x1 => [(0, (.int .i64 w)), (1, (.int .i64 h)), (2, (.int .i64 a)), (3, (.int .i64 b)), (21, (.bool x1))]) (fun x1 => [F]) ?_ ?_
  · refine at_region [0, 1, 2, 3, 4, 5, 6, 7, 8, 9, 10, 11] rfl ?_
    iterate 3 refine at_s T rfl ?_
    obtain ⟨v3, V2, Z1⟩ := bind_e Z1
    refine at_cons (at_c (B := fun _ => []) [] rfl rfl rfl rfl has67 rfl rfl (where_is.c w h a v3 _ V2) (fun _ => ?_))
    iterate 2 refine at_s T rfl ?_
    refine at_case (s := 15) rfl (fun c3 => ?_) (fun c3 => ?_)
    · replace Z1 := if_t c3 Z1
      iterate 6 refine at_s T rfl ?_
      refine at_end ?_
      refine at_sub [(0, (.int .i64 w)), (1, (.int .i64 h)), (2, (.int .i64 a)), (3, (.int .i64 b)), (21, (.bool true))] ⟨rfl, rfl, rfl, rfl, rfl, trivial⟩ ?_
      refine at_then ?_
      obtain rfl := Option.some.inj Z1
      exact at_mid true [0] rfl ⟨rfl, rfl, rfl, rfl, rfl, trivial⟩ rfl
    · replace Z1 := if_f (bf c3) Z1
      iterate 3 refine at_s T rfl ?_
      obtain ⟨v4, V4, Z1⟩ := bind_e Z1
      refine at_cons (at_c (B := fun _ => []) [] rfl rfl rfl rfl has67 rfl rfl (where_is.c w h b v4 _ V4) (fun _ => ?_))
      iterate 2 refine at_s T rfl ?_
      refine at_end ?_
      refine at_sub [(0, (.int .i64 w)), (1, (.int .i64 h)), (2, (.int .i64 a)), (3, (.int .i64 b)), (21, (.bool (!v4)))] ⟨rfl, rfl, rfl, rfl, rfl, trivial⟩ ?_
      refine at_then ?_
      obtain rfl := Option.some.inj Z1
      exact at_mid (!v4) [0] rfl ⟨rfl, rfl, rfl, rfl, rfl, trivial⟩ rfl
  · rintro x1 rfl
    refine at_cond rfl (fun c5 => ?_) (fun c5 => ?_)
    · replace H := if_t c5 H
      refine at_seq ?_
      refine at_region [0] rfl ?_
      refine at_s T rfl ?_
      refine at_end ?_
      refine at_sub [(8, (.int .i64 5))] ⟨rfl, trivial⟩ ?_
      refine at_then ?_
      refine at_ret ?_
      refine at_rt ?_
      obtain rfl := Option.some.inj H
      exact at_post (T := T) rfl (.tmp rfl .nil) (fun w o => ⟨(), rfl, own_to [0] rfl o⟩)
    · replace H := if_f (bf c5) H
      refine at_skip ?_
      refine at_then ?_
      refine at_seq ?_
      refine at_seq ?_
      refine at_region [0] rfl ?_
      refine at_s T rfl ?_
      refine at_end ?_
      refine at_sub [(0, (.int .i64 w)), (1, (.int .i64 h)), (2, (.int .i64 a)), (3, (.int .i64 b)), (9, (.int .i64 0))] ⟨rfl, rfl, rfl, rfl, rfl, trivial⟩ ?_
      refine at_then ?_
      refine at_block ?_
      refine at_loopL (σ := Nat × Int) (fun ⟨k7, x6⟩ => where_Side.l0 k7 w h a b x6 = some r) (fun ⟨k7, x6⟩ => [(0, (.int .i64 w)), (1, (.int .i64 h)), (2, (.int .i64 a)), (3, (.int .i64 b)), (9, (.int .i64 x6))]) (fun ⟨k7, x6⟩ => [F]) (fun s => s.1) (fuel, 0) [0] H ⟨rfl, rfl, rfl, rfl, rfl, trivial⟩ rfl ?_
      rintro ⟨k7, x6⟩ Z6
      replace Z6 : where_Side.l0 k7 w h a b x6 = some r := Z6
      rcases k7 with _ | k7
      · rw [where_Side.l0] at Z6; cases Z6
      · rw [where_Side.l0] at Z6
        refine at_seq ?_
        refine at_seq ?_
        refine at_region [0, 1] rfl ?_
        iterate 2 refine at_s T rfl ?_
        refine at_end ?_
        refine at_sub [(0, (.int .i64 w)), (1, (.int .i64 h)), (2, (.int .i64 a)), (3, (.int .i64 b)), (9, (.int .i64 x6)), (23, (.bool (decide (x6 ≤ 4))))] ⟨rfl, rfl, rfl, rfl, rfl, rfl, trivial⟩ ?_
        refine at_then ?_
        refine at_cond rfl (fun c7 => ?_) (fun c7 => ?_)
        · replace Z6 := if_t (of_decide_eq_true c7) Z6
          refine at_skip ?_
          refine at_then ?_
          refine at_seq ?_
          refine at_block ?_
          refine at_seq ?_
          refine at_region [0, 1, 2, 3, 4, 5, 6] rfl ?_
          iterate 4 refine at_s T rfl ?_
          obtain ⟨v8, V8, Z6⟩ := bind_e Z6
          refine at_cons (at_c (B := fun _ => []) [] rfl rfl rfl rfl has68 rfl rfl (where_Step.c w h a x6 v8 _ V8) (fun _ => ?_))
          iterate 2 refine at_s T rfl ?_
          refine at_end ?_
          refine at_sub [(0, (.int .i64 w)), (1, (.int .i64 h)), (2, (.int .i64 a)), (3, (.int .i64 b)), (9, (.int .i64 x6)), (32, (.bool (v8 == b)))] ⟨rfl, rfl, rfl, rfl, rfl, rfl, trivial⟩ ?_
          refine at_then ?_
          refine at_cond rfl (fun c9 => ?_) (fun c9 => ?_)
          · replace Z6 := if_t c9 Z6
            refine at_seq ?_
            refine at_region [0, 1] rfl ?_
            iterate 2 refine at_s T rfl ?_
            refine at_end ?_
            refine at_sub [(8, (.int .i64 x6))] ⟨rfl, trivial⟩ ?_
            refine at_then ?_
            refine at_ret ?_
            refine at_rb ?_
            refine at_rt ?_
            refine at_rt ?_
            refine at_rb ?_
            refine at_rt ?_
            obtain rfl := Option.some.inj Z6
            exact at_post (T := T) rfl (.tmp rfl .nil) (fun w o => ⟨(), rfl, own_to [0] rfl o⟩)
          · replace Z6 := if_f (bf c9) Z6
            refine at_skip ?_
            refine at_nb ?_
            refine at_then ?_
            refine at_region [0, 1, 2] rfl ?_
            iterate 3 refine at_s T rfl ?_
            refine at_end ?_
            refine at_sub [(0, (.int .i64 w)), (1, (.int .i64 h)), (2, (.int .i64 a)), (3, (.int .i64 b)), (9, (.int .i64 (w64 (x6 + 1))))] ⟨rfl, rfl, rfl, rfl, rfl, trivial⟩ ?_
            refine at_then ?_
            exact at_roundL (k7, (w64 (x6 + 1))) [0] Z6 (Nat.lt_succ_self _) ⟨rfl, rfl, rfl, rfl, rfl, trivial⟩ rfl
        · replace Z6 := if_f (of_decide_eq_false c7) Z6
          refine at_exit ?_
          refine at_xt ?_
          refine at_xt ?_
          refine at_xb ?_
          refine at_then ?_
          refine at_seq ?_
          refine at_region [0] rfl ?_
          refine at_s T rfl ?_
          refine at_end ?_
          refine at_sub [(8, (.int .i64 5))] ⟨rfl, trivial⟩ ?_
          refine at_then ?_
          refine at_ret ?_
          obtain rfl := Option.some.inj Z6
          exact at_post (T := T) rfl (.tmp rfl .nil) (fun w o => ⟨(), rfl, own_to [0] rfl o⟩)
end

end Go.Proofs.Yticdodeoljodiaa
