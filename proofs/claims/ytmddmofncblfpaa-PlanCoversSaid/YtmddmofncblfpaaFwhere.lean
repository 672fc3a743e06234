import Derived.Test.YtmddmofncblfpaaT
namespace Go.Proofs.Ytmddmofncblfpaa
open Go.Hx
set_option maxRecDepth 100000
set_option linter.unusedVariables false
/-! ### herdsman/where.May: function 60 -/
def where_May.f (w : Int) (h : Int) : Option Bool := some ((((decide (w ≥ 1)) && (decide (w ≤ 1024))) && (decide (h ≥ 1))) && (decide (h ≤ 1024)))
set_option maxHeartbeats 4000000 in
theorem where_May.c (w : Int) (h : Int) (r : Bool) (F : Hp) (H : where_May.f w h = some r) :
    CallsL Try.prog 60 [(.int .i64 w), (.int .i64 h)] [F] (fun _ : Unit => (.bool r)) (fun _ => [F]) := by
  unfold where_May.f at H
  refine calls_atL [(0, (.int .i64 w)), (1, (.int .i64 h))] Try.func60 rfl rfl ⟨rfl, rfl, trivial⟩ (fun W => ?_)
  refine at_seq ?_
  refine at_region [0] rfl ?_
  refine at_s T rfl ?_
  refine at_end ?_
  refine at_sub [(0, (.int .i64 w)), (1, (.int .i64 h))] ⟨rfl, rfl, trivial⟩ ?_
  refine at_then ?_
  refine at_seq ?_
  refine at_region [0, 1, 2, 3, 4, 5, 6, 7, 8, 9, 10, 11, 12, 13, 14] rfl ?_
  iterate 3 refine at_s T rfl ?_
  refine at_grp T [3, 4, 5] (s := 7) (c := (decide (w ≥ 1))) [(1, (.int .i64 h)), (10, (.bool ((decide (w ≥ 1)) && (decide (w ≤ 1024)))))] rfl rfl rfl (fun c1 => ⟨rfl, (by rw [c1]; rfl), trivial⟩) (fun c1 => ⟨rfl, (by rw [c1]; rfl), trivial⟩) ?_
  refine at_s T rfl ?_
  refine at_grp T [7, 8, 9] (s := 11) (c := ((decide (w ≥ 1)) && (decide (w ≤ 1024)))) [(1, (.int .i64 h)), (14, (.bool (((decide (w ≥ 1)) && (decide (w ≤ 1024))) && (decide (h ≥ 1)))))] rfl rfl rfl (fun c2 => ⟨rfl, (by rw [c2]; rfl), trivial⟩) (fun c2 => ⟨rfl, (by rw [c2]; rfl), trivial⟩) ?_
  refine at_s T rfl ?_
  refine at_grp T [11, 12, 13] (s := 15) (c := (((decide (w ≥ 1)) && (decide (w ≤ 1024))) && (decide (h ≥ 1)))) [(18, (.bool ((((decide (w ≥ 1)) && (decide (w ≤ 1024))) && (decide (h ≥ 1))) && (decide (h ≤ 1024)))))] rfl rfl rfl (fun c3 => ⟨(by rw [c3]; rfl), trivial⟩) (fun c3 => ⟨(by rw [c3]; rfl), trivial⟩) ?_
  refine at_s T rfl ?_
  refine at_end ?_
  refine at_sub [(4, (.bool ((((decide (w ≥ 1)) && (decide (w ≤ 1024))) && (decide (h ≥ 1))) && (decide (h ≤ 1024)))))] ⟨rfl, trivial⟩ ?_
  refine at_then ?_
  refine at_ret ?_
  obtain rfl := Option.some.inj H
  exact at_post (T := T) rfl (.tmp rfl .nil) (fun w o => ⟨(), rfl, own_to [0] rfl o⟩)

/-! ### herdsman/where.is: function 67 -/
def where_is.f (w : Int) (h : Int) (cell : Int) : Option Bool := (where_May.f w h).bind fun v1 => some ((v1 && (decide (cell ≥ 0))) && (decide (cell < (w64 (w * h)))))
set_option maxHeartbeats 4000000 in
theorem where_is.c (w : Int) (h : Int) (cell : Int) (r : Bool) (F : Hp) (H : where_is.f w h cell = some r) :
    CallsL Try.prog 67 [(.int .i64 w), (.int .i64 h), (.int .i64 cell)] [F] (fun _ : Unit => (.bool r)) (fun _ => [F]) := by
  unfold where_is.f at H
  refine calls_atL [(0, (.int .i64 w)), (1, (.int .i64 h)), (2, (.int .i64 cell))] Try.func67 rfl rfl ⟨rfl, rfl, rfl, trivial⟩ (fun W => ?_)
  refine at_seq ?_
  refine at_region [0] rfl ?_
  refine at_s T rfl ?_
  refine at_end ?_
  refine at_sub [(0, (.int .i64 w)), (1, (.int .i64 h)), (2, (.int .i64 cell))] ⟨rfl, rfl, rfl, trivial⟩ ?_
  refine at_then ?_
  refine at_seq ?_
  refine at_region [0, 1, 2, 3, 4, 5, 6, 7, 8, 9, 10, 11, 12, 13, 14] rfl ?_
  iterate 2 refine at_s T rfl ?_
  obtain ⟨v1, V1, H⟩ := bind_e H
  refine at_cons (at_c (B := fun _ => []) [] rfl rfl rfl rfl has60 rfl rfl (where_May.c w h v1 _ V1) (fun _ => ?_))
  refine at_s T rfl ?_
  refine at_grp T [4, 5, 6] (s := 10) (c := v1) [(0, (.int .i64 w)), (1, (.int .i64 h)), (2, (.int .i64 cell)), (13, (.bool (v1 && (decide (cell ≥ 0)))))] rfl rfl rfl (fun c2 => ⟨rfl, rfl, rfl, (by rw [c2]; rfl), trivial⟩) (fun c2 => ⟨rfl, rfl, rfl, (by rw [c2]; rfl), trivial⟩) ?_
  refine at_s T rfl ?_
  refine at_grp T [8, 9, 10, 11, 12, 13] (s := 14) (c := (v1 && (decide (cell ≥ 0)))) [(20, (.bool ((v1 && (decide (cell ≥ 0))) && (decide (cell < (w64 (w * h)))))))] rfl rfl rfl (fun c3 => ⟨(by rw [c3]; rfl), trivial⟩) (fun c3 => ⟨(by rw [c3]; rfl), trivial⟩) ?_
  refine at_s T rfl ?_
  refine at_end ?_
  refine at_sub [(6, (.bool ((v1 && (decide (cell ≥ 0))) && (decide (cell < (w64 (w * h)))))))] ⟨rfl, trivial⟩ ?_
  refine at_then ?_
  refine at_ret ?_
  obtain rfl := Option.some.inj H
  exact at_post (T := T) rfl (.tmp rfl .nil) (fun w o => ⟨(), rfl, own_to [0] rfl o⟩)

/-! ### herdsman/where.Place: function 64 -/
def where_Place.f (w : Int) (h : Int) (cell : Int) : Option (Int × Int) := (where_is.f w h cell).bind fun v1 => if (!v1) = true then (some ((-1), (-1))) else (if (¬ w = 0) then (if (¬ w = 0) then (some ((Int.tmod cell w), (w64 (Int.tdiv cell w)))) else none) else none)
set_option maxHeartbeats 4000000 in
theorem where_Place.c (w : Int) (h : Int) (cell : Int) (r : (Int × Int)) (F : Hp) (H : where_Place.f w h cell = some r) :
    CallsL Try.prog 64 [(.int .i64 w), (.int .i64 h), (.int .i64 cell)] [F] (fun _ : Unit => (.tuple #[(.int .i64 r.1), (.int .i64 r.2)])) (fun _ => [F]) := by
  unfold where_Place.f at H
  refine calls_atL [(0, (.int .i64 w)), (1, (.int .i64 h)), (2, (.int .i64 cell))] Try.func64 rfl rfl ⟨rfl, rfl, rfl, trivial⟩ (fun W => ?_)
  refine at_seq ?_
  refine at_region [0, 1] rfl ?_
  iterate 2 refine at_s T rfl ?_
  refine at_end ?_
  refine at_sub [(0, (.int .i64 w)), (1, (.int .i64 h)), (2, (.int .i64 cell))] ⟨rfl, rfl, rfl, trivial⟩ ?_
  refine at_then ?_
  refine at_seq ?_
  refine at_seq ?_
  refine at_region [0, 1, 2, 3, 4] rfl ?_
  iterate 3 refine at_s T rfl ?_
  obtain ⟨v1, V1, H⟩ := bind_e H
  refine at_cons (at_c (B := fun _ => []) [] rfl rfl rfl rfl has67 rfl rfl (where_is.c w h cell v1 _ V1) (fun _ => ?_))
  refine at_s T rfl ?_
  refine at_end ?_
  refine at_sub [(0, (.int .i64 w)), (2, (.int .i64 cell)), (12, (.bool (!v1)))] ⟨rfl, rfl, rfl, trivial⟩ ?_
  refine at_then ?_
  refine at_cond rfl (fun c2 => ?_) (fun c2 => ?_)
  · replace H := if_t c2 H
    refine at_seq ?_
    refine at_region [0, 1] rfl ?_
    iterate 2 refine at_s T rfl ?_
    refine at_end ?_
    refine at_sub [(6, (.int .i64 (-1))), (7, (.int .i64 (-1)))] ⟨rfl, rfl, trivial⟩ ?_
    refine at_then ?_
    refine at_ret ?_
    refine at_rt ?_
    obtain rfl := Option.some.inj H
    exact at_post (T := T) rfl (.tmp rfl (.tmp rfl .nil)) (fun w o => ⟨(), rfl, own_to [0] rfl o⟩)
  · replace H := if_f (bf c2) H
    refine at_skip ?_
    refine at_then ?_
    refine at_seq ?_
    refine at_region_q mix (by kernel_rfl) ?_
    iterate 2 refine atq_s T rfl ?_
    obtain ⟨c3, H⟩ := chk_e H
    refine atq_v rfl rfl rfl (g_rem rfl rfl rfl c3) ?_
    iterate 2 refine atq_s T rfl ?_
    obtain ⟨c4, H⟩ := chk_e H
    refine atq_v rfl rfl rfl (g_quo rfl rfl rfl c4) ?_
    iterate 2 refine atq_s T rfl ?_
    refine atq_end ?_
    refine at_sub [(6, (.int .i64 (Int.tmod cell w))), (7, (.int .i64 (w64 (Int.tdiv cell w))))] ⟨rfl, rfl, trivial⟩ ?_
    refine at_then ?_
    refine at_ret ?_
    obtain rfl := Option.some.inj H
    exact at_post (T := T) rfl (.tmp rfl (.tmp rfl .nil)) (fun w o => ⟨(), rfl, own_to [0] rfl o⟩)

/-! ### herdsman/where.Sectors: function 65 -/
def where_Sectors.f (w : Int) (h : Int) : Option (Int × Int) := (where_May.f w h).bind fun v1 => if (!v1) = true then (some (0, 0)) else (some ((w64 (Int.tdiv (w64 ((w64 (w + 16)) - 1)) 16)), (w64 (Int.tdiv (w64 ((w64 (h + 16)) - 1)) 16))))
set_option maxHeartbeats 4000000 in
theorem where_Sectors.c (w : Int) (h : Int) (r : (Int × Int)) (F : Hp) (H : where_Sectors.f w h = some r) :
    CallsL Try.prog 65 [(.int .i64 w), (.int .i64 h)] [F] (fun _ : Unit => (.tuple #[(.int .i64 r.1), (.int .i64 r.2)])) (fun _ => [F]) := by
  unfold where_Sectors.f at H
  refine calls_atL [(0, (.int .i64 w)), (1, (.int .i64 h))] Try.func65 rfl rfl ⟨rfl, rfl, trivial⟩ (fun W => ?_)
  refine at_seq ?_
  refine at_region [0, 1] rfl ?_
  iterate 2 refine at_s T rfl ?_
  refine at_end ?_
  refine at_sub [(0, (.int .i64 w)), (1, (.int .i64 h))] ⟨rfl, rfl, trivial⟩ ?_
  refine at_then ?_
  refine at_seq ?_
  refine at_seq ?_
  refine at_region [0, 1, 2, 3] rfl ?_
  iterate 2 refine at_s T rfl ?_
  obtain ⟨v1, V1, H⟩ := bind_e H
  refine at_cons (at_c (B := fun _ => []) [] rfl rfl rfl rfl has60 rfl rfl (where_May.c w h v1 _ V1) (fun _ => ?_))
  refine at_s T rfl ?_
  refine at_end ?_
  refine at_sub [(0, (.int .i64 w)), (1, (.int .i64 h)), (9, (.bool (!v1)))] ⟨rfl, rfl, rfl, trivial⟩ ?_
  refine at_then ?_
  refine at_cond rfl (fun c2 => ?_) (fun c2 => ?_)
  · replace H := if_t c2 H
    refine at_seq ?_
    refine at_region [0, 1] rfl ?_
    iterate 2 refine at_s T rfl ?_
    refine at_end ?_
    refine at_sub [(4, (.int .i64 0)), (5, (.int .i64 0))] ⟨rfl, rfl, trivial⟩ ?_
    refine at_then ?_
    refine at_ret ?_
    refine at_rt ?_
    obtain rfl := Option.some.inj H
    exact at_post (T := T) rfl (.tmp rfl (.tmp rfl .nil)) (fun w o => ⟨(), rfl, own_to [0] rfl o⟩)
  · replace H := if_f (bf c2) H
    refine at_skip ?_
    refine at_then ?_
    refine at_seq ?_
    refine at_region [0, 1, 2, 3, 4, 5, 6, 7, 8, 9] rfl ?_
    iterate 10 refine at_s T rfl ?_
    refine at_end ?_
    refine at_sub [(4, (.int .i64 (w64 (Int.tdiv (w64 ((w64 (w + 16)) - 1)) 16)))), (5, (.int .i64 (w64 (Int.tdiv (w64 ((w64 (h + 16)) - 1)) 16))))] ⟨rfl, rfl, trivial⟩ ?_
    refine at_then ?_
    refine at_ret ?_
    obtain rfl := Option.some.inj H
    exact at_post (T := T) rfl (.tmp rfl (.tmp rfl .nil)) (fun w o => ⟨(), rfl, own_to [0] rfl o⟩)

/-! ### herdsman/where.Sector: function 51 -/
def where_Sector.f (w : Int) (h : Int) (cell : Int) : Option Int := (where_Place.f w h cell).bind fun v1 => if v1.1 < 0 then (some (-1)) else ((where_Sectors.f w h).bind fun v2 => some (w64 ((w64 ((w64 (Int.tdiv v1.2 16)) * v2.1)) + (w64 (Int.tdiv v1.1 16)))))
set_option maxHeartbeats 4000000 in
theorem where_Sector.c (w : Int) (h : Int) (cell : Int) (r : Int) (F : Hp) (H : where_Sector.f w h cell = some r) :
    CallsL Try.prog 51 [(.int .i64 w), (.int .i64 h), (.int .i64 cell)] [F] (fun _ : Unit => (.int .i64 r)) (fun _ => [F]) := by
  unfold where_Sector.f at H
  refine calls_atL [(0, (.int .i64 w)), (1, (.int .i64 h)), (2, (.int .i64 cell))] Try.func51 rfl rfl ⟨rfl, rfl, rfl, trivial⟩ (fun W => ?_)
  refine at_seq ?_
  refine at_region [0] rfl ?_
  refine at_s T rfl ?_
  refine at_end ?_
  refine at_sub [(0, (.int .i64 w)), (1, (.int .i64 h)), (2, (.int .i64 cell))] ⟨rfl, rfl, rfl, trivial⟩ ?_
  refine at_then ?_
  refine at_seq ?_
  refine at_region [0, 1, 2, 3, 4, 5, 6, 7, 8] rfl ?_
  iterate 3 refine at_s T rfl ?_
  obtain ⟨v1, V1, H⟩ := bind_e H
  refine at_cons (at_c (B := fun _ => []) [] rfl rfl rfl rfl has64 rfl rfl (where_Place.c w h cell v1 _ V1) (fun _ => ?_))
  iterate 5 refine at_s T rfl ?_
  refine at_end ?_
  refine at_sub [(0, (.int .i64 w)), (1, (.int .i64 h)), (7, (.int .i64 v1.1)), (8, (.int .i64 v1.2))] ⟨rfl, rfl, rfl, rfl, trivial⟩ ?_
  refine at_then ?_
  refine at_seq ?_
  refine at_seq ?_
  refine at_region [0, 1] rfl ?_
  iterate 2 refine at_s T rfl ?_
  refine at_end ?_
  refine at_sub [(0, (.int .i64 w)), (1, (.int .i64 h)), (7, (.int .i64 v1.1)), (8, (.int .i64 v1.2)), (19, (.bool (decide (v1.1 < 0))))] ⟨rfl, rfl, rfl, rfl, rfl, trivial⟩ ?_
  refine at_then ?_
  refine at_cond rfl (fun c2 => ?_) (fun c2 => ?_)
  · replace H := if_t (of_decide_eq_true c2) H
    refine at_seq ?_
    refine at_region [0] rfl ?_
    refine at_s T rfl ?_
    refine at_end ?_
    refine at_sub [(6, (.int .i64 (-1)))] ⟨rfl, trivial⟩ ?_
    refine at_then ?_
    refine at_ret ?_
    refine at_rt ?_
    obtain rfl := Option.some.inj H
    exact at_post (T := T) rfl (.tmp rfl .nil) (fun w o => ⟨(), rfl, own_to [0] rfl o⟩)
  · replace H := if_f (of_decide_eq_false c2) H
    refine at_skip ?_
    refine at_then ?_
    refine at_seq ?_
    refine at_region [0, 1, 2, 3, 4, 5, 6, 7] rfl ?_
    iterate 2 refine at_s T rfl ?_
    obtain ⟨v2, V3, H⟩ := bind_e H
    refine at_cons (at_c (B := fun _ => []) [] rfl rfl rfl rfl has65 rfl rfl (where_Sectors.c w h v2 _ V3) (fun _ => ?_))
    iterate 5 refine at_s T rfl ?_
    refine at_end ?_
    refine at_sub [(7, (.int .i64 v1.1)), (8, (.int .i64 v1.2)), (9, (.int .i64 v2.1))] ⟨rfl, rfl, rfl, trivial⟩ ?_
    refine at_then ?_
    refine at_seq ?_
    refine at_region [0, 1, 2, 3, 4, 5, 6, 7] rfl ?_
    iterate 8 refine at_s T rfl ?_
    refine at_end ?_
    refine at_sub [(6, (.int .i64 (w64 ((w64 ((w64 (Int.tdiv v1.2 16)) * v2.1)) + (w64 (Int.tdiv v1.1 16))))))] ⟨rfl, trivial⟩ ?_
    refine at_then ?_
    refine at_ret ?_
    obtain rfl := Option.some.inj H
    exact at_post (T := T) rfl (.tmp rfl .nil) (fun w o => ⟨(), rfl, own_to [0] rfl o⟩)
end Go.Proofs.Ytmddmofncblfpaa
