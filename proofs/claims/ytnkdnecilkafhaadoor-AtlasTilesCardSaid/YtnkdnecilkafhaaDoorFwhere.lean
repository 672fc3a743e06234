import Derived.Test.YtnkdnecilkafhaaDoorT
namespace Go.Proofs.YtnkdnecilkafhaaDoor
open Go.Hx
set_option maxRecDepth 100000
set_option linter.unusedVariables false
noncomputable section
/-! ### herdsman/where.May: function 44 -/
def where_May.f (w : Int) (h : Int) : Option Bool := some ((((decide (w ≥ 1)) && (decide (w ≤ 1024))) && (decide (h ≥ 1))) && (decide (h ≤ 1024)))
set_option maxHeartbeats 4000000 in
theorem where_May.c (w : Int) (h : Int) (r : Bool) (F : Hp) (H : where_May.f w h = some r) :
    CallsL Tryd.prog 44 [(.int .i64 w), (.int .i64 h)] [F] (fun _ : Unit => (.bool r)) (fun _ => [F]) := by
  unfold where_May.f at H
  refine calls_atL [(0, (.int .i64 w)), (1, (.int .i64 h))] Tryd.func44 rfl rfl ⟨rfl, rfl, trivial⟩ (fun W => ?_)
  refine at_seq ?_
  refine at_region [0] rfl ?_
  refine at_s T rfl ?_
  refine at_end ?_
  refine at_sub [(0, (.int .i64 w)), (1, (.int .i64 h))] ⟨rfl, rfl, trivial⟩ ?_
  refine at_then ?_
  refine at_seq ?_
  refine at_region [0, 1, 2, 3, 4, 5, 6, 7, 8, 9, 10, 11, 12, 13, 14] rfl ?_
  iterate 3 refine at_s T rfl ?_
  refine at_grp T [3, 4, 5] (s := 7) (c := (decide (w ≥ 1))) [(1, (.int .i64 h)), (10, (.bool ((decide (w ≥ 1)) && (decide (w ≤ 1024)))))] rfl rfl rfl (fun c1 => ⟨rfl, (by rw [c1]; rfl), trivial⟩) (fun c1 => ⟨rfl, (by rw [c1]; rfl), trivial⟩) ?_
  refine at_s T rfl ?_
  refine at_grp T [7, 8, 9] (s := 11) (c := ((decide (w ≥ 1)) && (decide (w ≤ 1024)))) [(1, (.int .i64 h)), (14, (.bool (((decide (w ≥ 1)) && (decide (w ≤ 1024))) && (decide (h ≥ 1)))))] rfl rfl rfl (fun c2 => ⟨rfl, (by rw [c2]; rfl), trivial⟩) (fun c2 => ⟨rfl, (by rw [c2]; rfl), trivial⟩) ?_
  refine at_s T rfl ?_
  refine at_grp T [11, 12, 13] (s := 15) (c := (((decide (w ≥ 1)) && (decide (w ≤ 1024))) && (decide (h ≥ 1)))) [(18, (.bool ((((decide (w ≥ 1)) && (decide (w ≤ 1024))) && (decide (h ≥ 1))) && (decide (h ≤ 1024)))))] rfl rfl rfl (fun c3 => ⟨(by rw [c3]; rfl), trivial⟩) (fun c3 => ⟨(by rw [c3]; rfl), trivial⟩) ?_
  refine at_s T rfl ?_
  refine at_end ?_
  refine at_sub [(4, (.bool ((((decide (w ≥ 1)) && (decide (w ≤ 1024))) && (decide (h ≥ 1))) && (decide (h ≤ 1024)))))] ⟨rfl, trivial⟩ ?_
  refine at_then ?_
  refine at_ret ?_
  obtain rfl := Option.some.inj H
  exact at_post (T := T) rfl (.tmp rfl .nil) (fun w o => ⟨(), rfl, own_to [0] rfl o⟩)

/-! ### herdsman/where.Sectors: function 56 -/
def where_Sectors.f (w : Int) (h : Int) : Option (Int × Int) := (where_May.f w h).bind fun v1 => if (!v1) = true then (some (0, 0)) else (some ((w64 (Int.tdiv (w64 ((w64 (w + 16)) - 1)) 16)), (w64 (Int.tdiv (w64 ((w64 (h + 16)) - 1)) 16))))
set_option maxHeartbeats 4000000 in
theorem where_Sectors.c (w : Int) (h : Int) (r : (Int × Int)) (F : Hp) (H : where_Sectors.f w h = some r) :
    CallsL Tryd.prog 56 [(.int .i64 w), (.int .i64 h)] [F] (fun _ : Unit => (.tuple #[(.int .i64 r.1), (.int .i64 r.2)])) (fun _ => [F]) := by
  unfold where_Sectors.f at H
  refine calls_atL [(0, (.int .i64 w)), (1, (.int .i64 h))] Tryd.func56 rfl rfl ⟨rfl, rfl, trivial⟩ (fun W => ?_)
  refine at_seq ?_
  refine at_region [0, 1] rfl ?_
  iterate 2 refine at_s T rfl ?_
  refine at_end ?_
  refine at_sub [(0, (.int .i64 w)), (1, (.int .i64 h))] ⟨rfl, rfl, trivial⟩ ?_
  refine at_then ?_
  refine at_seq ?_
  refine at_seq ?_
  refine at_region [0, 1, 2, 3] rfl ?_
  iterate 2 refine at_s T rfl ?_
  obtain ⟨v1, V1, H⟩ := bind_e H
  refine at_cons (at_c (B := fun _ => []) [] rfl rfl rfl rfl has44 rfl rfl (where_May.c w h v1 _ V1) (fun _ => ?_))
  refine at_s T rfl ?_
  refine at_end ?_
  refine at_sub [(0, (.int .i64 w)), (1, (.int .i64 h)), (9, (.bool (!v1)))] ⟨rfl, rfl, rfl, trivial⟩ ?_
  refine at_then ?_
  refine at_cond rfl (fun c2 => ?_) (fun c2 => ?_)
  · replace H := if_t c2 H
    refine at_seq ?_
    refine at_region [0, 1] rfl ?_
    iterate 2 refine at_s T rfl ?_
    refine at_end ?_
    refine at_sub [(4, (.int .i64 0)), (5, (.int .i64 0))] ⟨rfl, rfl, trivial⟩ ?_
    refine at_then ?_
    refine at_ret ?_
    refine at_rt ?_
    obtain rfl := Option.some.inj H
    exact at_post (T := T) rfl (.tmp rfl (.tmp rfl .nil)) (fun w o => ⟨(), rfl, own_to [0] rfl o⟩)
  · replace H := if_f (bf c2) H
    refine at_skip ?_
    refine at_then ?_
    refine at_seq ?_
    refine at_region [0, 1, 2, 3, 4, 5, 6, 7, 8, 9] rfl ?_
    iterate 10 refine at_s T rfl ?_
    refine at_end ?_
    refine at_sub [(4, (.int .i64 (w64 (Int.tdiv (w64 ((w64 (w + 16)) - 1)) 16)))), (5, (.int .i64 (w64 (Int.tdiv (w64 ((w64 (h + 16)) - 1)) 16))))] ⟨rfl, rfl, trivial⟩ ?_
    refine at_then ?_
    refine at_ret ?_
    obtain rfl := Option.some.inj H
    exact at_post (T := T) rfl (.tmp rfl (.tmp rfl .nil)) (fun w o => ⟨(), rfl, own_to [0] rfl o⟩)

/-! ### herdsman/where.corner: function 60 -/
def where_corner.f (w : Int) (h : Int) (sector : Int) : Option (Int × Int × Bool) := (where_Sectors.f w h).bind fun v1 => if ((decide (sector < 0)) || (decide (sector ≥ (w64 (v1.1 * v1.2))))) = true then (some (0, 0, false)) else (if (¬ v1.1 = 0) then (if (¬ v1.1 = 0) then (some ((w64 ((Int.tmod sector v1.1) * 16)), (w64 ((w64 (Int.tdiv sector v1.1)) * 16)), true)) else none) else none)
set_option maxHeartbeats 4000000 in
theorem where_corner.c (w : Int) (h : Int) (sector : Int) (r : (Int × Int × Bool)) (F : Hp) (H : where_corner.f w h sector = some r) :
    CallsL Tryd.prog 60 [(.int .i64 w), (.int .i64 h), (.int .i64 sector)] [F] (fun _ : Unit => (.tuple #[(.int .i64 r.1), (.int .i64 r.2.1), (.bool r.2.2)])) (fun _ => [F]) := by
  unfold where_corner.f at H
  refine calls_atL [(0, (.int .i64 w)), (1, (.int .i64 h)), (2, (.int .i64 sector))] Tryd.func60 rfl rfl ⟨rfl, rfl, rfl, trivial⟩ (fun W => ?_)
  refine at_seq ?_
  refine at_region [0, 1, 2] rfl ?_
  iterate 3 refine at_s T rfl ?_
  refine at_end ?_
  refine at_sub [(0, (.int .i64 w)), (1, (.int .i64 h)), (2, (.int .i64 sector))] ⟨rfl, rfl, rfl, trivial⟩ ?_
  refine at_then ?_
  refine at_seq ?_
  refine at_region [0, 1, 2, 3, 4, 5, 6, 7] rfl ?_
  iterate 2 refine at_s T rfl ?_
  obtain ⟨v1, V1, H⟩ := bind_e H
  refine at_cons (at_c (B := fun _ => []) [] rfl rfl rfl rfl has56 rfl rfl (where_Sectors.c w h v1 _ V1) (fun _ => ?_))
  iterate 5 refine at_s T rfl ?_
  refine at_end ?_
  refine at_sub [(2, (.int .i64 sector)), (9, (.int .i64 v1.1)), (10, (.int .i64 v1.2))] ⟨rfl, rfl, rfl, trivial⟩ ?_
  refine at_then ?_
  refine at_seq ?_
  refine at_seq ?_
  refine at_region [0, 1, 2, 3, 4, 5, 6, 7, 8] rfl ?_
  iterate 3 refine at_s T rfl ?_
  refine at_grp T [3, 4, 5, 6, 7, 8] (s := 19) (c := (decide (sector < 0))) [(2, (.int .i64 sector)), (9, (.int .i64 v1.1)), (25, (.bool ((decide (sector < 0)) || (decide (sector ≥ (w64 (v1.1 * v1.2)))))))] rfl rfl rfl (fun c2 => ⟨rfl, rfl, (by rw [c2]; rfl), trivial⟩) (fun c2 => ⟨rfl, rfl, (by rw [c2]; rfl), trivial⟩) ?_
  refine at_end ?_
  refine at_sub [(2, (.int .i64 sector)), (9, (.int .i64 v1.1)), (25, (.bool ((decide (sector < 0)) || (decide (sector ≥ (w64 (v1.1 * v1.2)))))))] ⟨rfl, rfl, rfl, trivial⟩ ?_
  refine at_then ?_
  refine at_cond rfl (fun c3 => ?_) (fun c3 => ?_)
  · replace H := if_t c3 H
    refine at_seq ?_
    refine at_region [0, 1, 2] rfl ?_
    iterate 3 refine at_s T rfl ?_
    refine at_end ?_
    refine at_sub [(6, (.int .i64 0)), (7, (.int .i64 0)), (8, (.bool false))] ⟨rfl, rfl, rfl, trivial⟩ ?_
    refine at_then ?_
    refine at_ret ?_
    refine at_rt ?_
    obtain rfl := Option.some.inj H
    exact at_post (T := T) rfl (.tmp rfl (.tmp rfl (.tmp rfl .nil))) (fun w o => ⟨(), rfl, own_to [0] rfl o⟩)
  · replace H := if_f (bf c3) H
    refine at_skip ?_
    refine at_then ?_
    refine at_seq ?_
    refine at_region_q mix (by kernel_rfl) ?_
    iterate 2 refine atq_s T rfl ?_
    obtain ⟨c4, H⟩ := chk_e H
    refine atq_v rfl rfl rfl (g_rem rfl rfl rfl c4) ?_
    iterate 3 refine atq_s T rfl ?_
    obtain ⟨c5, H⟩ := chk_e H
    refine atq_v rfl rfl rfl (g_quo rfl rfl rfl c5) ?_
    iterate 4 refine atq_s T rfl ?_
    refine atq_end ?_
    refine at_sub [(6, (.int .i64 (w64 ((Int.tmod sector v1.1) * 16)))), (7, (.int .i64 (w64 ((w64 (Int.tdiv sector v1.1)) * 16)))), (8, (.bool true))] ⟨rfl, rfl, rfl, trivial⟩ ?_
    refine at_then ?_
    refine at_ret ?_
    obtain rfl := Option.some.inj H
    exact at_post (T := T) rfl (.tmp rfl (.tmp rfl (.tmp rfl .nil))) (fun w o => ⟨(), rfl, own_to [0] rfl o⟩)

/-! ### herdsman/where.Size: function 47 -/
def where_Size.f (w : Int) (h : Int) (sector : Int) : Option (Int × Int) := (where_corner.f w h sector).bind fun v1 => if (!v1.2.2) = true then (some (0, 0)) else (some ((if (w64 (w - v1.1)) < 16 then (w64 (w - v1.1)) else 16), (if (w64 (h - v1.2.1)) < 16 then (w64 (h - v1.2.1)) else 16)))
set_option maxHeartbeats 4000000 in
theorem where_Size.c (w : Int) (h : Int) (sector : Int) (r : (Int × Int)) (F : Hp) (H : where_Size.f w h sector = some r) :
    CallsL Tryd.prog 47 [(.int .i64 w), (.int .i64 h), (.int .i64 sector)] [F] (fun _ : Unit => (.tuple #[(.int .i64 r.1), (.int .i64 r.2)])) (fun _ => [F]) := by
  unfold where_Size.f at H
  refine calls_atL [(0, (.int .i64 w)), (1, (.int .i64 h)), (2, (.int .i64 sector))] Tryd.func47 rfl rfl ⟨rfl, rfl, rfl, trivial⟩ (fun W => ?_)
  refine at_seq ?_
  refine at_region [0, 1] rfl ?_
  iterate 2 refine at_s T rfl ?_
  refine at_end ?_
  refine at_sub [(0, (.int .i64 w)), (1, (.int .i64 h)), (2, (.int .i64 sector))] ⟨rfl, rfl, rfl, trivial⟩ ?_
  refine at_then ?_
  refine at_seq ?_
  refine at_region [0, 1, 2, 3, 4, 5, 6, 7, 8, 9, 10] rfl ?_
  iterate 3 refine at_s T rfl ?_
  obtain ⟨v1, V1, H⟩ := bind_e H
  refine at_cons (at_c (B := fun _ => []) [] rfl rfl rfl rfl has60 rfl rfl (where_corner.c w h sector v1 _ V1) (fun _ => ?_))
  iterate 7 refine at_s T rfl ?_
  refine at_end ?_
  refine at_sub [(0, (.int .i64 w)), (1, (.int .i64 h)), (8, (.int .i64 v1.1)), (9, (.int .i64 v1.2.1)), (10, (.bool v1.2.2))] ⟨rfl, rfl, rfl, rfl, rfl, trivial⟩ ?_
  refine at_then ?_
  refine at_seq ?_
  refine at_seq ?_
  refine at_region [0, 1] rfl ?_
  iterate 2 refine at_s T rfl ?_
  refine at_end ?_
  refine at_sub [(0, (.int .i64 w)), (1, (.int .i64 h)), (8, (.int .i64 v1.1)), (9, (.int .i64 v1.2.1)), (20, (.bool (!v1.2.2)))] ⟨rfl, rfl, rfl, rfl, rfl, trivial⟩ ?_
  refine at_then ?_
  refine at_cond rfl (fun c2 => ?_) (fun c2 => ?_)
  · replace H := if_t c2 H
    refine at_seq ?_
    refine at_region [0, 1] rfl ?_
    iterate 2 refine at_s T rfl ?_
    refine at_end ?_
    refine at_sub [(6, (.int .i64 0)), (7, (.int .i64 0))] ⟨rfl, rfl, trivial⟩ ?_
    refine at_then ?_
    refine at_ret ?_
    refine at_rt ?_
    obtain rfl := Option.some.inj H
    exact at_post (T := T) rfl (.tmp rfl (.tmp rfl .nil)) (fun w o => ⟨(), rfl, own_to [0] rfl o⟩)
  · replace H := if_f (bf c2) H
    refine at_skip ?_
    refine at_then ?_
    refine at_seq ?_
    refine at_region [0, 1, 2, 3, 4, 5, 6, 7, 8, 9] rfl ?_
    iterate 10 refine at_s T rfl ?_
    refine at_end ?_
    refine at_sub [(6, (.int .i64 (if (w64 (w - v1.1)) < 16 then (w64 (w - v1.1)) else 16))), (7, (.int .i64 (if (w64 (h - v1.2.1)) < 16 then (w64 (h - v1.2.1)) else 16)))] ⟨rfl, rfl, trivial⟩ ?_
    refine at_then ?_
    refine at_ret ?_
    obtain rfl := Option.some.inj H
    exact at_post (T := T) rfl (.tmp rfl (.tmp rfl .nil)) (fun w o => ⟨(), rfl, own_to [0] rfl o⟩)

/-! ### herdsman/where.Cell: function 67 -/
def where_Cell.f (w : Int) (h : Int) (x : Int) (y : Int) : Option Int := (where_May.f w h).bind fun v1 => if (((((!v1) || (decide (x < 0))) || (decide (x ≥ w))) || (decide (y < 0))) || (decide (y ≥ h))) = true then (some (-1)) else (some (w64 ((w64 (y * w)) + x)))
set_option maxHeartbeats 4000000 in
theorem where_Cell.c (w : Int) (h : Int) (x : Int) (y : Int) (r : Int) (F : Hp) (H : where_Cell.f w h x y = some r) :
    CallsL Tryd.prog 67 [(.int .i64 w), (.int .i64 h), (.int .i64 x), (.int .i64 y)] [F] (fun _ : Unit => (.int .i64 r)) (fun _ => [F]) := by
  unfold where_Cell.f at H
  refine calls_atL [(0, (.int .i64 w)), (1, (.int .i64 h)), (2, (.int .i64 x)), (3, (.int .i64 y))] Tryd.func67 rfl rfl ⟨rfl, rfl, rfl, rfl, trivial⟩ (fun W => ?_)
  refine at_seq ?_
  refine at_region [0] rfl ?_
  refine at_s T rfl ?_
  refine at_end ?_
  refine at_sub [(0, (.int .i64 w)), (1, (.int .i64 h)), (2, (.int .i64 x)), (3, (.int .i64 y))] ⟨rfl, rfl, rfl, rfl, trivial⟩ ?_
  refine at_then ?_
  refine at_seq ?_
  refine at_seq ?_
  refine at_region [0, 1, 2, 3, 4, 5, 6, 7, 8, 9, 10, 11, 12, 13, 14, 15, 16, 17, 18, 19, 20, 21] rfl ?_
  iterate 2 refine at_s T rfl ?_
  obtain ⟨v1, V1, H⟩ := bind_e H
  refine at_cons (at_c (B := fun _ => []) [] rfl rfl rfl rfl has44 rfl rfl (where_May.c w h v1 _ V1) (fun _ => ?_))
  iterate 2 refine at_s T rfl ?_
  refine at_grp T [5, 6, 7] (s := 13) (c := (!v1)) [(0, (.int .i64 w)), (1, (.int .i64 h)), (2, (.int .i64 x)), (3, (.int .i64 y)), (16, (.bool ((!v1) || (decide (x < 0)))))] rfl rfl rfl (fun c2 => ⟨rfl, rfl, rfl, rfl, (by rw [c2]; rfl), trivial⟩) (fun c2 => ⟨rfl, rfl, rfl, rfl, (by rw [c2]; rfl), trivial⟩) ?_
  refine at_s T rfl ?_
  refine at_grp T [9, 10, 11, 12] (s := 17) (c := ((!v1) || (decide (x < 0)))) [(0, (.int .i64 w)), (1, (.int .i64 h)), (2, (.int .i64 x)), (3, (.int .i64 y)), (21, (.bool (((!v1) || (decide (x < 0))) || (decide (x ≥ w)))))] rfl rfl rfl (fun c3 => ⟨rfl, rfl, rfl, rfl, (by rw [c3]; rfl), trivial⟩) (fun c3 => ⟨rfl, rfl, rfl, rfl, (by rw [c3]; rfl), trivial⟩) ?_
  refine at_s T rfl ?_
  refine at_grp T [14, 15, 16] (s := 22) (c := (((!v1) || (decide (x < 0))) || (decide (x ≥ w)))) [(0, (.int .i64 w)), (1, (.int .i64 h)), (2, (.int .i64 x)), (3, (.int .i64 y)), (25, (.bool ((((!v1) || (decide (x < 0))) || (decide (x ≥ w))) || (decide (y < 0)))))] rfl rfl rfl (fun c4 => ⟨rfl, rfl, rfl, rfl, (by rw [c4]; rfl), trivial⟩) (fun c4 => ⟨rfl, rfl, rfl, rfl, (by rw [c4]; rfl), trivial⟩) ?_
  refine at_s T rfl ?_
  refine at_grp T [18, 19, 20, 21] (s := 26) (c := ((((!v1) || (decide (x < 0))) || (decide (x ≥ w))) || (decide (y < 0)))) [(0, (.int .i64 w)), (2, (.int .i64 x)), (3, (.int .i64 y)), (30, (.bool (((((!v1) || (decide (x < 0))) || (decide (x ≥ w))) || (decide (y < 0))) || (decide (y ≥ h)))))] rfl rfl rfl (fun c5 => ⟨rfl, rfl, rfl, (by rw [c5]; rfl), trivial⟩) (fun c5 => ⟨rfl, rfl, rfl, (by rw [c5]; rfl), trivial⟩) ?_
  refine at_end ?_
  refine at_sub [(0, (.int .i64 w)), (2, (.int .i64 x)), (3, (.int .i64 y)), (30, (.bool (((((!v1) || (decide (x < 0))) || (decide (x ≥ w))) || (decide (y < 0))) || (decide (y ≥ h)))))] ⟨rfl, rfl, rfl, rfl, trivial⟩ ?_
  refine at_then ?_
  refine at_cond rfl (fun c6 => ?_) (fun c6 => ?_)
  · replace H := if_t c6 H
    refine at_seq ?_
    refine at_region [0] rfl ?_
    refine at_s T rfl ?_
    refine at_end ?_
    refine at_sub [(8, (.int .i64 (-1)))] ⟨rfl, trivial⟩ ?_
    refine at_then ?_
    refine at_ret ?_
    refine at_rt ?_
    obtain rfl := Option.some.inj H
    exact at_post (T := T) rfl (.tmp rfl .nil) (fun w o => ⟨(), rfl, own_to [0] rfl o⟩)
  · replace H := if_f (bf c6) H
    refine at_skip ?_
    refine at_then ?_
    refine at_seq ?_
    refine at_region [0, 1, 2, 3, 4, 5] rfl ?_
    iterate 6 refine at_s T rfl ?_
    refine at_end ?_
    refine at_sub [(8, (.int .i64 (w64 ((w64 (y * w)) + x))))] ⟨rfl, trivial⟩ ?_
    refine at_then ?_
    refine at_ret ?_
    obtain rfl := Option.some.inj H
    exact at_post (T := T) rfl (.tmp rfl .nil) (fun w o => ⟨(), rfl, own_to [0] rfl o⟩)

/-! ### herdsman/where.Global: function 58 -/
def where_Global.f (w : Int) (h : Int) (sector : Int) (p3 : Int) : Option Int := (where_corner.f w h sector).bind fun v1 => (where_Size.f w h sector).bind fun v2 => if (((!v1.2.2) || (decide (p3 < 0))) || (decide (p3 ≥ (w64 (v2.1 * v2.2))))) = true then (some (-1)) else (if (¬ v2.1 = 0) then (if (¬ v2.1 = 0) then ((where_Cell.f w h (w64 (v1.1 + (Int.tmod p3 v2.1))) (w64 (v1.2.1 + (w64 (Int.tdiv p3 v2.1))))).bind fun v3 => some v3) else none) else none)
set_option maxHeartbeats 4000000 in
theorem where_Global.c (w : Int) (h : Int) (sector : Int) (p3 : Int) (r : Int) (F : Hp) (H : where_Global.f w h sector p3 = some r) :
    CallsL Tryd.prog 58 [(.int .i64 w), (.int .i64 h), (.int .i64 sector), (.int .i64 p3)] [F] (fun _ : Unit => (.int .i64 r)) (fun _ => [F]) := by
  unfold where_Global.f at H
  refine calls_atL [(0, (.int .i64 w)), (1, (.int .i64 h)), (2, (.int .i64 sector)), (3, (.int .i64 p3))] Tryd.func58 rfl rfl ⟨rfl, rfl, rfl, rfl, trivial⟩ (fun W => ?_)
  refine at_seq ?_
  refine at_region [0] rfl ?_
  refine at_s T rfl ?_
  refine at_end ?_
  refine at_sub [(0, (.int .i64 w)), (1, (.int .i64 h)), (2, (.int .i64 sector)), (3, (.int .i64 p3))] ⟨rfl, rfl, rfl, rfl, trivial⟩ ?_
  refine at_then ?_
  refine at_seq ?_
  refine at_region [0, 1, 2, 3, 4, 5, 6, 7, 8, 9, 10] rfl ?_
  iterate 3 refine at_s T rfl ?_
  obtain ⟨v1, V1, H⟩ := bind_e H
  refine at_cons (at_c (B := fun _ => []) [] rfl rfl rfl rfl has60 rfl rfl (where_corner.c w h sector v1 _ V1) (fun _ => ?_))
  iterate 7 refine at_s T rfl ?_
  refine at_end ?_
  refine at_sub [(0, (.int .i64 w)), (1, (.int .i64 h)), (2, (.int .i64 sector)), (3, (.int .i64 p3)), (9, (.int .i64 v1.1)), (10, (.int .i64 v1.2.1)), (11, (.bool v1.2.2))] ⟨rfl, rfl, rfl, rfl, rfl, rfl, rfl, trivial⟩ ?_
  refine at_then ?_
  refine at_seq ?_
  refine at_region [0, 1, 2, 3, 4, 5, 6, 7, 8] rfl ?_
  iterate 3 refine at_s T rfl ?_
  obtain ⟨v2, V2, H⟩ := bind_e H
  refine at_cons (at_c (B := fun _ => []) [] rfl rfl rfl rfl has47 rfl rfl (where_Size.c w h sector v2 _ V2) (fun _ => ?_))
  iterate 5 refine at_s T rfl ?_
  refine at_end ?_
  refine at_sub [(0, (.int .i64 w)), (1, (.int .i64 h)), (3, (.int .i64 p3)), (9, (.int .i64 v1.1)), (10, (.int .i64 v1.2.1)), (11, (.bool v1.2.2)), (12, (.int .i64 v2.1)), (13, (.int .i64 v2.2))] ⟨rfl, rfl, rfl, rfl, rfl, rfl, rfl, rfl, trivial⟩ ?_
  refine at_then ?_
  refine at_seq ?_
  refine at_seq ?_
  refine at_region [0, 1, 2, 3, 4, 5, 6, 7, 8, 9, 10, 11, 12] rfl ?_
  iterate 3 refine at_s T rfl ?_
  refine at_grp T [3, 4, 5] (s := 31) (c := (!v1.2.2)) [(0, (.int .i64 w)), (1, (.int .i64 h)), (3, (.int .i64 p3)), (9, (.int .i64 v1.1)), (10, (.int .i64 v1.2.1)), (12, (.int .i64 v2.1)), (13, (.int .i64 v2.2)), (34, (.bool ((!v1.2.2) || (decide (p3 < 0)))))] rfl rfl rfl (fun c3 => ⟨rfl, rfl, rfl, rfl, rfl, rfl, rfl, (by rw [c3]; rfl), trivial⟩) (fun c3 => ⟨rfl, rfl, rfl, rfl, rfl, rfl, rfl, (by rw [c3]; rfl), trivial⟩) ?_
  refine at_s T rfl ?_
  refine at_grp T [7, 8, 9, 10, 11, 12] (s := 35) (c := ((!v1.2.2) || (decide (p3 < 0)))) [(0, (.int .i64 w)), (1, (.int .i64 h)), (3, (.int .i64 p3)), (9, (.int .i64 v1.1)), (10, (.int .i64 v1.2.1)), (12, (.int .i64 v2.1)), (41, (.bool (((!v1.2.2) || (decide (p3 < 0))) || (decide (p3 ≥ (w64 (v2.1 * v2.2)))))))] rfl rfl rfl (fun c4 => ⟨rfl, rfl, rfl, rfl, rfl, rfl, (by rw [c4]; rfl), trivial⟩) (fun c4 => ⟨rfl, rfl, rfl, rfl, rfl, rfl, (by rw [c4]; rfl), trivial⟩) ?_
  refine at_end ?_
  refine at_sub [(0, (.int .i64 w)), (1, (.int .i64 h)), (3, (.int .i64 p3)), (9, (.int .i64 v1.1)), (10, (.int .i64 v1.2.1)), (12, (.int .i64 v2.1)), (41, (.bool (((!v1.2.2) || (decide (p3 < 0))) || (decide (p3 ≥ (w64 (v2.1 * v2.2)))))))] ⟨rfl, rfl, rfl, rfl, rfl, rfl, rfl, trivial⟩ ?_
  refine at_then ?_
  refine at_cond rfl (fun c5 => ?_) (fun c5 => ?_)
  · replace H := if_t c5 H
    refine at_seq ?_
    refine at_region [0] rfl ?_
    refine at_s T rfl ?_
    refine at_end ?_
    refine at_sub [(8, (.int .i64 (-1)))] ⟨rfl, trivial⟩ ?_
    refine at_then ?_
    refine at_ret ?_
    refine at_rt ?_
    obtain rfl := Option.some.inj H
    exact at_post (T := T) rfl (.tmp rfl .nil) (fun w o => ⟨(), rfl, own_to [0] rfl o⟩)
  · replace H := if_f (bf c5) H
    refine at_skip ?_
    refine at_then ?_
    refine at_seq ?_
    refine at_region_q mix (by kernel_rfl) ?_
    iterate 5 refine atq_s T rfl ?_
    obtain ⟨c6, H⟩ := chk_e H
    refine atq_v rfl rfl rfl (g_rem rfl rfl rfl c6) ?_
    iterate 4 refine atq_s T rfl ?_
    obtain ⟨c7, H⟩ := chk_e H
    refine atq_v rfl rfl rfl (g_quo rfl rfl rfl c7) ?_
    refine atq_s T rfl ?_
    obtain ⟨v3, V8, H⟩ := bind_e H
    refine atq_c rfl rfl rfl rfl rfl rfl has67 rfl (where_Cell.c w h (w64 (v1.1 + (Int.tmod p3 v2.1))) (w64 (v1.2.1 + (w64 (Int.tdiv p3 v2.1)))) v3 _ V8) ?_
    refine atq_s T rfl ?_
    refine atq_end ?_
    refine at_sub [(8, (.int .i64 v3))] ⟨rfl, trivial⟩ ?_
    refine at_then ?_
    refine at_ret ?_
    obtain rfl := Option.some.inj H
    exact at_post (T := T) rfl (.tmp rfl .nil) (fun w o => ⟨(), rfl, own_to [0] rfl o⟩)
end

end Go.Proofs.YtnkdnecilkafhaaDoor
