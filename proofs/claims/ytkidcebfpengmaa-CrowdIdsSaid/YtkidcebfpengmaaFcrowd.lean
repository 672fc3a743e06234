import Derived.Test.YtkidcebfpengmaaT
import Derived.Test.YtkidcebfpengmaaFfloor
import Derived.Test.YtkidcebfpengmaaFmarch
import Derived.Test.YtkidcebfpengmaaFunits
import Derived.Test.YtkidcebfpengmaaFwhere
namespace Go.Proofs.Ytkidcebfpengmaa
open Go.Hx
set_option maxRecDepth 100000
set_option linter.unusedVariables false
/-! ### herdsman/crowd.New: function 24 -/
def crowd_New.f (w : Int) (h : Int) (most : Int) : Option (Option crowd_Crowd) := (where_May.f w h).bind fun v1 => if (((!v1) || (decide (most < 1))) || (decide (most > 65536))) = true then (some none) else ((units_New.f most).bind fun v2 => optm v2 ((floor_New.f (w64 (w * h))).bind fun v3 => optm v3 (none) (fun yv3 => none)) (fun yv2 => (floor_New.f (w64 (w * h))).bind fun v4 => optm v4 (none) (fun yv4 => some (some (crowd_Crowd.mk w h most yv2 yv4)))))
def crowd_New.R (r : (Option crowd_Crowd)) (u : Value) (G : List Hp) : Prop := ∃ (u0 : Value) (G0 : List Hp), O_crowd_Crowd r u0 G0 ∧ u = u0 ∧ G = G0
set_option maxHeartbeats 4000000 in
theorem crowd_New.c (w : Int) (h : Int) (most : Int) (r : (Option crowd_Crowd)) (F : Hp) (H : crowd_New.f w h most = some r) :
    CallsL Try.prog 24 [(.int .i64 w), (.int .i64 h), (.int .i64 most)] [F] (fun p : { p : Value × List Hp // crowd_New.R r p.1 p.2 } => p.1.1) (fun p => (p.1.2 ++ []) ++ [F]) := by
  unfold crowd_New.f at H
  refine calls_atL [(0, (.int .i64 w)), (1, (.int .i64 h)), (2, (.int .i64 most))] Try.func24 rfl rfl ⟨rfl, rfl, rfl, trivial⟩ (fun W => ?_)
  refine at_seq ?_
  refine at_region [0] rfl ?_
  refine at_s T rfl ?_
  refine at_end ?_
  refine at_sub [(0, (.int .i64 w)), (1, (.int .i64 h)), (2, (.int .i64 most))] ⟨rfl, rfl, rfl, trivial⟩ ?_
  refine at_then ?_
  refine at_seq ?_
  refine at_seq ?_
  refine at_region [0, 1, 2, 3, 4, 5, 6, 7, 8, 9, 10, 11] rfl ?_
  iterate 2 refine at_s T rfl ?_
  obtain ⟨v1, V1, H⟩ := bind_e H
  refine at_cons (at_c (B := fun _ => []) [] rfl rfl rfl rfl has29 rfl rfl (where_May.c w h v1 _ V1) (fun _ => ?_))
  iterate 2 refine at_s T rfl ?_
  refine at_grp T [5, 6, 7] (s := 11) (c := (!v1)) [(0, (.int .i64 w)), (1, (.int .i64 h)), (2, (.int .i64 most)), (14, (.bool ((!v1) || (decide (most < 1)))))] rfl rfl rfl (fun c2 => ⟨rfl, rfl, rfl, (by rw [c2]; rfl), trivial⟩) (fun c2 => ⟨rfl, rfl, rfl, (by rw [c2]; rfl), trivial⟩) ?_
  refine at_s T rfl ?_
  refine at_grp T [9, 10, 11] (s := 15) (c := ((!v1) || (decide (most < 1)))) [(0, (.int .i64 w)), (1, (.int .i64 h)), (2, (.int .i64 most)), (18, (.bool (((!v1) || (decide (most < 1))) || (decide (most > 65536)))))] rfl rfl rfl (fun c3 => ⟨rfl, rfl, rfl, (by rw [c3]; rfl), trivial⟩) (fun c3 => ⟨rfl, rfl, rfl, (by rw [c3]; rfl), trivial⟩) ?_
  refine at_end ?_
  refine at_sub [(0, (.int .i64 w)), (1, (.int .i64 h)), (2, (.int .i64 most)), (18, (.bool (((!v1) || (decide (most < 1))) || (decide (most > 65536)))))] ⟨rfl, rfl, rfl, rfl, trivial⟩ ?_
  refine at_then ?_
  refine at_cond rfl (fun c4 => ?_) (fun c4 => ?_)
  · replace H := if_t c4 H
    refine at_seq ?_
    refine at_region [0] rfl ?_
    refine at_s T rfl ?_
    refine at_end ?_
    refine at_sub [(6, (.pointer none))] ⟨rfl, trivial⟩ ?_
    refine at_then ?_
    refine at_ret ?_
    refine at_rt ?_
    obtain rfl := Option.some.inj H
    exact at_post (T := T) rfl (.tmp rfl .nil) (fun w o => ⟨⟨(_, _), ⟨_, _, ⟨rfl, rfl⟩, rfl, rfl⟩⟩, rfl, own_to [0] rfl o⟩)
  · replace H := if_f (bf c4) H
    refine at_skip ?_
    refine at_then ?_
    refine at_seq ?_
    refine at_region [0, 1, 2, 3, 4, 5, 6, 7, 8, 9, 10, 11] rfl ?_
    iterate 4 refine at_s T rfl ?_
    obtain ⟨v2, V5, H⟩ := bind_e H
    refine at_cons (at_cR (units_New.R v2) [] [] rfl rfl rfl rfl has53 rfl rfl (units_New.c most v2 _ V5) ?_)
    rintro _ _ ⟨_, _, O6, rfl, rfl⟩
    rcases v2 with _ | yv2
    · replace H := optm_n rfl H
      obtain ⟨rfl, rfl⟩ := O6
      iterate 3 refine at_s T rfl ?_
      obtain ⟨v3, V7, H⟩ := bind_e H
      refine at_cons (at_cR (floor_New.R v3) [] [] rfl rfl rfl rfl has54 rfl rfl (floor_New.c (w64 (w * h)) v3 _ V7) ?_)
      rintro _ _ ⟨_, _, O8, rfl, rfl⟩
      rcases v3 with _ | yv3
      · replace H := optm_n rfl H
        obtain ⟨rfl, rfl⟩ := O8
        refine at_s T rfl ?_
        refine at_cons (at_bx T [(.int .i64 w), (.int .i64 h), (.int .i64 most), (.pointer none), (.pointer none)] rfl rfl rfl rfl (fun b6 => ?_))
        refine at_s T rfl ?_
        refine at_end ?_
        refine at_sub [(6, (.pointer (some ⟨b6, 0, none⟩)))] ⟨rfl, trivial⟩ ?_
        refine at_then ?_
        refine at_ret ?_
        cases H
      · replace H := optm_s rfl H
        obtain ⟨b4, a5, n5, H5, s5, rfl, rfl⟩ := O8
        refine at_s T rfl ?_
        refine at_cons (at_bx T [(.int .i64 w), (.int .i64 h), (.int .i64 most), (.pointer none), (.pointer (some ⟨b4, 0, none⟩))] rfl rfl rfl rfl (fun b7 => ?_))
        refine at_s T rfl ?_
        refine at_end ?_
        refine at_sub [(6, (.pointer (some ⟨b7, 0, none⟩)))] ⟨rfl, trivial⟩ ?_
        refine at_then ?_
        refine at_ret ?_
        cases H
    · replace H := optm_s rfl H
      obtain ⟨b1, a2, H2, a3, n3, H3, s2, s3, rfl, rfl⟩ := O6
      iterate 3 refine at_s T rfl ?_
      obtain ⟨v4, V9, H⟩ := bind_e H
      refine at_cons (at_cR (floor_New.R v4) [] [] rfl rfl rfl rfl has54 rfl rfl (floor_New.c (w64 (w * h)) v4 _ V9) ?_)
      rintro _ _ ⟨_, _, O10, rfl, rfl⟩
      rcases v4 with _ | yv4
      · replace H := optm_n rfl H
        obtain ⟨rfl, rfl⟩ := O10
        refine at_s T rfl ?_
        refine at_cons (at_bx T [(.int .i64 w), (.int .i64 h), (.int .i64 most), (.pointer (some ⟨b1, 0, none⟩)), (.pointer none)] rfl rfl rfl rfl (fun b10 => ?_))
        refine at_s T rfl ?_
        refine at_end ?_
        refine at_sub [(6, (.pointer (some ⟨b10, 0, none⟩)))] ⟨rfl, trivial⟩ ?_
        refine at_then ?_
        refine at_ret ?_
        cases H
      · replace H := optm_s rfl H
        obtain ⟨b8, a9, n9, H9, s9, rfl, rfl⟩ := O10
        refine at_s T rfl ?_
        refine at_cons (at_bx T [(.int .i64 w), (.int .i64 h), (.int .i64 most), (.pointer (some ⟨b1, 0, none⟩)), (.pointer (some ⟨b8, 0, none⟩))] rfl rfl rfl rfl (fun b11 => ?_))
        refine at_s T rfl ?_
        refine at_end ?_
        refine at_sub [(6, (.pointer (some ⟨b11, 0, none⟩)))] ⟨rfl, trivial⟩ ?_
        refine at_then ?_
        refine at_ret ?_
        obtain rfl := Option.some.inj H
        exact at_post (T := T) rfl (.tmp rfl .nil) (fun w o => ⟨⟨(_, _), ⟨_, _, ⟨b11, b1, a2, H2, a3, n3, H3, b8, a9, n9, H9, s2, s3, s9, rfl, rfl⟩, rfl, rfl⟩⟩, rfl, own_to [6, 1, 1, 1, 1, 1, 0] rfl o⟩)

/-! ### (*herdsman/crowd.Crowd).is: function 61 -/
def crowd_Crowd_is.f (c : crowd_Crowd) (cell : Int) : Option Bool := (where_Sector.f c.w c.h cell).bind fun v1 => some (decide (v1 ≥ 0))
set_option maxHeartbeats 4000000 in
theorem crowd_Crowd_is.c {b_c : Nat} {b_c_units : Nat} {a_c_units_live : Nat} {H_c_units_live : Hp} {a_c_units_order : Option Addr} {n_c_units_order : Nat} {H_c_units_order : Hp} {b_c_floor : Nat} {a_c_floor_words : Option Addr} {n_c_floor_words : Nat} {H_c_floor_words : Hp} (c : crowd_Crowd) (cell : Int) (r : Bool) (F : Hp) (H : crowd_Crowd_is.f c cell = some r) (s_c_units_live : MapO (Ky.int .i64 u3) (fun x : api_Unit => Value.agg #[.int .i64 x.Id, .int .i64 x.Cell, .int .i64 x.Goal]) c.units.live a_c_units_live H_c_units_live) (s_c_units_order : SliceO (Fl.int .i64) 3 c.units.order a_c_units_order n_c_units_order H_c_units_order) (s_c_floor_words : SliceO (Fl.int .u32) 74 c.floor.words a_c_floor_words n_c_floor_words H_c_floor_words) :
    CallsL Try.prog 61 [(.pointer (some ⟨b_c, 0, none⟩)), (.int .i64 cell)] [[(b_c, Obj.cells #[(.int .i64 c.w), (.int .i64 c.h), (.int .i64 c.most), (.pointer (some ⟨b_c_units, 0, none⟩)), (.pointer (some ⟨b_c_floor, 0, none⟩))] 92 (0, 0))], [(b_c_units, Obj.cells #[(.int .i64 c.units.most), (.int .i64 c.units.next), (.map (some a_c_units_live)), (.slice a_c_units_order (List.length c.units.order) n_c_units_order)] 102 (0, 0))], H_c_units_live, H_c_units_order, [(b_c_floor, Obj.cells #[(.slice a_c_floor_words (List.length c.floor.words) n_c_floor_words), (.int .i64 c.floor.count)] 104 (0, 0))], H_c_floor_words, F] (fun _ : Unit => (.bool r)) (fun _ => [[(b_c, Obj.cells #[(.int .i64 c.w), (.int .i64 c.h), (.int .i64 c.most), (.pointer (some ⟨b_c_units, 0, none⟩)), (.pointer (some ⟨b_c_floor, 0, none⟩))] 92 (0, 0))], [(b_c_units, Obj.cells #[(.int .i64 c.units.most), (.int .i64 c.units.next), (.map (some a_c_units_live)), (.slice a_c_units_order (List.length c.units.order) n_c_units_order)] 102 (0, 0))], H_c_units_live, H_c_units_order, [(b_c_floor, Obj.cells #[(.slice a_c_floor_words (List.length c.floor.words) n_c_floor_words), (.int .i64 c.floor.count)] 104 (0, 0))], H_c_floor_words] ++ [F]) := by
  unfold crowd_Crowd_is.f at H
  refine calls_atL [(0, (.pointer (some ⟨b_c, 0, none⟩))), (1, (.int .i64 cell))] Try.func61 rfl rfl ⟨rfl, rfl, trivial⟩ (fun W => ?_)
  refine at_seq ?_
  refine at_region [0] rfl ?_
  refine at_s T rfl ?_
  refine at_end ?_
  refine at_sub [(0, (.pointer (some ⟨b_c, 0, none⟩))), (1, (.int .i64 cell))] ⟨rfl, rfl, trivial⟩ ?_
  refine at_then ?_
  refine at_seq ?_
  refine at_region_q mix (by kernel_rfl) ?_
  iterate 3 refine atq_s T rfl ?_
  refine atq_v rfl rfl rfl (g_load T rfl rfl rfl rfl (in_var (j := 0) rfl rfl)) ?_
  iterate 3 refine atq_s T rfl ?_
  refine atq_v rfl rfl rfl (g_load T rfl rfl rfl rfl (in_var (j := 0) rfl rfl)) ?_
  refine atq_s T rfl ?_
  obtain ⟨v1, V1, H⟩ := bind_e H
  refine atq_c rfl rfl rfl rfl rfl rfl has71 rfl (where_Sector.c c.w c.h cell v1 _ V1) ?_
  iterate 2 refine atq_s T rfl ?_
  refine atq_end ?_
  refine at_sub [(4, (.bool (decide (v1 ≥ 0))))] ⟨rfl, trivial⟩ ?_
  refine at_then ?_
  refine at_ret ?_
  obtain rfl := Option.some.inj H
  exact at_post (T := T) rfl (.tmp rfl .nil) (fun w o => ⟨(), rfl, own_to [0, 0, 0, 0, 0, 0, 0] rfl o⟩)

/-! ### (*herdsman/crowd.Crowd).wrong: function 55 -/
def crowd_Crowd_wrong.f (c : crowd_Crowd) (p1 : Int) (cell : Int) (goal : Int) : Option Int := if (p1 == 0) = true then (((crowd_Crowd_is.f c cell).bind fun v3 => if (!v3) = true then (some true) else ((crowd_Crowd_is.f c goal).bind fun v4 => some (!v4))).bind fun x1 => if x1 = true then (some 7) else ((floor_Floor_Who.f c.floor cell).bind fun v5 => if (v5 != (-1)) = true then (some 10) else ((units_Units_Len.f c.units).bind fun v6 => if v6 ≥ c.most then (some 11) else (if (cell == goal) = true then (some 13) else (some 0))))) else (if (p1 == 1) = true then ((floor_Floor_Who.f c.floor cell).bind fun v7 => if (v7 != (-1)) = true then (some 10) else ((units_Units_Len.f c.units).bind fun v8 => if v8 ≥ c.most then (some 11) else (if (cell == goal) = true then (some 13) else (some 0)))) else (if (p1 == 2) = true then ((units_Units_Len.f c.units).bind fun v9 => if v9 ≥ c.most then (some 11) else (if (cell == goal) = true then (some 13) else (some 0))) else (if (p1 == 3) = true then (if (cell == goal) = true then (some 13) else (some 0)) else (some 0))))
set_option maxHeartbeats 4000000 in
theorem crowd_Crowd_wrong.c {b_c : Nat} {b_c_units : Nat} {a_c_units_live : Nat} {H_c_units_live : Hp} {a_c_units_order : Option Addr} {n_c_units_order : Nat} {H_c_units_order : Hp} {b_c_floor : Nat} {a_c_floor_words : Option Addr} {n_c_floor_words : Nat} {H_c_floor_words : Hp} (c : crowd_Crowd) (p1 : Int) (cell : Int) (goal : Int) (r : Int) (F : Hp) (H : crowd_Crowd_wrong.f c p1 cell goal = some r) (s_c_units_live : MapO (Ky.int .i64 u3) (fun x : api_Unit => Value.agg #[.int .i64 x.Id, .int .i64 x.Cell, .int .i64 x.Goal]) c.units.live a_c_units_live H_c_units_live) (s_c_units_order : SliceO (Fl.int .i64) 3 c.units.order a_c_units_order n_c_units_order H_c_units_order) (s_c_floor_words : SliceO (Fl.int .u32) 74 c.floor.words a_c_floor_words n_c_floor_words H_c_floor_words) :
    CallsL Try.prog 55 [(.pointer (some ⟨b_c, 0, none⟩)), (.int .i64 p1), (.int .i64 cell), (.int .i64 goal)] [[(b_c, Obj.cells #[(.int .i64 c.w), (.int .i64 c.h), (.int .i64 c.most), (.pointer (some ⟨b_c_units, 0, none⟩)), (.pointer (some ⟨b_c_floor, 0, none⟩))] 92 (0, 0))], [(b_c_units, Obj.cells #[(.int .i64 c.units.most), (.int .i64 c.units.next), (.map (some a_c_units_live)), (.slice a_c_units_order (List.length c.units.order) n_c_units_order)] 102 (0, 0))], H_c_units_live, H_c_units_order, [(b_c_floor, Obj.cells #[(.slice a_c_floor_words (List.length c.floor.words) n_c_floor_words), (.int .i64 c.floor.count)] 104 (0, 0))], H_c_floor_words, F] (fun _ : Unit => (.int .i64 r)) (fun _ => [[(b_c, Obj.cells #[(.int .i64 c.w), (.int .i64 c.h), (.int .i64 c.most), (.pointer (some ⟨b_c_units, 0, none⟩)), (.pointer (some ⟨b_c_floor, 0, none⟩))] 92 (0, 0))], [(b_c_units, Obj.cells #[(.int .i64 c.units.most), (.int .i64 c.units.next), (.map (some a_c_units_live)), (.slice a_c_units_order (List.length c.units.order) n_c_units_order)] 102 (0, 0))], H_c_units_live, H_c_units_order, [(b_c_floor, Obj.cells #[(.slice a_c_floor_words (List.length c.floor.words) n_c_floor_words), (.int .i64 c.floor.count)] 104 (0, 0))], H_c_floor_words] ++ [F]) := by
  unfold crowd_Crowd_wrong.f at H
  refine calls_atL [(0, (.pointer (some ⟨b_c, 0, none⟩))), (1, (.int .i64 p1)), (2, (.int .i64 cell)), (3, (.int .i64 goal))] Try.func55 rfl rfl ⟨rfl, rfl, rfl, rfl, trivial⟩ (fun W => ?_)
  refine at_seq ?_
  refine at_region [0] rfl ?_
  refine at_s T rfl ?_
  refine at_end ?_
  refine at_sub [(0, (.pointer (some ⟨b_c, 0, none⟩))), (1, (.int .i64 p1)), (2, (.int .i64 cell)), (3, (.int .i64 goal))] ⟨rfl, rfl, rfl, rfl, trivial⟩ ?_
  refine at_then ?_
  refine at_seq ?_
  refine at_seq ?_
  refine at_region [0] rfl ?_
  refine at_s T rfl ?_
  refine at_end ?_
  refine at_sub [(0, (.pointer (some ⟨b_c, 0, none⟩))), (2, (.int .i64 cell)), (3, (.int .i64 goal)), (9, (.int .i64 p1))] ⟨rfl, rfl, rfl, rfl, trivial⟩ ?_
  refine at_then ?_
  refine at_block ?_
  refine at_seq ?_
  refine at_block ?_
  refine at_seq ?_
  refine at_block ?_
  refine at_seq ?_
  refine at_block ?_
  refine at_seq ?_
  refine at_block ?_
  refine at_seq ?_
  refine at_seq ?_
  refine at_seq ?_
  refine at_region [0, 1] rfl ?_
  iterate 2 refine at_s T rfl ?_
  refine at_end ?_
  refine at_sub [(0, (.pointer (some ⟨b_c, 0, none⟩))), (2, (.int .i64 cell)), (3, (.int .i64 goal)), (9, (.int .i64 p1)), (10, (.bool (p1 == 0)))] ⟨rfl, rfl, rfl, rfl, rfl, trivial⟩ ?_
  refine at_then ?_
  refine at_cond rfl (fun c1 => ?_) (fun c1 => ?_)
  · replace H := if_t c1 H
    refine at_exit ?_
    refine at_xt ?_
    refine at_xt ?_
    refine at_xb ?_
    refine at_then ?_
    obtain ⟨z2, Z2, H⟩ := bind_e H
    refine at_seq_mid (σ := Bool) (fun x1 => x1 = z2) (fun x1 => [(0, (.pointer (some ⟨b_c, 0, none⟩))), (2, (.int .i64 cell)), (3, (.int .i64 goal)), (27, (.bool x1))]) (fun x1 => [F, [(b_c, Obj.cells #[(.int .i64 c.w), (.int .i64 c.h), (.int .i64 c.most), (.pointer (some ⟨b_c_units, 0, none⟩)), (.pointer (some ⟨b_c_floor, 0, none⟩))] 92 (0, 0))], [(b_c_units, Obj.cells #[(.int .i64 c.units.most), (.int .i64 c.units.next), (.map (some a_c_units_live)), (.slice a_c_units_order (List.length c.units.order) n_c_units_order)] 102 (0, 0))], H_c_units_live, H_c_units_order, [(b_c_floor, Obj.cells #[(.slice a_c_floor_words (List.length c.floor.words) n_c_floor_words), (.int .i64 c.floor.count)] 104 (0, 0))], H_c_floor_words]) ?_ ?_
    · refine at_region [0, 1, 2, 3, 4, 5, 6, 7, 8, 9] rfl ?_
      iterate 2 refine at_s T rfl ?_
      obtain ⟨v3, V3, Z2⟩ := bind_e Z2
      refine at_cons (at_c (As := [[(b_c, Obj.cells #[(.int .i64 c.w), (.int .i64 c.h), (.int .i64 c.most), (.pointer (some ⟨b_c_units, 0, none⟩)), (.pointer (some ⟨b_c_floor, 0, none⟩))] 92 (0, 0))], [(b_c_units, Obj.cells #[(.int .i64 c.units.most), (.int .i64 c.units.next), (.map (some a_c_units_live)), (.slice a_c_units_order (List.length c.units.order) n_c_units_order)] 102 (0, 0))], H_c_units_live, H_c_units_order, [(b_c_floor, Obj.cells #[(.slice a_c_floor_words (List.length c.floor.words) n_c_floor_words), (.int .i64 c.floor.count)] 104 (0, 0))], H_c_floor_words]) (R := [F]) (B := fun _ => [[(b_c, Obj.cells #[(.int .i64 c.w), (.int .i64 c.h), (.int .i64 c.most), (.pointer (some ⟨b_c_units, 0, none⟩)), (.pointer (some ⟨b_c_floor, 0, none⟩))] 92 (0, 0))], [(b_c_units, Obj.cells #[(.int .i64 c.units.most), (.int .i64 c.units.next), (.map (some a_c_units_live)), (.slice a_c_units_order (List.length c.units.order) n_c_units_order)] 102 (0, 0))], H_c_units_live, H_c_units_order, [(b_c_floor, Obj.cells #[(.slice a_c_floor_words (List.length c.floor.words) n_c_floor_words), (.int .i64 c.floor.count)] 104 (0, 0))], H_c_floor_words]) [0, 0, 0, 0, 0, 0] rfl rfl rfl rfl has61 rfl rfl (crowd_Crowd_is.c c cell v3 _ V3 s_c_units_live s_c_units_order s_c_floor_words) (fun _ => ?_))
      iterate 2 refine at_s T rfl ?_
      refine at_case (s := 22) rfl (fun c4 => ?_) (fun c4 => ?_)
      · replace Z2 := if_t c4 Z2
        iterate 5 refine at_s T rfl ?_
        refine at_end ?_
        refine at_sub [(0, (.pointer (some ⟨b_c, 0, none⟩))), (2, (.int .i64 cell)), (3, (.int .i64 goal)), (27, (.bool true))] ⟨rfl, rfl, rfl, rfl, trivial⟩ ?_
        refine at_then ?_
        obtain rfl := Option.some.inj Z2
        exact at_mid true [0, 0, 0, 0, 0, 0, 0] rfl ⟨rfl, rfl, rfl, rfl, trivial⟩ rfl
      · replace Z2 := if_f (bf c4) Z2
        iterate 2 refine at_s T rfl ?_
        obtain ⟨v4, V5, Z2⟩ := bind_e Z2
        refine at_cons (at_c (As := [[(b_c, Obj.cells #[(.int .i64 c.w), (.int .i64 c.h), (.int .i64 c.most), (.pointer (some ⟨b_c_units, 0, none⟩)), (.pointer (some ⟨b_c_floor, 0, none⟩))] 92 (0, 0))], [(b_c_units, Obj.cells #[(.int .i64 c.units.most), (.int .i64 c.units.next), (.map (some a_c_units_live)), (.slice a_c_units_order (List.length c.units.order) n_c_units_order)] 102 (0, 0))], H_c_units_live, H_c_units_order, [(b_c_floor, Obj.cells #[(.slice a_c_floor_words (List.length c.floor.words) n_c_floor_words), (.int .i64 c.floor.count)] 104 (0, 0))], H_c_floor_words]) (R := [F]) (B := fun _ => [[(b_c, Obj.cells #[(.int .i64 c.w), (.int .i64 c.h), (.int .i64 c.most), (.pointer (some ⟨b_c_units, 0, none⟩)), (.pointer (some ⟨b_c_floor, 0, none⟩))] 92 (0, 0))], [(b_c_units, Obj.cells #[(.int .i64 c.units.most), (.int .i64 c.units.next), (.map (some a_c_units_live)), (.slice a_c_units_order (List.length c.units.order) n_c_units_order)] 102 (0, 0))], H_c_units_live, H_c_units_order, [(b_c_floor, Obj.cells #[(.slice a_c_floor_words (List.length c.floor.words) n_c_floor_words), (.int .i64 c.floor.count)] 104 (0, 0))], H_c_floor_words]) [1, 1, 1, 1, 1, 1] rfl rfl rfl rfl has61 rfl rfl (crowd_Crowd_is.c c goal v4 _ V5 s_c_units_live s_c_units_order s_c_floor_words) (fun _ => ?_))
        iterate 2 refine at_s T rfl ?_
        refine at_end ?_
        refine at_sub [(0, (.pointer (some ⟨b_c, 0, none⟩))), (2, (.int .i64 cell)), (3, (.int .i64 goal)), (27, (.bool (!v4)))] ⟨rfl, rfl, rfl, rfl, trivial⟩ ?_
        refine at_then ?_
        obtain rfl := Option.some.inj Z2
        exact at_mid (!v4) [0, 0, 0, 0, 0, 0, 0] rfl ⟨rfl, rfl, rfl, rfl, trivial⟩ rfl
    · rintro x1 rfl
      refine at_cond rfl (fun c6 => ?_) (fun c6 => ?_)
      · replace H := if_t c6 H
        refine at_seq ?_
        refine at_region [0] rfl ?_
        refine at_s T rfl ?_
        refine at_end ?_
        refine at_sub [(8, (.int .i64 7))] ⟨rfl, trivial⟩ ?_
        refine at_then ?_
        refine at_ret ?_
        refine at_rb ?_
        refine at_rt ?_
        refine at_rb ?_
        refine at_rt ?_
        refine at_rb ?_
        refine at_rt ?_
        refine at_rb ?_
        refine at_rt ?_
        obtain rfl := Option.some.inj H
        exact at_post (T := T) rfl (.tmp rfl .nil) (fun w o => ⟨(), rfl, own_to [1, 1, 1, 1, 1, 1, 0] rfl o⟩)
      · replace H := if_f (bf c6) H
        refine at_skip ?_
        refine at_nb ?_
        refine at_then ?_
        refine at_seq ?_
        refine at_region [0, 1, 2, 3, 4, 5, 6] rfl ?_
        iterate 3 refine at_s T rfl ?_
        refine at_v rfl (g_load T rfl rfl rfl rfl (in_var (j := 1) rfl rfl)) ?_
        refine at_s T rfl ?_
        obtain ⟨v5, V7, H⟩ := bind_e H
        refine at_cons (at_c (As := [[(b_c_floor, Obj.cells #[(.slice a_c_floor_words (List.length c.floor.words) n_c_floor_words), (.int .i64 c.floor.count)] 104 (0, 0))], H_c_floor_words]) (R := [F, [(b_c, Obj.cells #[(.int .i64 c.w), (.int .i64 c.h), (.int .i64 c.most), (.pointer (some ⟨b_c_units, 0, none⟩)), (.pointer (some ⟨b_c_floor, 0, none⟩))] 92 (0, 0))], [(b_c_units, Obj.cells #[(.int .i64 c.units.most), (.int .i64 c.units.next), (.map (some a_c_units_live)), (.slice a_c_units_order (List.length c.units.order) n_c_units_order)] 102 (0, 0))], H_c_units_live, H_c_units_order]) (B := fun _ => [[(b_c_floor, Obj.cells #[(.slice a_c_floor_words (List.length c.floor.words) n_c_floor_words), (.int .i64 c.floor.count)] 104 (0, 0))], H_c_floor_words]) [5, 5] rfl rfl rfl rfl has58 rfl rfl (floor_Floor_Who.c c.floor cell v5 _ V7 s_c_floor_words) (fun _ => ?_))
        refine at_s T rfl ?_
        refine at_end ?_
        refine at_sub [(0, (.pointer (some ⟨b_c, 0, none⟩))), (2, (.int .i64 cell)), (3, (.int .i64 goal)), (34, (.bool (v5 != (-1))))] ⟨rfl, rfl, rfl, rfl, trivial⟩ ?_
        refine at_then ?_
        refine at_cond rfl (fun c8 => ?_) (fun c8 => ?_)
        · replace H := if_t c8 H
          refine at_seq ?_
          refine at_region [0] rfl ?_
          refine at_s T rfl ?_
          refine at_end ?_
          refine at_sub [(8, (.int .i64 10))] ⟨rfl, trivial⟩ ?_
          refine at_then ?_
          refine at_ret ?_
          refine at_rb ?_
          refine at_rt ?_
          refine at_rb ?_
          refine at_rt ?_
          refine at_rb ?_
          refine at_rt ?_
          obtain rfl := Option.some.inj H
          exact at_post (T := T) rfl (.tmp rfl .nil) (fun w o => ⟨(), rfl, own_to [1, 1, 1, 1, 1, 1, 0] rfl o⟩)
        · replace H := if_f (bf c8) H
          refine at_skip ?_
          refine at_nb ?_
          refine at_then ?_
          refine at_seq ?_
          refine at_region_q mix (by kernel_rfl) ?_
          iterate 3 refine atq_s T rfl ?_
          refine atq_v rfl rfl rfl (g_load T rfl rfl rfl rfl (in_var (j := 1) rfl rfl)) ?_
          obtain ⟨v6, V9, H⟩ := bind_e H
          refine atq_cr (As := [[(b_c_units, Obj.cells #[(.int .i64 c.units.most), (.int .i64 c.units.next), (.map (some a_c_units_live)), (.slice a_c_units_order (List.length c.units.order) n_c_units_order)] 102 (0, 0))], H_c_units_live, H_c_units_order]) (R := [F, [(b_c, Obj.cells #[(.int .i64 c.w), (.int .i64 c.h), (.int .i64 c.most), (.pointer (some ⟨b_c_units, 0, none⟩)), (.pointer (some ⟨b_c_floor, 0, none⟩))] 92 (0, 0))], [(b_c_floor, Obj.cells #[(.slice a_c_floor_words (List.length c.floor.words) n_c_floor_words), (.int .i64 c.floor.count)] 104 (0, 0))], H_c_floor_words]) [2, 2, 2] rfl rfl rfl rfl rfl rfl has74 rfl rfl (units_Units_Len.c c.units v6 _ V9 s_c_units_live s_c_units_order) ?_
          iterate 3 refine atq_s T rfl ?_
          refine atq_v rfl rfl rfl (g_load T rfl rfl rfl rfl (in_var (j := 1) rfl rfl)) ?_
          refine atq_s T rfl ?_
          refine atq_end ?_
          refine at_sub [(2, (.int .i64 cell)), (3, (.int .i64 goal)), (44, (.bool (decide (v6 ≥ c.most))))] ⟨rfl, rfl, rfl, trivial⟩ ?_
          refine at_then ?_
          refine at_cond rfl (fun c10 => ?_) (fun c10 => ?_)
          · replace H := if_t (of_decide_eq_true c10) H
            refine at_seq ?_
            refine at_region [0] rfl ?_
            refine at_s T rfl ?_
            refine at_end ?_
            refine at_sub [(8, (.int .i64 11))] ⟨rfl, trivial⟩ ?_
            refine at_then ?_
            refine at_ret ?_
            refine at_rb ?_
            refine at_rt ?_
            refine at_rb ?_
            refine at_rt ?_
            obtain rfl := Option.some.inj H
            exact at_post (T := T) rfl (.tmp rfl .nil) (fun w o => ⟨(), rfl, own_to [1, 1, 1, 1, 1, 1, 0] rfl o⟩)
          · replace H := if_f (of_decide_eq_false c10) H
            refine at_skip ?_
            refine at_nb ?_
            refine at_then ?_
            refine at_seq ?_
            refine at_seq ?_
            refine at_region [0, 1, 2] rfl ?_
            iterate 3 refine at_s T rfl ?_
            refine at_end ?_
            refine at_sub [(47, (.bool (cell == goal)))] ⟨rfl, trivial⟩ ?_
            refine at_then ?_
            refine at_cond rfl (fun c11 => ?_) (fun c11 => ?_)
            · replace H := if_t c11 H
              refine at_seq ?_
              refine at_region [0] rfl ?_
              refine at_s T rfl ?_
              refine at_end ?_
              refine at_sub [(8, (.int .i64 13))] ⟨rfl, trivial⟩ ?_
              refine at_then ?_
              refine at_ret ?_
              refine at_rt ?_
              refine at_rb ?_
              refine at_rt ?_
              obtain rfl := Option.some.inj H
              exact at_post (T := T) rfl (.tmp rfl .nil) (fun w o => ⟨(), rfl, own_to [1, 1, 1, 1, 1, 1, 0] rfl o⟩)
            · replace H := if_f (bf c11) H
              refine at_skip ?_
              refine at_then ?_
              refine at_exit ?_
              refine at_xb ?_
              refine at_then ?_
              refine at_seq ?_
              refine at_region [0] rfl ?_
              refine at_s T rfl ?_
              refine at_end ?_
              refine at_sub [(8, (.int .i64 0))] ⟨rfl, trivial⟩ ?_
              refine at_then ?_
              refine at_ret ?_
              obtain rfl := Option.some.inj H
              exact at_post (T := T) rfl (.tmp rfl .nil) (fun w o => ⟨(), rfl, own_to [1, 1, 1, 1, 1, 1, 0] rfl o⟩)
  · replace H := if_f (bf c1) H
    refine at_skip ?_
    refine at_then ?_
    refine at_seq ?_
    refine at_seq ?_
    refine at_region [0, 1] rfl ?_
    iterate 2 refine at_s T rfl ?_
    refine at_end ?_
    refine at_sub [(0, (.pointer (some ⟨b_c, 0, none⟩))), (2, (.int .i64 cell)), (3, (.int .i64 goal)), (9, (.int .i64 p1)), (12, (.bool (p1 == 1)))] ⟨rfl, rfl, rfl, rfl, rfl, trivial⟩ ?_
    refine at_then ?_
    refine at_cond rfl (fun c12 => ?_) (fun c12 => ?_)
    · replace H := if_t c12 H
      refine at_exit ?_
      refine at_xt ?_
      refine at_xt ?_
      refine at_xn rfl ?_
      refine at_xt ?_
      refine at_xb ?_
      refine at_then ?_
      refine at_seq ?_
      refine at_region [0, 1, 2, 3, 4, 5, 6] rfl ?_
      iterate 3 refine at_s T rfl ?_
      refine at_v rfl (g_load T rfl rfl rfl rfl (in_var (j := 0) rfl rfl)) ?_
      refine at_s T rfl ?_
      obtain ⟨v7, V13, H⟩ := bind_e H
      refine at_cons (at_c (As := [[(b_c_floor, Obj.cells #[(.slice a_c_floor_words (List.length c.floor.words) n_c_floor_words), (.int .i64 c.floor.count)] 104 (0, 0))], H_c_floor_words]) (R := [[(b_c, Obj.cells #[(.int .i64 c.w), (.int .i64 c.h), (.int .i64 c.most), (.pointer (some ⟨b_c_units, 0, none⟩)), (.pointer (some ⟨b_c_floor, 0, none⟩))] 92 (0, 0))], [(b_c_units, Obj.cells #[(.int .i64 c.units.most), (.int .i64 c.units.next), (.map (some a_c_units_live)), (.slice a_c_units_order (List.length c.units.order) n_c_units_order)] 102 (0, 0))], H_c_units_live, H_c_units_order, F]) (B := fun _ => [[(b_c_floor, Obj.cells #[(.slice a_c_floor_words (List.length c.floor.words) n_c_floor_words), (.int .i64 c.floor.count)] 104 (0, 0))], H_c_floor_words]) [4, 4] rfl rfl rfl rfl has58 rfl rfl (floor_Floor_Who.c c.floor cell v7 _ V13 s_c_floor_words) (fun _ => ?_))
      refine at_s T rfl ?_
      refine at_end ?_
      refine at_sub [(0, (.pointer (some ⟨b_c, 0, none⟩))), (2, (.int .i64 cell)), (3, (.int .i64 goal)), (34, (.bool (v7 != (-1))))] ⟨rfl, rfl, rfl, rfl, trivial⟩ ?_
      refine at_then ?_
      refine at_cond rfl (fun c14 => ?_) (fun c14 => ?_)
      · replace H := if_t c14 H
        refine at_seq ?_
        refine at_region [0] rfl ?_
        refine at_s T rfl ?_
        refine at_end ?_
        refine at_sub [(8, (.int .i64 10))] ⟨rfl, trivial⟩ ?_
        refine at_then ?_
        refine at_ret ?_
        refine at_rb ?_
        refine at_rt ?_
        refine at_rb ?_
        refine at_rt ?_
        refine at_rb ?_
        refine at_rt ?_
        obtain rfl := Option.some.inj H
        exact at_post (T := T) rfl (.tmp rfl .nil) (fun w o => ⟨(), rfl, own_to [0, 0, 0, 0, 1, 1, 0] rfl o⟩)
      · replace H := if_f (bf c14) H
        refine at_skip ?_
        refine at_nb ?_
        refine at_then ?_
        refine at_seq ?_
        refine at_region_q mix (by kernel_rfl) ?_
        iterate 3 refine atq_s T rfl ?_
        refine atq_v rfl rfl rfl (g_load T rfl rfl rfl rfl (in_var (j := 0) rfl rfl)) ?_
        obtain ⟨v8, V15, H⟩ := bind_e H
        refine atq_cr (As := [[(b_c_units, Obj.cells #[(.int .i64 c.units.most), (.int .i64 c.units.next), (.map (some a_c_units_live)), (.slice a_c_units_order (List.length c.units.order) n_c_units_order)] 102 (0, 0))], H_c_units_live, H_c_units_order]) (R := [[(b_c, Obj.cells #[(.int .i64 c.w), (.int .i64 c.h), (.int .i64 c.most), (.pointer (some ⟨b_c_units, 0, none⟩)), (.pointer (some ⟨b_c_floor, 0, none⟩))] 92 (0, 0))], F, [(b_c_floor, Obj.cells #[(.slice a_c_floor_words (List.length c.floor.words) n_c_floor_words), (.int .i64 c.floor.count)] 104 (0, 0))], H_c_floor_words]) [1, 1, 1] rfl rfl rfl rfl rfl rfl has74 rfl rfl (units_Units_Len.c c.units v8 _ V15 s_c_units_live s_c_units_order) ?_
        iterate 3 refine atq_s T rfl ?_
        refine atq_v rfl rfl rfl (g_load T rfl rfl rfl rfl (in_var (j := 0) rfl rfl)) ?_
        refine atq_s T rfl ?_
        refine atq_end ?_
        refine at_sub [(2, (.int .i64 cell)), (3, (.int .i64 goal)), (44, (.bool (decide (v8 ≥ c.most))))] ⟨rfl, rfl, rfl, trivial⟩ ?_
        refine at_then ?_
        refine at_cond rfl (fun c16 => ?_) (fun c16 => ?_)
        · replace H := if_t (of_decide_eq_true c16) H
          refine at_seq ?_
          refine at_region [0] rfl ?_
          refine at_s T rfl ?_
          refine at_end ?_
          refine at_sub [(8, (.int .i64 11))] ⟨rfl, trivial⟩ ?_
          refine at_then ?_
          refine at_ret ?_
          refine at_rb ?_
          refine at_rt ?_
          refine at_rb ?_
          refine at_rt ?_
          obtain rfl := Option.some.inj H
          exact at_post (T := T) rfl (.tmp rfl .nil) (fun w o => ⟨(), rfl, own_to [0, 0, 0, 0, 1, 1, 0] rfl o⟩)
        · replace H := if_f (of_decide_eq_false c16) H
          refine at_skip ?_
          refine at_nb ?_
          refine at_then ?_
          refine at_seq ?_
          refine at_seq ?_
          refine at_region [0, 1, 2] rfl ?_
          iterate 3 refine at_s T rfl ?_
          refine at_end ?_
          refine at_sub [(47, (.bool (cell == goal)))] ⟨rfl, trivial⟩ ?_
          refine at_then ?_
          refine at_cond rfl (fun c17 => ?_) (fun c17 => ?_)
          · replace H := if_t c17 H
            refine at_seq ?_
            refine at_region [0] rfl ?_
            refine at_s T rfl ?_
            refine at_end ?_
            refine at_sub [(8, (.int .i64 13))] ⟨rfl, trivial⟩ ?_
            refine at_then ?_
            refine at_ret ?_
            refine at_rt ?_
            refine at_rb ?_
            refine at_rt ?_
            obtain rfl := Option.some.inj H
            exact at_post (T := T) rfl (.tmp rfl .nil) (fun w o => ⟨(), rfl, own_to [0, 0, 0, 0, 1, 1, 0] rfl o⟩)
          · replace H := if_f (bf c17) H
            refine at_skip ?_
            refine at_then ?_
            refine at_exit ?_
            refine at_xb ?_
            refine at_then ?_
            refine at_seq ?_
            refine at_region [0] rfl ?_
            refine at_s T rfl ?_
            refine at_end ?_
            refine at_sub [(8, (.int .i64 0))] ⟨rfl, trivial⟩ ?_
            refine at_then ?_
            refine at_ret ?_
            obtain rfl := Option.some.inj H
            exact at_post (T := T) rfl (.tmp rfl .nil) (fun w o => ⟨(), rfl, own_to [0, 0, 0, 0, 1, 1, 0] rfl o⟩)
    · replace H := if_f (bf c12) H
      refine at_skip ?_
      refine at_then ?_
      refine at_seq ?_
      refine at_seq ?_
      refine at_region [0, 1] rfl ?_
      iterate 2 refine at_s T rfl ?_
      refine at_end ?_
      refine at_sub [(0, (.pointer (some ⟨b_c, 0, none⟩))), (2, (.int .i64 cell)), (3, (.int .i64 goal)), (9, (.int .i64 p1)), (14, (.bool (p1 == 2)))] ⟨rfl, rfl, rfl, rfl, rfl, trivial⟩ ?_
      refine at_then ?_
      refine at_cond rfl (fun c18 => ?_) (fun c18 => ?_)
      · replace H := if_t c18 H
        refine at_exit ?_
        refine at_xt ?_
        refine at_xt ?_
        refine at_xn rfl ?_
        refine at_xt ?_
        refine at_xn rfl ?_
        refine at_xt ?_
        refine at_xb ?_
        refine at_then ?_
        refine at_seq ?_
        refine at_region_q mix (by kernel_rfl) ?_
        iterate 3 refine atq_s T rfl ?_
        refine atq_v rfl rfl rfl (g_load T rfl rfl rfl rfl (in_var (j := 0) rfl rfl)) ?_
        obtain ⟨v9, V19, H⟩ := bind_e H
        refine atq_cr (As := [[(b_c_units, Obj.cells #[(.int .i64 c.units.most), (.int .i64 c.units.next), (.map (some a_c_units_live)), (.slice a_c_units_order (List.length c.units.order) n_c_units_order)] 102 (0, 0))], H_c_units_live, H_c_units_order]) (R := [[(b_c, Obj.cells #[(.int .i64 c.w), (.int .i64 c.h), (.int .i64 c.most), (.pointer (some ⟨b_c_units, 0, none⟩)), (.pointer (some ⟨b_c_floor, 0, none⟩))] 92 (0, 0))], [(b_c_floor, Obj.cells #[(.slice a_c_floor_words (List.length c.floor.words) n_c_floor_words), (.int .i64 c.floor.count)] 104 (0, 0))], H_c_floor_words, F]) [1, 1, 1] rfl rfl rfl rfl rfl rfl has74 rfl rfl (units_Units_Len.c c.units v9 _ V19 s_c_units_live s_c_units_order) ?_
        iterate 3 refine atq_s T rfl ?_
        refine atq_v rfl rfl rfl (g_load T rfl rfl rfl rfl (in_var (j := 0) rfl rfl)) ?_
        refine atq_s T rfl ?_
        refine atq_end ?_
        refine at_sub [(2, (.int .i64 cell)), (3, (.int .i64 goal)), (44, (.bool (decide (v9 ≥ c.most))))] ⟨rfl, rfl, rfl, trivial⟩ ?_
        refine at_then ?_
        refine at_cond rfl (fun c20 => ?_) (fun c20 => ?_)
        · replace H := if_t (of_decide_eq_true c20) H
          refine at_seq ?_
          refine at_region [0] rfl ?_
          refine at_s T rfl ?_
          refine at_end ?_
          refine at_sub [(8, (.int .i64 11))] ⟨rfl, trivial⟩ ?_
          refine at_then ?_
          refine at_ret ?_
          refine at_rb ?_
          refine at_rt ?_
          refine at_rb ?_
          refine at_rt ?_
          obtain rfl := Option.some.inj H
          exact at_post (T := T) rfl (.tmp rfl .nil) (fun w o => ⟨(), rfl, own_to [0, 0, 0, 0, 0, 0, 0] rfl o⟩)
        · replace H := if_f (of_decide_eq_false c20) H
          refine at_skip ?_
          refine at_nb ?_
          refine at_then ?_
          refine at_seq ?_
          refine at_seq ?_
          refine at_region [0, 1, 2] rfl ?_
          iterate 3 refine at_s T rfl ?_
          refine at_end ?_
          refine at_sub [(47, (.bool (cell == goal)))] ⟨rfl, trivial⟩ ?_
          refine at_then ?_
          refine at_cond rfl (fun c21 => ?_) (fun c21 => ?_)
          · replace H := if_t c21 H
            refine at_seq ?_
            refine at_region [0] rfl ?_
            refine at_s T rfl ?_
            refine at_end ?_
            refine at_sub [(8, (.int .i64 13))] ⟨rfl, trivial⟩ ?_
            refine at_then ?_
            refine at_ret ?_
            refine at_rt ?_
            refine at_rb ?_
            refine at_rt ?_
            obtain rfl := Option.some.inj H
            exact at_post (T := T) rfl (.tmp rfl .nil) (fun w o => ⟨(), rfl, own_to [0, 0, 0, 0, 0, 0, 0] rfl o⟩)
          · replace H := if_f (bf c21) H
            refine at_skip ?_
            refine at_then ?_
            refine at_exit ?_
            refine at_xb ?_
            refine at_then ?_
            refine at_seq ?_
            refine at_region [0] rfl ?_
            refine at_s T rfl ?_
            refine at_end ?_
            refine at_sub [(8, (.int .i64 0))] ⟨rfl, trivial⟩ ?_
            refine at_then ?_
            refine at_ret ?_
            obtain rfl := Option.some.inj H
            exact at_post (T := T) rfl (.tmp rfl .nil) (fun w o => ⟨(), rfl, own_to [0, 0, 0, 0, 0, 0, 0] rfl o⟩)
      · replace H := if_f (bf c18) H
        refine at_skip ?_
        refine at_then ?_
        refine at_seq ?_
        refine at_region [0, 1] rfl ?_
        iterate 2 refine at_s T rfl ?_
        refine at_end ?_
        refine at_sub [(2, (.int .i64 cell)), (3, (.int .i64 goal)), (16, (.bool (p1 == 3)))] ⟨rfl, rfl, rfl, trivial⟩ ?_
        refine at_then ?_
        refine at_cond rfl (fun c22 => ?_) (fun c22 => ?_)
        · replace H := if_t c22 H
          refine at_exit ?_
          refine at_xt ?_
          refine at_xn rfl ?_
          refine at_xt ?_
          refine at_xn rfl ?_
          refine at_xt ?_
          refine at_xn rfl ?_
          refine at_xt ?_
          refine at_xb ?_
          refine at_then ?_
          refine at_seq ?_
          refine at_seq ?_
          refine at_region [0, 1, 2] rfl ?_
          iterate 3 refine at_s T rfl ?_
          refine at_end ?_
          refine at_sub [(47, (.bool (cell == goal)))] ⟨rfl, trivial⟩ ?_
          refine at_then ?_
          refine at_cond rfl (fun c23 => ?_) (fun c23 => ?_)
          · replace H := if_t c23 H
            refine at_seq ?_
            refine at_region [0] rfl ?_
            refine at_s T rfl ?_
            refine at_end ?_
            refine at_sub [(8, (.int .i64 13))] ⟨rfl, trivial⟩ ?_
            refine at_then ?_
            refine at_ret ?_
            refine at_rt ?_
            refine at_rb ?_
            refine at_rt ?_
            obtain rfl := Option.some.inj H
            exact at_post (T := T) rfl (.tmp rfl .nil) (fun w o => ⟨(), rfl, own_to [0, 0, 0, 0, 0, 0, 0] rfl o⟩)
          · replace H := if_f (bf c23) H
            refine at_skip ?_
            refine at_then ?_
            refine at_exit ?_
            refine at_xb ?_
            refine at_then ?_
            refine at_seq ?_
            refine at_region [0] rfl ?_
            refine at_s T rfl ?_
            refine at_end ?_
            refine at_sub [(8, (.int .i64 0))] ⟨rfl, trivial⟩ ?_
            refine at_then ?_
            refine at_ret ?_
            obtain rfl := Option.some.inj H
            exact at_post (T := T) rfl (.tmp rfl .nil) (fun w o => ⟨(), rfl, own_to [0, 0, 0, 0, 0, 0, 0] rfl o⟩)
        · replace H := if_f (bf c22) H
          refine at_skip ?_
          refine at_then ?_
          refine at_exit ?_
          refine at_xn rfl ?_
          refine at_xt ?_
          refine at_xn rfl ?_
          refine at_xt ?_
          refine at_xn rfl ?_
          refine at_xt ?_
          refine at_xn rfl ?_
          refine at_xt ?_
          refine at_xb ?_
          refine at_then ?_
          refine at_seq ?_
          refine at_region [0] rfl ?_
          refine at_s T rfl ?_
          refine at_end ?_
          refine at_sub [(8, (.int .i64 0))] ⟨rfl, trivial⟩ ?_
          refine at_then ?_
          refine at_ret ?_
          obtain rfl := Option.some.inj H
          exact at_post (T := T) rfl (.tmp rfl .nil) (fun w o => ⟨(), rfl, own_to [0, 0, 0, 0, 0, 0, 0] rfl o⟩)

/-! ### (*herdsman/crowd.Crowd).Spawn: function 25 -/
def crowd_Crowd_Spawn.f (c : crowd_Crowd) (cell : Int) (goal : Int) : Option (Int × Int × crowd_Crowd) := (crowd_Crowd_wrong.f c 0 cell goal).bind fun v1 => if (v1 != 0) = true then (some ((-1), v1, c)) else ((units_Units_Add.f c.units cell goal).bind fun v2 => (floor_Floor_Put.f c.floor cell v2.1).bind fun v3 => some (v2.1, 0, (crowd_Crowd.mk c.w c.h c.most v2.2.2 v3.2)))
def crowd_Crowd_Spawn.R (b_c : Nat) (r : (Int × Int × crowd_Crowd)) (u : Value) (G : List Hp) : Prop := ∃ (b0 : Nat) (a1 : Nat) (H1 : Hp) (a2 : Option Addr) (n2 : Nat) (H2 : Hp) (b3 : Nat) (a4 : Option Addr) (n4 : Nat) (H4 : Hp), MapO (Ky.int .i64 u3) (fun x : api_Unit => Value.agg #[.int .i64 x.Id, .int .i64 x.Cell, .int .i64 x.Goal]) r.2.2.units.live a1 H1 ∧ SliceO (Fl.int .i64) 3 r.2.2.units.order a2 n2 H2 ∧ SliceO (Fl.int .u32) 74 r.2.2.floor.words a4 n4 H4 ∧ u = (.tuple #[(.int .i64 r.1), (.int .i64 r.2.1)]) ∧ G = [[(b_c, Obj.cells #[(.int .i64 r.2.2.w), (.int .i64 r.2.2.h), (.int .i64 r.2.2.most), (.pointer (some ⟨b0, 0, none⟩)), (.pointer (some ⟨b3, 0, none⟩))] 92 (0, 0))], [(b0, Obj.cells #[(.int .i64 r.2.2.units.most), (.int .i64 r.2.2.units.next), (.map (some a1)), (.slice a2 (List.length r.2.2.units.order) n2)] 102 (0, 0))], H1, H2, [(b3, Obj.cells #[(.slice a4 (List.length r.2.2.floor.words) n4), (.int .i64 r.2.2.floor.count)] 104 (0, 0))], H4]
set_option maxHeartbeats 4000000 in
theorem crowd_Crowd_Spawn.c {b_c : Nat} {b_c_units : Nat} {a_c_units_live : Nat} {H_c_units_live : Hp} {a_c_units_order : Option Addr} {n_c_units_order : Nat} {H_c_units_order : Hp} {b_c_floor : Nat} {a_c_floor_words : Option Addr} {n_c_floor_words : Nat} {H_c_floor_words : Hp} (c : crowd_Crowd) (cell : Int) (goal : Int) (r : (Int × Int × crowd_Crowd)) (F : Hp) (H : crowd_Crowd_Spawn.f c cell goal = some r) (s_c_units_live : MapO (Ky.int .i64 u3) (fun x : api_Unit => Value.agg #[.int .i64 x.Id, .int .i64 x.Cell, .int .i64 x.Goal]) c.units.live a_c_units_live H_c_units_live) (s_c_units_order : SliceO (Fl.int .i64) 3 c.units.order a_c_units_order n_c_units_order H_c_units_order) (s_c_floor_words : SliceO (Fl.int .u32) 74 c.floor.words a_c_floor_words n_c_floor_words H_c_floor_words) :
    CallsL Try.prog 25 [(.pointer (some ⟨b_c, 0, none⟩)), (.int .i64 cell), (.int .i64 goal)] [[(b_c, Obj.cells #[(.int .i64 c.w), (.int .i64 c.h), (.int .i64 c.most), (.pointer (some ⟨b_c_units, 0, none⟩)), (.pointer (some ⟨b_c_floor, 0, none⟩))] 92 (0, 0))], [(b_c_units, Obj.cells #[(.int .i64 c.units.most), (.int .i64 c.units.next), (.map (some a_c_units_live)), (.slice a_c_units_order (List.length c.units.order) n_c_units_order)] 102 (0, 0))], H_c_units_live, H_c_units_order, [(b_c_floor, Obj.cells #[(.slice a_c_floor_words (List.length c.floor.words) n_c_floor_words), (.int .i64 c.floor.count)] 104 (0, 0))], H_c_floor_words, F] (fun p : { p : Value × List Hp // crowd_Crowd_Spawn.R b_c r p.1 p.2 } => p.1.1) (fun p => (p.1.2 ++ []) ++ [F]) := by
  unfold crowd_Crowd_Spawn.f at H
  refine calls_atL [(0, (.pointer (some ⟨b_c, 0, none⟩))), (1, (.int .i64 cell)), (2, (.int .i64 goal))] Try.func25 rfl rfl ⟨rfl, rfl, rfl, trivial⟩ (fun W => ?_)
  refine at_seq ?_
  refine at_region [0, 1] rfl ?_
  iterate 2 refine at_s T rfl ?_
  refine at_end ?_
  refine at_sub [(0, (.pointer (some ⟨b_c, 0, none⟩))), (1, (.int .i64 cell)), (2, (.int .i64 goal))] ⟨rfl, rfl, rfl, trivial⟩ ?_
  refine at_then ?_
  refine at_seq ?_
  refine at_seq ?_
  refine at_region [0, 1] rfl ?_
  iterate 2 refine at_s T rfl ?_
  refine at_end ?_
  refine at_sub [(0, (.pointer (some ⟨b_c, 0, none⟩))), (1, (.int .i64 cell)), (2, (.int .i64 goal)), (9, (.bool false))] ⟨rfl, rfl, rfl, rfl, trivial⟩ ?_
  refine at_then ?_
  refine at_cond_f rfl ?_
  refine at_skip ?_
  refine at_then ?_
  refine at_seq ?_
  refine at_seq ?_
  refine at_region [0, 1, 2, 3, 4] rfl ?_
  iterate 3 refine at_s T rfl ?_
  obtain ⟨v1, V1, H⟩ := bind_e H
  refine at_cons (at_c (As := [[(b_c, Obj.cells #[(.int .i64 c.w), (.int .i64 c.h), (.int .i64 c.most), (.pointer (some ⟨b_c_units, 0, none⟩)), (.pointer (some ⟨b_c_floor, 0, none⟩))] 92 (0, 0))], [(b_c_units, Obj.cells #[(.int .i64 c.units.most), (.int .i64 c.units.next), (.map (some a_c_units_live)), (.slice a_c_units_order (List.length c.units.order) n_c_units_order)] 102 (0, 0))], H_c_units_live, H_c_units_order, [(b_c_floor, Obj.cells #[(.slice a_c_floor_words (List.length c.floor.words) n_c_floor_words), (.int .i64 c.floor.count)] 104 (0, 0))], H_c_floor_words]) (R := [F]) (B := fun _ => [[(b_c, Obj.cells #[(.int .i64 c.w), (.int .i64 c.h), (.int .i64 c.most), (.pointer (some ⟨b_c_units, 0, none⟩)), (.pointer (some ⟨b_c_floor, 0, none⟩))] 92 (0, 0))], [(b_c_units, Obj.cells #[(.int .i64 c.units.most), (.int .i64 c.units.next), (.map (some a_c_units_live)), (.slice a_c_units_order (List.length c.units.order) n_c_units_order)] 102 (0, 0))], H_c_units_live, H_c_units_order, [(b_c_floor, Obj.cells #[(.slice a_c_floor_words (List.length c.floor.words) n_c_floor_words), (.int .i64 c.floor.count)] 104 (0, 0))], H_c_floor_words]) [0, 0, 0, 0, 0, 0] rfl rfl rfl rfl has55 rfl rfl (crowd_Crowd_wrong.c c 0 cell goal v1 _ V1 s_c_units_live s_c_units_order s_c_floor_words) (fun _ => ?_))
  refine at_s T rfl ?_
  refine at_end ?_
  refine at_sub [(0, (.pointer (some ⟨b_c, 0, none⟩))), (1, (.int .i64 cell)), (2, (.int .i64 goal)), (7, (.int .i64 v1))] ⟨rfl, rfl, rfl, rfl, trivial⟩ ?_
  refine at_then ?_
  refine at_seq ?_
  refine at_region [0, 1] rfl ?_
  iterate 2 refine at_s T rfl ?_
  refine at_end ?_
  refine at_sub [(0, (.pointer (some ⟨b_c, 0, none⟩))), (1, (.int .i64 cell)), (2, (.int .i64 goal)), (7, (.int .i64 v1)), (15, (.bool (v1 != 0)))] ⟨rfl, rfl, rfl, rfl, rfl, trivial⟩ ?_
  refine at_then ?_
  refine at_cond rfl (fun c2 => ?_) (fun c2 => ?_)
  · replace H := if_t c2 H
    refine at_seq ?_
    refine at_region [0, 1, 2] rfl ?_
    iterate 3 refine at_s T rfl ?_
    refine at_end ?_
    refine at_sub [(6, (.int .i64 (-1))), (7, (.int .i64 v1))] ⟨rfl, rfl, trivial⟩ ?_
    refine at_then ?_
    refine at_ret ?_
    refine at_rt ?_
    obtain rfl := Option.some.inj H
    exact at_post (T := T) rfl (.tmp rfl (.tmp rfl .nil)) (fun w o => ⟨⟨(_, _), ⟨b_c_units, a_c_units_live, H_c_units_live, a_c_units_order, n_c_units_order, H_c_units_order, b_c_floor, a_c_floor_words, n_c_floor_words, H_c_floor_words, s_c_units_live, s_c_units_order, s_c_floor_words, rfl, rfl⟩⟩, rfl, own_to [1, 1, 1, 1, 1, 1, 0] rfl o⟩)
  · replace H := if_f (bf c2) H
    refine at_skip ?_
    refine at_then ?_
    refine at_seq ?_
    refine at_region [0, 1, 2, 3, 4, 5, 6, 7, 8, 9, 10] rfl ?_
    iterate 3 refine at_s T rfl ?_
    refine at_v rfl (g_load T rfl rfl rfl rfl (in_var (j := 1) rfl rfl)) ?_
    iterate 2 refine at_s T rfl ?_
    obtain ⟨v2, V3, H⟩ := bind_e H
    refine at_cons (at_cR (As := [[(b_c_units, Obj.cells #[(.int .i64 c.units.most), (.int .i64 c.units.next), (.map (some a_c_units_live)), (.slice a_c_units_order (List.length c.units.order) n_c_units_order)] 102 (0, 0))], H_c_units_live, H_c_units_order]) (R := [F, [(b_c, Obj.cells #[(.int .i64 c.w), (.int .i64 c.h), (.int .i64 c.most), (.pointer (some ⟨b_c_units, 0, none⟩)), (.pointer (some ⟨b_c_floor, 0, none⟩))] 92 (0, 0))], [(b_c_floor, Obj.cells #[(.slice a_c_floor_words (List.length c.floor.words) n_c_floor_words), (.int .i64 c.floor.count)] 104 (0, 0))], H_c_floor_words]) (units_Units_Add.R b_c_units v2) [] [2, 2, 2] rfl rfl rfl rfl has56 rfl rfl (units_Units_Add.c c.units cell goal v2 _ V3 s_c_units_live s_c_units_order) ?_)
    rintro _ _ ⟨a7, H7, a8, n8, H8, s7, s8, rfl, rfl⟩
    iterate 4 refine at_s T rfl ?_
    refine at_end ?_
    refine at_sub [(0, (.pointer (some ⟨b_c, 0, none⟩))), (1, (.int .i64 cell)), (6, (.int .i64 v2.1))] ⟨rfl, rfl, rfl, trivial⟩ ?_
    refine at_then ?_
    refine at_seq ?_
    refine at_region [0, 1, 2, 3, 4, 5, 6] rfl ?_
    iterate 3 refine at_s T rfl ?_
    refine at_v rfl (g_load T rfl rfl rfl rfl (in_var (j := 1) rfl rfl)) ?_
    iterate 2 refine at_s T rfl ?_
    obtain ⟨v3, V4, H⟩ := bind_e H
    refine at_cons (at_cR (As := [[(b_c_floor, Obj.cells #[(.slice a_c_floor_words (List.length c.floor.words) n_c_floor_words), (.int .i64 c.floor.count)] 104 (0, 0))], H_c_floor_words]) (R := [F, [(b_c, Obj.cells #[(.int .i64 c.w), (.int .i64 c.h), (.int .i64 c.most), (.pointer (some ⟨b_c_units, 0, none⟩)), (.pointer (some ⟨b_c_floor, 0, none⟩))] 92 (0, 0))], [(b_c_units, Obj.cells #[(.int .i64 v2.2.2.most), (.int .i64 v2.2.2.next), (.map (some a7)), (.slice a8 (List.length v2.2.2.order) n8)] 102 (0, 0))], H7, H8]) (floor_Floor_Put.R b_c_floor v3) [] [2, 2] rfl rfl rfl rfl has57 rfl rfl (floor_Floor_Put.c c.floor cell v2.1 v3 _ V4 s_c_floor_words) ?_)
    rintro _ _ ⟨a9, n9, H9, s9, rfl, rfl⟩
    refine at_end ?_
    refine at_sub [(6, (.int .i64 v2.1))] ⟨rfl, trivial⟩ ?_
    refine at_then ?_
    refine at_seq ?_
    refine at_region [0, 1, 2] rfl ?_
    iterate 3 refine at_s T rfl ?_
    refine at_end ?_
    refine at_sub [(6, (.int .i64 v2.1)), (7, (.int .i64 0))] ⟨rfl, rfl, trivial⟩ ?_
    refine at_then ?_
    refine at_ret ?_
    obtain rfl := Option.some.inj H
    exact at_post (T := T) rfl (.tmp rfl (.tmp rfl .nil)) (fun w o => ⟨⟨(_, _), ⟨b_c_units, a7, H7, a8, n8, H8, b_c_floor, a9, n9, H9, s7, s8, s9, rfl, rfl⟩⟩, rfl, own_to [1, 1, 1, 1, 1, 1, 0] rfl o⟩)

/-! ### (*herdsman/crowd.Crowd).Who: function 26 -/
def crowd_Crowd_Who.f (c : crowd_Crowd) (cell : Int) : Option Int := (floor_Floor_Who.f c.floor cell).bind fun v1 => some v1
set_option maxHeartbeats 4000000 in
theorem crowd_Crowd_Who.c {b_c : Nat} {b_c_units : Nat} {a_c_units_live : Nat} {H_c_units_live : Hp} {a_c_units_order : Option Addr} {n_c_units_order : Nat} {H_c_units_order : Hp} {b_c_floor : Nat} {a_c_floor_words : Option Addr} {n_c_floor_words : Nat} {H_c_floor_words : Hp} (c : crowd_Crowd) (cell : Int) (r : Int) (F : Hp) (H : crowd_Crowd_Who.f c cell = some r) (s_c_units_live : MapO (Ky.int .i64 u3) (fun x : api_Unit => Value.agg #[.int .i64 x.Id, .int .i64 x.Cell, .int .i64 x.Goal]) c.units.live a_c_units_live H_c_units_live) (s_c_units_order : SliceO (Fl.int .i64) 3 c.units.order a_c_units_order n_c_units_order H_c_units_order) (s_c_floor_words : SliceO (Fl.int .u32) 74 c.floor.words a_c_floor_words n_c_floor_words H_c_floor_words) :
    CallsL Try.prog 26 [(.pointer (some ⟨b_c, 0, none⟩)), (.int .i64 cell)] [[(b_c, Obj.cells #[(.int .i64 c.w), (.int .i64 c.h), (.int .i64 c.most), (.pointer (some ⟨b_c_units, 0, none⟩)), (.pointer (some ⟨b_c_floor, 0, none⟩))] 92 (0, 0))], [(b_c_units, Obj.cells #[(.int .i64 c.units.most), (.int .i64 c.units.next), (.map (some a_c_units_live)), (.slice a_c_units_order (List.length c.units.order) n_c_units_order)] 102 (0, 0))], H_c_units_live, H_c_units_order, [(b_c_floor, Obj.cells #[(.slice a_c_floor_words (List.length c.floor.words) n_c_floor_words), (.int .i64 c.floor.count)] 104 (0, 0))], H_c_floor_words, F] (fun _ : Unit => (.int .i64 r)) (fun _ => [[(b_c, Obj.cells #[(.int .i64 c.w), (.int .i64 c.h), (.int .i64 c.most), (.pointer (some ⟨b_c_units, 0, none⟩)), (.pointer (some ⟨b_c_floor, 0, none⟩))] 92 (0, 0))], [(b_c_units, Obj.cells #[(.int .i64 c.units.most), (.int .i64 c.units.next), (.map (some a_c_units_live)), (.slice a_c_units_order (List.length c.units.order) n_c_units_order)] 102 (0, 0))], H_c_units_live, H_c_units_order, [(b_c_floor, Obj.cells #[(.slice a_c_floor_words (List.length c.floor.words) n_c_floor_words), (.int .i64 c.floor.count)] 104 (0, 0))], H_c_floor_words] ++ [F]) := by
  unfold crowd_Crowd_Who.f at H
  refine calls_atL [(0, (.pointer (some ⟨b_c, 0, none⟩))), (1, (.int .i64 cell))] Try.func26 rfl rfl ⟨rfl, rfl, trivial⟩ (fun W => ?_)
  refine at_seq ?_
  refine at_region [0] rfl ?_
  refine at_s T rfl ?_
  refine at_end ?_
  refine at_sub [(0, (.pointer (some ⟨b_c, 0, none⟩))), (1, (.int .i64 cell))] ⟨rfl, rfl, trivial⟩ ?_
  refine at_then ?_
  refine at_seq ?_
  refine at_seq ?_
  refine at_region [0, 1] rfl ?_
  iterate 2 refine at_s T rfl ?_
  refine at_end ?_
  refine at_sub [(0, (.pointer (some ⟨b_c, 0, none⟩))), (1, (.int .i64 cell)), (6, (.bool false))] ⟨rfl, rfl, rfl, trivial⟩ ?_
  refine at_then ?_
  refine at_cond_f rfl ?_
  refine at_skip ?_
  refine at_then ?_
  refine at_seq ?_
  refine at_region [0, 1, 2, 3, 4, 5, 6] rfl ?_
  iterate 3 refine at_s T rfl ?_
  refine at_v rfl (g_load T rfl rfl rfl rfl (in_var (j := 0) rfl rfl)) ?_
  refine at_s T rfl ?_
  obtain ⟨v1, V1, H⟩ := bind_e H
  refine at_cons (at_c (As := [[(b_c_floor, Obj.cells #[(.slice a_c_floor_words (List.length c.floor.words) n_c_floor_words), (.int .i64 c.floor.count)] 104 (0, 0))], H_c_floor_words]) (R := [[(b_c, Obj.cells #[(.int .i64 c.w), (.int .i64 c.h), (.int .i64 c.most), (.pointer (some ⟨b_c_units, 0, none⟩)), (.pointer (some ⟨b_c_floor, 0, none⟩))] 92 (0, 0))], [(b_c_units, Obj.cells #[(.int .i64 c.units.most), (.int .i64 c.units.next), (.map (some a_c_units_live)), (.slice a_c_units_order (List.length c.units.order) n_c_units_order)] 102 (0, 0))], H_c_units_live, H_c_units_order, F]) (B := fun _ => [[(b_c_floor, Obj.cells #[(.slice a_c_floor_words (List.length c.floor.words) n_c_floor_words), (.int .i64 c.floor.count)] 104 (0, 0))], H_c_floor_words]) [4, 4] rfl rfl rfl rfl has58 rfl rfl (floor_Floor_Who.c c.floor cell v1 _ V1 s_c_floor_words) (fun _ => ?_))
  refine at_s T rfl ?_
  refine at_end ?_
  refine at_sub [(4, (.int .i64 v1))] ⟨rfl, trivial⟩ ?_
  refine at_then ?_
  refine at_ret ?_
  obtain rfl := Option.some.inj H
  exact at_post (T := T) rfl (.tmp rfl .nil) (fun w o => ⟨(), rfl, own_to [0, 0, 0, 0, 1, 1, 0] rfl o⟩)

/-! ### (*herdsman/crowd.Crowd).Units: function 27 -/
def crowd_Crowd_Units.f (c : crowd_Crowd) : Option (List api_Unit) := (units_Units_All.f c.units).bind fun v1 => some v1
def crowd_Crowd_Units.R (r : (List api_Unit)) (u : Value) (G : List Hp) : Prop := ∃ (a0 : Option Addr) (n0 : Nat) (H0 : Hp), SliceO k_api_Unit 40 r a0 n0 H0 ∧ u = (.slice a0 (List.length r) n0) ∧ G = [H0]
set_option maxHeartbeats 4000000 in
theorem crowd_Crowd_Units.c {b_c : Nat} {b_c_units : Nat} {a_c_units_live : Nat} {H_c_units_live : Hp} {a_c_units_order : Option Addr} {n_c_units_order : Nat} {H_c_units_order : Hp} {b_c_floor : Nat} {a_c_floor_words : Option Addr} {n_c_floor_words : Nat} {H_c_floor_words : Hp} (c : crowd_Crowd) (r : (List api_Unit)) (F : Hp) (H : crowd_Crowd_Units.f c = some r) (s_c_units_live : MapO (Ky.int .i64 u3) (fun x : api_Unit => Value.agg #[.int .i64 x.Id, .int .i64 x.Cell, .int .i64 x.Goal]) c.units.live a_c_units_live H_c_units_live) (s_c_units_order : SliceO (Fl.int .i64) 3 c.units.order a_c_units_order n_c_units_order H_c_units_order) (s_c_floor_words : SliceO (Fl.int .u32) 74 c.floor.words a_c_floor_words n_c_floor_words H_c_floor_words) :
    CallsL Try.prog 27 [(.pointer (some ⟨b_c, 0, none⟩))] [[(b_c, Obj.cells #[(.int .i64 c.w), (.int .i64 c.h), (.int .i64 c.most), (.pointer (some ⟨b_c_units, 0, none⟩)), (.pointer (some ⟨b_c_floor, 0, none⟩))] 92 (0, 0))], [(b_c_units, Obj.cells #[(.int .i64 c.units.most), (.int .i64 c.units.next), (.map (some a_c_units_live)), (.slice a_c_units_order (List.length c.units.order) n_c_units_order)] 102 (0, 0))], H_c_units_live, H_c_units_order, [(b_c_floor, Obj.cells #[(.slice a_c_floor_words (List.length c.floor.words) n_c_floor_words), (.int .i64 c.floor.count)] 104 (0, 0))], H_c_floor_words, F] (fun p : { p : Value × List Hp // crowd_Crowd_Units.R r p.1 p.2 } => p.1.1) (fun p => (p.1.2 ++ [[(b_c, Obj.cells #[(.int .i64 c.w), (.int .i64 c.h), (.int .i64 c.most), (.pointer (some ⟨b_c_units, 0, none⟩)), (.pointer (some ⟨b_c_floor, 0, none⟩))] 92 (0, 0))], [(b_c_units, Obj.cells #[(.int .i64 c.units.most), (.int .i64 c.units.next), (.map (some a_c_units_live)), (.slice a_c_units_order (List.length c.units.order) n_c_units_order)] 102 (0, 0))], H_c_units_live, H_c_units_order, [(b_c_floor, Obj.cells #[(.slice a_c_floor_words (List.length c.floor.words) n_c_floor_words), (.int .i64 c.floor.count)] 104 (0, 0))], H_c_floor_words]) ++ [F]) := by
  unfold crowd_Crowd_Units.f at H
  refine calls_atL [(0, (.pointer (some ⟨b_c, 0, none⟩)))] Try.func27 rfl rfl ⟨rfl, trivial⟩ (fun W => ?_)
  refine at_seq ?_
  refine at_region [0] rfl ?_
  refine at_s T rfl ?_
  refine at_end ?_
  refine at_sub [(0, (.pointer (some ⟨b_c, 0, none⟩)))] ⟨rfl, trivial⟩ ?_
  refine at_then ?_
  refine at_seq ?_
  refine at_seq ?_
  refine at_region [0, 1] rfl ?_
  iterate 2 refine at_s T rfl ?_
  refine at_end ?_
  refine at_sub [(0, (.pointer (some ⟨b_c, 0, none⟩))), (4, (.bool false))] ⟨rfl, rfl, trivial⟩ ?_
  refine at_then ?_
  refine at_cond_f rfl ?_
  refine at_skip ?_
  refine at_then ?_
  refine at_seq ?_
  refine at_region [0, 1, 2, 3, 4, 5] rfl ?_
  iterate 3 refine at_s T rfl ?_
  refine at_v rfl (g_load T rfl rfl rfl rfl (in_var (j := 0) rfl rfl)) ?_
  obtain ⟨v1, V1, H⟩ := bind_e H
  refine at_cons (at_cR (As := [[(b_c_units, Obj.cells #[(.int .i64 c.units.most), (.int .i64 c.units.next), (.map (some a_c_units_live)), (.slice a_c_units_order (List.length c.units.order) n_c_units_order)] 102 (0, 0))], H_c_units_live, H_c_units_order]) (R := [[(b_c, Obj.cells #[(.int .i64 c.w), (.int .i64 c.h), (.int .i64 c.most), (.pointer (some ⟨b_c_units, 0, none⟩)), (.pointer (some ⟨b_c_floor, 0, none⟩))] 92 (0, 0))], [(b_c_floor, Obj.cells #[(.slice a_c_floor_words (List.length c.floor.words) n_c_floor_words), (.int .i64 c.floor.count)] 104 (0, 0))], H_c_floor_words, F]) (units_Units_All.R v1) [[(b_c_units, Obj.cells #[(.int .i64 c.units.most), (.int .i64 c.units.next), (.map (some a_c_units_live)), (.slice a_c_units_order (List.length c.units.order) n_c_units_order)] 102 (0, 0))], H_c_units_live, H_c_units_order] [1, 1, 1] rfl rfl rfl rfl has59 rfl rfl (units_Units_All.c c.units v1 _ V1 s_c_units_live s_c_units_order) ?_)
  rintro _ _ ⟨a7, n7, H7, s7, rfl, rfl⟩
  refine at_s T rfl ?_
  refine at_end ?_
  refine at_sub [(2, (.slice a7 (List.length v1) n7))] ⟨rfl, trivial⟩ ?_
  refine at_then ?_
  refine at_ret ?_
  obtain rfl := Option.some.inj H
  exact at_post (T := T) rfl (.tmp rfl .nil) (fun w o => ⟨⟨(_, _), ⟨a7, n7, H7, s7, rfl, rfl⟩⟩, rfl, own_to [4, 0, 3, 3, 3, 0, 0, 0] rfl o⟩)

/-! ### (*herdsman/crowd.Crowd).drop: function 62 -/
def crowd_Crowd_drop.f (c : crowd_Crowd) (u : api_Unit) : Option crowd_Crowd := (units_Units_Drop.f c.units u.Id).bind fun v1 => (floor_Floor_Take.f c.floor u.Cell).bind fun v2 => some (crowd_Crowd.mk c.w c.h c.most v1.2 v2.2)
def crowd_Crowd_drop.R (b_c : Nat) (r : crowd_Crowd) (u : Value) (G : List Hp) : Prop := ∃ (b0 : Nat) (a1 : Nat) (H1 : Hp) (a2 : Option Addr) (n2 : Nat) (H2 : Hp) (b3 : Nat) (a4 : Option Addr) (n4 : Nat) (H4 : Hp), MapO (Ky.int .i64 u3) (fun x : api_Unit => Value.agg #[.int .i64 x.Id, .int .i64 x.Cell, .int .i64 x.Goal]) r.units.live a1 H1 ∧ SliceO (Fl.int .i64) 3 r.units.order a2 n2 H2 ∧ SliceO (Fl.int .u32) 74 r.floor.words a4 n4 H4 ∧ u = (.tuple #[]) ∧ G = [[(b_c, Obj.cells #[(.int .i64 r.w), (.int .i64 r.h), (.int .i64 r.most), (.pointer (some ⟨b0, 0, none⟩)), (.pointer (some ⟨b3, 0, none⟩))] 92 (0, 0))], [(b0, Obj.cells #[(.int .i64 r.units.most), (.int .i64 r.units.next), (.map (some a1)), (.slice a2 (List.length r.units.order) n2)] 102 (0, 0))], H1, H2, [(b3, Obj.cells #[(.slice a4 (List.length r.floor.words) n4), (.int .i64 r.floor.count)] 104 (0, 0))], H4]
set_option maxHeartbeats 4000000 in
theorem crowd_Crowd_drop.c {b_c : Nat} {b_c_units : Nat} {a_c_units_live : Nat} {H_c_units_live : Hp} {a_c_units_order : Option Addr} {n_c_units_order : Nat} {H_c_units_order : Hp} {b_c_floor : Nat} {a_c_floor_words : Option Addr} {n_c_floor_words : Nat} {H_c_floor_words : Hp} (c : crowd_Crowd) (u : api_Unit) (r : crowd_Crowd) (F : Hp) (H : crowd_Crowd_drop.f c u = some r) (s_c_units_live : MapO (Ky.int .i64 u3) (fun x : api_Unit => Value.agg #[.int .i64 x.Id, .int .i64 x.Cell, .int .i64 x.Goal]) c.units.live a_c_units_live H_c_units_live) (s_c_units_order : SliceO (Fl.int .i64) 3 c.units.order a_c_units_order n_c_units_order H_c_units_order) (s_c_floor_words : SliceO (Fl.int .u32) 74 c.floor.words a_c_floor_words n_c_floor_words H_c_floor_words) :
    CallsL Try.prog 62 [(.pointer (some ⟨b_c, 0, none⟩)), (.agg #[(.int .i64 u.Id), (.int .i64 u.Cell), (.int .i64 u.Goal)])] [[(b_c, Obj.cells #[(.int .i64 c.w), (.int .i64 c.h), (.int .i64 c.most), (.pointer (some ⟨b_c_units, 0, none⟩)), (.pointer (some ⟨b_c_floor, 0, none⟩))] 92 (0, 0))], [(b_c_units, Obj.cells #[(.int .i64 c.units.most), (.int .i64 c.units.next), (.map (some a_c_units_live)), (.slice a_c_units_order (List.length c.units.order) n_c_units_order)] 102 (0, 0))], H_c_units_live, H_c_units_order, [(b_c_floor, Obj.cells #[(.slice a_c_floor_words (List.length c.floor.words) n_c_floor_words), (.int .i64 c.floor.count)] 104 (0, 0))], H_c_floor_words, F] (fun p : { p : Value × List Hp // crowd_Crowd_drop.R b_c r p.1 p.2 } => p.1.1) (fun p => (p.1.2 ++ []) ++ [F]) := by
  unfold crowd_Crowd_drop.f at H
  refine calls_atL [(0, (.pointer (some ⟨b_c, 0, none⟩))), (1, (.agg #[(.int .i64 u.Id), (.int .i64 u.Cell), (.int .i64 u.Goal)]))] Try.func62 rfl rfl ⟨rfl, rfl, trivial⟩ (fun W => ?_)
  refine at_seq ?_
  refine at_region [0] rfl ?_
  refine at_cons (at_bx T [(.int .i64 u.Id), (.int .i64 u.Cell), (.int .i64 u.Goal)] rfl rfl rfl rfl (fun b7 => ?_))
  refine at_end ?_
  refine at_sub [(0, (.pointer (some ⟨b_c, 0, none⟩))), (3, (.pointer (some ⟨b7, 0, none⟩)))] ⟨rfl, rfl, trivial⟩ ?_
  refine at_then ?_
  refine at_seq ?_
  refine at_region_m [[], [0], [0, 1], [0, 1, 2], [], [4], [0, 1, 2, 3, 4, 5]] [6] [[(b_c, Obj.cells #[(.int .i64 c.w), (.int .i64 c.h), (.int .i64 c.most), (.pointer (some ⟨b_c_units, 0, none⟩)), (.pointer (some ⟨b_c_floor, 0, none⟩))] 92 (0, 0))], [(b_c_units, Obj.cells #[(.int .i64 c.units.most), (.int .i64 c.units.next), (.map (some a_c_units_live)), (.slice a_c_units_order (List.length c.units.order) n_c_units_order)] 102 (0, 0))], H_c_units_live, H_c_units_order, [(b_c_floor, Obj.cells #[(.slice a_c_floor_words (List.length c.floor.words) n_c_floor_words), (.int .i64 c.floor.count)] 104 (0, 0))], H_c_floor_words, F, [(b7, Obj.cells #[(.int .i64 u.Id), (.int .i64 u.Cell), (.int .i64 u.Goal)] 40 (0, 0))]] mix (by kernel_rfl) (by repeat first | exact pf_body | refine pf_then ?_ | refine pf_block ?_) (fun hg pf => ?_)
  refine atm_s T 0 hg pf (by kernel_rfl) (still_o [0, 0, 0, 0, 0, 0, 0, 0] rfl) rfl ?_
  refine atm_s T 1 hg pf (by kernel_rfl) (still_o [0, 0, 0, 0, 0, 0, 0, 0] rfl) rfl ?_
  refine atm_s T 2 hg pf (by kernel_rfl) (still_o [0, 0, 0, 0, 0, 0, 0, 0] rfl) rfl ?_
  refine atm_v 3 hg pf (by kernel_rfl) (still_o [0, 0, 0, 0, 0, 0, 0, 0] rfl) rfl rfl (g_load T rfl rfl rfl rfl (in_var (j := 0) rfl rfl)) ?_
  refine atm_s T 4 hg pf (by kernel_rfl) (still_o [0, 0, 0, 0, 0, 0, 0, 0] rfl) rfl ?_
  refine atm_v 5 hg pf (by kernel_rfl) (still_o [0, 0, 0, 0, 0, 0, 0, 0] rfl) rfl rfl (g_load T rfl rfl rfl rfl (in_var (j := 7) rfl rfl)) ?_
  refine atm_one 6 (by kernel_rfl) ?_
  obtain ⟨v1, V1, H⟩ := bind_e H
  refine at_cR (As := [[(b_c_units, Obj.cells #[(.int .i64 c.units.most), (.int .i64 c.units.next), (.map (some a_c_units_live)), (.slice a_c_units_order (List.length c.units.order) n_c_units_order)] 102 (0, 0))], H_c_units_live, H_c_units_order]) (R := [[(b_c, Obj.cells #[(.int .i64 c.w), (.int .i64 c.h), (.int .i64 c.most), (.pointer (some ⟨b_c_units, 0, none⟩)), (.pointer (some ⟨b_c_floor, 0, none⟩))] 92 (0, 0))], [(b_c_floor, Obj.cells #[(.slice a_c_floor_words (List.length c.floor.words) n_c_floor_words), (.int .i64 c.floor.count)] 104 (0, 0))], H_c_floor_words, F, [(b7, Obj.cells #[(.int .i64 u.Id), (.int .i64 u.Cell), (.int .i64 u.Goal)] 40 (0, 0))]]) (units_Units_Drop.R b_c_units v1) [] [1, 1, 1] rfl rfl rfl rfl has78 rfl rfl (units_Units_Drop.c c.units u.Id v1 _ V1 s_c_units_live s_c_units_order) ?_
  rintro _ _ ⟨a8, H8, a9, n9, H9, s8, s9, rfl, rfl⟩
  refine atm_next (still_l (by kernel_rfl)) ?_
  refine atm_end (by kernel_rfl) ?_
  refine at_sub [(0, (.pointer (some ⟨b_c, 0, none⟩))), (3, (.pointer (some ⟨b7, 0, none⟩)))] ⟨rfl, rfl, trivial⟩ ?_
  refine at_then ?_
  refine at_region_m [[], [0], [0, 1], [0, 1, 2], [], [4], [0, 1, 2, 3, 4, 5]] [6] [[(b_c, Obj.cells #[(.int .i64 c.w), (.int .i64 c.h), (.int .i64 c.most), (.pointer (some ⟨b_c_units, 0, none⟩)), (.pointer (some ⟨b_c_floor, 0, none⟩))] 92 (0, 0))], [(b_c_floor, Obj.cells #[(.slice a_c_floor_words (List.length c.floor.words) n_c_floor_words), (.int .i64 c.floor.count)] 104 (0, 0))], H_c_floor_words, F, [(b7, Obj.cells #[(.int .i64 u.Id), (.int .i64 u.Cell), (.int .i64 u.Goal)] 40 (0, 0))], [(b_c_units, Obj.cells #[(.int .i64 v1.2.most), (.int .i64 v1.2.next), (.map (some a8)), (.slice a9 (List.length v1.2.order) n9)] 102 (0, 0))], H8, H9] mix (by kernel_rfl) (by repeat first | exact pf_body | refine pf_then ?_ | refine pf_block ?_) (fun hg pf => ?_)
  refine atm_s T 0 hg pf (by kernel_rfl) (still_o [0, 0, 0, 0, 0, 0, 0, 0] rfl) rfl ?_
  refine atm_s T 1 hg pf (by kernel_rfl) (still_o [0, 0, 0, 0, 0, 0, 0, 0] rfl) rfl ?_
  refine atm_s T 2 hg pf (by kernel_rfl) (still_o [0, 0, 0, 0, 0, 0, 0, 0] rfl) rfl ?_
  refine atm_v 3 hg pf (by kernel_rfl) (still_o [0, 0, 0, 0, 0, 0, 0, 0] rfl) rfl rfl (g_load T rfl rfl rfl rfl (in_var (j := 0) rfl rfl)) ?_
  refine atm_s T 4 hg pf (by kernel_rfl) (still_o [0, 0, 0, 0, 0, 0, 0, 0] rfl) rfl ?_
  refine atm_v 5 hg pf (by kernel_rfl) (still_o [0, 0, 0, 0, 0, 0, 0, 0] rfl) rfl rfl (g_load T rfl rfl rfl rfl (in_var (j := 4) rfl rfl)) ?_
  refine atm_one 6 (by kernel_rfl) ?_
  obtain ⟨v2, V2, H⟩ := bind_e H
  refine at_cR (As := [[(b_c_floor, Obj.cells #[(.slice a_c_floor_words (List.length c.floor.words) n_c_floor_words), (.int .i64 c.floor.count)] 104 (0, 0))], H_c_floor_words]) (R := [[(b_c, Obj.cells #[(.int .i64 c.w), (.int .i64 c.h), (.int .i64 c.most), (.pointer (some ⟨b_c_units, 0, none⟩)), (.pointer (some ⟨b_c_floor, 0, none⟩))] 92 (0, 0))], F, [(b7, Obj.cells #[(.int .i64 u.Id), (.int .i64 u.Cell), (.int .i64 u.Goal)] 40 (0, 0))], [(b_c_units, Obj.cells #[(.int .i64 v1.2.most), (.int .i64 v1.2.next), (.map (some a8)), (.slice a9 (List.length v1.2.order) n9)] 102 (0, 0))], H8, H9]) (floor_Floor_Take.R b_c_floor v2) [] [1, 1] rfl rfl rfl rfl has79 rfl rfl (floor_Floor_Take.c c.floor u.Cell v2 _ V2 s_c_floor_words) ?_
  rintro _ _ ⟨a10, n10, H10, s10, rfl, rfl⟩
  refine atm_next (still_l (by kernel_rfl)) ?_
  refine atm_end (by kernel_rfl) ?_
  refine at_to [] [0, 0, 1, 1, 1, 1, 1] [[(b_c, Obj.cells #[(.int .i64 c.w), (.int .i64 c.h), (.int .i64 c.most), (.pointer (some ⟨b_c_units, 0, none⟩)), (.pointer (some ⟨b_c_floor, 0, none⟩))] 92 (0, 0))], F, [(b_c_units, Obj.cells #[(.int .i64 v1.2.most), (.int .i64 v1.2.next), (.map (some a8)), (.slice a9 (List.length v1.2.order) n9)] 102 (0, 0))], H8, H9, [(b_c_floor, Obj.cells #[(.slice a10 (List.length v2.2.words) n10), (.int .i64 v2.2.count)] 104 (0, 0))], H10] trivial rfl ?_
  refine at_post_n ?_
  obtain rfl := Option.some.inj H
  exact at_post (T := T) rfl .nil (fun w o => ⟨⟨(_, _), ⟨b_c_units, a8, H8, a9, n9, H9, b_c_floor, a10, n10, H10, s8, s9, s10, rfl, rfl⟩⟩, rfl, own_to [0, 1, 1, 1, 1, 1, 0] rfl o⟩)

/-! ### (*herdsman/crowd.Crowd).Tick: function 33 -/
def crowd_Crowd_Tick.l0 : Nat → ((List api_Unit) × (List api_Move) × (List Int) × Int) → Int → Int → Int → Int → Int → (List (Int × api_Unit)) → List Int → List Int → Int → Int → Option ((List api_Move) × (List Int) × Int × crowd_Crowd)
  | 0, _, _, _, _, _, _, _, _, _, _, _ => none
  | k23 + 1, v2, x13, x14, x15, x16, x17, x18, x19, x20, x21, x22 => if x22 < (List.length v2.2.1 : Int) then (if (0 ≤ x22 ∧ x22 < (List.length v2.2.1 : Int)) then (((units_Units_Get.f (units_Units.mk x16 x17 x18 x19) ((rd v2.2.1 x22).Id)).bind fun v28 => some (v28.1.Id, v28.1.Cell, v28.1.Goal)).bind fun (x24, x25, x26) => if ((rd v2.2.1 x22).To == x26) = true then ((crowd_Crowd_drop.f (crowd_Crowd.mk x13 x14 x15 (units_Units.mk x16 x17 x18 x19) (floor_Floor.mk x20 x21)) (api_Unit.mk x24 x25 x26)).bind fun v30 => crowd_Crowd_Tick.l0 k23 v2 v30.w v30.h v30.most v30.units.most v30.units.next v30.units.live v30.units.order v30.floor.words v30.floor.count (w64 (x22 + 1))) else ((floor_Floor_Shift.f (floor_Floor.mk x20 x21) x25 ((rd v2.2.1 x22).To)).bind fun v31 => (units_Units_Move.f (units_Units.mk x16 x17 x18 x19) ((rd v2.2.1 x22).Id) ((rd v2.2.1 x22).To)).bind fun v32 => crowd_Crowd_Tick.l0 k23 v2 x13 x14 x15 v32.2.most v32.2.next v32.2.live v32.2.order v31.2.words v31.2.count (w64 (x22 + 1)))) else none) else (some (v2.2.1, v2.2.2.1, 0, (crowd_Crowd.mk x13 x14 x15 (units_Units.mk x16 x17 x18 x19) (floor_Floor.mk x20 x21))))
def crowd_Crowd_Tick.f (c : crowd_Crowd) (dirs : (List Int)) : Option ((List api_Move) × (List Int) × Int × crowd_Crowd) := (crowd_Crowd_Units.f c).bind fun v1 => (march_Go.f c.w c.h v1 dirs).bind fun v2 => if (v2.2.2.2 != 0) = true then (some ([], [], v2.2.2.2, c)) else (crowd_Crowd_Tick.l0 fuel v2 c.w c.h c.most c.units.most c.units.next c.units.live c.units.order c.floor.words c.floor.count 0)
def crowd_Crowd_Tick.R (b_c : Nat) (r : ((List api_Move) × (List Int) × Int × crowd_Crowd)) (u : Value) (G : List Hp) : Prop := ∃ (a0 : Option Addr) (n0 : Nat) (H0 : Hp) (a1 : Option Addr) (n1 : Nat) (H1 : Hp) (b2 : Nat) (a3 : Nat) (H3 : Hp) (a4 : Option Addr) (n4 : Nat) (H4 : Hp) (b5 : Nat) (a6 : Option Addr) (n6 : Nat) (H6 : Hp), SliceO k_api_Move 42 r.1 a0 n0 H0 ∧ SliceO (Fl.int .i64) 3 r.2.1 a1 n1 H1 ∧ MapO (Ky.int .i64 u3) (fun x : api_Unit => Value.agg #[.int .i64 x.Id, .int .i64 x.Cell, .int .i64 x.Goal]) r.2.2.2.units.live a3 H3 ∧ SliceO (Fl.int .i64) 3 r.2.2.2.units.order a4 n4 H4 ∧ SliceO (Fl.int .u32) 74 r.2.2.2.floor.words a6 n6 H6 ∧ u = (.tuple #[(.slice a0 (List.length r.1) n0), (.slice a1 (List.length r.2.1) n1), (.int .i64 r.2.2.1)]) ∧ G = [H0, H1, [(b_c, Obj.cells #[(.int .i64 r.2.2.2.w), (.int .i64 r.2.2.2.h), (.int .i64 r.2.2.2.most), (.pointer (some ⟨b2, 0, none⟩)), (.pointer (some ⟨b5, 0, none⟩))] 92 (0, 0))], [(b2, Obj.cells #[(.int .i64 r.2.2.2.units.most), (.int .i64 r.2.2.2.units.next), (.map (some a3)), (.slice a4 (List.length r.2.2.2.units.order) n4)] 102 (0, 0))], H3, H4, [(b5, Obj.cells #[(.slice a6 (List.length r.2.2.2.floor.words) n6), (.int .i64 r.2.2.2.floor.count)] 104 (0, 0))], H6]
set_option maxHeartbeats 4000000 in
theorem crowd_Crowd_Tick.c {b_c : Nat} {b_c_units : Nat} {a_c_units_live : Nat} {H_c_units_live : Hp} {a_c_units_order : Option Addr} {n_c_units_order : Nat} {H_c_units_order : Hp} {b_c_floor : Nat} {a_c_floor_words : Option Addr} {n_c_floor_words : Nat} {H_c_floor_words : Hp} {a_dirs : Option Addr} {n_dirs : Nat} (c : crowd_Crowd) (dirs : (List Int)) (r : ((List api_Move) × (List Int) × Int × crowd_Crowd)) (F : Hp) (H : crowd_Crowd_Tick.f c dirs = some r) (s_c_units_live : MapO (Ky.int .i64 u3) (fun x : api_Unit => Value.agg #[.int .i64 x.Id, .int .i64 x.Cell, .int .i64 x.Goal]) c.units.live a_c_units_live H_c_units_live) (s_c_units_order : SliceO (Fl.int .i64) 3 c.units.order a_c_units_order n_c_units_order H_c_units_order) (s_c_floor_words : SliceO (Fl.int .u32) 74 c.floor.words a_c_floor_words n_c_floor_words H_c_floor_words) (h_dirs : SliceR (Fl.int .i64) dirs a_dirs F) (c_dirs : List.length dirs ≤ n_dirs) :
    CallsL Try.prog 33 [(.pointer (some ⟨b_c, 0, none⟩)), (.slice a_dirs (List.length dirs) n_dirs)] [[(b_c, Obj.cells #[(.int .i64 c.w), (.int .i64 c.h), (.int .i64 c.most), (.pointer (some ⟨b_c_units, 0, none⟩)), (.pointer (some ⟨b_c_floor, 0, none⟩))] 92 (0, 0))], [(b_c_units, Obj.cells #[(.int .i64 c.units.most), (.int .i64 c.units.next), (.map (some a_c_units_live)), (.slice a_c_units_order (List.length c.units.order) n_c_units_order)] 102 (0, 0))], H_c_units_live, H_c_units_order, [(b_c_floor, Obj.cells #[(.slice a_c_floor_words (List.length c.floor.words) n_c_floor_words), (.int .i64 c.floor.count)] 104 (0, 0))], H_c_floor_words, F] (fun p : { p : Value × List Hp // crowd_Crowd_Tick.R b_c r p.1 p.2 } => p.1.1) (fun p => (p.1.2 ++ []) ++ [F]) := by
  unfold crowd_Crowd_Tick.f at H
  refine calls_atL [(0, (.pointer (some ⟨b_c, 0, none⟩))), (1, (.slice a_dirs (List.length dirs) n_dirs))] Try.func33 rfl rfl ⟨rfl, rfl, trivial⟩ (fun W => ?_)
  refine at_seq ?_
  refine at_region [0, 1, 2] rfl ?_
  iterate 3 refine at_s T rfl ?_
  refine at_end ?_
  refine at_sub [(0, (.pointer (some ⟨b_c, 0, none⟩))), (1, (.slice a_dirs (List.length dirs) n_dirs))] ⟨rfl, rfl, trivial⟩ ?_
  refine at_then ?_
  refine at_seq ?_
  refine at_seq ?_
  refine at_region [0, 1] rfl ?_
  iterate 2 refine at_s T rfl ?_
  refine at_end ?_
  refine at_sub [(0, (.pointer (some ⟨b_c, 0, none⟩))), (1, (.slice a_dirs (List.length dirs) n_dirs)), (12, (.bool false))] ⟨rfl, rfl, rfl, trivial⟩ ?_
  refine at_then ?_
  refine at_cond_f rfl ?_
  refine at_skip ?_
  refine at_then ?_
  refine at_seq ?_
  refine at_region_m [[], [0], [0, 1], [0, 1, 2], [], [4], [4, 5], [4, 5, 6], [], [8], [], [0, 1, 2, 3, 4, 5, 6, 7, 8, 9, 10], [0, 1, 2, 3, 4, 5, 6, 7, 8, 9, 10, 11], [0, 1, 2, 3, 4, 5, 6, 7, 8, 9, 10, 11, 12], [0, 1, 2, 3, 4, 5, 6, 7, 8, 9, 10, 11, 12], [0, 1, 2, 3, 4, 5, 6, 7, 8, 9, 10, 11, 12], [0, 1, 2, 3, 4, 5, 6, 7, 8, 9, 10, 11, 12], [0, 1, 2, 3, 4, 5, 6, 7, 8, 9, 10, 11, 12, 13, 14], [0, 1, 2, 3, 4, 5, 6, 7, 8, 9, 10, 11, 12, 13, 14, 15, 17], [0, 1, 2, 3, 4, 5, 6, 7, 8, 9, 10, 11, 12, 13, 14, 15, 16, 17, 18]] [] [[(b_c, Obj.cells #[(.int .i64 c.w), (.int .i64 c.h), (.int .i64 c.most), (.pointer (some ⟨b_c_units, 0, none⟩)), (.pointer (some ⟨b_c_floor, 0, none⟩))] 92 (0, 0))], [(b_c_units, Obj.cells #[(.int .i64 c.units.most), (.int .i64 c.units.next), (.map (some a_c_units_live)), (.slice a_c_units_order (List.length c.units.order) n_c_units_order)] 102 (0, 0))], H_c_units_live, H_c_units_order, [(b_c_floor, Obj.cells #[(.slice a_c_floor_words (List.length c.floor.words) n_c_floor_words), (.int .i64 c.floor.count)] 104 (0, 0))], H_c_floor_words, F] mix (by kernel_rfl) (by repeat first | exact pf_body | refine pf_then ?_ | refine pf_block ?_) (fun hg pf => ?_)
  refine atm_s T 0 hg pf (by kernel_rfl) (still_o [0, 0, 0, 0, 0, 0, 0] rfl) rfl ?_
  refine atm_s T 1 hg pf (by kernel_rfl) (still_o [0, 0, 0, 0, 0, 0, 0] rfl) rfl ?_
  refine atm_s T 2 hg pf (by kernel_rfl) (still_o [0, 0, 0, 0, 0, 0, 0] rfl) rfl ?_
  refine atm_v 3 hg pf (by kernel_rfl) (still_o [0, 0, 0, 0, 0, 0, 0] rfl) rfl rfl (g_load T rfl rfl rfl rfl (in_var (j := 0) rfl rfl)) ?_
  refine atm_s T 4 hg pf (by kernel_rfl) (still_o [0, 0, 0, 0, 0, 0, 0] rfl) rfl ?_
  refine atm_s T 5 hg pf (by kernel_rfl) (still_o [0, 0, 0, 0, 0, 0, 0] rfl) rfl ?_
  refine atm_s T 6 hg pf (by kernel_rfl) (still_o [0, 0, 0, 0, 0, 0, 0] rfl) rfl ?_
  refine atm_v 7 hg pf (by kernel_rfl) (still_o [0, 0, 0, 0, 0, 0, 0] rfl) rfl rfl (g_load T rfl rfl rfl rfl (in_var (j := 0) rfl rfl)) ?_
  refine atm_s T 8 hg pf (by kernel_rfl) (still_o [0, 0, 0, 0, 0, 0, 0] rfl) rfl ?_
  refine atm_s T 10 hg pf (by kernel_rfl) (still_o [0, 0, 0, 0, 0, 0, 0] rfl) rfl ?_
  refine atm_one 9 (by kernel_rfl) ?_
  obtain ⟨v1, V1, H⟩ := bind_e H
  refine at_cR (As := [[(b_c, Obj.cells #[(.int .i64 c.w), (.int .i64 c.h), (.int .i64 c.most), (.pointer (some ⟨b_c_units, 0, none⟩)), (.pointer (some ⟨b_c_floor, 0, none⟩))] 92 (0, 0))], [(b_c_units, Obj.cells #[(.int .i64 c.units.most), (.int .i64 c.units.next), (.map (some a_c_units_live)), (.slice a_c_units_order (List.length c.units.order) n_c_units_order)] 102 (0, 0))], H_c_units_live, H_c_units_order, [(b_c_floor, Obj.cells #[(.slice a_c_floor_words (List.length c.floor.words) n_c_floor_words), (.int .i64 c.floor.count)] 104 (0, 0))], H_c_floor_words]) (R := [F]) (crowd_Crowd_Units.R v1) [[(b_c, Obj.cells #[(.int .i64 c.w), (.int .i64 c.h), (.int .i64 c.most), (.pointer (some ⟨b_c_units, 0, none⟩)), (.pointer (some ⟨b_c_floor, 0, none⟩))] 92 (0, 0))], [(b_c_units, Obj.cells #[(.int .i64 c.units.most), (.int .i64 c.units.next), (.map (some a_c_units_live)), (.slice a_c_units_order (List.length c.units.order) n_c_units_order)] 102 (0, 0))], H_c_units_live, H_c_units_order, [(b_c_floor, Obj.cells #[(.slice a_c_floor_words (List.length c.floor.words) n_c_floor_words), (.int .i64 c.floor.count)] 104 (0, 0))], H_c_floor_words] [0, 0, 0, 0, 0, 0] rfl rfl rfl rfl has27 rfl rfl (crowd_Crowd_Units.c c v1 _ V1 s_c_units_live s_c_units_order s_c_floor_words) ?_
  rintro _ _ ⟨a7, n7, H7, s7, rfl, rfl⟩
  refine atm_next (still_o [2, 2, 2, 2, 2, 2, 0] rfl) ?_
  refine atm_one 11 (by kernel_rfl) ?_
  obtain ⟨v2, V2, H⟩ := bind_e H
  refine at_cR (march_Go.R v2) [] [] rfl rfl rfl rfl has15 rfl rfl (march_Go.c c.w c.h v1 dirs v2 _ V2 (own_of s7 (j := 1) rfl) s7.cap_le (ro_of h_dirs (j := 0) rfl) c_dirs) ?_
  rintro _ _ ⟨a8, n8, H8, a9, n9, H9, a10, n10, H10, s8, s9, s10, rfl, rfl⟩
  refine atm_next (still_o [2, 2, 2, 2, 2, 2, 0] rfl) ?_
  refine atm_s T 12 hg pf (by kernel_rfl) (still_o [2, 2, 2, 2, 2, 2, 0] rfl) rfl ?_
  refine atm_s T 13 hg pf (by kernel_rfl) (still_o [2, 2, 2, 2, 2, 2, 0] rfl) rfl ?_
  refine atm_s T 14 hg pf (by kernel_rfl) (still_o [2, 2, 2, 2, 2, 2, 0] rfl) rfl ?_
  refine atm_s T 15 hg pf (by kernel_rfl) (still_o [2, 2, 2, 2, 2, 2, 0] rfl) rfl ?_
  refine atm_s T 16 hg pf (by kernel_rfl) (still_o [2, 2, 2, 2, 2, 2, 0] rfl) rfl ?_
  refine atm_s T 17 hg pf (by kernel_rfl) (still_o [2, 2, 2, 2, 2, 2, 0] rfl) rfl ?_
  refine atm_s T 18 hg pf (by kernel_rfl) (still_o [2, 2, 2, 2, 2, 2, 0] rfl) rfl ?_
  refine atm_s T 19 hg pf (by kernel_rfl) (still_o [2, 2, 2, 2, 2, 2, 0] rfl) rfl ?_
  refine atm_end (by kernel_rfl) ?_
  refine at_to [(0, (.pointer (some ⟨b_c, 0, none⟩))), (4, (.slice a9 (List.length v2.2.1) n9)), (5, (.slice a10 (List.length v2.2.2.1) n10)), (6, (.int .i64 v2.2.2.2))] [0, 1, 1, 1, 1, 1, 1, 2, 2] [F, [(b_c, Obj.cells #[(.int .i64 c.w), (.int .i64 c.h), (.int .i64 c.most), (.pointer (some ⟨b_c_units, 0, none⟩)), (.pointer (some ⟨b_c_floor, 0, none⟩))] 92 (0, 0))], [(b_c_units, Obj.cells #[(.int .i64 c.units.most), (.int .i64 c.units.next), (.map (some a_c_units_live)), (.slice a_c_units_order (List.length c.units.order) n_c_units_order)] 102 (0, 0))], H_c_units_live, H_c_units_order, [(b_c_floor, Obj.cells #[(.slice a_c_floor_words (List.length c.floor.words) n_c_floor_words), (.int .i64 c.floor.count)] 104 (0, 0))], H_c_floor_words, H9, H10] ⟨rfl, rfl, rfl, rfl, trivial⟩ rfl ?_
  refine at_then ?_
  refine at_seq ?_
  refine at_seq ?_
  refine at_region [0, 1] rfl ?_
  iterate 2 refine at_s T rfl ?_
  refine at_end ?_
  refine at_sub [(0, (.pointer (some ⟨b_c, 0, none⟩))), (4, (.slice a9 (List.length v2.2.1) n9)), (5, (.slice a10 (List.length v2.2.2.1) n10)), (6, (.int .i64 v2.2.2.2)), (31, (.bool (v2.2.2.2 != 0)))] ⟨rfl, rfl, rfl, rfl, rfl, trivial⟩ ?_
  refine at_then ?_
  refine at_cond rfl (fun c3 => ?_) (fun c3 => ?_)
  · replace H := if_t c3 H
    refine at_seq ?_
    refine at_region [0, 1, 2, 3] rfl ?_
    iterate 4 refine at_s T rfl ?_
    refine at_end ?_
    refine at_to [(4, (.slice none 0 0)), (5, (.slice none 0 0)), (6, (.int .i64 v2.2.2.2))] [0, 0, 0, 0, 0, 0, 0] [F, [(b_c, Obj.cells #[(.int .i64 c.w), (.int .i64 c.h), (.int .i64 c.most), (.pointer (some ⟨b_c_units, 0, none⟩)), (.pointer (some ⟨b_c_floor, 0, none⟩))] 92 (0, 0))], [(b_c_units, Obj.cells #[(.int .i64 c.units.most), (.int .i64 c.units.next), (.map (some a_c_units_live)), (.slice a_c_units_order (List.length c.units.order) n_c_units_order)] 102 (0, 0))], H_c_units_live, H_c_units_order, [(b_c_floor, Obj.cells #[(.slice a_c_floor_words (List.length c.floor.words) n_c_floor_words), (.int .i64 c.floor.count)] 104 (0, 0))], H_c_floor_words] ⟨rfl, rfl, rfl, trivial⟩ rfl ?_
    refine at_then ?_
    refine at_ret ?_
    refine at_rt ?_
    obtain rfl := Option.some.inj H
    refine at_addnil ?_
    refine at_addnil ?_
    exact at_post (T := T) rfl (.tmp rfl (.tmp rfl (.tmp rfl .nil))) (fun w o => ⟨⟨(_, _), ⟨none, 0, [], none, 0, [], b_c_units, a_c_units_live, H_c_units_live, a_c_units_order, n_c_units_order, H_c_units_order, b_c_floor, a_c_floor_words, n_c_floor_words, H_c_floor_words, SliceO.nil, SliceO.nil, s_c_units_live, s_c_units_order, s_c_floor_words, rfl, rfl⟩⟩, rfl, own_to [7, 7, 1, 1, 1, 1, 1, 1, 0] rfl o⟩)
  · replace H := if_f (bf c3) H
    refine at_skip ?_
    refine at_then ?_
    refine at_seq ?_
    refine at_seq ?_
    refine at_region [0, 1, 2] rfl ?_
    iterate 3 refine at_s T rfl ?_
    refine at_end ?_
    refine at_sub [(0, (.pointer (some ⟨b_c, 0, none⟩))), (4, (.slice a9 (List.length v2.2.1) n9)), (5, (.slice a10 (List.length v2.2.2.1) n10)), (33, (.slice a9 (List.length v2.2.1) n9)), (34, (.int .i64 (List.length v2.2.1 : Int))), (35, (.int .i64 0))] ⟨rfl, rfl, rfl, rfl, rfl, rfl, trivial⟩ ?_
    refine at_then ?_
    refine at_block ?_
    refine at_loopL (σ := Nat × Int × Int × Int × Int × Int × (List (Int × api_Unit)) × List Int × List Int × Int × Int × Nat × Nat × Hp × Option Addr × Nat × Hp × Nat × Option Addr × Nat × Hp) (fun ⟨k23, x13, x14, x15, x16, x17, x18, x19, x20, x21, x22, b18, a19, H19, a20, n20, H20, b21, a22, n22, H22⟩ => crowd_Crowd_Tick.l0 k23 v2 x13 x14 x15 x16 x17 x18 x19 x20 x21 x22 = some r ∧ MapO (Ky.int .i64 u3) (fun x : api_Unit => Value.agg #[.int .i64 x.Id, .int .i64 x.Cell, .int .i64 x.Goal]) x18 a19 H19 ∧ SliceO (Fl.int .i64) 3 x19 a20 n20 H20 ∧ SliceO (Fl.int .u32) 74 x20 a22 n22 H22) (fun ⟨k23, x13, x14, x15, x16, x17, x18, x19, x20, x21, x22, b18, a19, H19, a20, n20, H20, b21, a22, n22, H22⟩ => [(0, (.pointer (some ⟨b_c, 0, none⟩))), (4, (.slice a9 (List.length v2.2.1) n9)), (5, (.slice a10 (List.length v2.2.2.1) n10)), (33, (.slice a9 (List.length v2.2.1) n9)), (34, (.int .i64 (List.length v2.2.1 : Int))), (35, (.int .i64 x22))]) (fun ⟨k23, x13, x14, x15, x16, x17, x18, x19, x20, x21, x22, b18, a19, H19, a20, n20, H20, b21, a22, n22, H22⟩ => [F, [(b_c, Obj.cells #[(.int .i64 x13), (.int .i64 x14), (.int .i64 x15), (.pointer (some ⟨b18, 0, none⟩)), (.pointer (some ⟨b21, 0, none⟩))] 92 (0, 0))], [(b18, Obj.cells #[(.int .i64 x16), (.int .i64 x17), (.map (some a19)), (.slice a20 (List.length x19) n20)] 102 (0, 0))], H19, H20, [(b21, Obj.cells #[(.slice a22 (List.length x20) n22), (.int .i64 x21)] 104 (0, 0))], H22, H9, H10]) (fun s => s.1) (fuel, c.w, c.h, c.most, c.units.most, c.units.next, c.units.live, c.units.order, c.floor.words, c.floor.count, 0, b_c_units, a_c_units_live, H_c_units_live, a_c_units_order, n_c_units_order, H_c_units_order, b_c_floor, a_c_floor_words, n_c_floor_words, H_c_floor_words) [0, 0, 0, 0, 0, 0, 0, 0, 0] ⟨H, s_c_units_live, s_c_units_order, s_c_floor_words⟩ ⟨rfl, rfl, rfl, rfl, rfl, rfl, trivial⟩ rfl ?_
    rintro ⟨k23, x13, x14, x15, x16, x17, x18, x19, x20, x21, x22, b18, a19, H19, a20, n20, H20, b21, a22, n22, H22⟩ ⟨Z4, s19, s20, s22⟩
    replace Z4 : crowd_Crowd_Tick.l0 k23 v2 x13 x14 x15 x16 x17 x18 x19 x20 x21 x22 = some r := Z4
    rcases k23 with _ | k23
    · rw [crowd_Crowd_Tick.l0] at Z4; cases Z4
    · rw [crowd_Crowd_Tick.l0] at Z4
      refine at_seq ?_
      refine at_region [0] rfl ?_
      refine at_s T rfl ?_
      refine at_end ?_
      refine at_sub [(0, (.pointer (some ⟨b_c, 0, none⟩))), (4, (.slice a9 (List.length v2.2.1) n9)), (5, (.slice a10 (List.length v2.2.2.1) n10)), (33, (.slice a9 (List.length v2.2.1) n9)), (34, (.int .i64 (List.length v2.2.1 : Int))), (35, (.int .i64 x22)), (36, (.bool (decide (x22 < (List.length v2.2.1 : Int)))))] ⟨rfl, rfl, rfl, rfl, rfl, rfl, rfl, trivial⟩ ?_
      refine at_then ?_
      refine at_seq ?_
      refine at_cond rfl (fun c5 => ?_) (fun c5 => ?_)
      · replace Z4 := if_t (of_decide_eq_true c5) Z4
        refine at_skip ?_
        refine at_then ?_
        refine at_seq ?_
        refine at_block ?_
        refine at_seq ?_
        refine at_region [0, 1, 2, 3] rfl ?_
        obtain ⟨c6, Z4⟩ := chk_e Z4
        obtain ⟨q23, o23, e23⟩ := s9.r.addr c6.1 c6.2
        refine at_v rfl (g_index T rfl rfl rfl rfl rfl e23 c6.1 c6.2) ?_
        refine at_v rfl (g_loadA T (cs := [(.int .i64 (rd v2.2.1 x22).Id), (.int .i64 (rd v2.2.1 x22).To)]) rfl rfl rfl rfl rfl rfl (in_elemA (k := k_api_Move) (own_of s9 (j := 7) rfl) e23 c6 rfl)) ?_
        refine at_cons (at_al T [(.int .i64 0), (.int .i64 0)] rfl rfl rfl rfl (fun b24 => ?_))
        refine at_cons (at_st T 9 [(.int .i64 (rd v2.2.1 x22).Id), (.int .i64 (rd v2.2.1 x22).To)] rfl rfl rfl rfl rfl rfl rfl rfl rfl rfl ?_)
        refine at_end ?_
        refine at_sub [(0, (.pointer (some ⟨b_c, 0, none⟩))), (4, (.slice a9 (List.length v2.2.1) n9)), (5, (.slice a10 (List.length v2.2.2.1) n10)), (8, (.pointer (some ⟨b24, 0, none⟩))), (33, (.slice a9 (List.length v2.2.1) n9)), (34, (.int .i64 (List.length v2.2.1 : Int))), (35, (.int .i64 x22))] ⟨rfl, rfl, rfl, rfl, rfl, rfl, rfl, trivial⟩ ?_
        refine at_then ?_
        obtain ⟨z27, Z7, Z4⟩ := bind_e Z4
        refine at_seq_mid (σ := Int × Int × Int × Nat) (fun ⟨x24, x25, x26, b25⟩ => (x24, x25, x26) = z27) (fun ⟨x24, x25, x26, b25⟩ => [(0, (.pointer (some ⟨b_c, 0, none⟩))), (4, (.slice a9 (List.length v2.2.1) n9)), (5, (.slice a10 (List.length v2.2.2.1) n10)), (8, (.pointer (some ⟨b24, 0, none⟩))), (9, (.pointer (some ⟨b25, 0, none⟩))), (33, (.slice a9 (List.length v2.2.1) n9)), (34, (.int .i64 (List.length v2.2.1 : Int))), (35, (.int .i64 x22))]) (fun ⟨x24, x25, x26, b25⟩ => [F, [(b_c, Obj.cells #[(.int .i64 x13), (.int .i64 x14), (.int .i64 x15), (.pointer (some ⟨b18, 0, none⟩)), (.pointer (some ⟨b21, 0, none⟩))] 92 (0, 0))], [(b18, Obj.cells #[(.int .i64 x16), (.int .i64 x17), (.map (some a19)), (.slice a20 (List.length x19) n20)] 102 (0, 0))], H19, H20, [(b21, Obj.cells #[(.slice a22 (List.length x20) n22), (.int .i64 x21)] 104 (0, 0))], H22, H9, H10, [(b24, Obj.cells #[(.int .i64 (rd v2.2.1 x22).Id), (.int .i64 (rd v2.2.1 x22).To)] 42 (0, 0))], [(b25, Obj.cells #[(.int .i64 x24), (.int .i64 x25), (.int .i64 x26)] 40 (0, 0))]]) ?_ ?_
        · refine at_region_m [[], [0], [0, 1], [0, 1, 2], [], [4], [0, 1, 2, 3, 4, 5], [0, 1, 2, 3, 4, 5, 6], [0, 1, 2, 3, 4, 5, 6, 7], [0, 1, 2, 3, 4, 5, 6, 7], [], [0, 1, 2, 3, 4, 5, 6, 7, 8, 10], [0, 1, 2, 3, 4, 5, 6, 7, 8, 9, 10, 11]] [] [F, [(b_c, Obj.cells #[(.int .i64 x13), (.int .i64 x14), (.int .i64 x15), (.pointer (some ⟨b18, 0, none⟩)), (.pointer (some ⟨b21, 0, none⟩))] 92 (0, 0))], [(b18, Obj.cells #[(.int .i64 x16), (.int .i64 x17), (.map (some a19)), (.slice a20 (List.length x19) n20)] 102 (0, 0))], H19, H20, [(b21, Obj.cells #[(.slice a22 (List.length x20) n22), (.int .i64 x21)] 104 (0, 0))], H22, H9, H10, [(b24, Obj.cells #[(.int .i64 (rd v2.2.1 x22).Id), (.int .i64 (rd v2.2.1 x22).To)] 42 (0, 0))]] mix (by kernel_rfl) (by repeat first | exact pf_body | refine pf_then ?_ | refine pf_block ?_) (fun hg pf => ?_)
          refine atm_s T 0 hg pf (by kernel_rfl) (still_o [0, 0, 0, 0, 0, 0, 0, 0, 0, 0] rfl) rfl ?_
          refine atm_s T 1 hg pf (by kernel_rfl) (still_o [0, 0, 0, 0, 0, 0, 0, 0, 0, 0] rfl) rfl ?_
          refine atm_s T 2 hg pf (by kernel_rfl) (still_o [0, 0, 0, 0, 0, 0, 0, 0, 0, 0] rfl) rfl ?_
          refine atm_v 3 hg pf (by kernel_rfl) (still_o [0, 0, 0, 0, 0, 0, 0, 0, 0, 0] rfl) rfl rfl (g_load T rfl rfl rfl rfl (in_var (j := 1) rfl rfl)) ?_
          refine atm_s T 4 hg pf (by kernel_rfl) (still_o [0, 0, 0, 0, 0, 0, 0, 0, 0, 0] rfl) rfl ?_
          refine atm_v 5 hg pf (by kernel_rfl) (still_o [0, 0, 0, 0, 0, 0, 0, 0, 0, 0] rfl) rfl rfl (g_load T rfl rfl rfl rfl (in_var (j := 9) rfl rfl)) ?_
          refine atm_two 6 10 (by kernel_rfl) ?_ ?_
          · obtain ⟨v28, V8, Z7⟩ := bind_e Z7
            refine at_c (As := [[(b18, Obj.cells #[(.int .i64 x16), (.int .i64 x17), (.map (some a19)), (.slice a20 (List.length x19) n20)] 102 (0, 0))], H19, H20]) (R := [F, [(b_c, Obj.cells #[(.int .i64 x13), (.int .i64 x14), (.int .i64 x15), (.pointer (some ⟨b18, 0, none⟩)), (.pointer (some ⟨b21, 0, none⟩))] 92 (0, 0))], [(b21, Obj.cells #[(.slice a22 (List.length x20) n22), (.int .i64 x21)] 104 (0, 0))], H22, H9, H10, [(b24, Obj.cells #[(.int .i64 (rd v2.2.1 x22).Id), (.int .i64 (rd v2.2.1 x22).To)] 42 (0, 0))]]) (B := fun _ => [[(b18, Obj.cells #[(.int .i64 x16), (.int .i64 x17), (.map (some a19)), (.slice a20 (List.length x19) n20)] 102 (0, 0))], H19, H20]) [2, 2, 2] rfl rfl rfl rfl has60 rfl rfl (units_Units_Get.c (units_Units.mk x16 x17 x18 x19) ((rd v2.2.1 x22).Id) v28 _ V8 s19 s20) (fun _ => ?_)
            refine atm_next (still_o [0, 0, 5, 5, 5, 0, 0, 0, 0, 0] rfl) ?_
            refine atm_s T 7 hg pf (by kernel_rfl) (still_o [0, 0, 5, 5, 5, 0, 0, 0, 0, 0] rfl) rfl ?_
            refine atm_s T 8 hg pf (by kernel_rfl) (still_o [0, 0, 5, 5, 5, 0, 0, 0, 0, 0] rfl) rfl ?_
            refine atm_s T 9 hg pf (by kernel_rfl) (still_o [0, 0, 5, 5, 5, 0, 0, 0, 0, 0] rfl) rfl ?_
            refine atm_one 10 (by kernel_rfl) ?_
            refine at_al T [(.int .i64 0), (.int .i64 0), (.int .i64 0)] rfl rfl rfl rfl (fun b26 => ?_)
            refine atm_next (still_o [0, 0, 5, 5, 5, 0, 0, 0, 0, 0] rfl) ?_
            refine atm_one 11 (by kernel_rfl) ?_
            refine at_st T 10 [(.int .i64 v28.1.Id), (.int .i64 v28.1.Cell), (.int .i64 v28.1.Goal)] rfl rfl rfl rfl rfl rfl rfl rfl rfl rfl ?_
            refine atm_next (still_o [0, 0, 5, 5, 5, 0, 0, 0, 0, 0] rfl) ?_
            refine atm_s T 12 hg pf (by kernel_rfl) (still_o [0, 0, 5, 5, 5, 0, 0, 0, 0, 0] rfl) rfl ?_
            refine atm_end (by kernel_rfl) ?_
            refine at_sub [(0, (.pointer (some ⟨b_c, 0, none⟩))), (4, (.slice a9 (List.length v2.2.1) n9)), (5, (.slice a10 (List.length v2.2.2.1) n10)), (8, (.pointer (some ⟨b24, 0, none⟩))), (9, (.pointer (some ⟨b26, 0, none⟩))), (33, (.slice a9 (List.length v2.2.1) n9)), (34, (.int .i64 (List.length v2.2.1 : Int))), (35, (.int .i64 x22))] ⟨rfl, rfl, rfl, rfl, rfl, rfl, rfl, rfl, trivial⟩ ?_
            refine at_then ?_
            obtain rfl := Option.some.inj Z7
            exact at_mid (v28.1.Id, v28.1.Cell, v28.1.Goal, b26) [0, 0, 5, 5, 5, 0, 0, 0, 0, 0, 0] rfl ⟨rfl, rfl, rfl, rfl, rfl, rfl, rfl, rfl, trivial⟩ rfl
          · refine at_al T [(.int .i64 0), (.int .i64 0), (.int .i64 0)] rfl rfl rfl rfl (fun b27 => ?_)
            refine atm_next (still_o [0, 0, 0, 0, 0, 0, 0, 0, 0, 0] rfl) ?_
            refine atm_one 6 (by kernel_rfl) ?_
            obtain ⟨v29, V9, Z7⟩ := bind_e Z7
            refine at_c (As := [[(b18, Obj.cells #[(.int .i64 x16), (.int .i64 x17), (.map (some a19)), (.slice a20 (List.length x19) n20)] 102 (0, 0))], H19, H20]) (R := [F, [(b_c, Obj.cells #[(.int .i64 x13), (.int .i64 x14), (.int .i64 x15), (.pointer (some ⟨b18, 0, none⟩)), (.pointer (some ⟨b21, 0, none⟩))] 92 (0, 0))], [(b21, Obj.cells #[(.slice a22 (List.length x20) n22), (.int .i64 x21)] 104 (0, 0))], H22, H9, H10, [(b24, Obj.cells #[(.int .i64 (rd v2.2.1 x22).Id), (.int .i64 (rd v2.2.1 x22).To)] 42 (0, 0))], [(b27, Obj.cells #[(.int .i64 0), (.int .i64 0), (.int .i64 0)] 40 (0, 0))]]) (B := fun _ => [[(b18, Obj.cells #[(.int .i64 x16), (.int .i64 x17), (.map (some a19)), (.slice a20 (List.length x19) n20)] 102 (0, 0))], H19, H20]) [2, 2, 2] rfl rfl rfl rfl has60 rfl rfl (units_Units_Get.c (units_Units.mk x16 x17 x18 x19) ((rd v2.2.1 x22).Id) v29 _ V9 s19 s20) (fun _ => ?_)
            refine atm_next (still_o [0, 0, 6, 6, 6, 0, 0, 0, 0, 0] rfl) ?_
            refine atm_s T 7 hg pf (by kernel_rfl) (still_o [0, 0, 6, 6, 6, 0, 0, 0, 0, 0] rfl) rfl ?_
            refine atm_s T 8 hg pf (by kernel_rfl) (still_o [0, 0, 6, 6, 6, 0, 0, 0, 0, 0] rfl) rfl ?_
            refine atm_s T 9 hg pf (by kernel_rfl) (still_o [0, 0, 6, 6, 6, 0, 0, 0, 0, 0] rfl) rfl ?_
            refine atm_one 11 (by kernel_rfl) ?_
            refine at_st T 7 [(.int .i64 v29.1.Id), (.int .i64 v29.1.Cell), (.int .i64 v29.1.Goal)] rfl rfl rfl rfl rfl rfl rfl rfl rfl rfl ?_
            refine atm_next (still_o [0, 0, 6, 6, 6, 0, 0, 0, 0, 0] rfl) ?_
            refine atm_s T 12 hg pf (by kernel_rfl) (still_o [0, 0, 6, 6, 6, 0, 0, 0, 0, 0] rfl) rfl ?_
            refine atm_end (by kernel_rfl) ?_
            refine at_sub [(0, (.pointer (some ⟨b_c, 0, none⟩))), (4, (.slice a9 (List.length v2.2.1) n9)), (5, (.slice a10 (List.length v2.2.2.1) n10)), (8, (.pointer (some ⟨b24, 0, none⟩))), (9, (.pointer (some ⟨b27, 0, none⟩))), (33, (.slice a9 (List.length v2.2.1) n9)), (34, (.int .i64 (List.length v2.2.1 : Int))), (35, (.int .i64 x22))] ⟨rfl, rfl, rfl, rfl, rfl, rfl, rfl, rfl, trivial⟩ ?_
            refine at_then ?_
            obtain rfl := Option.some.inj Z7
            exact at_mid (v29.1.Id, v29.1.Cell, v29.1.Goal, b27) [0, 0, 6, 6, 6, 0, 0, 0, 0, 0, 0] rfl ⟨rfl, rfl, rfl, rfl, rfl, rfl, rfl, rfl, trivial⟩ rfl
        · rintro ⟨x24, x25, x26, b25⟩ rfl
          refine at_seq ?_
          refine at_seq ?_
          refine at_region [0, 1, 2, 3, 4] rfl ?_
          refine at_s T rfl ?_
          refine at_v rfl (g_load T rfl rfl rfl rfl (in_var (j := 9) rfl rfl)) ?_
          refine at_s T rfl ?_
          refine at_v rfl (g_load T rfl rfl rfl rfl (in_var (j := 10) rfl rfl)) ?_
          refine at_s T rfl ?_
          refine at_end ?_
          refine at_sub [(0, (.pointer (some ⟨b_c, 0, none⟩))), (4, (.slice a9 (List.length v2.2.1) n9)), (5, (.slice a10 (List.length v2.2.2.1) n10)), (8, (.pointer (some ⟨b24, 0, none⟩))), (9, (.pointer (some ⟨b25, 0, none⟩))), (33, (.slice a9 (List.length v2.2.1) n9)), (34, (.int .i64 (List.length v2.2.1 : Int))), (35, (.int .i64 x22)), (53, (.bool ((rd v2.2.1 x22).To == x26)))] ⟨rfl, rfl, rfl, rfl, rfl, rfl, rfl, rfl, rfl, trivial⟩ ?_
          refine at_then ?_
          refine at_cond rfl (fun c10 => ?_) (fun c10 => ?_)
          · replace Z4 := if_t c10 Z4
            refine at_seq ?_
            refine at_region [0, 1, 2] rfl ?_
            refine at_s T rfl ?_
            refine at_v rfl (g_loadA T (cs := [(.int .i64 x24), (.int .i64 x25), (.int .i64 x26)]) rfl rfl rfl rfl rfl rfl (in_varA (j := 10) rfl rfl)) ?_
            obtain ⟨v30, V11, Z4⟩ := bind_e Z4
            refine at_cons (at_cR (As := [[(b_c, Obj.cells #[(.int .i64 x13), (.int .i64 x14), (.int .i64 x15), (.pointer (some ⟨b18, 0, none⟩)), (.pointer (some ⟨b21, 0, none⟩))] 92 (0, 0))], [(b18, Obj.cells #[(.int .i64 x16), (.int .i64 x17), (.map (some a19)), (.slice a20 (List.length x19) n20)] 102 (0, 0))], H19, H20, [(b21, Obj.cells #[(.slice a22 (List.length x20) n22), (.int .i64 x21)] 104 (0, 0))], H22]) (R := [F, H9, H10, [(b24, Obj.cells #[(.int .i64 (rd v2.2.1 x22).Id), (.int .i64 (rd v2.2.1 x22).To)] 42 (0, 0))], [(b25, Obj.cells #[(.int .i64 x24), (.int .i64 x25), (.int .i64 x26)] 40 (0, 0))]]) (crowd_Crowd_drop.R b_c v30) [] [1, 1, 1, 1, 1, 1] rfl rfl rfl rfl has62 rfl rfl (crowd_Crowd_drop.c (crowd_Crowd.mk x13 x14 x15 (units_Units.mk x16 x17 x18 x19) (floor_Floor.mk x20 x21)) (api_Unit.mk x24 x25 x26) v30 _ V11 s19 s20 s22) ?_)
            rintro _ _ ⟨b28, a29, H29, a30, n30, H30, b31, a32, n32, H32, s29, s30, s32, rfl, rfl⟩
            refine at_end ?_
            refine at_to [(0, (.pointer (some ⟨b_c, 0, none⟩))), (4, (.slice a9 (List.length v2.2.1) n9)), (5, (.slice a10 (List.length v2.2.2.1) n10)), (33, (.slice a9 (List.length v2.2.1) n9)), (34, (.int .i64 (List.length v2.2.1 : Int))), (35, (.int .i64 x22))] [0, 0, 0, 2, 2, 2, 2, 2, 2] [F, H9, H10, [(b_c, Obj.cells #[(.int .i64 v30.w), (.int .i64 v30.h), (.int .i64 v30.most), (.pointer (some ⟨b28, 0, none⟩)), (.pointer (some ⟨b31, 0, none⟩))] 92 (0, 0))], [(b28, Obj.cells #[(.int .i64 v30.units.most), (.int .i64 v30.units.next), (.map (some a29)), (.slice a30 (List.length v30.units.order) n30)] 102 (0, 0))], H29, H30, [(b31, Obj.cells #[(.slice a32 (List.length v30.floor.words) n32), (.int .i64 v30.floor.count)] 104 (0, 0))], H32] ⟨rfl, rfl, rfl, rfl, rfl, rfl, trivial⟩ rfl ?_
            refine at_then ?_
            refine at_exit ?_
            refine at_xt ?_
            refine at_xb ?_
            refine at_then ?_
            refine at_region [0, 1] rfl ?_
            iterate 2 refine at_s T rfl ?_
            refine at_end ?_
            refine at_sub [(0, (.pointer (some ⟨b_c, 0, none⟩))), (4, (.slice a9 (List.length v2.2.1) n9)), (5, (.slice a10 (List.length v2.2.2.1) n10)), (33, (.slice a9 (List.length v2.2.1) n9)), (34, (.int .i64 (List.length v2.2.1 : Int))), (35, (.int .i64 (w64 (x22 + 1))))] ⟨rfl, rfl, rfl, rfl, rfl, rfl, trivial⟩ ?_
            refine at_then ?_
            exact at_roundL (k23, v30.w, v30.h, v30.most, v30.units.most, v30.units.next, v30.units.live, v30.units.order, v30.floor.words, v30.floor.count, (w64 (x22 + 1)), b28, a29, H29, a30, n30, H30, b31, a32, n32, H32) [0, 2, 2, 2, 2, 2, 2, 0, 0] ⟨Z4, s29, s30, s32⟩ (Nat.lt_succ_self _) ⟨rfl, rfl, rfl, rfl, rfl, rfl, trivial⟩ rfl
          · replace Z4 := if_f (bf c10) Z4
            refine at_skip ?_
            refine at_then ?_
            refine at_seq ?_
            refine at_region_m [[], [0], [0, 1], [0, 1, 2], [], [4], [], [6], [0, 1, 2, 3, 4, 5, 6, 7]] [8] [F, [(b_c, Obj.cells #[(.int .i64 x13), (.int .i64 x14), (.int .i64 x15), (.pointer (some ⟨b18, 0, none⟩)), (.pointer (some ⟨b21, 0, none⟩))] 92 (0, 0))], [(b18, Obj.cells #[(.int .i64 x16), (.int .i64 x17), (.map (some a19)), (.slice a20 (List.length x19) n20)] 102 (0, 0))], H19, H20, [(b21, Obj.cells #[(.slice a22 (List.length x20) n22), (.int .i64 x21)] 104 (0, 0))], H22, H9, H10, [(b24, Obj.cells #[(.int .i64 (rd v2.2.1 x22).Id), (.int .i64 (rd v2.2.1 x22).To)] 42 (0, 0))], [(b25, Obj.cells #[(.int .i64 x24), (.int .i64 x25), (.int .i64 x26)] 40 (0, 0))]] mix (by kernel_rfl) (by repeat first | exact pf_body | refine pf_then ?_ | refine pf_block ?_) (fun hg pf => ?_)
            refine atm_s T 0 hg pf (by kernel_rfl) (still_o [0, 0, 0, 0, 0, 0, 0, 0, 0, 0, 0] rfl) rfl ?_
            refine atm_s T 1 hg pf (by kernel_rfl) (still_o [0, 0, 0, 0, 0, 0, 0, 0, 0, 0, 0] rfl) rfl ?_
            refine atm_s T 2 hg pf (by kernel_rfl) (still_o [0, 0, 0, 0, 0, 0, 0, 0, 0, 0, 0] rfl) rfl ?_
            refine atm_v 3 hg pf (by kernel_rfl) (still_o [0, 0, 0, 0, 0, 0, 0, 0, 0, 0, 0] rfl) rfl rfl (g_load T rfl rfl rfl rfl (in_var (j := 1) rfl rfl)) ?_
            refine atm_s T 4 hg pf (by kernel_rfl) (still_o [0, 0, 0, 0, 0, 0, 0, 0, 0, 0, 0] rfl) rfl ?_
            refine atm_v 5 hg pf (by kernel_rfl) (still_o [0, 0, 0, 0, 0, 0, 0, 0, 0, 0, 0] rfl) rfl rfl (g_load T rfl rfl rfl rfl (in_var (j := 10) rfl rfl)) ?_
            refine atm_s T 6 hg pf (by kernel_rfl) (still_o [0, 0, 0, 0, 0, 0, 0, 0, 0, 0, 0] rfl) rfl ?_
            refine atm_v 7 hg pf (by kernel_rfl) (still_o [0, 0, 0, 0, 0, 0, 0, 0, 0, 0, 0] rfl) rfl rfl (g_load T rfl rfl rfl rfl (in_var (j := 9) rfl rfl)) ?_
            refine atm_one 8 (by kernel_rfl) ?_
            obtain ⟨v31, V12, Z4⟩ := bind_e Z4
            refine at_cR (As := [[(b21, Obj.cells #[(.slice a22 (List.length x20) n22), (.int .i64 x21)] 104 (0, 0))], H22]) (R := [F, [(b_c, Obj.cells #[(.int .i64 x13), (.int .i64 x14), (.int .i64 x15), (.pointer (some ⟨b18, 0, none⟩)), (.pointer (some ⟨b21, 0, none⟩))] 92 (0, 0))], [(b18, Obj.cells #[(.int .i64 x16), (.int .i64 x17), (.map (some a19)), (.slice a20 (List.length x19) n20)] 102 (0, 0))], H19, H20, H9, H10, [(b24, Obj.cells #[(.int .i64 (rd v2.2.1 x22).Id), (.int .i64 (rd v2.2.1 x22).To)] 42 (0, 0))], [(b25, Obj.cells #[(.int .i64 x24), (.int .i64 x25), (.int .i64 x26)] 40 (0, 0))]]) (floor_Floor_Shift.R b21 v31) [] [5, 5] rfl rfl rfl rfl has64 rfl rfl (floor_Floor_Shift.c (floor_Floor.mk x20 x21) x25 ((rd v2.2.1 x22).To) v31 _ V12 s22) ?_
            rintro _ _ ⟨a33, n33, H33, s33, rfl, rfl⟩
            refine atm_next (still_l (by kernel_rfl)) ?_
            refine atm_end (by kernel_rfl) ?_
            refine at_to [(0, (.pointer (some ⟨b_c, 0, none⟩))), (4, (.slice a9 (List.length v2.2.1) n9)), (5, (.slice a10 (List.length v2.2.2.1) n10)), (8, (.pointer (some ⟨b24, 0, none⟩))), (33, (.slice a9 (List.length v2.2.1) n9)), (34, (.int .i64 (List.length v2.2.1 : Int))), (35, (.int .i64 x22))] [0, 0, 0, 0, 0, 0, 0, 0, 1, 1] [F, [(b_c, Obj.cells #[(.int .i64 x13), (.int .i64 x14), (.int .i64 x15), (.pointer (some ⟨b18, 0, none⟩)), (.pointer (some ⟨b21, 0, none⟩))] 92 (0, 0))], [(b18, Obj.cells #[(.int .i64 x16), (.int .i64 x17), (.map (some a19)), (.slice a20 (List.length x19) n20)] 102 (0, 0))], H19, H20, H9, H10, [(b24, Obj.cells #[(.int .i64 (rd v2.2.1 x22).Id), (.int .i64 (rd v2.2.1 x22).To)] 42 (0, 0))], [(b21, Obj.cells #[(.slice a33 (List.length v31.2.words) n33), (.int .i64 v31.2.count)] 104 (0, 0))], H33] ⟨rfl, rfl, rfl, rfl, rfl, rfl, rfl, trivial⟩ rfl ?_
            refine at_then ?_
            refine at_region_m [[], [0], [0, 1], [0, 1, 2], [], [4], [], [6], [0, 1, 2, 3, 4, 5, 6, 7]] [8] [F, [(b_c, Obj.cells #[(.int .i64 x13), (.int .i64 x14), (.int .i64 x15), (.pointer (some ⟨b18, 0, none⟩)), (.pointer (some ⟨b21, 0, none⟩))] 92 (0, 0))], [(b18, Obj.cells #[(.int .i64 x16), (.int .i64 x17), (.map (some a19)), (.slice a20 (List.length x19) n20)] 102 (0, 0))], H19, H20, H9, H10, [(b24, Obj.cells #[(.int .i64 (rd v2.2.1 x22).Id), (.int .i64 (rd v2.2.1 x22).To)] 42 (0, 0))], [(b21, Obj.cells #[(.slice a33 (List.length v31.2.words) n33), (.int .i64 v31.2.count)] 104 (0, 0))], H33] mix (by kernel_rfl) (by repeat first | exact pf_body | refine pf_then ?_ | refine pf_block ?_) (fun hg pf => ?_)
            refine atm_s T 0 hg pf (by kernel_rfl) (still_o [0, 0, 0, 0, 0, 0, 0, 0, 0, 0] rfl) rfl ?_
            refine atm_s T 1 hg pf (by kernel_rfl) (still_o [0, 0, 0, 0, 0, 0, 0, 0, 0, 0] rfl) rfl ?_
            refine atm_s T 2 hg pf (by kernel_rfl) (still_o [0, 0, 0, 0, 0, 0, 0, 0, 0, 0] rfl) rfl ?_
            refine atm_v 3 hg pf (by kernel_rfl) (still_o [0, 0, 0, 0, 0, 0, 0, 0, 0, 0] rfl) rfl rfl (g_load T rfl rfl rfl rfl (in_var (j := 1) rfl rfl)) ?_
            refine atm_s T 4 hg pf (by kernel_rfl) (still_o [0, 0, 0, 0, 0, 0, 0, 0, 0, 0] rfl) rfl ?_
            refine atm_v 5 hg pf (by kernel_rfl) (still_o [0, 0, 0, 0, 0, 0, 0, 0, 0, 0] rfl) rfl rfl (g_load T rfl rfl rfl rfl (in_var (j := 7) rfl rfl)) ?_
            refine atm_s T 6 hg pf (by kernel_rfl) (still_o [0, 0, 0, 0, 0, 0, 0, 0, 0, 0] rfl) rfl ?_
            refine atm_v 7 hg pf (by kernel_rfl) (still_o [0, 0, 0, 0, 0, 0, 0, 0, 0, 0] rfl) rfl rfl (g_load T rfl rfl rfl rfl (in_var (j := 7) rfl rfl)) ?_
            refine atm_one 8 (by kernel_rfl) ?_
            obtain ⟨v32, V13, Z4⟩ := bind_e Z4
            refine at_cR (As := [[(b18, Obj.cells #[(.int .i64 x16), (.int .i64 x17), (.map (some a19)), (.slice a20 (List.length x19) n20)] 102 (0, 0))], H19, H20]) (R := [F, [(b_c, Obj.cells #[(.int .i64 x13), (.int .i64 x14), (.int .i64 x15), (.pointer (some ⟨b18, 0, none⟩)), (.pointer (some ⟨b21, 0, none⟩))] 92 (0, 0))], H9, H10, [(b24, Obj.cells #[(.int .i64 (rd v2.2.1 x22).Id), (.int .i64 (rd v2.2.1 x22).To)] 42 (0, 0))], [(b21, Obj.cells #[(.slice a33 (List.length v31.2.words) n33), (.int .i64 v31.2.count)] 104 (0, 0))], H33]) (units_Units_Move.R b18 v32) [] [2, 2, 2] rfl rfl rfl rfl has65 rfl rfl (units_Units_Move.c (units_Units.mk x16 x17 x18 x19) ((rd v2.2.1 x22).Id) ((rd v2.2.1 x22).To) v32 _ V13 s19 s20) ?_
            rintro _ _ ⟨a34, H34, a35, n35, H35, s34, s35, rfl, rfl⟩
            refine atm_next (still_l (by kernel_rfl)) ?_
            refine atm_end (by kernel_rfl) ?_
            refine at_to [(0, (.pointer (some ⟨b_c, 0, none⟩))), (4, (.slice a9 (List.length v2.2.1) n9)), (5, (.slice a10 (List.length v2.2.2.1) n10)), (33, (.slice a9 (List.length v2.2.1) n9)), (34, (.int .i64 (List.length v2.2.1 : Int))), (35, (.int .i64 x22))] [0, 0, 0, 0, 1, 1, 1, 1, 1] [F, [(b_c, Obj.cells #[(.int .i64 x13), (.int .i64 x14), (.int .i64 x15), (.pointer (some ⟨b18, 0, none⟩)), (.pointer (some ⟨b21, 0, none⟩))] 92 (0, 0))], H9, H10, [(b21, Obj.cells #[(.slice a33 (List.length v31.2.words) n33), (.int .i64 v31.2.count)] 104 (0, 0))], H33, [(b18, Obj.cells #[(.int .i64 v32.2.most), (.int .i64 v32.2.next), (.map (some a34)), (.slice a35 (List.length v32.2.order) n35)] 102 (0, 0))], H34, H35] ⟨rfl, rfl, rfl, rfl, rfl, rfl, trivial⟩ rfl ?_
            refine at_nb ?_
            refine at_then ?_
            refine at_region [0, 1] rfl ?_
            iterate 2 refine at_s T rfl ?_
            refine at_end ?_
            refine at_sub [(0, (.pointer (some ⟨b_c, 0, none⟩))), (4, (.slice a9 (List.length v2.2.1) n9)), (5, (.slice a10 (List.length v2.2.2.1) n10)), (33, (.slice a9 (List.length v2.2.1) n9)), (34, (.int .i64 (List.length v2.2.1 : Int))), (35, (.int .i64 (w64 (x22 + 1))))] ⟨rfl, rfl, rfl, rfl, rfl, rfl, trivial⟩ ?_
            refine at_then ?_
            exact at_roundL (k23, x13, x14, x15, v32.2.most, v32.2.next, v32.2.live, v32.2.order, v31.2.words, v31.2.count, (w64 (x22 + 1)), b18, a34, H34, a35, n35, H35, b21, a33, n33, H33) [0, 0, 4, 4, 4, 2, 2, 0, 0] ⟨Z4, s34, s35, s33⟩ (Nat.lt_succ_self _) ⟨rfl, rfl, rfl, rfl, rfl, rfl, trivial⟩ rfl
      · replace Z4 := if_f (of_decide_eq_false c5) Z4
        refine at_exit ?_
        refine at_xt ?_
        refine at_xt ?_
        refine at_xb ?_
        refine at_then ?_
        refine at_seq ?_
        refine at_region [0, 1, 2, 3, 4] rfl ?_
        iterate 5 refine at_s T rfl ?_
        refine at_end ?_
        refine at_sub [(4, (.slice a9 (List.length v2.2.1) n9)), (5, (.slice a10 (List.length v2.2.2.1) n10)), (6, (.int .i64 0))] ⟨rfl, rfl, rfl, trivial⟩ ?_
        refine at_then ?_
        refine at_ret ?_
        obtain rfl := Option.some.inj Z4
        exact at_post (T := T) rfl (.tmp rfl (.tmp rfl (.tmp rfl .nil))) (fun w o => ⟨⟨(_, _), ⟨a9, n9, H9, a10, n10, H10, b18, a19, H19, a20, n20, H20, b21, a22, n22, H22, s9, s10, s19, s20, s22, rfl, rfl⟩⟩, rfl, own_to [7, 7, 1, 1, 1, 1, 1, 1, 0] rfl o⟩)

/-! ### (*herdsman/crowd.Crowd).Retarget: function 31 -/
def crowd_Crowd_Retarget.f (c : crowd_Crowd) (id : Int) (goal : Int) : Option (Int × crowd_Crowd) := (units_Units_Get.f c.units id).bind fun v1 => if (!v1.2) = true then (some (12, c)) else ((crowd_Crowd_is.f c goal).bind fun v2 => if (!v2) = true then (some (7, c)) else ((crowd_Crowd_wrong.f c 3 v1.1.Cell goal).bind fun v3 => if (v3 != 0) = true then ((crowd_Crowd_drop.f c v1.1).bind fun v4 => some (v3, v4)) else ((units_Units_Aim.f c.units id goal).bind fun v5 => some (0, (crowd_Crowd.mk c.w c.h c.most v5.2 c.floor)))))
def crowd_Crowd_Retarget.R (b_c : Nat) (r : (Int × crowd_Crowd)) (u : Value) (G : List Hp) : Prop := ∃ (b0 : Nat) (a1 : Nat) (H1 : Hp) (a2 : Option Addr) (n2 : Nat) (H2 : Hp) (b3 : Nat) (a4 : Option Addr) (n4 : Nat) (H4 : Hp), MapO (Ky.int .i64 u3) (fun x : api_Unit => Value.agg #[.int .i64 x.Id, .int .i64 x.Cell, .int .i64 x.Goal]) r.2.units.live a1 H1 ∧ SliceO (Fl.int .i64) 3 r.2.units.order a2 n2 H2 ∧ SliceO (Fl.int .u32) 74 r.2.floor.words a4 n4 H4 ∧ u = (.int .i64 r.1) ∧ G = [[(b_c, Obj.cells #[(.int .i64 r.2.w), (.int .i64 r.2.h), (.int .i64 r.2.most), (.pointer (some ⟨b0, 0, none⟩)), (.pointer (some ⟨b3, 0, none⟩))] 92 (0, 0))], [(b0, Obj.cells #[(.int .i64 r.2.units.most), (.int .i64 r.2.units.next), (.map (some a1)), (.slice a2 (List.length r.2.units.order) n2)] 102 (0, 0))], H1, H2, [(b3, Obj.cells #[(.slice a4 (List.length r.2.floor.words) n4), (.int .i64 r.2.floor.count)] 104 (0, 0))], H4]
set_option maxHeartbeats 4000000 in
theorem crowd_Crowd_Retarget.c {b_c : Nat} {b_c_units : Nat} {a_c_units_live : Nat} {H_c_units_live : Hp} {a_c_units_order : Option Addr} {n_c_units_order : Nat} {H_c_units_order : Hp} {b_c_floor : Nat} {a_c_floor_words : Option Addr} {n_c_floor_words : Nat} {H_c_floor_words : Hp} (c : crowd_Crowd) (id : Int) (goal : Int) (r : (Int × crowd_Crowd)) (F : Hp) (H : crowd_Crowd_Retarget.f c id goal = some r) (s_c_units_live : MapO (Ky.int .i64 u3) (fun x : api_Unit => Value.agg #[.int .i64 x.Id, .int .i64 x.Cell, .int .i64 x.Goal]) c.units.live a_c_units_live H_c_units_live) (s_c_units_order : SliceO (Fl.int .i64) 3 c.units.order a_c_units_order n_c_units_order H_c_units_order) (s_c_floor_words : SliceO (Fl.int .u32) 74 c.floor.words a_c_floor_words n_c_floor_words H_c_floor_words) :
    CallsL Try.prog 31 [(.pointer (some ⟨b_c, 0, none⟩)), (.int .i64 id), (.int .i64 goal)] [[(b_c, Obj.cells #[(.int .i64 c.w), (.int .i64 c.h), (.int .i64 c.most), (.pointer (some ⟨b_c_units, 0, none⟩)), (.pointer (some ⟨b_c_floor, 0, none⟩))] 92 (0, 0))], [(b_c_units, Obj.cells #[(.int .i64 c.units.most), (.int .i64 c.units.next), (.map (some a_c_units_live)), (.slice a_c_units_order (List.length c.units.order) n_c_units_order)] 102 (0, 0))], H_c_units_live, H_c_units_order, [(b_c_floor, Obj.cells #[(.slice a_c_floor_words (List.length c.floor.words) n_c_floor_words), (.int .i64 c.floor.count)] 104 (0, 0))], H_c_floor_words, F] (fun p : { p : Value × List Hp // crowd_Crowd_Retarget.R b_c r p.1 p.2 } => p.1.1) (fun p => (p.1.2 ++ []) ++ [F]) := by
  unfold crowd_Crowd_Retarget.f at H
  refine calls_atL [(0, (.pointer (some ⟨b_c, 0, none⟩))), (1, (.int .i64 id)), (2, (.int .i64 goal))] Try.func31 rfl rfl ⟨rfl, rfl, rfl, trivial⟩ (fun W => ?_)
  refine at_seq ?_
  refine at_region [0] rfl ?_
  refine at_s T rfl ?_
  refine at_end ?_
  refine at_sub [(0, (.pointer (some ⟨b_c, 0, none⟩))), (1, (.int .i64 id)), (2, (.int .i64 goal))] ⟨rfl, rfl, rfl, trivial⟩ ?_
  refine at_then ?_
  refine at_seq ?_
  refine at_seq ?_
  refine at_region [0, 1] rfl ?_
  iterate 2 refine at_s T rfl ?_
  refine at_end ?_
  refine at_sub [(0, (.pointer (some ⟨b_c, 0, none⟩))), (1, (.int .i64 id)), (2, (.int .i64 goal)), (11, (.bool false))] ⟨rfl, rfl, rfl, rfl, trivial⟩ ?_
  refine at_then ?_
  refine at_cond_f rfl ?_
  refine at_skip ?_
  refine at_then ?_
  refine at_seq ?_
  refine at_region [0, 1, 2, 3, 4, 5, 6, 7, 8, 9, 10, 11] rfl ?_
  iterate 3 refine at_s T rfl ?_
  refine at_v rfl (g_load T rfl rfl rfl rfl (in_var (j := 0) rfl rfl)) ?_
  refine at_s T rfl ?_
  obtain ⟨v1, V1, H⟩ := bind_e H
  refine at_cons (at_c (As := [[(b_c_units, Obj.cells #[(.int .i64 c.units.most), (.int .i64 c.units.next), (.map (some a_c_units_live)), (.slice a_c_units_order (List.length c.units.order) n_c_units_order)] 102 (0, 0))], H_c_units_live, H_c_units_order]) (R := [[(b_c, Obj.cells #[(.int .i64 c.w), (.int .i64 c.h), (.int .i64 c.most), (.pointer (some ⟨b_c_units, 0, none⟩)), (.pointer (some ⟨b_c_floor, 0, none⟩))] 92 (0, 0))], [(b_c_floor, Obj.cells #[(.slice a_c_floor_words (List.length c.floor.words) n_c_floor_words), (.int .i64 c.floor.count)] 104 (0, 0))], H_c_floor_words, F]) (B := fun _ => [[(b_c_units, Obj.cells #[(.int .i64 c.units.most), (.int .i64 c.units.next), (.map (some a_c_units_live)), (.slice a_c_units_order (List.length c.units.order) n_c_units_order)] 102 (0, 0))], H_c_units_live, H_c_units_order]) [1, 1, 1] rfl rfl rfl rfl has60 rfl rfl (units_Units_Get.c c.units id v1 _ V1 s_c_units_live s_c_units_order) (fun _ => ?_))
  iterate 3 refine at_s T rfl ?_
  refine at_cons (at_al T [(.int .i64 0), (.int .i64 0), (.int .i64 0)] rfl rfl rfl rfl (fun b7 => ?_))
  refine at_cons (at_st T 7 [(.int .i64 v1.1.Id), (.int .i64 v1.1.Cell), (.int .i64 v1.1.Goal)] rfl rfl rfl rfl rfl rfl rfl rfl rfl rfl ?_)
  refine at_s T rfl ?_
  refine at_end ?_
  refine at_sub [(0, (.pointer (some ⟨b_c, 0, none⟩))), (1, (.int .i64 id)), (2, (.int .i64 goal)), (7, (.pointer (some ⟨b7, 0, none⟩))), (8, (.bool v1.2))] ⟨rfl, rfl, rfl, rfl, rfl, trivial⟩ ?_
  refine at_then ?_
  refine at_seq ?_
  refine at_block ?_
  refine at_seq ?_
  refine at_region [0, 1, 2] rfl ?_
  iterate 3 refine at_s T rfl ?_
  refine at_end ?_
  refine at_sub [(0, (.pointer (some ⟨b_c, 0, none⟩))), (1, (.int .i64 id)), (2, (.int .i64 goal)), (7, (.pointer (some ⟨b7, 0, none⟩))), (21, (.bool (!v1.2)))] ⟨rfl, rfl, rfl, rfl, rfl, trivial⟩ ?_
  refine at_then ?_
  refine at_cond rfl (fun c2 => ?_) (fun c2 => ?_)
  · replace H := if_t c2 H
    refine at_seq ?_
    refine at_region [0] rfl ?_
    refine at_s T rfl ?_
    refine at_end ?_
    refine at_to [(6, (.int .i64 12))] [0, 0, 0, 0, 0, 0, 0] [[(b_c, Obj.cells #[(.int .i64 c.w), (.int .i64 c.h), (.int .i64 c.most), (.pointer (some ⟨b_c_units, 0, none⟩)), (.pointer (some ⟨b_c_floor, 0, none⟩))] 92 (0, 0))], [(b_c_floor, Obj.cells #[(.slice a_c_floor_words (List.length c.floor.words) n_c_floor_words), (.int .i64 c.floor.count)] 104 (0, 0))], H_c_floor_words, F, [(b_c_units, Obj.cells #[(.int .i64 c.units.most), (.int .i64 c.units.next), (.map (some a_c_units_live)), (.slice a_c_units_order (List.length c.units.order) n_c_units_order)] 102 (0, 0))], H_c_units_live, H_c_units_order] ⟨rfl, trivial⟩ rfl ?_
    refine at_then ?_
    refine at_ret ?_
    refine at_rb ?_
    refine at_rt ?_
    obtain rfl := Option.some.inj H
    exact at_post (T := T) rfl (.tmp rfl .nil) (fun w o => ⟨⟨(_, _), ⟨b_c_units, a_c_units_live, H_c_units_live, a_c_units_order, n_c_units_order, H_c_units_order, b_c_floor, a_c_floor_words, n_c_floor_words, H_c_floor_words, s_c_units_live, s_c_units_order, s_c_floor_words, rfl, rfl⟩⟩, rfl, own_to [0, 3, 3, 3, 0, 0, 0] rfl o⟩)
  · replace H := if_f (bf c2) H
    refine at_seq ?_
    refine at_region [0, 1, 2, 3, 4] rfl ?_
    iterate 2 refine at_s T rfl ?_
    obtain ⟨v2, V3, H⟩ := bind_e H
    refine at_cons (at_c (As := [[(b_c, Obj.cells #[(.int .i64 c.w), (.int .i64 c.h), (.int .i64 c.most), (.pointer (some ⟨b_c_units, 0, none⟩)), (.pointer (some ⟨b_c_floor, 0, none⟩))] 92 (0, 0))], [(b_c_units, Obj.cells #[(.int .i64 c.units.most), (.int .i64 c.units.next), (.map (some a_c_units_live)), (.slice a_c_units_order (List.length c.units.order) n_c_units_order)] 102 (0, 0))], H_c_units_live, H_c_units_order, [(b_c_floor, Obj.cells #[(.slice a_c_floor_words (List.length c.floor.words) n_c_floor_words), (.int .i64 c.floor.count)] 104 (0, 0))], H_c_floor_words]) (R := [F, [(b7, Obj.cells #[(.int .i64 v1.1.Id), (.int .i64 v1.1.Cell), (.int .i64 v1.1.Goal)] 40 (0, 0))]]) (B := fun _ => [[(b_c, Obj.cells #[(.int .i64 c.w), (.int .i64 c.h), (.int .i64 c.most), (.pointer (some ⟨b_c_units, 0, none⟩)), (.pointer (some ⟨b_c_floor, 0, none⟩))] 92 (0, 0))], [(b_c_units, Obj.cells #[(.int .i64 c.units.most), (.int .i64 c.units.next), (.map (some a_c_units_live)), (.slice a_c_units_order (List.length c.units.order) n_c_units_order)] 102 (0, 0))], H_c_units_live, H_c_units_order, [(b_c_floor, Obj.cells #[(.slice a_c_floor_words (List.length c.floor.words) n_c_floor_words), (.int .i64 c.floor.count)] 104 (0, 0))], H_c_floor_words]) [0, 3, 3, 3, 0, 0] rfl rfl rfl rfl has61 rfl rfl (crowd_Crowd_is.c c goal v2 _ V3 s_c_units_live s_c_units_order s_c_floor_words) (fun _ => ?_))
    iterate 2 refine at_s T rfl ?_
    refine at_end ?_
    refine at_sub [(0, (.pointer (some ⟨b_c, 0, none⟩))), (1, (.int .i64 id)), (2, (.int .i64 goal)), (7, (.pointer (some ⟨b7, 0, none⟩))), (24, (.bool (!v2)))] ⟨rfl, rfl, rfl, rfl, rfl, trivial⟩ ?_
    refine at_then ?_
    refine at_cond rfl (fun c4 => ?_) (fun c4 => ?_)
    · replace H := if_t c4 H
      refine at_seq ?_
      refine at_region [0] rfl ?_
      refine at_s T rfl ?_
      refine at_end ?_
      refine at_to [(6, (.int .i64 7))] [0, 1, 1, 1, 1, 1, 1] [F, [(b_c, Obj.cells #[(.int .i64 c.w), (.int .i64 c.h), (.int .i64 c.most), (.pointer (some ⟨b_c_units, 0, none⟩)), (.pointer (some ⟨b_c_floor, 0, none⟩))] 92 (0, 0))], [(b_c_units, Obj.cells #[(.int .i64 c.units.most), (.int .i64 c.units.next), (.map (some a_c_units_live)), (.slice a_c_units_order (List.length c.units.order) n_c_units_order)] 102 (0, 0))], H_c_units_live, H_c_units_order, [(b_c_floor, Obj.cells #[(.slice a_c_floor_words (List.length c.floor.words) n_c_floor_words), (.int .i64 c.floor.count)] 104 (0, 0))], H_c_floor_words] ⟨rfl, trivial⟩ rfl ?_
      refine at_then ?_
      refine at_ret ?_
      refine at_rb ?_
      refine at_rt ?_
      obtain rfl := Option.some.inj H
      exact at_post (T := T) rfl (.tmp rfl .nil) (fun w o => ⟨⟨(_, _), ⟨b_c_units, a_c_units_live, H_c_units_live, a_c_units_order, n_c_units_order, H_c_units_order, b_c_floor, a_c_floor_words, n_c_floor_words, H_c_floor_words, s_c_units_live, s_c_units_order, s_c_floor_words, rfl, rfl⟩⟩, rfl, own_to [1, 1, 1, 1, 1, 1, 0] rfl o⟩)
    · replace H := if_f (bf c4) H
      refine at_skip ?_
      refine at_nb ?_
      refine at_then ?_
      refine at_seq ?_
      refine at_seq ?_
      refine at_region [0, 1, 2, 3, 4, 5] rfl ?_
      iterate 2 refine at_s T rfl ?_
      refine at_v rfl (g_load T rfl rfl rfl rfl (in_var (j := 1) rfl rfl)) ?_
      refine at_s T rfl ?_
      obtain ⟨v3, V5, H⟩ := bind_e H
      refine at_cons (at_c (As := [[(b_c, Obj.cells #[(.int .i64 c.w), (.int .i64 c.h), (.int .i64 c.most), (.pointer (some ⟨b_c_units, 0, none⟩)), (.pointer (some ⟨b_c_floor, 0, none⟩))] 92 (0, 0))], [(b_c_units, Obj.cells #[(.int .i64 c.units.most), (.int .i64 c.units.next), (.map (some a_c_units_live)), (.slice a_c_units_order (List.length c.units.order) n_c_units_order)] 102 (0, 0))], H_c_units_live, H_c_units_order, [(b_c_floor, Obj.cells #[(.slice a_c_floor_words (List.length c.floor.words) n_c_floor_words), (.int .i64 c.floor.count)] 104 (0, 0))], H_c_floor_words]) (R := [F, [(b7, Obj.cells #[(.int .i64 v1.1.Id), (.int .i64 v1.1.Cell), (.int .i64 v1.1.Goal)] 40 (0, 0))]]) (B := fun _ => [[(b_c, Obj.cells #[(.int .i64 c.w), (.int .i64 c.h), (.int .i64 c.most), (.pointer (some ⟨b_c_units, 0, none⟩)), (.pointer (some ⟨b_c_floor, 0, none⟩))] 92 (0, 0))], [(b_c_units, Obj.cells #[(.int .i64 c.units.most), (.int .i64 c.units.next), (.map (some a_c_units_live)), (.slice a_c_units_order (List.length c.units.order) n_c_units_order)] 102 (0, 0))], H_c_units_live, H_c_units_order, [(b_c_floor, Obj.cells #[(.slice a_c_floor_words (List.length c.floor.words) n_c_floor_words), (.int .i64 c.floor.count)] 104 (0, 0))], H_c_floor_words]) [2, 2, 2, 2, 2, 2] rfl rfl rfl rfl has55 rfl rfl (crowd_Crowd_wrong.c c 3 v1.1.Cell goal v3 _ V5 s_c_units_live s_c_units_order s_c_floor_words) (fun _ => ?_))
      refine at_s T rfl ?_
      refine at_end ?_
      refine at_sub [(0, (.pointer (some ⟨b_c, 0, none⟩))), (1, (.int .i64 id)), (2, (.int .i64 goal)), (7, (.pointer (some ⟨b7, 0, none⟩))), (9, (.int .i64 v3))] ⟨rfl, rfl, rfl, rfl, rfl, trivial⟩ ?_
      refine at_then ?_
      refine at_seq ?_
      refine at_region [0, 1] rfl ?_
      iterate 2 refine at_s T rfl ?_
      refine at_end ?_
      refine at_sub [(0, (.pointer (some ⟨b_c, 0, none⟩))), (1, (.int .i64 id)), (2, (.int .i64 goal)), (7, (.pointer (some ⟨b7, 0, none⟩))), (9, (.int .i64 v3)), (35, (.bool (v3 != 0)))] ⟨rfl, rfl, rfl, rfl, rfl, rfl, trivial⟩ ?_
      refine at_then ?_
      refine at_cond rfl (fun c6 => ?_) (fun c6 => ?_)
      · replace H := if_t c6 H
        refine at_seq ?_
        refine at_region [0, 1, 2] rfl ?_
        refine at_s T rfl ?_
        refine at_v rfl (g_loadA T (cs := [(.int .i64 v1.1.Id), (.int .i64 v1.1.Cell), (.int .i64 v1.1.Goal)]) rfl rfl rfl rfl rfl rfl (in_varA (j := 1) rfl rfl)) ?_
        obtain ⟨v4, V7, H⟩ := bind_e H
        refine at_cons (at_cR (As := [[(b_c, Obj.cells #[(.int .i64 c.w), (.int .i64 c.h), (.int .i64 c.most), (.pointer (some ⟨b_c_units, 0, none⟩)), (.pointer (some ⟨b_c_floor, 0, none⟩))] 92 (0, 0))], [(b_c_units, Obj.cells #[(.int .i64 c.units.most), (.int .i64 c.units.next), (.map (some a_c_units_live)), (.slice a_c_units_order (List.length c.units.order) n_c_units_order)] 102 (0, 0))], H_c_units_live, H_c_units_order, [(b_c_floor, Obj.cells #[(.slice a_c_floor_words (List.length c.floor.words) n_c_floor_words), (.int .i64 c.floor.count)] 104 (0, 0))], H_c_floor_words]) (R := [F, [(b7, Obj.cells #[(.int .i64 v1.1.Id), (.int .i64 v1.1.Cell), (.int .i64 v1.1.Goal)] 40 (0, 0))]]) (crowd_Crowd_drop.R b_c v4) [] [2, 2, 2, 2, 2, 2] rfl rfl rfl rfl has62 rfl rfl (crowd_Crowd_drop.c c v1.1 v4 _ V7 s_c_units_live s_c_units_order s_c_floor_words) ?_)
        rintro _ _ ⟨b8, a9, H9, a10, n10, H10, b11, a12, n12, H12, s9, s10, s12, rfl, rfl⟩
        refine at_end ?_
        refine at_to [(9, (.int .i64 v3))] [0, 1, 1, 1, 1, 1, 1] [F, [(b_c, Obj.cells #[(.int .i64 v4.w), (.int .i64 v4.h), (.int .i64 v4.most), (.pointer (some ⟨b8, 0, none⟩)), (.pointer (some ⟨b11, 0, none⟩))] 92 (0, 0))], [(b8, Obj.cells #[(.int .i64 v4.units.most), (.int .i64 v4.units.next), (.map (some a9)), (.slice a10 (List.length v4.units.order) n10)] 102 (0, 0))], H9, H10, [(b11, Obj.cells #[(.slice a12 (List.length v4.floor.words) n12), (.int .i64 v4.floor.count)] 104 (0, 0))], H12] ⟨rfl, trivial⟩ rfl ?_
        refine at_then ?_
        refine at_seq ?_
        refine at_region [0, 1] rfl ?_
        iterate 2 refine at_s T rfl ?_
        refine at_end ?_
        refine at_sub [(6, (.int .i64 v3))] ⟨rfl, trivial⟩ ?_
        refine at_then ?_
        refine at_ret ?_
        refine at_rt ?_
        obtain rfl := Option.some.inj H
        exact at_post (T := T) rfl (.tmp rfl .nil) (fun w o => ⟨⟨(_, _), ⟨b8, a9, H9, a10, n10, H10, b11, a12, n12, H12, s9, s10, s12, rfl, rfl⟩⟩, rfl, own_to [1, 1, 1, 1, 1, 1, 0] rfl o⟩)
      · replace H := if_f (bf c6) H
        refine at_skip ?_
        refine at_then ?_
        refine at_seq ?_
        refine at_region [0, 1, 2, 3, 4, 5, 6] rfl ?_
        iterate 3 refine at_s T rfl ?_
        refine at_v rfl (g_load T rfl rfl rfl rfl (in_var (j := 2) rfl rfl)) ?_
        iterate 2 refine at_s T rfl ?_
        obtain ⟨v5, V8, H⟩ := bind_e H
        refine at_cons (at_cR (As := [[(b_c_units, Obj.cells #[(.int .i64 c.units.most), (.int .i64 c.units.next), (.map (some a_c_units_live)), (.slice a_c_units_order (List.length c.units.order) n_c_units_order)] 102 (0, 0))], H_c_units_live, H_c_units_order]) (R := [F, [(b7, Obj.cells #[(.int .i64 v1.1.Id), (.int .i64 v1.1.Cell), (.int .i64 v1.1.Goal)] 40 (0, 0))], [(b_c, Obj.cells #[(.int .i64 c.w), (.int .i64 c.h), (.int .i64 c.most), (.pointer (some ⟨b_c_units, 0, none⟩)), (.pointer (some ⟨b_c_floor, 0, none⟩))] 92 (0, 0))], [(b_c_floor, Obj.cells #[(.slice a_c_floor_words (List.length c.floor.words) n_c_floor_words), (.int .i64 c.floor.count)] 104 (0, 0))], H_c_floor_words]) (units_Units_Aim.R b_c_units v5) [] [3, 3, 3] rfl rfl rfl rfl has63 rfl rfl (units_Units_Aim.c c.units id goal v5 _ V8 s_c_units_live s_c_units_order) ?_)
        rintro _ _ ⟨a13, H13, a14, n14, H14, s13, s14, rfl, rfl⟩
        refine at_end ?_
        refine at_to [] [0, 1, 1, 1, 1, 1, 1] [F, [(b_c, Obj.cells #[(.int .i64 c.w), (.int .i64 c.h), (.int .i64 c.most), (.pointer (some ⟨b_c_units, 0, none⟩)), (.pointer (some ⟨b_c_floor, 0, none⟩))] 92 (0, 0))], [(b_c_floor, Obj.cells #[(.slice a_c_floor_words (List.length c.floor.words) n_c_floor_words), (.int .i64 c.floor.count)] 104 (0, 0))], H_c_floor_words, [(b_c_units, Obj.cells #[(.int .i64 v5.2.most), (.int .i64 v5.2.next), (.map (some a13)), (.slice a14 (List.length v5.2.order) n14)] 102 (0, 0))], H13, H14] trivial rfl ?_
        refine at_then ?_
        refine at_seq ?_
        refine at_region [0] rfl ?_
        refine at_s T rfl ?_
        refine at_end ?_
        refine at_sub [(6, (.int .i64 0))] ⟨rfl, trivial⟩ ?_
        refine at_then ?_
        refine at_ret ?_
        obtain rfl := Option.some.inj H
        exact at_post (T := T) rfl (.tmp rfl .nil) (fun w o => ⟨⟨(_, _), ⟨b_c_units, a13, H13, a14, n14, H14, b_c_floor, a_c_floor_words, n_c_floor_words, H_c_floor_words, s13, s14, s_c_floor_words, rfl, rfl⟩⟩, rfl, own_to [1, 3, 3, 3, 1, 1, 0] rfl o⟩)

/-! ### (*herdsman/crowd.Crowd).Despawn: function 32 -/
def crowd_Crowd_Despawn.f (c : crowd_Crowd) (id : Int) : Option (Int × crowd_Crowd) := (units_Units_Get.f c.units id).bind fun v1 => if (!v1.2) = true then (some (12, c)) else ((crowd_Crowd_drop.f c v1.1).bind fun v2 => some (0, v2))
def crowd_Crowd_Despawn.R (b_c : Nat) (r : (Int × crowd_Crowd)) (u : Value) (G : List Hp) : Prop := ∃ (b0 : Nat) (a1 : Nat) (H1 : Hp) (a2 : Option Addr) (n2 : Nat) (H2 : Hp) (b3 : Nat) (a4 : Option Addr) (n4 : Nat) (H4 : Hp), MapO (Ky.int .i64 u3) (fun x : api_Unit => Value.agg #[.int .i64 x.Id, .int .i64 x.Cell, .int .i64 x.Goal]) r.2.units.live a1 H1 ∧ SliceO (Fl.int .i64) 3 r.2.units.order a2 n2 H2 ∧ SliceO (Fl.int .u32) 74 r.2.floor.words a4 n4 H4 ∧ u = (.int .i64 r.1) ∧ G = [[(b_c, Obj.cells #[(.int .i64 r.2.w), (.int .i64 r.2.h), (.int .i64 r.2.most), (.pointer (some ⟨b0, 0, none⟩)), (.pointer (some ⟨b3, 0, none⟩))] 92 (0, 0))], [(b0, Obj.cells #[(.int .i64 r.2.units.most), (.int .i64 r.2.units.next), (.map (some a1)), (.slice a2 (List.length r.2.units.order) n2)] 102 (0, 0))], H1, H2, [(b3, Obj.cells #[(.slice a4 (List.length r.2.floor.words) n4), (.int .i64 r.2.floor.count)] 104 (0, 0))], H4]
set_option maxHeartbeats 4000000 in
theorem crowd_Crowd_Despawn.c {b_c : Nat} {b_c_units : Nat} {a_c_units_live : Nat} {H_c_units_live : Hp} {a_c_units_order : Option Addr} {n_c_units_order : Nat} {H_c_units_order : Hp} {b_c_floor : Nat} {a_c_floor_words : Option Addr} {n_c_floor_words : Nat} {H_c_floor_words : Hp} (c : crowd_Crowd) (id : Int) (r : (Int × crowd_Crowd)) (F : Hp) (H : crowd_Crowd_Despawn.f c id = some r) (s_c_units_live : MapO (Ky.int .i64 u3) (fun x : api_Unit => Value.agg #[.int .i64 x.Id, .int .i64 x.Cell, .int .i64 x.Goal]) c.units.live a_c_units_live H_c_units_live) (s_c_units_order : SliceO (Fl.int .i64) 3 c.units.order a_c_units_order n_c_units_order H_c_units_order) (s_c_floor_words : SliceO (Fl.int .u32) 74 c.floor.words a_c_floor_words n_c_floor_words H_c_floor_words) :
    CallsL Try.prog 32 [(.pointer (some ⟨b_c, 0, none⟩)), (.int .i64 id)] [[(b_c, Obj.cells #[(.int .i64 c.w), (.int .i64 c.h), (.int .i64 c.most), (.pointer (some ⟨b_c_units, 0, none⟩)), (.pointer (some ⟨b_c_floor, 0, none⟩))] 92 (0, 0))], [(b_c_units, Obj.cells #[(.int .i64 c.units.most), (.int .i64 c.units.next), (.map (some a_c_units_live)), (.slice a_c_units_order (List.length c.units.order) n_c_units_order)] 102 (0, 0))], H_c_units_live, H_c_units_order, [(b_c_floor, Obj.cells #[(.slice a_c_floor_words (List.length c.floor.words) n_c_floor_words), (.int .i64 c.floor.count)] 104 (0, 0))], H_c_floor_words, F] (fun p : { p : Value × List Hp // crowd_Crowd_Despawn.R b_c r p.1 p.2 } => p.1.1) (fun p => (p.1.2 ++ []) ++ [F]) := by
  unfold crowd_Crowd_Despawn.f at H
  refine calls_atL [(0, (.pointer (some ⟨b_c, 0, none⟩))), (1, (.int .i64 id))] Try.func32 rfl rfl ⟨rfl, rfl, trivial⟩ (fun W => ?_)
  refine at_seq ?_
  refine at_region [0] rfl ?_
  refine at_s T rfl ?_
  refine at_end ?_
  refine at_sub [(0, (.pointer (some ⟨b_c, 0, none⟩))), (1, (.int .i64 id))] ⟨rfl, rfl, trivial⟩ ?_
  refine at_then ?_
  refine at_seq ?_
  refine at_seq ?_
  refine at_region [0, 1] rfl ?_
  iterate 2 refine at_s T rfl ?_
  refine at_end ?_
  refine at_sub [(0, (.pointer (some ⟨b_c, 0, none⟩))), (1, (.int .i64 id)), (8, (.bool false))] ⟨rfl, rfl, rfl, trivial⟩ ?_
  refine at_then ?_
  refine at_cond_f rfl ?_
  refine at_skip ?_
  refine at_then ?_
  refine at_seq ?_
  refine at_region [0, 1, 2, 3, 4, 5, 6, 7, 8, 9, 10, 11] rfl ?_
  iterate 3 refine at_s T rfl ?_
  refine at_v rfl (g_load T rfl rfl rfl rfl (in_var (j := 0) rfl rfl)) ?_
  refine at_s T rfl ?_
  obtain ⟨v1, V1, H⟩ := bind_e H
  refine at_cons (at_c (As := [[(b_c_units, Obj.cells #[(.int .i64 c.units.most), (.int .i64 c.units.next), (.map (some a_c_units_live)), (.slice a_c_units_order (List.length c.units.order) n_c_units_order)] 102 (0, 0))], H_c_units_live, H_c_units_order]) (R := [[(b_c, Obj.cells #[(.int .i64 c.w), (.int .i64 c.h), (.int .i64 c.most), (.pointer (some ⟨b_c_units, 0, none⟩)), (.pointer (some ⟨b_c_floor, 0, none⟩))] 92 (0, 0))], [(b_c_floor, Obj.cells #[(.slice a_c_floor_words (List.length c.floor.words) n_c_floor_words), (.int .i64 c.floor.count)] 104 (0, 0))], H_c_floor_words, F]) (B := fun _ => [[(b_c_units, Obj.cells #[(.int .i64 c.units.most), (.int .i64 c.units.next), (.map (some a_c_units_live)), (.slice a_c_units_order (List.length c.units.order) n_c_units_order)] 102 (0, 0))], H_c_units_live, H_c_units_order]) [1, 1, 1] rfl rfl rfl rfl has60 rfl rfl (units_Units_Get.c c.units id v1 _ V1 s_c_units_live s_c_units_order) (fun _ => ?_))
  iterate 3 refine at_s T rfl ?_
  refine at_cons (at_al T [(.int .i64 0), (.int .i64 0), (.int .i64 0)] rfl rfl rfl rfl (fun b7 => ?_))
  refine at_cons (at_st T 7 [(.int .i64 v1.1.Id), (.int .i64 v1.1.Cell), (.int .i64 v1.1.Goal)] rfl rfl rfl rfl rfl rfl rfl rfl rfl rfl ?_)
  refine at_s T rfl ?_
  refine at_end ?_
  refine at_sub [(0, (.pointer (some ⟨b_c, 0, none⟩))), (5, (.pointer (some ⟨b7, 0, none⟩))), (6, (.bool v1.2))] ⟨rfl, rfl, rfl, trivial⟩ ?_
  refine at_then ?_
  refine at_seq ?_
  refine at_seq ?_
  refine at_region [0, 1] rfl ?_
  iterate 2 refine at_s T rfl ?_
  refine at_end ?_
  refine at_sub [(0, (.pointer (some ⟨b_c, 0, none⟩))), (5, (.pointer (some ⟨b7, 0, none⟩))), (19, (.bool (!v1.2)))] ⟨rfl, rfl, rfl, trivial⟩ ?_
  refine at_then ?_
  refine at_cond rfl (fun c2 => ?_) (fun c2 => ?_)
  · replace H := if_t c2 H
    refine at_seq ?_
    refine at_region [0] rfl ?_
    refine at_s T rfl ?_
    refine at_end ?_
    refine at_to [(4, (.int .i64 12))] [0, 0, 0, 0, 0, 0, 0] [[(b_c, Obj.cells #[(.int .i64 c.w), (.int .i64 c.h), (.int .i64 c.most), (.pointer (some ⟨b_c_units, 0, none⟩)), (.pointer (some ⟨b_c_floor, 0, none⟩))] 92 (0, 0))], [(b_c_floor, Obj.cells #[(.slice a_c_floor_words (List.length c.floor.words) n_c_floor_words), (.int .i64 c.floor.count)] 104 (0, 0))], H_c_floor_words, F, [(b_c_units, Obj.cells #[(.int .i64 c.units.most), (.int .i64 c.units.next), (.map (some a_c_units_live)), (.slice a_c_units_order (List.length c.units.order) n_c_units_order)] 102 (0, 0))], H_c_units_live, H_c_units_order] ⟨rfl, trivial⟩ rfl ?_
    refine at_then ?_
    refine at_ret ?_
    refine at_rt ?_
    obtain rfl := Option.some.inj H
    exact at_post (T := T) rfl (.tmp rfl .nil) (fun w o => ⟨⟨(_, _), ⟨b_c_units, a_c_units_live, H_c_units_live, a_c_units_order, n_c_units_order, H_c_units_order, b_c_floor, a_c_floor_words, n_c_floor_words, H_c_floor_words, s_c_units_live, s_c_units_order, s_c_floor_words, rfl, rfl⟩⟩, rfl, own_to [0, 3, 3, 3, 0, 0, 0] rfl o⟩)
  · replace H := if_f (bf c2) H
    refine at_skip ?_
    refine at_then ?_
    refine at_seq ?_
    refine at_region [0, 1, 2] rfl ?_
    refine at_s T rfl ?_
    refine at_v rfl (g_loadA T (cs := [(.int .i64 v1.1.Id), (.int .i64 v1.1.Cell), (.int .i64 v1.1.Goal)]) rfl rfl rfl rfl rfl rfl (in_varA (j := 7) rfl rfl)) ?_
    obtain ⟨v2, V3, H⟩ := bind_e H
    refine at_cons (at_cR (As := [[(b_c, Obj.cells #[(.int .i64 c.w), (.int .i64 c.h), (.int .i64 c.most), (.pointer (some ⟨b_c_units, 0, none⟩)), (.pointer (some ⟨b_c_floor, 0, none⟩))] 92 (0, 0))], [(b_c_units, Obj.cells #[(.int .i64 c.units.most), (.int .i64 c.units.next), (.map (some a_c_units_live)), (.slice a_c_units_order (List.length c.units.order) n_c_units_order)] 102 (0, 0))], H_c_units_live, H_c_units_order, [(b_c_floor, Obj.cells #[(.slice a_c_floor_words (List.length c.floor.words) n_c_floor_words), (.int .i64 c.floor.count)] 104 (0, 0))], H_c_floor_words]) (R := [F, [(b7, Obj.cells #[(.int .i64 v1.1.Id), (.int .i64 v1.1.Cell), (.int .i64 v1.1.Goal)] 40 (0, 0))]]) (crowd_Crowd_drop.R b_c v2) [] [0, 3, 3, 3, 0, 0] rfl rfl rfl rfl has62 rfl rfl (crowd_Crowd_drop.c c v1.1 v2 _ V3 s_c_units_live s_c_units_order s_c_floor_words) ?_)
    rintro _ _ ⟨b8, a9, H9, a10, n10, H10, b11, a12, n12, H12, s9, s10, s12, rfl, rfl⟩
    refine at_end ?_
    refine at_to [] [0, 1, 1, 1, 1, 1, 1] [F, [(b_c, Obj.cells #[(.int .i64 v2.w), (.int .i64 v2.h), (.int .i64 v2.most), (.pointer (some ⟨b8, 0, none⟩)), (.pointer (some ⟨b11, 0, none⟩))] 92 (0, 0))], [(b8, Obj.cells #[(.int .i64 v2.units.most), (.int .i64 v2.units.next), (.map (some a9)), (.slice a10 (List.length v2.units.order) n10)] 102 (0, 0))], H9, H10, [(b11, Obj.cells #[(.slice a12 (List.length v2.floor.words) n12), (.int .i64 v2.floor.count)] 104 (0, 0))], H12] trivial rfl ?_
    refine at_then ?_
    refine at_seq ?_
    refine at_region [0] rfl ?_
    refine at_s T rfl ?_
    refine at_end ?_
    refine at_sub [(4, (.int .i64 0))] ⟨rfl, trivial⟩ ?_
    refine at_then ?_
    refine at_ret ?_
    obtain rfl := Option.some.inj H
    exact at_post (T := T) rfl (.tmp rfl .nil) (fun w o => ⟨⟨(_, _), ⟨b8, a9, H9, a10, n10, H10, b11, a12, n12, H12, s9, s10, s12, rfl, rfl⟩⟩, rfl, own_to [1, 1, 1, 1, 1, 1, 0] rfl o⟩)

/-! ### (*herdsman/crowd.Crowd).Words: function 41 -/
def crowd_Crowd_Words.f (c : crowd_Crowd) : Option (List Int) := (floor_Floor_Words.f c.floor).bind fun v1 => some v1
def crowd_Crowd_Words.R (r : (List Int)) (u : Value) (G : List Hp) : Prop := ∃ (a0 : Option Addr) (n0 : Nat) (H0 : Hp), SliceO (Fl.int .u32) 74 r a0 n0 H0 ∧ u = (.slice a0 (List.length r) n0) ∧ G = [H0]
set_option maxHeartbeats 4000000 in
theorem crowd_Crowd_Words.c {b_c : Nat} {b_c_units : Nat} {a_c_units_live : Nat} {H_c_units_live : Hp} {a_c_units_order : Option Addr} {n_c_units_order : Nat} {H_c_units_order : Hp} {b_c_floor : Nat} {a_c_floor_words : Option Addr} {n_c_floor_words : Nat} {H_c_floor_words : Hp} (c : crowd_Crowd) (r : (List Int)) (F : Hp) (H : crowd_Crowd_Words.f c = some r) (s_c_units_live : MapO (Ky.int .i64 u3) (fun x : api_Unit => Value.agg #[.int .i64 x.Id, .int .i64 x.Cell, .int .i64 x.Goal]) c.units.live a_c_units_live H_c_units_live) (s_c_units_order : SliceO (Fl.int .i64) 3 c.units.order a_c_units_order n_c_units_order H_c_units_order) (s_c_floor_words : SliceO (Fl.int .u32) 74 c.floor.words a_c_floor_words n_c_floor_words H_c_floor_words) :
    CallsL Try.prog 41 [(.pointer (some ⟨b_c, 0, none⟩))] [[(b_c, Obj.cells #[(.int .i64 c.w), (.int .i64 c.h), (.int .i64 c.most), (.pointer (some ⟨b_c_units, 0, none⟩)), (.pointer (some ⟨b_c_floor, 0, none⟩))] 92 (0, 0))], [(b_c_units, Obj.cells #[(.int .i64 c.units.most), (.int .i64 c.units.next), (.map (some a_c_units_live)), (.slice a_c_units_order (List.length c.units.order) n_c_units_order)] 102 (0, 0))], H_c_units_live, H_c_units_order, [(b_c_floor, Obj.cells #[(.slice a_c_floor_words (List.length c.floor.words) n_c_floor_words), (.int .i64 c.floor.count)] 104 (0, 0))], H_c_floor_words, F] (fun p : { p : Value × List Hp // crowd_Crowd_Words.R r p.1 p.2 } => p.1.1) (fun p => (p.1.2 ++ [[(b_c, Obj.cells #[(.int .i64 c.w), (.int .i64 c.h), (.int .i64 c.most), (.pointer (some ⟨b_c_units, 0, none⟩)), (.pointer (some ⟨b_c_floor, 0, none⟩))] 92 (0, 0))], [(b_c_units, Obj.cells #[(.int .i64 c.units.most), (.int .i64 c.units.next), (.map (some a_c_units_live)), (.slice a_c_units_order (List.length c.units.order) n_c_units_order)] 102 (0, 0))], H_c_units_live, H_c_units_order, [(b_c_floor, Obj.cells #[(.slice a_c_floor_words (List.length c.floor.words) n_c_floor_words), (.int .i64 c.floor.count)] 104 (0, 0))], H_c_floor_words]) ++ [F]) := by
  unfold crowd_Crowd_Words.f at H
  refine calls_atL [(0, (.pointer (some ⟨b_c, 0, none⟩)))] Try.func41 rfl rfl ⟨rfl, trivial⟩ (fun W => ?_)
  refine at_seq ?_
  refine at_region [0] rfl ?_
  refine at_s T rfl ?_
  refine at_end ?_
  refine at_sub [(0, (.pointer (some ⟨b_c, 0, none⟩)))] ⟨rfl, trivial⟩ ?_
  refine at_then ?_
  refine at_seq ?_
  refine at_seq ?_
  refine at_region [0, 1] rfl ?_
  iterate 2 refine at_s T rfl ?_
  refine at_end ?_
  refine at_sub [(0, (.pointer (some ⟨b_c, 0, none⟩))), (4, (.bool false))] ⟨rfl, rfl, trivial⟩ ?_
  refine at_then ?_
  refine at_cond_f rfl ?_
  refine at_skip ?_
  refine at_then ?_
  refine at_seq ?_
  refine at_region [0, 1, 2, 3, 4, 5] rfl ?_
  iterate 3 refine at_s T rfl ?_
  refine at_v rfl (g_load T rfl rfl rfl rfl (in_var (j := 0) rfl rfl)) ?_
  obtain ⟨v1, V1, H⟩ := bind_e H
  refine at_cons (at_cR (As := [[(b_c_floor, Obj.cells #[(.slice a_c_floor_words (List.length c.floor.words) n_c_floor_words), (.int .i64 c.floor.count)] 104 (0, 0))], H_c_floor_words]) (R := [[(b_c, Obj.cells #[(.int .i64 c.w), (.int .i64 c.h), (.int .i64 c.most), (.pointer (some ⟨b_c_units, 0, none⟩)), (.pointer (some ⟨b_c_floor, 0, none⟩))] 92 (0, 0))], [(b_c_units, Obj.cells #[(.int .i64 c.units.most), (.int .i64 c.units.next), (.map (some a_c_units_live)), (.slice a_c_units_order (List.length c.units.order) n_c_units_order)] 102 (0, 0))], H_c_units_live, H_c_units_order, F]) (floor_Floor_Words.R v1) [[(b_c_floor, Obj.cells #[(.slice a_c_floor_words (List.length c.floor.words) n_c_floor_words), (.int .i64 c.floor.count)] 104 (0, 0))], H_c_floor_words] [4, 4] rfl rfl rfl rfl has70 rfl rfl (floor_Floor_Words.c c.floor v1 _ V1 s_c_floor_words) ?_)
  rintro _ _ ⟨a7, n7, H7, s7, rfl, rfl⟩
  refine at_s T rfl ?_
  refine at_end ?_
  refine at_sub [(2, (.slice a7 (List.length v1) n7))] ⟨rfl, trivial⟩ ?_
  refine at_then ?_
  refine at_ret ?_
  obtain rfl := Option.some.inj H
  exact at_post (T := T) rfl (.tmp rfl .nil) (fun w o => ⟨⟨(_, _), ⟨a7, n7, H7, s7, rfl, rfl⟩⟩, rfl, own_to [5, 0, 0, 0, 0, 1, 1, 0] rfl o⟩)

/-! ### (*herdsman/crowd.Crowd).Spawn: function 25 -/
def crowd_Crowd_Spawn_2.f (cell : Int) (goal : Int) : Option (Int × Int) := some ((-1), 1)
set_option maxHeartbeats 4000000 in
theorem crowd_Crowd_Spawn_2.c (cell : Int) (goal : Int) (r : (Int × Int)) (F : Hp) (H : crowd_Crowd_Spawn_2.f cell goal = some r) :
    CallsL Try.prog 25 [(.pointer none), (.int .i64 cell), (.int .i64 goal)] [F] (fun _ : Unit => (.tuple #[(.int .i64 r.1), (.int .i64 r.2)])) (fun _ => [F]) := by
  unfold crowd_Crowd_Spawn_2.f at H
  refine calls_atL [(0, (.pointer none)), (1, (.int .i64 cell)), (2, (.int .i64 goal))] Try.func25 rfl rfl ⟨rfl, rfl, rfl, trivial⟩ (fun W => ?_)
  refine at_seq ?_
  refine at_region [0, 1] rfl ?_
  iterate 2 refine at_s T rfl ?_
  refine at_end ?_
  refine at_sub [(0, (.pointer none)), (1, (.int .i64 cell)), (2, (.int .i64 goal))] ⟨rfl, rfl, rfl, trivial⟩ ?_
  refine at_then ?_
  refine at_seq ?_
  refine at_seq ?_
  refine at_region [0, 1] rfl ?_
  iterate 2 refine at_s T rfl ?_
  refine at_end ?_
  refine at_sub [(0, (.pointer none)), (1, (.int .i64 cell)), (2, (.int .i64 goal)), (9, (.bool true))] ⟨rfl, rfl, rfl, rfl, trivial⟩ ?_
  refine at_then ?_
  refine at_cond_t rfl ?_
  refine at_seq ?_
  refine at_region [0, 1] rfl ?_
  iterate 2 refine at_s T rfl ?_
  refine at_end ?_
  refine at_sub [(6, (.int .i64 (-1))), (7, (.int .i64 1))] ⟨rfl, rfl, trivial⟩ ?_
  refine at_then ?_
  refine at_ret ?_
  refine at_rt ?_
  obtain rfl := Option.some.inj H
  exact at_post (T := T) rfl (.tmp rfl (.tmp rfl .nil)) (fun w o => ⟨(), rfl, own_to [0] rfl o⟩)

/-! ### (*herdsman/crowd.Crowd).Tick: function 33 -/
def crowd_Crowd_Tick_2.f (dirs : (List Int)) : Option ((List api_Move) × (List Int) × Int) := some ([], [], 1)
def crowd_Crowd_Tick_2.R (r : ((List api_Move) × (List Int) × Int)) (u : Value) (G : List Hp) : Prop := ∃ (a0 : Option Addr) (n0 : Nat) (H0 : Hp) (a1 : Option Addr) (n1 : Nat) (H1 : Hp), SliceO k_api_Move 42 r.1 a0 n0 H0 ∧ SliceO (Fl.int .i64) 3 r.2.1 a1 n1 H1 ∧ u = (.tuple #[(.slice a0 (List.length r.1) n0), (.slice a1 (List.length r.2.1) n1), (.int .i64 r.2.2)]) ∧ G = [H0, H1]
set_option maxHeartbeats 4000000 in
theorem crowd_Crowd_Tick_2.c {a_dirs : Option Addr} {n_dirs : Nat} (dirs : (List Int)) (r : ((List api_Move) × (List Int) × Int)) (F : Hp) (H : crowd_Crowd_Tick_2.f dirs = some r) (h_dirs : SliceR (Fl.int .i64) dirs a_dirs F) (c_dirs : List.length dirs ≤ n_dirs) :
    CallsL Try.prog 33 [(.pointer none), (.slice a_dirs (List.length dirs) n_dirs)] [F] (fun p : { p : Value × List Hp // crowd_Crowd_Tick_2.R r p.1 p.2 } => p.1.1) (fun p => (p.1.2 ++ []) ++ [F]) := by
  unfold crowd_Crowd_Tick_2.f at H
  refine calls_atL [(0, (.pointer none)), (1, (.slice a_dirs (List.length dirs) n_dirs))] Try.func33 rfl rfl ⟨rfl, rfl, trivial⟩ (fun W => ?_)
  refine at_seq ?_
  refine at_region [0, 1, 2] rfl ?_
  iterate 3 refine at_s T rfl ?_
  refine at_end ?_
  refine at_sub [(0, (.pointer none)), (1, (.slice a_dirs (List.length dirs) n_dirs))] ⟨rfl, rfl, trivial⟩ ?_
  refine at_then ?_
  refine at_seq ?_
  refine at_seq ?_
  refine at_region [0, 1] rfl ?_
  iterate 2 refine at_s T rfl ?_
  refine at_end ?_
  refine at_sub [(0, (.pointer none)), (1, (.slice a_dirs (List.length dirs) n_dirs)), (12, (.bool true))] ⟨rfl, rfl, rfl, trivial⟩ ?_
  refine at_then ?_
  refine at_cond_t rfl ?_
  refine at_seq ?_
  refine at_region [0, 1, 2] rfl ?_
  iterate 3 refine at_s T rfl ?_
  refine at_end ?_
  refine at_sub [(4, (.slice none 0 0)), (5, (.slice none 0 0)), (6, (.int .i64 1))] ⟨rfl, rfl, rfl, trivial⟩ ?_
  refine at_then ?_
  refine at_ret ?_
  refine at_rt ?_
  obtain rfl := Option.some.inj H
  refine at_addnil ?_
  refine at_addnil ?_
  exact at_post (T := T) rfl (.tmp rfl (.tmp rfl (.tmp rfl .nil))) (fun w o => ⟨⟨(_, _), ⟨none, 0, [], none, 0, [], SliceO.nil, SliceO.nil, rfl, rfl⟩⟩, rfl, own_to [1, 1, 0] rfl o⟩)

/-! ### (*herdsman/crowd.Crowd).Retarget: function 31 -/
def crowd_Crowd_Retarget_2.f (id : Int) (goal : Int) : Option Int := some 1
set_option maxHeartbeats 4000000 in
theorem crowd_Crowd_Retarget_2.c (id : Int) (goal : Int) (r : Int) (F : Hp) (H : crowd_Crowd_Retarget_2.f id goal = some r) :
    CallsL Try.prog 31 [(.pointer none), (.int .i64 id), (.int .i64 goal)] [F] (fun _ : Unit => (.int .i64 r)) (fun _ => [F]) := by
  unfold crowd_Crowd_Retarget_2.f at H
  refine calls_atL [(0, (.pointer none)), (1, (.int .i64 id)), (2, (.int .i64 goal))] Try.func31 rfl rfl ⟨rfl, rfl, rfl, trivial⟩ (fun W => ?_)
  refine at_seq ?_
  refine at_region [0] rfl ?_
  refine at_s T rfl ?_
  refine at_end ?_
  refine at_sub [(0, (.pointer none)), (1, (.int .i64 id)), (2, (.int .i64 goal))] ⟨rfl, rfl, rfl, trivial⟩ ?_
  refine at_then ?_
  refine at_seq ?_
  refine at_seq ?_
  refine at_region [0, 1] rfl ?_
  iterate 2 refine at_s T rfl ?_
  refine at_end ?_
  refine at_sub [(0, (.pointer none)), (1, (.int .i64 id)), (2, (.int .i64 goal)), (11, (.bool true))] ⟨rfl, rfl, rfl, rfl, trivial⟩ ?_
  refine at_then ?_
  refine at_cond_t rfl ?_
  refine at_seq ?_
  refine at_region [0] rfl ?_
  refine at_s T rfl ?_
  refine at_end ?_
  refine at_sub [(6, (.int .i64 1))] ⟨rfl, trivial⟩ ?_
  refine at_then ?_
  refine at_ret ?_
  refine at_rt ?_
  obtain rfl := Option.some.inj H
  exact at_post (T := T) rfl (.tmp rfl .nil) (fun w o => ⟨(), rfl, own_to [0] rfl o⟩)

/-! ### (*herdsman/crowd.Crowd).Despawn: function 32 -/
def crowd_Crowd_Despawn_2.f (id : Int) : Option Int := some 1
set_option maxHeartbeats 4000000 in
theorem crowd_Crowd_Despawn_2.c (id : Int) (r : Int) (F : Hp) (H : crowd_Crowd_Despawn_2.f id = some r) :
    CallsL Try.prog 32 [(.pointer none), (.int .i64 id)] [F] (fun _ : Unit => (.int .i64 r)) (fun _ => [F]) := by
  unfold crowd_Crowd_Despawn_2.f at H
  refine calls_atL [(0, (.pointer none)), (1, (.int .i64 id))] Try.func32 rfl rfl ⟨rfl, rfl, trivial⟩ (fun W => ?_)
  refine at_seq ?_
  refine at_region [0] rfl ?_
  refine at_s T rfl ?_
  refine at_end ?_
  refine at_sub [(0, (.pointer none)), (1, (.int .i64 id))] ⟨rfl, rfl, trivial⟩ ?_
  refine at_then ?_
  refine at_seq ?_
  refine at_seq ?_
  refine at_region [0, 1] rfl ?_
  iterate 2 refine at_s T rfl ?_
  refine at_end ?_
  refine at_sub [(0, (.pointer none)), (1, (.int .i64 id)), (8, (.bool true))] ⟨rfl, rfl, rfl, trivial⟩ ?_
  refine at_then ?_
  refine at_cond_t rfl ?_
  refine at_seq ?_
  refine at_region [0] rfl ?_
  refine at_s T rfl ?_
  refine at_end ?_
  refine at_sub [(4, (.int .i64 1))] ⟨rfl, trivial⟩ ?_
  refine at_then ?_
  refine at_ret ?_
  refine at_rt ?_
  obtain rfl := Option.some.inj H
  exact at_post (T := T) rfl (.tmp rfl .nil) (fun w o => ⟨(), rfl, own_to [0] rfl o⟩)

/-! ### (*herdsman/crowd.Crowd).Who: function 26 -/
def crowd_Crowd_Who_2.f (cell : Int) : Option Int := some (-1)
set_option maxHeartbeats 4000000 in
theorem crowd_Crowd_Who_2.c (cell : Int) (r : Int) (F : Hp) (H : crowd_Crowd_Who_2.f cell = some r) :
    CallsL Try.prog 26 [(.pointer none), (.int .i64 cell)] [F] (fun _ : Unit => (.int .i64 r)) (fun _ => [F]) := by
  unfold crowd_Crowd_Who_2.f at H
  refine calls_atL [(0, (.pointer none)), (1, (.int .i64 cell))] Try.func26 rfl rfl ⟨rfl, rfl, trivial⟩ (fun W => ?_)
  refine at_seq ?_
  refine at_region [0] rfl ?_
  refine at_s T rfl ?_
  refine at_end ?_
  refine at_sub [(0, (.pointer none)), (1, (.int .i64 cell))] ⟨rfl, rfl, trivial⟩ ?_
  refine at_then ?_
  refine at_seq ?_
  refine at_seq ?_
  refine at_region [0, 1] rfl ?_
  iterate 2 refine at_s T rfl ?_
  refine at_end ?_
  refine at_sub [(0, (.pointer none)), (1, (.int .i64 cell)), (6, (.bool true))] ⟨rfl, rfl, rfl, trivial⟩ ?_
  refine at_then ?_
  refine at_cond_t rfl ?_
  refine at_seq ?_
  refine at_region [0] rfl ?_
  refine at_s T rfl ?_
  refine at_end ?_
  refine at_sub [(4, (.int .i64 (-1)))] ⟨rfl, trivial⟩ ?_
  refine at_then ?_
  refine at_ret ?_
  refine at_rt ?_
  obtain rfl := Option.some.inj H
  exact at_post (T := T) rfl (.tmp rfl .nil) (fun w o => ⟨(), rfl, own_to [0] rfl o⟩)

/-! ### (*herdsman/crowd.Crowd).Units: function 27 -/
def crowd_Crowd_Units_2.f : Option (List api_Unit) := some []
def crowd_Crowd_Units_2.R (r : (List api_Unit)) (u : Value) (G : List Hp) : Prop := ∃ (a0 : Option Addr) (n0 : Nat) (H0 : Hp), SliceO k_api_Unit 40 r a0 n0 H0 ∧ u = (.slice a0 (List.length r) n0) ∧ G = [H0]
set_option maxHeartbeats 4000000 in
theorem crowd_Crowd_Units_2.c (r : (List api_Unit)) (F : Hp) (H : crowd_Crowd_Units_2.f = some r) :
    CallsL Try.prog 27 [(.pointer none)] [F] (fun p : { p : Value × List Hp // crowd_Crowd_Units_2.R r p.1 p.2 } => p.1.1) (fun p => (p.1.2 ++ []) ++ [F]) := by
  unfold crowd_Crowd_Units_2.f at H
  refine calls_atL [(0, (.pointer none))] Try.func27 rfl rfl ⟨rfl, trivial⟩ (fun W => ?_)
  refine at_seq ?_
  refine at_region [0] rfl ?_
  refine at_s T rfl ?_
  refine at_end ?_
  refine at_sub [(0, (.pointer none))] ⟨rfl, trivial⟩ ?_
  refine at_then ?_
  refine at_seq ?_
  refine at_seq ?_
  refine at_region [0, 1] rfl ?_
  iterate 2 refine at_s T rfl ?_
  refine at_end ?_
  refine at_sub [(0, (.pointer none)), (4, (.bool true))] ⟨rfl, rfl, trivial⟩ ?_
  refine at_then ?_
  refine at_cond_t rfl ?_
  refine at_seq ?_
  refine at_region [0] rfl ?_
  refine at_s T rfl ?_
  refine at_end ?_
  refine at_sub [(2, (.slice none 0 0))] ⟨rfl, trivial⟩ ?_
  refine at_then ?_
  refine at_ret ?_
  refine at_rt ?_
  obtain rfl := Option.some.inj H
  refine at_addnil ?_
  exact at_post (T := T) rfl (.tmp rfl .nil) (fun w o => ⟨⟨(_, _), ⟨none, 0, [], SliceO.nil, rfl, rfl⟩⟩, rfl, own_to [1, 0] rfl o⟩)

/-! ### (*herdsman/crowd.Crowd).Words: function 41 -/
def crowd_Crowd_Words_2.f : Option (List Int) := some []
def crowd_Crowd_Words_2.R (r : (List Int)) (u : Value) (G : List Hp) : Prop := ∃ (a0 : Option Addr) (n0 : Nat) (H0 : Hp), SliceO (Fl.int .u32) 74 r a0 n0 H0 ∧ u = (.slice a0 (List.length r) n0) ∧ G = [H0]
set_option maxHeartbeats 4000000 in
theorem crowd_Crowd_Words_2.c (r : (List Int)) (F : Hp) (H : crowd_Crowd_Words_2.f = some r) :
    CallsL Try.prog 41 [(.pointer none)] [F] (fun p : { p : Value × List Hp // crowd_Crowd_Words_2.R r p.1 p.2 } => p.1.1) (fun p => (p.1.2 ++ []) ++ [F]) := by
  unfold crowd_Crowd_Words_2.f at H
  refine calls_atL [(0, (.pointer none))] Try.func41 rfl rfl ⟨rfl, trivial⟩ (fun W => ?_)
  refine at_seq ?_
  refine at_region [0] rfl ?_
  refine at_s T rfl ?_
  refine at_end ?_
  refine at_sub [(0, (.pointer none))] ⟨rfl, trivial⟩ ?_
  refine at_then ?_
  refine at_seq ?_
  refine at_seq ?_
  refine at_region [0, 1] rfl ?_
  iterate 2 refine at_s T rfl ?_
  refine at_end ?_
  refine at_sub [(0, (.pointer none)), (4, (.bool true))] ⟨rfl, rfl, trivial⟩ ?_
  refine at_then ?_
  refine at_cond_t rfl ?_
  refine at_seq ?_
  refine at_region [0] rfl ?_
  refine at_s T rfl ?_
  refine at_end ?_
  refine at_sub [(2, (.slice none 0 0))] ⟨rfl, trivial⟩ ?_
  refine at_then ?_
  refine at_ret ?_
  refine at_rt ?_
  obtain rfl := Option.some.inj H
  refine at_addnil ?_
  exact at_post (T := T) rfl (.tmp rfl .nil) (fun w o => ⟨⟨(_, _), ⟨none, 0, [], SliceO.nil, rfl, rfl⟩⟩, rfl, own_to [1, 0] rfl o⟩)
end Go.Proofs.Ytkidcebfpengmaa
