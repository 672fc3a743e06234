import Derived.Test.YtkidcebfpengmaaT
import Derived.Test.YtkidcebfpengmaaFcrowd
import Derived.Test.YtkidcebfpengmaaFref1
import Derived.Test.YtkidcebfpengmaaFref21
namespace Go.Proofs.Ytkidcebfpengmaa
open Go.Hx
set_option maxRecDepth 100000
set_option linter.unusedVariables false
/-! ### herdsman/herdsmanlaw25.told: function 28 -/
def law25_told.f : Option Bool := (crowd_New.f 2 1 5).bind fun v1 => optm v1 (some false) (fun yv1 => (crowd_Crowd_Spawn.f yv1 0 1).bind fun v2 => (crowd_Crowd_Tick.f v2.2.2 [1]).bind fun v3 => (if (((v2.1 == 0) && (v2.2.1 == 0)) && (v3.2.2.1 == 0)) = true then ((ref21_Moves.f v3.1 [(api_Move.mk 0 1)]).bind fun v6 => if v6 = true then ((ref1_Ints.f v3.2.1 [0]).bind fun v7 => if v7 = true then ((crowd_Crowd_Units.f v3.2.2.2).bind fun v8 => some ((List.length v8 : Int) == 0)) else (some false)) else (some false)) else (some false)).bind fun x4 => some x4)
set_option maxHeartbeats 4000000 in
theorem law25_told.c (r : Bool) (F : Hp) (H : law25_told.f = some r) :
    CallsL Try.prog 28 [] [F] (fun _ : Unit => (.bool r)) (fun _ => [F]) := by
  unfold law25_told.f at H
  refine calls_atL [] Try.func28 rfl rfl trivial (fun W => ?_)
  refine at_seq ?_
  refine at_region [0] rfl ?_
  refine at_s T rfl ?_
  refine at_end ?_
  refine at_sub [] trivial ?_
  refine at_then ?_
  refine at_seq ?_
  refine at_region [0, 1] rfl ?_
  obtain ⟨v1, V1, H⟩ := bind_e H
  refine at_cons (at_cR (crowd_New.R v1) [] [] rfl rfl rfl rfl has24 rfl rfl (crowd_New.c 2 1 5 v1 _ V1) ?_)
  rintro _ _ ⟨_, _, O2, rfl, rfl⟩
  rcases v1 with _ | yv1
  · replace H := optm_n rfl H
    obtain ⟨rfl, rfl⟩ := O2
    refine at_s T rfl ?_
    refine at_end ?_
    refine at_sub [(1, (.pointer none))] ⟨rfl, trivial⟩ ?_
    refine at_then ?_
    refine at_seq ?_
    refine at_seq ?_
    refine at_region [0, 1] rfl ?_
    iterate 2 refine at_s T rfl ?_
    refine at_end ?_
    refine at_sub [(1, (.pointer none)), (9, (.bool true))] ⟨rfl, rfl, trivial⟩ ?_
    refine at_then ?_
    refine at_cond_t rfl ?_
    refine at_seq ?_
    refine at_region [0] rfl ?_
    refine at_s T rfl ?_
    refine at_end ?_
    refine at_sub [(0, (.bool false))] ⟨rfl, trivial⟩ ?_
    refine at_then ?_
    refine at_ret ?_
    refine at_rt ?_
    obtain rfl := Option.some.inj H
    exact at_post (T := T) rfl (.tmp rfl .nil) (fun w o => ⟨(), rfl, own_to [0] rfl o⟩)
  · replace H := optm_s rfl H
    obtain ⟨b1, b2, a3, H3, a4, n4, H4, b5, a6, n6, H6, s3, s4, s6, rfl, rfl⟩ := O2
    refine at_s T rfl ?_
    refine at_end ?_
    refine at_sub [(1, (.pointer (some ⟨b1, 0, none⟩)))] ⟨rfl, trivial⟩ ?_
    refine at_then ?_
    refine at_seq ?_
    refine at_seq ?_
    refine at_region [0, 1] rfl ?_
    iterate 2 refine at_s T rfl ?_
    refine at_end ?_
    refine at_sub [(1, (.pointer (some ⟨b1, 0, none⟩))), (9, (.bool false))] ⟨rfl, rfl, trivial⟩ ?_
    refine at_then ?_
    refine at_cond_f rfl ?_
    refine at_skip ?_
    refine at_then ?_
    refine at_seq ?_
    refine at_region [0, 1, 2, 3, 4, 5, 6] rfl ?_
    refine at_s T rfl ?_
    obtain ⟨v2, V3, H⟩ := bind_e H
    refine at_cons (at_cR (As := [[(b1, Obj.cells #[(.int .i64 yv1.w), (.int .i64 yv1.h), (.int .i64 yv1.most), (.pointer (some ⟨b2, 0, none⟩)), (.pointer (some ⟨b5, 0, none⟩))] 92 (0, 0))], [(b2, Obj.cells #[(.int .i64 yv1.units.most), (.int .i64 yv1.units.next), (.map (some a3)), (.slice a4 (List.length yv1.units.order) n4)] 102 (0, 0))], H3, H4, [(b5, Obj.cells #[(.slice a6 (List.length yv1.floor.words) n6), (.int .i64 yv1.floor.count)] 104 (0, 0))], H6]) (R := [F]) (crowd_Crowd_Spawn.R b1 v2) [] [1, 1, 1, 1, 1, 1] rfl rfl rfl rfl has25 rfl rfl (crowd_Crowd_Spawn.c yv1 0 1 v2 _ V3 s3 s4 s6) ?_)
    rintro _ _ ⟨b7, a8, H8, a9, n9, H9, b10, a11, n11, H11, s8, s9, s11, rfl, rfl⟩
    iterate 5 refine at_s T rfl ?_
    refine at_end ?_
    refine at_sub [(1, (.pointer (some ⟨b1, 0, none⟩))), (2, (.int .i64 v2.1)), (3, (.int .i64 v2.2.1))] ⟨rfl, rfl, rfl, trivial⟩ ?_
    refine at_then ?_
    refine at_seq ?_
    refine at_region [0, 1, 2, 3, 4, 5, 6, 7, 8, 9] rfl ?_
    refine at_s T rfl ?_
    refine at_cons (at_bs (k := (Fl.int .i64)) T [1] rfl rfl rfl rfl rfl rfl rfl rfl rfl (fun a12 H12 s12 => ?_))
    obtain ⟨v3, V4, H⟩ := bind_e H
    refine at_cons (at_cR (As := [[(b1, Obj.cells #[(.int .i64 v2.2.2.w), (.int .i64 v2.2.2.h), (.int .i64 v2.2.2.most), (.pointer (some ⟨b7, 0, none⟩)), (.pointer (some ⟨b10, 0, none⟩))] 92 (0, 0))], [(b7, Obj.cells #[(.int .i64 v2.2.2.units.most), (.int .i64 v2.2.2.units.next), (.map (some a8)), (.slice a9 (List.length v2.2.2.units.order) n9)] 102 (0, 0))], H8, H9, [(b10, Obj.cells #[(.slice a11 (List.length v2.2.2.floor.words) n11), (.int .i64 v2.2.2.floor.count)] 104 (0, 0))], H11]) (R := [F, H12]) (crowd_Crowd_Tick.R b1 v3) [] [1, 1, 1, 1, 1, 1] rfl rfl rfl rfl has33 rfl rfl (crowd_Crowd_Tick.c v2.2.2 [1] v3 _ V4 s8 s9 s11 (own_of s12 (j := 1) rfl) s12.cap_le) ?_)
    rintro _ _ ⟨a13, n13, H13, a14, n14, H14, b15, a16, H16, a17, n17, H17, b18, a19, n19, H19, s13, s14, s16, s17, s19, rfl, rfl⟩
    iterate 7 refine at_s T rfl ?_
    refine at_end ?_
    refine at_to [(1, (.pointer (some ⟨b1, 0, none⟩))), (2, (.int .i64 v2.1)), (3, (.int .i64 v2.2.1)), (4, (.slice a13 (List.length v3.1) n13)), (5, (.slice a14 (List.length v3.2.1) n14)), (6, (.int .i64 v3.2.2.1))] [0, 1, 1, 1, 1, 1, 1, 1, 1] [F, H13, H14, [(b1, Obj.cells #[(.int .i64 v3.2.2.2.w), (.int .i64 v3.2.2.2.h), (.int .i64 v3.2.2.2.most), (.pointer (some ⟨b15, 0, none⟩)), (.pointer (some ⟨b18, 0, none⟩))] 92 (0, 0))], [(b15, Obj.cells #[(.int .i64 v3.2.2.2.units.most), (.int .i64 v3.2.2.2.units.next), (.map (some a16)), (.slice a17 (List.length v3.2.2.2.units.order) n17)] 102 (0, 0))], H16, H17, [(b18, Obj.cells #[(.slice a19 (List.length v3.2.2.2.floor.words) n19), (.int .i64 v3.2.2.2.floor.count)] 104 (0, 0))], H19] ⟨rfl, rfl, rfl, rfl, rfl, rfl, trivial⟩ rfl ?_
    refine at_then ?_
    obtain ⟨z5, Z5, H⟩ := bind_e H
    refine at_seq_mid (σ := Bool) (fun x4 => x4 = z5) (fun x4 => [(0, (.bool x4))]) (fun x4 => [F]) ?_ ?_
    · refine at_region [0, 1, 2, 3, 4, 5, 6, 7, 8, 9, 10, 11, 12, 13, 14, 15, 16, 17, 18, 19, 20, 21, 22, 23, 24, 25, 26, 27] rfl ?_
      iterate 3 refine at_s T rfl ?_
      refine at_grp T [3, 4, 5] (s := 24) (c := (v2.1 == 0)) [(1, (.pointer (some ⟨b1, 0, none⟩))), (4, (.slice a13 (List.length v3.1) n13)), (5, (.slice a14 (List.length v3.2.1) n14)), (6, (.int .i64 v3.2.2.1)), (27, (.bool ((v2.1 == 0) && (v2.2.1 == 0))))] rfl rfl rfl (fun c6 => ⟨rfl, rfl, rfl, rfl, (by rw [c6]; rfl), trivial⟩) (fun c6 => ⟨rfl, rfl, rfl, rfl, (by rw [c6]; rfl), trivial⟩) ?_
      refine at_s T rfl ?_
      refine at_grp T [7, 8, 9] (s := 28) (c := ((v2.1 == 0) && (v2.2.1 == 0))) [(1, (.pointer (some ⟨b1, 0, none⟩))), (4, (.slice a13 (List.length v3.1) n13)), (5, (.slice a14 (List.length v3.2.1) n14)), (31, (.bool (((v2.1 == 0) && (v2.2.1 == 0)) && (v3.2.2.1 == 0))))] rfl rfl rfl (fun c7 => ⟨rfl, rfl, rfl, (by rw [c7]; rfl), trivial⟩) (fun c7 => ⟨rfl, rfl, rfl, (by rw [c7]; rfl), trivial⟩) ?_
      refine at_s T rfl ?_
      refine at_case (s := 32) rfl (fun c8 => ?_) (fun c8 => ?_)
      · replace Z5 := if_t c8 Z5
        iterate 2 refine at_s T rfl ?_
        refine at_cons (at_bs (k := k_api_Move) T [(api_Move.mk 0 1)] rfl rfl rfl rfl rfl rfl rfl rfl rfl (fun a20 H20 s20 => ?_))
        obtain ⟨v6, V9, Z5⟩ := bind_e Z5
        refine at_cons (at_c (B := fun _ => []) [] rfl rfl rfl rfl has22 rfl rfl (ref21_Moves.c v3.1 [(api_Move.mk 0 1)] v6 _ V9 (own_of s13 (j := 1) rfl) s13.cap_le (own_of s20 (j := 9) rfl) s20.cap_le) (fun _ => ?_))
        iterate 2 refine at_s T rfl ?_
        refine at_case (s := 38) rfl (fun c10 => ?_) (fun c10 => ?_)
        · replace Z5 := if_t c10 Z5
          refine at_s T rfl ?_
          refine at_cons (at_bs (k := (Fl.int .i64)) T [0] rfl rfl rfl rfl rfl rfl rfl rfl rfl (fun a21 H21 s21 => ?_))
          obtain ⟨v7, V11, Z5⟩ := bind_e Z5
          refine at_cons (at_c (B := fun _ => []) [] rfl rfl rfl rfl has17 rfl rfl (ref1_Ints.c v3.2.1 [0] v7 _ V11 (own_of s14 (j := 2) rfl) s14.cap_le (own_of s21 (j := 10) rfl) s21.cap_le) (fun _ => ?_))
          iterate 2 refine at_s T rfl ?_
          refine at_case (s := 43) rfl (fun c12 => ?_) (fun c12 => ?_)
          · replace Z5 := if_t c12 Z5
            refine at_s T rfl ?_
            obtain ⟨v8, V13, Z5⟩ := bind_e Z5
            refine at_cons (at_cR (As := [[(b1, Obj.cells #[(.int .i64 v3.2.2.2.w), (.int .i64 v3.2.2.2.h), (.int .i64 v3.2.2.2.most), (.pointer (some ⟨b15, 0, none⟩)), (.pointer (some ⟨b18, 0, none⟩))] 92 (0, 0))], [(b15, Obj.cells #[(.int .i64 v3.2.2.2.units.most), (.int .i64 v3.2.2.2.units.next), (.map (some a16)), (.slice a17 (List.length v3.2.2.2.units.order) n17)] 102 (0, 0))], H16, H17, [(b18, Obj.cells #[(.slice a19 (List.length v3.2.2.2.floor.words) n19), (.int .i64 v3.2.2.2.floor.count)] 104 (0, 0))], H19]) (R := [F, H13, H14, H20, H21]) (crowd_Crowd_Units.R v8) [[(b1, Obj.cells #[(.int .i64 v3.2.2.2.w), (.int .i64 v3.2.2.2.h), (.int .i64 v3.2.2.2.most), (.pointer (some ⟨b15, 0, none⟩)), (.pointer (some ⟨b18, 0, none⟩))] 92 (0, 0))], [(b15, Obj.cells #[(.int .i64 v3.2.2.2.units.most), (.int .i64 v3.2.2.2.units.next), (.map (some a16)), (.slice a17 (List.length v3.2.2.2.units.order) n17)] 102 (0, 0))], H16, H17, [(b18, Obj.cells #[(.slice a19 (List.length v3.2.2.2.floor.words) n19), (.int .i64 v3.2.2.2.floor.count)] 104 (0, 0))], H19] [3, 3, 3, 3, 3, 3] rfl rfl rfl rfl has27 rfl rfl (crowd_Crowd_Units.c v3.2.2.2 v8 _ V13 s16 s17 s19) ?_)
            rintro _ _ ⟨a22, n22, H22, s22, rfl, rfl⟩
            iterate 4 refine at_s T rfl ?_
            refine at_end ?_
            refine at_to [(0, (.bool ((List.length v8 : Int) == 0)))] [0] [F] ⟨rfl, trivial⟩ rfl ?_
            refine at_then ?_
            obtain rfl := Option.some.inj Z5
            exact at_mid ((List.length v8 : Int) == 0) [0] rfl ⟨rfl, trivial⟩ rfl
          · replace Z5 := if_f (bf c12) Z5
            iterate 6 refine at_s T rfl ?_
            refine at_end ?_
            refine at_to [(0, (.bool false))] [0] [F] ⟨rfl, trivial⟩ rfl ?_
            refine at_then ?_
            obtain rfl := Option.some.inj Z5
            exact at_mid false [0] rfl ⟨rfl, trivial⟩ rfl
        · replace Z5 := if_f (bf c10) Z5
          iterate 11 refine at_s T rfl ?_
          refine at_end ?_
          refine at_to [(0, (.bool false))] [0] [F] ⟨rfl, trivial⟩ rfl ?_
          refine at_then ?_
          obtain rfl := Option.some.inj Z5
          exact at_mid false [0] rfl ⟨rfl, trivial⟩ rfl
      · replace Z5 := if_f (bf c8) Z5
        iterate 17 refine at_s T rfl ?_
        refine at_end ?_
        refine at_to [(0, (.bool false))] [0] [F] ⟨rfl, trivial⟩ rfl ?_
        refine at_then ?_
        obtain rfl := Option.some.inj Z5
        exact at_mid false [0] rfl ⟨rfl, trivial⟩ rfl
    · rintro x4 rfl
      refine at_ret ?_
      obtain rfl := Option.some.inj H
      exact at_post (T := T) rfl (.tmp rfl .nil) (fun w o => ⟨(), rfl, own_to [0] rfl o⟩)

/-! ### herdsman/herdsmanlaw25.near: function 30 -/
def law25_near.f (q : herdsmanlaw25_Ask) (w : Int) (h : Int) (next : Int) : Option herdsmanlaw25_Ask := ((ref1_Within.f q.Kind 0 9).bind fun v3 => (if (v3 == 5) = true then (some (v3 == 5)) else (some (v3 == 6))).bind fun x4 => if x4 = true then ((ref1_Within.f q.A (-1) next).bind fun v6 => some v6) else ((ref1_Within.f q.A (-1) (w64 (w * h))).bind fun v7 => some v7)).bind fun x1 => (ref1_Within.f q.B (-1) (w64 (w * h))).bind fun v8 => some (herdsmanlaw25_Ask.mk q.Kind x1 v8)
set_option maxHeartbeats 4000000 in
theorem law25_near.c (q : herdsmanlaw25_Ask) (w : Int) (h : Int) (next : Int) (r : herdsmanlaw25_Ask) (F : Hp) (H : law25_near.f q w h next = some r) :
    CallsL Try.prog 30 [(.agg #[(.int .i64 q.Kind), (.int .i64 q.A), (.int .i64 q.B)]), (.int .i64 w), (.int .i64 h), (.int .i64 next)] [F] (fun _ : Unit => (.agg #[(.int .i64 r.Kind), (.int .i64 r.A), (.int .i64 r.B)])) (fun _ => [F]) := by
  unfold law25_near.f at H
  refine calls_atL [(0, (.agg #[(.int .i64 q.Kind), (.int .i64 q.A), (.int .i64 q.B)])), (1, (.int .i64 w)), (2, (.int .i64 h)), (3, (.int .i64 next))] Try.func30 rfl rfl ⟨rfl, rfl, rfl, rfl, trivial⟩ (fun W => ?_)
  refine at_seq ?_
  refine at_region [0, 1] rfl ?_
  refine at_cons (at_bx T [(.int .i64 q.Kind), (.int .i64 q.A), (.int .i64 q.B)] rfl rfl rfl rfl (fun b1 => ?_))
  refine at_cons (at_al T [(.int .i64 0), (.int .i64 0), (.int .i64 0)] rfl rfl rfl rfl (fun b2 => ?_))
  refine at_end ?_
  refine at_sub [(1, (.int .i64 w)), (2, (.int .i64 h)), (3, (.int .i64 next)), (4, (.pointer (some ⟨b1, 0, none⟩))), (8, (.pointer (some ⟨b2, 0, none⟩)))] ⟨rfl, rfl, rfl, rfl, rfl, trivial⟩ ?_
  refine at_then ?_
  obtain ⟨z2, Z1, H⟩ := bind_e H
  refine at_seq_mid (σ := Int) (fun x1 => x1 = z2) (fun x1 => [(1, (.int .i64 w)), (2, (.int .i64 h)), (4, (.pointer (some ⟨b1, 0, none⟩))), (8, (.pointer (some ⟨b2, 0, none⟩)))]) (fun x1 => [F, [(b1, Obj.cells #[(.int .i64 q.Kind), (.int .i64 x1), (.int .i64 q.B)] 57 (0, 0))], [(b2, Obj.cells #[(.int .i64 0), (.int .i64 0), (.int .i64 0)] 57 (0, 0))]]) ?_ ?_
  · refine at_seq ?_
    refine at_region [0, 1, 2] rfl ?_
    refine at_s T rfl ?_
    refine at_v rfl (g_load T rfl rfl rfl rfl (in_var (j := 1) rfl rfl)) ?_
    obtain ⟨v3, V2, Z1⟩ := bind_e Z1
    refine at_cons (at_c (B := fun _ => []) [] rfl rfl rfl rfl has12 rfl rfl (ref1_Within.c q.Kind 0 9 v3 _ V2) (fun _ => ?_))
    refine at_end ?_
    refine at_sub [(1, (.int .i64 w)), (2, (.int .i64 h)), (3, (.int .i64 next)), (4, (.pointer (some ⟨b1, 0, none⟩))), (8, (.pointer (some ⟨b2, 0, none⟩))), (11, (.int .i64 v3))] ⟨rfl, rfl, rfl, rfl, rfl, rfl, trivial⟩ ?_
    refine at_then ?_
    refine at_block ?_
    obtain ⟨z5, Z3, Z1⟩ := bind_e Z1
    refine at_seq_mid (σ := Bool) (fun x4 => x4 = z5) (fun x4 => [(1, (.int .i64 w)), (2, (.int .i64 h)), (3, (.int .i64 next)), (4, (.pointer (some ⟨b1, 0, none⟩))), (8, (.pointer (some ⟨b2, 0, none⟩))), (19, (.bool x4))]) (fun x4 => [F, [(b1, Obj.cells #[(.int .i64 q.Kind), (.int .i64 q.A), (.int .i64 q.B)] 57 (0, 0))], [(b2, Obj.cells #[(.int .i64 0), (.int .i64 0), (.int .i64 0)] 57 (0, 0))]]) ?_ ?_
    · refine at_seq ?_
      refine at_region [0, 1] rfl ?_
      iterate 2 refine at_s T rfl ?_
      refine at_end ?_
      refine at_sub [(1, (.int .i64 w)), (2, (.int .i64 h)), (3, (.int .i64 next)), (4, (.pointer (some ⟨b1, 0, none⟩))), (8, (.pointer (some ⟨b2, 0, none⟩))), (11, (.int .i64 v3)), (19, (.bool (v3 == 5)))] ⟨rfl, rfl, rfl, rfl, rfl, rfl, rfl, trivial⟩ ?_
      refine at_then ?_
      refine at_cond rfl (fun c4 => ?_) (fun c4 => ?_)
      · replace Z3 := if_t c4 Z3
        refine at_skip ?_
        refine at_then ?_
        obtain rfl := Option.some.inj Z3
        exact at_mid (v3 == 5) [0, 0, 0] rfl ⟨rfl, rfl, rfl, rfl, rfl, rfl, trivial⟩ rfl
      · replace Z3 := if_f (bf c4) Z3
        refine at_region [0, 1] rfl ?_
        iterate 2 refine at_s T rfl ?_
        refine at_end ?_
        refine at_sub [(1, (.int .i64 w)), (2, (.int .i64 h)), (3, (.int .i64 next)), (4, (.pointer (some ⟨b1, 0, none⟩))), (8, (.pointer (some ⟨b2, 0, none⟩))), (19, (.bool (v3 == 6)))] ⟨rfl, rfl, rfl, rfl, rfl, rfl, trivial⟩ ?_
        refine at_then ?_
        obtain rfl := Option.some.inj Z3
        exact at_mid (v3 == 6) [0, 0, 0] rfl ⟨rfl, rfl, rfl, rfl, rfl, rfl, trivial⟩ rfl
    · rintro x4 rfl
      refine at_cond rfl (fun c5 => ?_) (fun c5 => ?_)
      · replace Z1 := if_t c5 Z1
        refine at_region [0, 1, 2, 3, 4, 5] rfl ?_
        refine at_s T rfl ?_
        refine at_v rfl (g_load T rfl rfl rfl rfl (in_var (j := 1) rfl rfl)) ?_
        refine at_s T rfl ?_
        obtain ⟨v6, V6, Z1⟩ := bind_e Z1
        refine at_cons (at_c (B := fun _ => []) [] rfl rfl rfl rfl has12 rfl rfl (ref1_Within.c q.A (-1) next v6 _ V6) (fun _ => ?_))
        refine at_s T rfl ?_
        refine at_cons (at_st T 1 [(.int .i64 q.Kind), (.int .i64 v6), (.int .i64 q.B)] rfl rfl rfl rfl rfl rfl rfl rfl rfl rfl ?_)
        refine at_end ?_
        refine at_sub [(1, (.int .i64 w)), (2, (.int .i64 h)), (4, (.pointer (some ⟨b1, 0, none⟩))), (8, (.pointer (some ⟨b2, 0, none⟩)))] ⟨rfl, rfl, rfl, rfl, trivial⟩ ?_
        refine at_nb ?_
        refine at_then ?_
        obtain rfl := Option.some.inj Z1
        exact at_mid v6 [0, 0, 0] rfl ⟨rfl, rfl, rfl, rfl, trivial⟩ rfl
      · replace Z1 := if_f (bf c5) Z1
        refine at_region [0, 1, 2, 3, 4, 5, 6, 7] rfl ?_
        refine at_s T rfl ?_
        refine at_v rfl (g_load T rfl rfl rfl rfl (in_var (j := 1) rfl rfl)) ?_
        iterate 3 refine at_s T rfl ?_
        obtain ⟨v7, V7, Z1⟩ := bind_e Z1
        refine at_cons (at_c (B := fun _ => []) [] rfl rfl rfl rfl has12 rfl rfl (ref1_Within.c q.A (-1) (w64 (w * h)) v7 _ V7) (fun _ => ?_))
        refine at_s T rfl ?_
        refine at_cons (at_st T 1 [(.int .i64 q.Kind), (.int .i64 v7), (.int .i64 q.B)] rfl rfl rfl rfl rfl rfl rfl rfl rfl rfl ?_)
        refine at_end ?_
        refine at_sub [(1, (.int .i64 w)), (2, (.int .i64 h)), (4, (.pointer (some ⟨b1, 0, none⟩))), (8, (.pointer (some ⟨b2, 0, none⟩)))] ⟨rfl, rfl, rfl, rfl, trivial⟩ ?_
        refine at_nb ?_
        refine at_then ?_
        obtain rfl := Option.some.inj Z1
        exact at_mid v7 [0, 0, 0] rfl ⟨rfl, rfl, rfl, rfl, trivial⟩ rfl
  · rintro x1 rfl
    refine at_seq ?_
    refine at_region [0, 1, 2, 3, 4, 5, 6, 7] rfl ?_
    refine at_s T rfl ?_
    refine at_v rfl (g_load T rfl rfl rfl rfl (in_var (j := 1) rfl rfl)) ?_
    iterate 3 refine at_s T rfl ?_
    obtain ⟨v8, V8, H⟩ := bind_e H
    refine at_cons (at_c (B := fun _ => []) [] rfl rfl rfl rfl has12 rfl rfl (ref1_Within.c q.B (-1) (w64 (w * h)) v8 _ V8) (fun _ => ?_))
    refine at_s T rfl ?_
    refine at_cons (at_st T 1 [(.int .i64 q.Kind), (.int .i64 x1), (.int .i64 v8)] rfl rfl rfl rfl rfl rfl rfl rfl rfl rfl ?_)
    refine at_end ?_
    refine at_sub [(4, (.pointer (some ⟨b1, 0, none⟩))), (8, (.pointer (some ⟨b2, 0, none⟩)))] ⟨rfl, rfl, trivial⟩ ?_
    refine at_then ?_
    refine at_seq ?_
    refine at_region [0, 1] rfl ?_
    refine at_v rfl (g_loadA T (cs := [(.int .i64 q.Kind), (.int .i64 x1), (.int .i64 v8)]) rfl rfl rfl rfl rfl rfl (in_varA (j := 1) rfl rfl)) ?_
    refine at_cons (at_st T 2 [(.int .i64 q.Kind), (.int .i64 x1), (.int .i64 v8)] rfl rfl rfl rfl rfl rfl rfl rfl rfl rfl ?_)
    refine at_end ?_
    refine at_to [(8, (.pointer (some ⟨b2, 0, none⟩)))] [0, 1] [F, [(b2, Obj.cells #[(.int .i64 q.Kind), (.int .i64 x1), (.int .i64 v8)] 57 (0, 0))]] ⟨rfl, trivial⟩ rfl ?_
    refine at_then ?_
    refine at_ret ?_
    obtain rfl := Option.some.inj H
    exact at_post (T := T) rfl (.aggv (j := 1) [(.int .i64 q.Kind), (.int .i64 x1), (.int .i64 v8)] rfl rfl rfl rfl rfl rfl rfl .nil) (fun w o => ⟨(), rfl, own_to [0] rfl o⟩)

/-! ### herdsman/herdsmanlaw25.dirs: function 34 -/
def law25_dirs.l0 : Nat → Int → Int → Int → List Int → Int → Option (List Int)
  | 0, _, _, _, _, _ => none
  | k5 + 1, n, a, b, x3, x4 => if x4 < n then (if (¬ (w64 (x4 + 1)) = 0) then (if (¬ (w64 (x4 + 3)) = 0) then ((ref1_Within.f (w64 ((w64 (Int.tdiv a (w64 (x4 + 1)))) + (Int.tmod b (w64 (x4 + 3))))) 0 5).bind fun v6 => if (List.length x3 + 1 ≤ 1099511627776) then (law25_dirs.l0 k5 n a b (x3 ++ [v6]) (w64 (x4 + 1))) else none) else none) else none) else (some x3)
def law25_dirs.f (n : Int) (a : Int) (b : Int) : Option (List Int) := law25_dirs.l0 fuel n a b [] 0
def law25_dirs.R (r : (List Int)) (u : Value) (G : List Hp) : Prop := ∃ (a0 : Option Addr) (n0 : Nat) (H0 : Hp), SliceO (Fl.int .i64) 3 r a0 n0 H0 ∧ u = (.slice a0 (List.length r) n0) ∧ G = [H0]
set_option maxHeartbeats 4000000 in
theorem law25_dirs.c (n : Int) (a : Int) (b : Int) (r : (List Int)) (F : Hp) (H : law25_dirs.f n a b = some r) :
    CallsL Try.prog 34 [(.int .i64 n), (.int .i64 a), (.int .i64 b)] [F] (fun p : { p : Value × List Hp // law25_dirs.R r p.1 p.2 } => p.1.1) (fun p => (p.1.2 ++ []) ++ [F]) := by
  unfold law25_dirs.f at H
  refine calls_atL [(0, (.int .i64 n)), (1, (.int .i64 a)), (2, (.int .i64 b))] Try.func34 rfl rfl ⟨rfl, rfl, rfl, trivial⟩ (fun W => ?_)
  refine at_seq ?_
  refine at_region [0] rfl ?_
  refine at_s T rfl ?_
  refine at_end ?_
  refine at_sub [(0, (.int .i64 n)), (1, (.int .i64 a)), (2, (.int .i64 b))] ⟨rfl, rfl, rfl, trivial⟩ ?_
  refine at_then ?_
  refine at_seq ?_
  refine at_region [0] rfl ?_
  refine at_s T rfl ?_
  refine at_end ?_
  refine at_sub [(0, (.int .i64 n)), (1, (.int .i64 a)), (2, (.int .i64 b)), (7, (.slice none 0 0))] ⟨rfl, rfl, rfl, rfl, trivial⟩ ?_
  refine at_then ?_
  refine at_seq ?_
  refine at_seq ?_
  refine at_region [0] rfl ?_
  refine at_s T rfl ?_
  refine at_end ?_
  refine at_sub [(0, (.int .i64 n)), (1, (.int .i64 a)), (2, (.int .i64 b)), (7, (.slice none 0 0)), (8, (.int .i64 0))] ⟨rfl, rfl, rfl, rfl, rfl, trivial⟩ ?_
  refine at_then ?_
  refine at_block ?_
  refine at_addnil ?_
  refine at_loopL (σ := Nat × List Int × Int × Option Addr × Nat × Hp) (fun ⟨k5, x3, x4, a2, n2, H2⟩ => law25_dirs.l0 k5 n a b x3 x4 = some r ∧ SliceO (Fl.int .i64) 3 x3 a2 n2 H2) (fun ⟨k5, x3, x4, a2, n2, H2⟩ => [(0, (.int .i64 n)), (1, (.int .i64 a)), (2, (.int .i64 b)), (7, (.slice a2 (List.length x3) n2)), (8, (.int .i64 x4))]) (fun ⟨k5, x3, x4, a2, n2, H2⟩ => [F, H2]) (fun s => s.1) (fuel, [], 0, none, 0, []) [0, 0] ⟨H, SliceO.nil⟩ ⟨rfl, rfl, rfl, rfl, rfl, trivial⟩ rfl ?_
  rintro ⟨k5, x3, x4, a2, n2, H2⟩ ⟨Z1, s2⟩
  replace Z1 : law25_dirs.l0 k5 n a b x3 x4 = some r := Z1
  rcases k5 with _ | k5
  · rw [law25_dirs.l0] at Z1; cases Z1
  · rw [law25_dirs.l0] at Z1
    refine at_seq ?_
    refine at_seq ?_
    refine at_region [0, 1, 2] rfl ?_
    iterate 3 refine at_s T rfl ?_
    refine at_end ?_
    refine at_sub [(0, (.int .i64 n)), (1, (.int .i64 a)), (2, (.int .i64 b)), (7, (.slice a2 (List.length x3) n2)), (8, (.int .i64 x4)), (11, (.bool (decide (x4 < n))))] ⟨rfl, rfl, rfl, rfl, rfl, rfl, trivial⟩ ?_
    refine at_then ?_
    refine at_cond rfl (fun c2 => ?_) (fun c2 => ?_)
    · replace Z1 := if_t (of_decide_eq_true c2) Z1
      refine at_skip ?_
      refine at_then ?_
      refine at_seq ?_
      refine at_block ?_
      refine at_region_m [[], [], [], [2], [1, 2, 3], [], [], [6], [5, 6, 7], [1, 2, 3, 4, 5, 6, 7, 8], [1, 2, 3, 4, 5, 6, 7, 8, 9], [1, 2, 3, 4, 5, 6, 7, 8, 9, 10], [0, 1, 2, 3, 4, 5, 6, 7, 8, 9, 10, 11], [0, 1, 2, 3, 4, 5, 6, 7, 8, 9, 10, 11, 12]] [12] [F, H2] mix (by kernel_rfl) (by repeat first | exact pf_body | refine pf_then ?_ | refine pf_block ?_) (fun hg pf => ?_)
      refine atm_s T 0 hg pf (by kernel_rfl) (still_o [0, 0] rfl) rfl ?_
      refine atm_s T 1 hg pf (by kernel_rfl) (still_o [0, 0] rfl) rfl ?_
      refine atm_s T 2 hg pf (by kernel_rfl) (still_o [0, 0] rfl) rfl ?_
      refine atm_s T 3 hg pf (by kernel_rfl) (still_o [0, 0] rfl) rfl ?_
      obtain ⟨c3, Z1⟩ := chk_e Z1
      refine atm_v 4 hg pf (by kernel_rfl) (still_o [0, 0] rfl) rfl rfl (g_quo rfl rfl rfl c3) ?_
      refine atm_s T 5 hg pf (by kernel_rfl) (still_o [0, 0] rfl) rfl ?_
      refine atm_s T 6 hg pf (by kernel_rfl) (still_o [0, 0] rfl) rfl ?_
      refine atm_s T 7 hg pf (by kernel_rfl) (still_o [0, 0] rfl) rfl ?_
      obtain ⟨c4, Z1⟩ := chk_e Z1
      refine atm_v 8 hg pf (by kernel_rfl) (still_o [0, 0] rfl) rfl rfl (g_rem rfl rfl rfl c4) ?_
      refine atm_s T 9 hg pf (by kernel_rfl) (still_o [0, 0] rfl) rfl ?_
      refine atm_one 10 (by kernel_rfl) ?_
      obtain ⟨v6, V5, Z1⟩ := bind_e Z1
      refine at_c (B := fun _ => []) [] rfl rfl rfl rfl has12 rfl rfl (ref1_Within.c (w64 ((w64 (Int.tdiv a (w64 (x4 + 1)))) + (Int.tmod b (w64 (x4 + 3))))) 0 5 v6 _ V5) (fun _ => ?_)
      refine atm_next (still_o [0, 0] rfl) ?_
      refine atm_one 11 (by kernel_rfl) ?_
      refine at_bs (k := (Fl.int .i64)) T [v6] rfl rfl rfl rfl rfl rfl rfl rfl rfl (fun a3 H3 s3 => ?_)
      refine atm_next (still_o [0, 0] rfl) ?_
      refine atm_one 12 (by kernel_rfl) ?_
      obtain ⟨c6, Z1⟩ := chk_e Z1
      refine at_ap (k := (Fl.int .i64)) (xs := x3) T (g := 1) rfl rfl rfl rfl rfl rfl rfl rfl rfl rfl s2 (own_of s3 (j := 2) rfl) c6 rfl (fun a4 n4 H4 s4 => ?_)
      refine atm_next (still_l (by kernel_rfl)) ?_
      refine atm_s T 13 hg pf (by kernel_rfl) (still_l (by kernel_rfl)) rfl ?_
      refine atm_end (by kernel_rfl) ?_
      refine at_to [(0, (.int .i64 n)), (1, (.int .i64 a)), (2, (.int .i64 b)), (7, (.slice a4 (List.length (x3 ++ [v6])) n4)), (8, (.int .i64 x4))] [0, 0] [F, H4] ⟨rfl, rfl, rfl, rfl, rfl, trivial⟩ rfl ?_
      refine at_nb ?_
      refine at_then ?_
      refine at_region [0, 1, 2] rfl ?_
      iterate 3 refine at_s T rfl ?_
      refine at_end ?_
      refine at_sub [(0, (.int .i64 n)), (1, (.int .i64 a)), (2, (.int .i64 b)), (7, (.slice a4 (List.length (x3 ++ [v6])) n4)), (8, (.int .i64 (w64 (x4 + 1))))] ⟨rfl, rfl, rfl, rfl, rfl, trivial⟩ ?_
      refine at_then ?_
      exact at_roundL (k5, (x3 ++ [v6]), (w64 (x4 + 1)), a4, n4, H4) [0, 0] ⟨Z1, s4⟩ (Nat.lt_succ_self _) ⟨rfl, rfl, rfl, rfl, rfl, trivial⟩ rfl
    · replace Z1 := if_f (of_decide_eq_false c2) Z1
      refine at_exit ?_
      refine at_xt ?_
      refine at_xt ?_
      refine at_xb ?_
      refine at_then ?_
      refine at_seq ?_
      refine at_region [0, 1] rfl ?_
      iterate 2 refine at_s T rfl ?_
      refine at_end ?_
      refine at_sub [(6, (.slice a2 (List.length x3) n2))] ⟨rfl, trivial⟩ ?_
      refine at_then ?_
      refine at_ret ?_
      obtain rfl := Option.some.inj Z1
      exact at_post (T := T) rfl (.tmp rfl .nil) (fun w o => ⟨⟨(_, _), ⟨a2, n2, H2, s2, rfl, rfl⟩⟩, rfl, own_to [1, 0] rfl o⟩)
end Go.Proofs.Ytkidcebfpengmaa
