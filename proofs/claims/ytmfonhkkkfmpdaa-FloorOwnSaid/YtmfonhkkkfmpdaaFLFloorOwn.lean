import Derived.Test.YtmfonhkkkfmpdaaT
import Derived.Test.YtmfonhkkkfmpdaaFfloor
import Derived.Test.YtmfonhkkkfmpdaaFlaw22
import Derived.Test.YtmfonhkkkfmpdaaFref1
namespace Go.Proofs.Ytmfonhkkkfmpdaa
open Go.Hx
set_option maxRecDepth 100000
set_option linter.unusedVariables false
/-! ### herdsman/herdsmanlaw22.FloorOwn: function 5 -/
def law22_FloorOwn.l0 : Nat → Int → Int → Int → (Bool × floor_Floor) → List Int → Int → Option Bool
  | 0, _, _, _, _, _, _ => none
  | k13 + 1, v1, v5, v6, v7, x11, x12 => if x12 < (List.length x11 : Int) then (if (0 ≤ x12 ∧ x12 < (List.length x11 : Int)) then (law22_FloorOwn.l0 k13 v1 v5 v6 v7 (List.set x11 (Int.toNat x12) 9) (w64 (x12 + 1))) else none) else ((floor_Floor_Words.f v7.2).bind fun v14 => ((law22_told.f).bind fun v17 => if (v17 && ((List.length v14 : Int) == v1)) = true then (if (0 ≤ v5 ∧ v5 < (List.length v14 : Int)) then (if ((rd v14 v5) == (wu32 (w64 (v6 + 1)))) = true then ((floor_Floor_Who.f v7.2 v5).bind fun v18 => if (v18 == v6) = true then ((floor_Floor_Count.f v7.2).bind fun v19 => some (v19 == 1)) else (some false)) else (some false)) else none) else (some false)).bind fun x15 => some x15)
def law22_FloorOwn.f (n : Int) (cell : Int) (id : Int) : Option Bool := (ref1_Within.f n 1 30).bind fun v1 => (floor_New.f v1).bind fun v2 => optm v2 ((ref1_Within.f cell 0 (w64 (v1 - 1))).bind fun v3 => (ref1_Within.f id 0 4294967294).bind fun v4 => some false) (fun yv2 => (ref1_Within.f cell 0 (w64 (v1 - 1))).bind fun v5 => (ref1_Within.f id 0 4294967294).bind fun v6 => (floor_Floor_Put.f yv2 v5 v6).bind fun v7 => if (!v7.1) = true then (some false) else ((floor_Floor_Words.f v7.2).bind fun v8 => law22_FloorOwn.l0 fuel v1 v5 v6 v7 v8 0))
set_option maxHeartbeats 4000000 in
theorem law22_FloorOwn.c (n : Int) (cell : Int) (id : Int) (r : Bool) (F : Hp) (H : law22_FloorOwn.f n cell id = some r) :
    CallsL Try.prog 5 [(.int .i64 n), (.int .i64 cell), (.int .i64 id)] [F] (fun _ : Unit => (.bool r)) (fun _ => [F]) := by
  unfold law22_FloorOwn.f at H
  refine calls_atL [(0, (.int .i64 n)), (1, (.int .i64 cell)), (2, (.int .i64 id))] Try.func5 rfl rfl ⟨rfl, rfl, rfl, trivial⟩ (fun W => ?_)
  refine at_seq ?_
  refine at_region [0] rfl ?_
  refine at_s T rfl ?_
  refine at_end ?_
  refine at_sub [(0, (.int .i64 n)), (1, (.int .i64 cell)), (2, (.int .i64 id))] ⟨rfl, rfl, rfl, trivial⟩ ?_
  refine at_then ?_
  refine at_seq ?_
  refine at_region [0, 1, 2] rfl ?_
  refine at_s T rfl ?_
  obtain ⟨v1, V1, H⟩ := bind_e H
  refine at_cons (at_c (B := fun _ => []) [] rfl rfl rfl rfl has15 rfl rfl (ref1_Within.c n 1 30 v1 _ V1) (fun _ => ?_))
  refine at_s T rfl ?_
  refine at_end ?_
  refine at_sub [(1, (.int .i64 cell)), (2, (.int .i64 id)), (7, (.int .i64 v1))] ⟨rfl, rfl, rfl, trivial⟩ ?_
  refine at_then ?_
  refine at_seq ?_
  refine at_region [0, 1, 2] rfl ?_
  refine at_s T rfl ?_
  obtain ⟨v2, V2, H⟩ := bind_e H
  refine at_cons (at_cR (floor_New.R v2) [] [] rfl rfl rfl rfl has16 rfl rfl (floor_New.c v1 v2 _ V2) ?_)
  rintro _ _ ⟨_, _, O3, rfl, rfl⟩
  rcases v2 with _ | yv2
  · replace H := optm_n rfl H
    obtain ⟨rfl, rfl⟩ := O3
    refine at_s T rfl ?_
    refine at_end ?_
    refine at_sub [(1, (.int .i64 cell)), (2, (.int .i64 id)), (7, (.int .i64 v1)), (8, (.pointer none))] ⟨rfl, rfl, rfl, rfl, trivial⟩ ?_
    refine at_then ?_
    refine at_seq ?_
    refine at_region [0, 1, 2, 3, 4, 5, 6, 7] rfl ?_
    iterate 3 refine at_s T rfl ?_
    obtain ⟨v3, V4, H⟩ := bind_e H
    refine at_cons (at_c (B := fun _ => []) [] rfl rfl rfl rfl has15 rfl rfl (ref1_Within.c cell 0 (w64 (v1 - 1)) v3 _ V4) (fun _ => ?_))
    refine at_s T rfl ?_
    obtain ⟨v4, V5, H⟩ := bind_e H
    refine at_cons (at_c (B := fun _ => []) [] rfl rfl rfl rfl has15 rfl rfl (ref1_Within.c id 0 4294967294 v4 _ V5) (fun _ => ?_))
    iterate 2 refine at_s T rfl ?_
    refine at_end ?_
    refine at_sub [(7, (.int .i64 v1)), (8, (.pointer none)), (9, (.int .i64 v3)), (10, (.int .i64 v4))] ⟨rfl, rfl, rfl, rfl, trivial⟩ ?_
    refine at_then ?_
    refine at_seq ?_
    refine at_seq ?_
    refine at_region [0, 1, 2, 3, 4, 5, 6, 7, 8] rfl ?_
    iterate 9 refine at_s T rfl ?_
    refine at_end ?_
    refine at_sub [(7, (.int .i64 v1)), (8, (.pointer none)), (9, (.int .i64 v3)), (10, (.int .i64 v4)), (32, (.bool true))] ⟨rfl, rfl, rfl, rfl, rfl, trivial⟩ ?_
    refine at_then ?_
    refine at_cond_t rfl ?_
    refine at_seq ?_
    refine at_region [0] rfl ?_
    refine at_s T rfl ?_
    refine at_end ?_
    refine at_sub [(6, (.bool false))] ⟨rfl, trivial⟩ ?_
    refine at_then ?_
    refine at_ret ?_
    refine at_rt ?_
    obtain rfl := Option.some.inj H
    exact at_post (T := T) rfl (.tmp rfl .nil) (fun w o => ⟨(), rfl, own_to [0] rfl o⟩)
  · replace H := optm_s rfl H
    obtain ⟨b1, a2, n2, H2, s2, rfl, rfl⟩ := O3
    refine at_s T rfl ?_
    refine at_end ?_
    refine at_sub [(1, (.int .i64 cell)), (2, (.int .i64 id)), (7, (.int .i64 v1)), (8, (.pointer (some ⟨b1, 0, none⟩)))] ⟨rfl, rfl, rfl, rfl, trivial⟩ ?_
    refine at_then ?_
    refine at_seq ?_
    refine at_region [0, 1, 2, 3, 4, 5, 6, 7] rfl ?_
    iterate 3 refine at_s T rfl ?_
    obtain ⟨v5, V6, H⟩ := bind_e H
    refine at_cons (at_c (B := fun _ => []) [] rfl rfl rfl rfl has15 rfl rfl (ref1_Within.c cell 0 (w64 (v1 - 1)) v5 _ V6) (fun _ => ?_))
    refine at_s T rfl ?_
    obtain ⟨v6, V7, H⟩ := bind_e H
    refine at_cons (at_c (B := fun _ => []) [] rfl rfl rfl rfl has15 rfl rfl (ref1_Within.c id 0 4294967294 v6 _ V7) (fun _ => ?_))
    iterate 2 refine at_s T rfl ?_
    refine at_end ?_
    refine at_sub [(7, (.int .i64 v1)), (8, (.pointer (some ⟨b1, 0, none⟩))), (9, (.int .i64 v5)), (10, (.int .i64 v6))] ⟨rfl, rfl, rfl, rfl, trivial⟩ ?_
    refine at_then ?_
    refine at_seq ?_
    refine at_seq ?_
    refine at_region [0, 1, 2, 3, 4, 5, 6, 7, 8] rfl ?_
    iterate 6 refine at_s T rfl ?_
    obtain ⟨v7, V8, H⟩ := bind_e H
    refine at_cons (at_cR (As := [[(b1, Obj.cells #[(.slice a2 (List.length yv2.words) n2), (.int .i64 yv2.count)] 76 (0, 0))], H2]) (R := [F]) (floor_Floor_Put.R b1 v7) [] [1, 1] rfl rfl rfl rfl has20 rfl rfl (floor_Floor_Put.c yv2 v5 v6 v7 _ V8 s2) ?_)
    rintro _ _ ⟨a3, n3, H3, s3, rfl, rfl⟩
    iterate 2 refine at_s T rfl ?_
    refine at_end ?_
    refine at_sub [(7, (.int .i64 v1)), (8, (.pointer (some ⟨b1, 0, none⟩))), (9, (.int .i64 v5)), (10, (.int .i64 v6)), (32, (.bool (!v7.1)))] ⟨rfl, rfl, rfl, rfl, rfl, trivial⟩ ?_
    refine at_then ?_
    refine at_cond rfl (fun c9 => ?_) (fun c9 => ?_)
    · replace H := if_t c9 H
      refine at_seq ?_
      refine at_region [0] rfl ?_
      refine at_s T rfl ?_
      refine at_end ?_
      refine at_to [(6, (.bool false))] [0] [F] ⟨rfl, trivial⟩ rfl ?_
      refine at_then ?_
      refine at_ret ?_
      refine at_rt ?_
      obtain rfl := Option.some.inj H
      exact at_post (T := T) rfl (.tmp rfl .nil) (fun w o => ⟨(), rfl, own_to [0] rfl o⟩)
    · replace H := if_f (bf c9) H
      refine at_skip ?_
      refine at_then ?_
      refine at_seq ?_
      refine at_region [0, 1, 2] rfl ?_
      refine at_s T rfl ?_
      obtain ⟨v8, V10, H⟩ := bind_e H
      refine at_cons (at_cR (As := [[(b1, Obj.cells #[(.slice a3 (List.length v7.2.words) n3), (.int .i64 v7.2.count)] 76 (0, 0))], H3]) (R := [F]) (floor_Floor_Words.R v8) [[(b1, Obj.cells #[(.slice a3 (List.length v7.2.words) n3), (.int .i64 v7.2.count)] 76 (0, 0))], H3] [1, 1] rfl rfl rfl rfl has25 rfl rfl (floor_Floor_Words.c v7.2 v8 _ V10 s3) ?_)
      rintro _ _ ⟨a4, n4, H4, s4, rfl, rfl⟩
      refine at_s T rfl ?_
      refine at_end ?_
      refine at_sub [(7, (.int .i64 v1)), (8, (.pointer (some ⟨b1, 0, none⟩))), (9, (.int .i64 v5)), (10, (.int .i64 v6)), (11, (.slice a4 (List.length v8) n4))] ⟨rfl, rfl, rfl, rfl, rfl, trivial⟩ ?_
      refine at_then ?_
      refine at_seq ?_
      refine at_seq ?_
      refine at_region [0] rfl ?_
      refine at_s T rfl ?_
      refine at_end ?_
      refine at_sub [(7, (.int .i64 v1)), (8, (.pointer (some ⟨b1, 0, none⟩))), (9, (.int .i64 v5)), (10, (.int .i64 v6)), (11, (.slice a4 (List.length v8) n4)), (12, (.int .i64 0))] ⟨rfl, rfl, rfl, rfl, rfl, rfl, trivial⟩ ?_
      refine at_then ?_
      refine at_block ?_
      refine at_loopL (σ := Nat × List Int × Int × Option Addr × Nat × Hp) (fun ⟨k13, x11, x12, a6, n6, H6⟩ => law22_FloorOwn.l0 k13 v1 v5 v6 v7 x11 x12 = some r ∧ SliceO (Fl.int .u32) 30 x11 a6 n6 H6) (fun ⟨k13, x11, x12, a6, n6, H6⟩ => [(7, (.int .i64 v1)), (8, (.pointer (some ⟨b1, 0, none⟩))), (9, (.int .i64 v5)), (10, (.int .i64 v6)), (11, (.slice a6 (List.length x11) n6)), (12, (.int .i64 x12))]) (fun ⟨k13, x11, x12, a6, n6, H6⟩ => [F, [(b1, Obj.cells #[(.slice a3 (List.length v7.2.words) n3), (.int .i64 v7.2.count)] 76 (0, 0))], H3, H6]) (fun s => s.1) (fuel, v8, 0, a4, n4, H4) [0, 1, 1, 0] ⟨H, s4⟩ ⟨rfl, rfl, rfl, rfl, rfl, rfl, trivial⟩ rfl ?_
      rintro ⟨k13, x11, x12, a6, n6, H6⟩ ⟨Z11, s6⟩
      replace Z11 : law22_FloorOwn.l0 k13 v1 v5 v6 v7 x11 x12 = some r := Z11
      rcases k13 with _ | k13
      · rw [law22_FloorOwn.l0] at Z11; cases Z11
      · rw [law22_FloorOwn.l0] at Z11
        refine at_seq ?_
        refine at_seq ?_
        refine at_region [0, 1, 2, 3] rfl ?_
        iterate 4 refine at_s T rfl ?_
        refine at_end ?_
        refine at_sub [(7, (.int .i64 v1)), (8, (.pointer (some ⟨b1, 0, none⟩))), (9, (.int .i64 v5)), (10, (.int .i64 v6)), (11, (.slice a6 (List.length x11) n6)), (12, (.int .i64 x12)), (38, (.bool (decide (x12 < (List.length x11 : Int)))))] ⟨rfl, rfl, rfl, rfl, rfl, rfl, rfl, trivial⟩ ?_
        refine at_then ?_
        refine at_cond rfl (fun c12 => ?_) (fun c12 => ?_)
        · replace Z11 := if_t (of_decide_eq_true c12) Z11
          refine at_skip ?_
          refine at_then ?_
          refine at_seq ?_
          refine at_block ?_
          refine at_region [0, 1, 2, 3] rfl ?_
          iterate 2 refine at_s T rfl ?_
          obtain ⟨c13, Z11⟩ := chk_e Z11
          obtain ⟨q7, o7, e7⟩ := s6.r.addr c13.1 c13.2
          refine at_v rfl (g_index T rfl rfl rfl rfl rfl e7 c13.1 c13.2) ?_
          refine at_cons (at_se (k := (Fl.int .u32)) T 3 0 9 rfl rfl rfl rfl rfl rfl s6 e7 c13 rfl rfl rfl (fun H8 s8 => ?_))
          refine at_to [(7, (.int .i64 v1)), (8, (.pointer (some ⟨b1, 0, none⟩))), (9, (.int .i64 v5)), (10, (.int .i64 v6)), (11, (.slice a6 (List.length (List.set x11 (Int.toNat x12) 9)) n6)), (12, (.int .i64 x12))] [0, 0, 0, 0] [F, [(b1, Obj.cells #[(.slice a3 (List.length v7.2.words) n3), (.int .i64 v7.2.count)] 76 (0, 0))], H3, H8] ⟨rfl, rfl, rfl, rfl, (by simp only [List.length_set]; rfl), rfl, trivial⟩ rfl ?_
          refine at_end ?_
          refine at_sub [(7, (.int .i64 v1)), (8, (.pointer (some ⟨b1, 0, none⟩))), (9, (.int .i64 v5)), (10, (.int .i64 v6)), (11, (.slice a6 (List.length (List.set x11 (Int.toNat x12) 9)) n6)), (12, (.int .i64 x12))] ⟨rfl, rfl, rfl, rfl, rfl, rfl, trivial⟩ ?_
          refine at_nb ?_
          refine at_then ?_
          refine at_region [0, 1, 2] rfl ?_
          iterate 3 refine at_s T rfl ?_
          refine at_end ?_
          refine at_sub [(7, (.int .i64 v1)), (8, (.pointer (some ⟨b1, 0, none⟩))), (9, (.int .i64 v5)), (10, (.int .i64 v6)), (11, (.slice a6 (List.length (List.set x11 (Int.toNat x12) 9)) n6)), (12, (.int .i64 (w64 (x12 + 1))))] ⟨rfl, rfl, rfl, rfl, rfl, rfl, trivial⟩ ?_
          refine at_then ?_
          exact at_roundL (k13, (List.set x11 (Int.toNat x12) 9), (w64 (x12 + 1)), a6, n6, H8) [0, 0, 0, 0] ⟨Z11, s8⟩ (Nat.lt_succ_self _) ⟨rfl, rfl, rfl, rfl, rfl, rfl, trivial⟩ rfl
        · replace Z11 := if_f (of_decide_eq_false c12) Z11
          refine at_exit ?_
          refine at_xt ?_
          refine at_xt ?_
          refine at_xb ?_
          refine at_then ?_
          refine at_seq ?_
          refine at_region [0, 1, 2] rfl ?_
          refine at_s T rfl ?_
          obtain ⟨v14, V14, Z11⟩ := bind_e Z11
          refine at_cons (at_cR (As := [[(b1, Obj.cells #[(.slice a3 (List.length v7.2.words) n3), (.int .i64 v7.2.count)] 76 (0, 0))], H3]) (R := [F, H6]) (floor_Floor_Words.R v14) [[(b1, Obj.cells #[(.slice a3 (List.length v7.2.words) n3), (.int .i64 v7.2.count)] 76 (0, 0))], H3] [1, 1] rfl rfl rfl rfl has25 rfl rfl (floor_Floor_Words.c v7.2 v14 _ V14 s3) ?_)
          rintro _ _ ⟨a9, n9, H9, s9, rfl, rfl⟩
          refine at_s T rfl ?_
          refine at_end ?_
          refine at_to [(7, (.int .i64 v1)), (8, (.pointer (some ⟨b1, 0, none⟩))), (9, (.int .i64 v5)), (10, (.int .i64 v6)), (13, (.slice a9 (List.length v14) n9))] [0, 1, 1, 1] [F, H9, [(b1, Obj.cells #[(.slice a3 (List.length v7.2.words) n3), (.int .i64 v7.2.count)] 76 (0, 0))], H3] ⟨rfl, rfl, rfl, rfl, rfl, trivial⟩ rfl ?_
          refine at_then ?_
          obtain ⟨z16, Z15, Z11⟩ := bind_e Z11
          refine at_seq_mid (σ := Bool) (fun x15 => x15 = z16) (fun x15 => [(6, (.bool x15))]) (fun x15 => [F]) ?_ ?_
          · refine at_region [0, 1, 2, 3, 4, 5, 6, 7, 8, 9, 10, 11, 12, 13, 14, 15, 16, 17, 18, 19, 20, 21, 22, 23, 24, 25, 26, 27, 28, 29] rfl ?_
            obtain ⟨v17, V16, Z15⟩ := bind_e Z15
            refine at_cons (at_c (B := fun _ => []) [] rfl rfl rfl rfl has23 rfl rfl (law22_told.c  v17 _ V16) (fun _ => ?_))
            refine at_s T rfl ?_
            refine at_grp T [2, 3, 4, 5, 6] (s := 47) (c := v17) [(8, (.pointer (some ⟨b1, 0, none⟩))), (9, (.int .i64 v5)), (10, (.int .i64 v6)), (13, (.slice a9 (List.length v14) n9)), (52, (.bool (v17 && ((List.length v14 : Int) == v1))))] rfl rfl rfl (fun c17 => ⟨rfl, rfl, rfl, rfl, (by rw [c17]; rfl), trivial⟩) (fun c17 => ⟨rfl, rfl, rfl, rfl, (by rw [c17]; rfl), trivial⟩) ?_
            refine at_s T rfl ?_
            refine at_case (s := 53) rfl (fun c18 => ?_) (fun c18 => ?_)
            · replace Z15 := if_t c18 Z15
              iterate 2 refine at_s T rfl ?_
              obtain ⟨c19, Z15⟩ := chk_e Z15
              obtain ⟨q10, o10, e10⟩ := s9.r.addr c19.1 c19.2
              refine at_v rfl (g_index T rfl rfl rfl rfl rfl e10 c19.1 c19.2) ?_
              refine at_v rfl (g_load T rfl rfl rfl rfl (in_elem1 (k := (Fl.int .u32)) (own_of s9 (j := 1) rfl) e10 c19 0 rfl)) ?_
              iterate 6 refine at_s T rfl ?_
              refine at_case (s := 63) rfl (fun c20 => ?_) (fun c20 => ?_)
              · replace Z15 := if_t c20 Z15
                iterate 2 refine at_s T rfl ?_
                obtain ⟨v18, V21, Z15⟩ := bind_e Z15
                refine at_cons (at_c (As := [[(b1, Obj.cells #[(.slice a3 (List.length v7.2.words) n3), (.int .i64 v7.2.count)] 76 (0, 0))], H3]) (R := [F, H9]) (B := fun _ => [[(b1, Obj.cells #[(.slice a3 (List.length v7.2.words) n3), (.int .i64 v7.2.count)] 76 (0, 0))], H3]) [2, 2] rfl rfl rfl rfl has21 rfl rfl (floor_Floor_Who.c v7.2 v5 v18 _ V21 s3) (fun _ => ?_))
                iterate 4 refine at_s T rfl ?_
                refine at_case (s := 70) rfl (fun c22 => ?_) (fun c22 => ?_)
                · replace Z15 := if_t c22 Z15
                  refine at_s T rfl ?_
                  obtain ⟨v19, V23, Z15⟩ := bind_e Z15
                  refine at_cons (at_c (As := [[(b1, Obj.cells #[(.slice a3 (List.length v7.2.words) n3), (.int .i64 v7.2.count)] 76 (0, 0))], H3]) (R := [F, H9]) (B := fun _ => [[(b1, Obj.cells #[(.slice a3 (List.length v7.2.words) n3), (.int .i64 v7.2.count)] 76 (0, 0))], H3]) [2, 2] rfl rfl rfl rfl has22 rfl rfl (floor_Floor_Count.c v7.2 v19 _ V23 s3) (fun _ => ?_))
                  iterate 3 refine at_s T rfl ?_
                  refine at_end ?_
                  refine at_to [(6, (.bool (v19 == 1)))] [0] [F] ⟨rfl, trivial⟩ rfl ?_
                  refine at_then ?_
                  obtain rfl := Option.some.inj Z15
                  exact at_mid (v19 == 1) [0] rfl ⟨rfl, trivial⟩ rfl
                · replace Z15 := if_f (bf c22) Z15
                  iterate 5 refine at_s T rfl ?_
                  refine at_end ?_
                  refine at_to [(6, (.bool false))] [0] [F] ⟨rfl, trivial⟩ rfl ?_
                  refine at_then ?_
                  obtain rfl := Option.some.inj Z15
                  exact at_mid false [0] rfl ⟨rfl, trivial⟩ rfl
              · replace Z15 := if_f (bf c20) Z15
                iterate 12 refine at_s T rfl ?_
                refine at_end ?_
                refine at_to [(6, (.bool false))] [0] [F] ⟨rfl, trivial⟩ rfl ?_
                refine at_then ?_
                obtain rfl := Option.some.inj Z15
                exact at_mid false [0] rfl ⟨rfl, trivial⟩ rfl
            · replace Z15 := if_f (bf c18) Z15
              iterate 22 refine at_s T rfl ?_
              refine at_end ?_
              refine at_to [(6, (.bool false))] [0] [F] ⟨rfl, trivial⟩ rfl ?_
              refine at_then ?_
              obtain rfl := Option.some.inj Z15
              exact at_mid false [0] rfl ⟨rfl, trivial⟩ rfl
          · rintro x15 rfl
            refine at_ret ?_
            obtain rfl := Option.some.inj Z11
            exact at_post (T := T) rfl (.tmp rfl .nil) (fun w o => ⟨(), rfl, own_to [0] rfl o⟩)
def law22_FloorOwn.Pure : Prop := ∀ (n : Int) (cell : Int) (id : Int), inI64 n → inI64 cell → inI64 id → law22_FloorOwn.f n cell id = some true
end Go.Proofs.Ytmfonhkkkfmpdaa
