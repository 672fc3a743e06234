import Derived.Test.YtmfonhkkkfmpdaaT
import Derived.Test.YtmfonhkkkfmpdaaFfloor
import Derived.Test.YtmfonhkkkfmpdaaFlaw22
namespace Go.Proofs.Ytmfonhkkkfmpdaa
open Go.Hx
set_option maxRecDepth 100000
set_option linter.unusedVariables false
/-! ### herdsman/herdsmanlaw22.FloorNone: function 6 -/
def law22_FloorNone.f (n : Int) (a : Int) (b : Int) : Option Bool := (if ((decide (n ≤ 5000)) || (decide (n > 1048576))) = true then ((floor_New.f n).bind fun v2 => optm v2 (if (!(true == ((decide (n < 1)) || (decide (n > 1048576))))) = true then (some (Sum.inl false)) else (some (Sum.inr ()))) (fun yv2 => if (!(false == ((decide (n < 1)) || (decide (n > 1048576))))) = true then (some (Sum.inl false)) else (some (Sum.inr ())))) else (some (Sum.inr ()))).bind fun zz => match zz with | Sum.inl q => some q | Sum.inr _ => ((law22_told.f).bind fun v5 => if v5 = true then ((floor_Floor_Put_2.f a b).bind fun v6 => if (!v6) = true then ((floor_Floor_Who_2.f a).bind fun v7 => if (v7 == (-1)) = true then ((floor_Floor_Take_2.f a).bind fun v8 => if (v8 == (-1)) = true then ((floor_Floor_Shift_2.f a b).bind fun v9 => if (!v9) = true then ((floor_Floor_Count_2.f).bind fun v10 => if (v10 == 0) = true then ((floor_Floor_Words_2.f).bind fun v11 => some ((List.length v11 : Int) == 0)) else (some false)) else (some false)) else (some false)) else (some false)) else (some false)) else (some false)).bind fun x3 => some x3
set_option maxHeartbeats 4000000 in
theorem law22_FloorNone.c (n : Int) (a : Int) (b : Int) (r : Bool) (F : Hp) (H : law22_FloorNone.f n a b = some r) :
    CallsL Try.prog 6 [(.int .i64 n), (.int .i64 a), (.int .i64 b)] [F] (fun _ : Unit => (.bool r)) (fun _ => [F]) := by
  unfold law22_FloorNone.f at H
  refine calls_atL [(0, (.int .i64 n)), (1, (.int .i64 a)), (2, (.int .i64 b))] Try.func6 rfl rfl ⟨rfl, rfl, rfl, trivial⟩ (fun W => ?_)
  refine at_seq ?_
  refine at_region [0] rfl ?_
  refine at_s T rfl ?_
  refine at_end ?_
  refine at_sub [(0, (.int .i64 n)), (1, (.int .i64 a)), (2, (.int .i64 b))] ⟨rfl, rfl, rfl, trivial⟩ ?_
  refine at_then ?_
  refine at_seq ?_
  refine at_region [0] rfl ?_
  refine at_s T rfl ?_
  refine at_end ?_
  refine at_sub [(0, (.int .i64 n)), (1, (.int .i64 a)), (2, (.int .i64 b)), (7, (.pointer none))] ⟨rfl, rfl, rfl, rfl, trivial⟩ ?_
  refine at_then ?_
  obtain ⟨z1, Z1, H⟩ := bind_e H
  refine at_seq_mid (σ := Unit) (fun ⟨⟩ => (Sum.inr ()) = z1) (fun ⟨⟩ => [(1, (.int .i64 a)), (2, (.int .i64 b)), (7, (.pointer none))]) (fun ⟨⟩ => [F]) ?_ ?_
  · refine at_seq ?_
    refine at_region [0, 1, 2, 3, 4, 5] rfl ?_
    iterate 3 refine at_s T rfl ?_
    refine at_grp T [3, 4, 5] (s := 11) (c := (decide (n ≤ 5000))) [(0, (.int .i64 n)), (1, (.int .i64 a)), (2, (.int .i64 b)), (7, (.pointer none)), (14, (.bool ((decide (n ≤ 5000)) || (decide (n > 1048576)))))] rfl rfl rfl (fun c2 => ⟨rfl, rfl, rfl, rfl, (by rw [c2]; rfl), trivial⟩) (fun c2 => ⟨rfl, rfl, rfl, rfl, (by rw [c2]; rfl), trivial⟩) ?_
    refine at_end ?_
    refine at_sub [(0, (.int .i64 n)), (1, (.int .i64 a)), (2, (.int .i64 b)), (7, (.pointer none)), (14, (.bool ((decide (n ≤ 5000)) || (decide (n > 1048576)))))] ⟨rfl, rfl, rfl, rfl, rfl, trivial⟩ ?_
    refine at_then ?_
    refine at_cond rfl (fun c3 => ?_) (fun c3 => ?_)
    · replace Z1 := if_t c3 Z1
      refine at_seq ?_
      refine at_region [0, 1, 2] rfl ?_
      refine at_s T rfl ?_
      obtain ⟨v2, V4, Z1⟩ := bind_e Z1
      refine at_cons (at_cR (floor_New.R v2) [] [] rfl rfl rfl rfl has16 rfl rfl (floor_New.c n v2 _ V4) ?_)
      rintro _ _ ⟨_, _, O5, rfl, rfl⟩
      rcases v2 with _ | yv2
      · replace Z1 := optm_n rfl Z1
        obtain ⟨rfl, rfl⟩ := O5
        refine at_s T rfl ?_
        refine at_end ?_
        refine at_sub [(0, (.int .i64 n)), (1, (.int .i64 a)), (2, (.int .i64 b)), (7, (.pointer none)), (8, (.pointer none))] ⟨rfl, rfl, rfl, rfl, rfl, trivial⟩ ?_
        refine at_then ?_
        refine at_seq ?_
        refine at_region [0, 1, 2, 3, 4, 5, 6, 7, 8] rfl ?_
        iterate 5 refine at_s T rfl ?_
        refine at_grp T [5, 6, 7] (s := 21) (c := (decide (n < 1))) [(1, (.int .i64 a)), (2, (.int .i64 b)), (7, (.pointer none)), (18, (.bool true)), (24, (.bool ((decide (n < 1)) || (decide (n > 1048576)))))] rfl rfl rfl (fun c6 => ⟨rfl, rfl, rfl, rfl, (by rw [c6]; rfl), trivial⟩) (fun c6 => ⟨rfl, rfl, rfl, rfl, (by rw [c6]; rfl), trivial⟩) ?_
        refine at_s T rfl ?_
        refine at_end ?_
        refine at_sub [(1, (.int .i64 a)), (2, (.int .i64 b)), (7, (.pointer none)), (25, (.bool (!(true == ((decide (n < 1)) || (decide (n > 1048576)))))))] ⟨rfl, rfl, rfl, rfl, trivial⟩ ?_
        refine at_then ?_
        refine at_cond rfl (fun c7 => ?_) (fun c7 => ?_)
        · replace Z1 := if_t c7 Z1
          refine at_seq ?_
          refine at_region [0] rfl ?_
          refine at_s T rfl ?_
          refine at_end ?_
          refine at_sub [(6, (.bool false))] ⟨rfl, trivial⟩ ?_
          refine at_then ?_
          refine at_ret ?_
          refine at_rt ?_
          obtain rfl := Option.some.inj Z1
          obtain rfl := Option.some.inj (show some false = some r from H)
          exact at_post (T := T) rfl (.tmp rfl .nil) (fun w o => ⟨(), rfl, own_to [0] rfl o⟩)
        · replace Z1 := if_f (bf c7) Z1
          refine at_skip ?_
          refine at_then ?_
          obtain rfl := Option.some.inj Z1
          exact at_mid () [0] rfl ⟨rfl, rfl, rfl, trivial⟩ rfl
      · replace Z1 := optm_s rfl Z1
        obtain ⟨b1, a2, n2, H2, s2, rfl, rfl⟩ := O5
        refine at_s T rfl ?_
        refine at_end ?_
        refine at_sub [(0, (.int .i64 n)), (1, (.int .i64 a)), (2, (.int .i64 b)), (7, (.pointer none)), (8, (.pointer (some ⟨b1, 0, none⟩)))] ⟨rfl, rfl, rfl, rfl, rfl, trivial⟩ ?_
        refine at_then ?_
        refine at_seq ?_
        refine at_region [0, 1, 2, 3, 4, 5, 6, 7, 8] rfl ?_
        iterate 5 refine at_s T rfl ?_
        refine at_grp T [5, 6, 7] (s := 21) (c := (decide (n < 1))) [(1, (.int .i64 a)), (2, (.int .i64 b)), (7, (.pointer none)), (18, (.bool false)), (24, (.bool ((decide (n < 1)) || (decide (n > 1048576)))))] rfl rfl rfl (fun c8 => ⟨rfl, rfl, rfl, rfl, (by rw [c8]; rfl), trivial⟩) (fun c8 => ⟨rfl, rfl, rfl, rfl, (by rw [c8]; rfl), trivial⟩) ?_
        refine at_s T rfl ?_
        refine at_end ?_
        refine at_to [(1, (.int .i64 a)), (2, (.int .i64 b)), (7, (.pointer none)), (25, (.bool (!(false == ((decide (n < 1)) || (decide (n > 1048576)))))))] [0] [F] ⟨rfl, rfl, rfl, rfl, trivial⟩ rfl ?_
        refine at_then ?_
        refine at_cond rfl (fun c9 => ?_) (fun c9 => ?_)
        · replace Z1 := if_t c9 Z1
          refine at_seq ?_
          refine at_region [0] rfl ?_
          refine at_s T rfl ?_
          refine at_end ?_
          refine at_sub [(6, (.bool false))] ⟨rfl, trivial⟩ ?_
          refine at_then ?_
          refine at_ret ?_
          refine at_rt ?_
          obtain rfl := Option.some.inj Z1
          obtain rfl := Option.some.inj (show some false = some r from H)
          exact at_post (T := T) rfl (.tmp rfl .nil) (fun w o => ⟨(), rfl, own_to [0] rfl o⟩)
        · replace Z1 := if_f (bf c9) Z1
          refine at_skip ?_
          refine at_then ?_
          obtain rfl := Option.some.inj Z1
          exact at_mid () [0] rfl ⟨rfl, rfl, rfl, trivial⟩ rfl
    · replace Z1 := if_f (bf c3) Z1
      refine at_skip ?_
      refine at_then ?_
      obtain rfl := Option.some.inj Z1
      exact at_mid () [0] rfl ⟨rfl, rfl, rfl, trivial⟩ rfl
  · rintro ⟨⟩ rfl
    obtain ⟨z4, Z10, H⟩ := bind_e H
    refine at_seq_mid (σ := Bool) (fun x3 => x3 = z4) (fun x3 => [(6, (.bool x3))]) (fun x3 => [F]) ?_ ?_
    · refine at_region [0, 1, 2, 3, 4, 5, 6, 7, 8, 9, 10, 11, 12, 13, 14, 15, 16, 17, 18, 19, 20, 21, 22, 23, 24, 25, 26, 27, 28, 29, 30, 31, 32, 33, 34, 35, 36, 37, 38] rfl ?_
      obtain ⟨v5, V11, Z10⟩ := bind_e Z10
      refine at_cons (at_c (B := fun _ => []) [] rfl rfl rfl rfl has23 rfl rfl (law22_told.c  v5 _ V11) (fun _ => ?_))
      refine at_s T rfl ?_
      refine at_case (s := 27) rfl (fun c12 => ?_) (fun c12 => ?_)
      · replace Z10 := if_t c12 Z10
        iterate 3 refine at_s T rfl ?_
        obtain ⟨v6, V13, Z10⟩ := bind_e Z10
        refine at_cons (at_c (B := fun _ => []) [] rfl rfl rfl rfl has20 rfl rfl (floor_Floor_Put_2.c a b v6 _ V13) (fun _ => ?_))
        iterate 3 refine at_s T rfl ?_
        refine at_case (s := 34) rfl (fun c14 => ?_) (fun c14 => ?_)
        · replace Z10 := if_t c14 Z10
          iterate 2 refine at_s T rfl ?_
          obtain ⟨v7, V15, Z10⟩ := bind_e Z10
          refine at_cons (at_c (B := fun _ => []) [] rfl rfl rfl rfl has21 rfl rfl (floor_Floor_Who_2.c a v7 _ V15) (fun _ => ?_))
          iterate 3 refine at_s T rfl ?_
          refine at_case (s := 40) rfl (fun c16 => ?_) (fun c16 => ?_)
          · replace Z10 := if_t c16 Z10
            iterate 2 refine at_s T rfl ?_
            obtain ⟨v8, V17, Z10⟩ := bind_e Z10
            refine at_cons (at_c (B := fun _ => []) [] rfl rfl rfl rfl has18 rfl rfl (floor_Floor_Take_2.c a v8 _ V17) (fun _ => ?_))
            iterate 3 refine at_s T rfl ?_
            refine at_case (s := 46) rfl (fun c18 => ?_) (fun c18 => ?_)
            · replace Z10 := if_t c18 Z10
              iterate 3 refine at_s T rfl ?_
              obtain ⟨v9, V19, Z10⟩ := bind_e Z10
              refine at_cons (at_c (B := fun _ => []) [] rfl rfl rfl rfl has19 rfl rfl (floor_Floor_Shift_2.c a b v9 _ V19) (fun _ => ?_))
              iterate 3 refine at_s T rfl ?_
              refine at_case (s := 53) rfl (fun c20 => ?_) (fun c20 => ?_)
              · replace Z10 := if_t c20 Z10
                refine at_s T rfl ?_
                obtain ⟨v10, V21, Z10⟩ := bind_e Z10
                refine at_cons (at_c (B := fun _ => []) [] rfl rfl rfl rfl has22 rfl rfl (floor_Floor_Count_2.c  v10 _ V21) (fun _ => ?_))
                iterate 3 refine at_s T rfl ?_
                refine at_case (s := 58) rfl (fun c22 => ?_) (fun c22 => ?_)
                · replace Z10 := if_t c22 Z10
                  refine at_s T rfl ?_
                  obtain ⟨v11, V23, Z10⟩ := bind_e Z10
                  refine at_cons (at_cR (floor_Floor_Words_2.R v11) [] [] rfl rfl rfl rfl has25 rfl rfl (floor_Floor_Words_2.c  v11 _ V23) ?_)
                  rintro _ _ ⟨a3, n3, H3, s3, rfl, rfl⟩
                  iterate 4 refine at_s T rfl ?_
                  refine at_end ?_
                  refine at_to [(6, (.bool ((List.length v11 : Int) == 0)))] [0] [F] ⟨rfl, trivial⟩ rfl ?_
                  refine at_then ?_
                  obtain rfl := Option.some.inj Z10
                  exact at_mid ((List.length v11 : Int) == 0) [0] rfl ⟨rfl, trivial⟩ rfl
                · replace Z10 := if_f (bf c22) Z10
                  iterate 6 refine at_s T rfl ?_
                  refine at_end ?_
                  refine at_sub [(6, (.bool false))] ⟨rfl, trivial⟩ ?_
                  refine at_then ?_
                  obtain rfl := Option.some.inj Z10
                  exact at_mid false [0] rfl ⟨rfl, trivial⟩ rfl
              · replace Z10 := if_f (bf c20) Z10
                iterate 11 refine at_s T rfl ?_
                refine at_end ?_
                refine at_sub [(6, (.bool false))] ⟨rfl, trivial⟩ ?_
                refine at_then ?_
                obtain rfl := Option.some.inj Z10
                exact at_mid false [0] rfl ⟨rfl, trivial⟩ rfl
            · replace Z10 := if_f (bf c18) Z10
              iterate 18 refine at_s T rfl ?_
              refine at_end ?_
              refine at_sub [(6, (.bool false))] ⟨rfl, trivial⟩ ?_
              refine at_then ?_
              obtain rfl := Option.some.inj Z10
              exact at_mid false [0] rfl ⟨rfl, trivial⟩ rfl
          · replace Z10 := if_f (bf c16) Z10
            iterate 24 refine at_s T rfl ?_
            refine at_end ?_
            refine at_sub [(6, (.bool false))] ⟨rfl, trivial⟩ ?_
            refine at_then ?_
            obtain rfl := Option.some.inj Z10
            exact at_mid false [0] rfl ⟨rfl, trivial⟩ rfl
        · replace Z10 := if_f (bf c14) Z10
          iterate 30 refine at_s T rfl ?_
          refine at_end ?_
          refine at_sub [(6, (.bool false))] ⟨rfl, trivial⟩ ?_
          refine at_then ?_
          obtain rfl := Option.some.inj Z10
          exact at_mid false [0] rfl ⟨rfl, trivial⟩ rfl
      · replace Z10 := if_f (bf c12) Z10
        iterate 37 refine at_s T rfl ?_
        refine at_end ?_
        refine at_sub [(6, (.bool false))] ⟨rfl, trivial⟩ ?_
        refine at_then ?_
        obtain rfl := Option.some.inj Z10
        exact at_mid false [0] rfl ⟨rfl, trivial⟩ rfl
    · rintro x3 rfl
      refine at_ret ?_
      obtain rfl := Option.some.inj H
      exact at_post (T := T) rfl (.tmp rfl .nil) (fun w o => ⟨(), rfl, own_to [0] rfl o⟩)
def law22_FloorNone.Pure : Prop := ∀ (n : Int) (a : Int) (b : Int), inI64 n → inI64 a → inI64 b → law22_FloorNone.f n a b = some true
end Go.Proofs.Ytmfonhkkkfmpdaa
