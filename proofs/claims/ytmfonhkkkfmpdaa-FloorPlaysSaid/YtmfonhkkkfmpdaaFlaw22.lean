import Derived.Test.YtmfonhkkkfmpdaaT
import Derived.Test.YtmfonhkkkfmpdaaFfloor
import Derived.Test.YtmfonhkkkfmpdaaFref21
namespace Go.Proofs.Ytmfonhkkkfmpdaa
open Go.Hx
set_option maxRecDepth 100000
set_option linter.unusedVariables false
/-! ### herdsman/herdsmanlaw22.told: function 23 -/
def law22_told.f : Option Bool := (floor_New.f 3).bind fun v1 => optm v1 (some false) (fun yv1 => ((floor_Floor_Put.f yv1 1 0).bind fun v4 => if v4.1 = true then ((floor_Floor_Shift.f v4.2 1 2).bind fun v5 => if v5.1 = true then ((floor_Floor_Words.f v5.2).bind fun v6 => (ref21_SameWords.f v6 [0, 0, 1]).bind fun v7 => if v7 = true then ((floor_Floor_Who.f v5.2 2).bind fun v8 => some (v8 == 0)) else (some false)) else (some false)) else (some false)).bind fun x2 => some x2)
set_option maxHeartbeats 4000000 in
theorem law22_told.c (r : Bool) (F : Hp) (H : law22_told.f = some r) :
    CallsL Try.prog 23 [] [F] (fun _ : Unit => (.bool r)) (fun _ => [F]) := by
  unfold law22_told.f at H
  refine calls_atL [] Try.func23 rfl rfl trivial (fun W => ?_)
  refine at_seq ?_
  refine at_region [0] rfl ?_
  refine at_s T rfl ?_
  refine at_end ?_
  refine at_sub [] trivial ?_
  refine at_then ?_
  refine at_seq ?_
  refine at_region [0, 1] rfl ?_
  obtain ⟨v1, V1, H⟩ := bind_e H
  refine at_cons (at_cR (floor_New.R v1) [] [] rfl rfl rfl rfl has16 rfl rfl (floor_New.c 3 v1 _ V1) ?_)
  rintro _ _ ⟨_, _, O2, rfl, rfl⟩
  rcases v1 with _ | yv1
  · replace H := optm_n rfl H
    obtain ⟨rfl, rfl⟩ := O2
    refine at_s T rfl ?_
    refine at_end ?_
    refine at_sub [(1, (.pointer none))] ⟨rfl, trivial⟩ ?_
    refine at_then ?_
    refine at_seq ?_
    refine at_region [0, 1, 2, 3, 4, 5, 6, 7, 8, 9, 10, 11, 12, 13, 14, 15, 16, 17, 18, 19, 20, 21] rfl ?_
    iterate 22 refine at_s T rfl ?_
    refine at_end ?_
    refine at_sub [(0, (.bool false))] ⟨rfl, trivial⟩ ?_
    refine at_then ?_
    refine at_ret ?_
    obtain rfl := Option.some.inj H
    exact at_post (T := T) rfl (.tmp rfl .nil) (fun w o => ⟨(), rfl, own_to [0] rfl o⟩)
  · replace H := optm_s rfl H
    obtain ⟨b1, a2, n2, H2, s2, rfl, rfl⟩ := O2
    refine at_s T rfl ?_
    refine at_end ?_
    refine at_sub [(1, (.pointer (some ⟨b1, 0, none⟩)))] ⟨rfl, trivial⟩ ?_
    refine at_then ?_
    obtain ⟨z3, Z3, H⟩ := bind_e H
    refine at_seq_mid (σ := Bool) (fun x2 => x2 = z3) (fun x2 => [(0, (.bool x2))]) (fun x2 => [F]) ?_ ?_
    · refine at_region [0, 1, 2, 3, 4, 5, 6, 7, 8, 9, 10, 11, 12, 13, 14, 15, 16, 17, 18, 19, 20, 21] rfl ?_
      iterate 4 refine at_s T rfl ?_
      obtain ⟨v4, V4, Z3⟩ := bind_e Z3
      refine at_cons (at_cR (As := [[(b1, Obj.cells #[(.slice a2 (List.length yv1.words) n2), (.int .i64 yv1.count)] 76 (0, 0))], H2]) (R := [F]) (floor_Floor_Put.R b1 v4) [] [1, 1] rfl rfl rfl rfl has20 rfl rfl (floor_Floor_Put.c yv1 1 0 v4 _ V4 s2) ?_)
      rintro _ _ ⟨a3, n3, H3, s3, rfl, rfl⟩
      iterate 2 refine at_s T rfl ?_
      refine at_case (s := 9) rfl (fun c5 => ?_) (fun c5 => ?_)
      · replace Z3 := if_t c5 Z3
        refine at_s T rfl ?_
        obtain ⟨v5, V6, Z3⟩ := bind_e Z3
        refine at_cons (at_cR (As := [[(b1, Obj.cells #[(.slice a3 (List.length v4.2.words) n3), (.int .i64 v4.2.count)] 76 (0, 0))], H3]) (R := [F]) (floor_Floor_Shift.R b1 v5) [] [1, 1] rfl rfl rfl rfl has19 rfl rfl (floor_Floor_Shift.c v4.2 1 2 v5 _ V6 s3) ?_)
        rintro _ _ ⟨a4, n4, H4, s4, rfl, rfl⟩
        iterate 2 refine at_s T rfl ?_
        refine at_case (s := 13) rfl (fun c7 => ?_) (fun c7 => ?_)
        · replace Z3 := if_t c7 Z3
          refine at_s T rfl ?_
          obtain ⟨v6, V8, Z3⟩ := bind_e Z3
          refine at_cons (at_cR (As := [[(b1, Obj.cells #[(.slice a4 (List.length v5.2.words) n4), (.int .i64 v5.2.count)] 76 (0, 0))], H4]) (R := [F]) (floor_Floor_Words.R v6) [[(b1, Obj.cells #[(.slice a4 (List.length v5.2.words) n4), (.int .i64 v5.2.count)] 76 (0, 0))], H4] [1, 1] rfl rfl rfl rfl has25 rfl rfl (floor_Floor_Words.c v5.2 v6 _ V8 s4) ?_)
          rintro _ _ ⟨a5, n5, H5, s5, rfl, rfl⟩
          refine at_cons (at_bs (k := (Fl.int .u32)) T [0, 0, 1] rfl rfl rfl rfl rfl rfl rfl rfl rfl (fun a6 H6 s6 => ?_))
          obtain ⟨v7, V9, Z3⟩ := bind_e Z3
          refine at_cons (at_c (B := fun _ => []) [] rfl rfl rfl rfl has24 rfl rfl (ref21_SameWords.c v6 [0, 0, 1] v7 _ V9 (own_of s5 (j := 1) rfl) s5.cap_le (own_of s6 (j := 4) rfl) s6.cap_le) (fun _ => ?_))
          iterate 2 refine at_s T rfl ?_
          refine at_case (s := 19) rfl (fun c10 => ?_) (fun c10 => ?_)
          · replace Z3 := if_t c10 Z3
            refine at_s T rfl ?_
            obtain ⟨v8, V11, Z3⟩ := bind_e Z3
            refine at_cons (at_c (As := [[(b1, Obj.cells #[(.slice a4 (List.length v5.2.words) n4), (.int .i64 v5.2.count)] 76 (0, 0))], H4]) (R := [F, H5, H6]) (B := fun _ => [[(b1, Obj.cells #[(.slice a4 (List.length v5.2.words) n4), (.int .i64 v5.2.count)] 76 (0, 0))], H4]) [2, 2] rfl rfl rfl rfl has21 rfl rfl (floor_Floor_Who.c v5.2 2 v8 _ V11 s4) (fun _ => ?_))
            iterate 3 refine at_s T rfl ?_
            refine at_end ?_
            refine at_to [(0, (.bool (v8 == 0)))] [0] [F] ⟨rfl, trivial⟩ rfl ?_
            refine at_then ?_
            obtain rfl := Option.some.inj Z3
            exact at_mid (v8 == 0) [0] rfl ⟨rfl, trivial⟩ rfl
          · replace Z3 := if_f (bf c10) Z3
            iterate 5 refine at_s T rfl ?_
            refine at_end ?_
            refine at_to [(0, (.bool false))] [0] [F] ⟨rfl, trivial⟩ rfl ?_
            refine at_then ?_
            obtain rfl := Option.some.inj Z3
            exact at_mid false [0] rfl ⟨rfl, trivial⟩ rfl
        · replace Z3 := if_f (bf c7) Z3
          iterate 11 refine at_s T rfl ?_
          refine at_end ?_
          refine at_to [(0, (.bool false))] [0] [F] ⟨rfl, trivial⟩ rfl ?_
          refine at_then ?_
          obtain rfl := Option.some.inj Z3
          exact at_mid false [0] rfl ⟨rfl, trivial⟩ rfl
      · replace Z3 := if_f (bf c5) Z3
        iterate 15 refine at_s T rfl ?_
        refine at_end ?_
        refine at_to [(0, (.bool false))] [0] [F] ⟨rfl, trivial⟩ rfl ?_
        refine at_then ?_
        obtain rfl := Option.some.inj Z3
        exact at_mid false [0] rfl ⟨rfl, trivial⟩ rfl
    · rintro x2 rfl
      refine at_ret ?_
      obtain rfl := Option.some.inj H
      exact at_post (T := T) rfl (.tmp rfl .nil) (fun w o => ⟨(), rfl, own_to [0] rfl o⟩)
end Go.Proofs.Ytmfonhkkkfmpdaa
