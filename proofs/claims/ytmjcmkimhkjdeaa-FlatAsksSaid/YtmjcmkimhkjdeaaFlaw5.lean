import Derived.Test.YtmjcmkimhkjdeaaT
import Derived.Test.YtmjcmkimhkjdeaaFgrid
namespace Go.Proofs.Ytmjcmkimhkjdeaa
open Go.Hx
set_option maxRecDepth 100000
set_option linter.unusedVariables false
/-! ### herdsman/herdsmanlaw5.told: function 23 -/
def law5_told.f : Option Bool := (grid_New.f (api_Map.mk 2 1 [5, 6]) 0).bind fun v1 => optm v1 (some false) (fun yv1 => ((grid_Grid_Epoch.f yv1).bind fun v4 => if (v4 == 1) = true then ((grid_Grid_Edit.f yv1 1 9).bind fun v5 => if (v5.1 == 0) = true then ((grid_Grid_Epoch.f v5.2).bind fun v6 => if (v6 == 2) = true then ((grid_Grid_Cost.f v5.2 1).bind fun v7 => if (v7 == 9) = true then ((grid_Grid_Version.f v5.2 0).bind fun v8 => some (v8 == 2)) else (some false)) else (some false)) else (some false)) else (some false)).bind fun x2 => some x2)
set_option maxHeartbeats 4000000 in
theorem law5_told.c (r : Bool) (F : Hp) (H : law5_told.f = some r) :
    CallsL Try.prog 23 [] [F] (fun _ : Unit => (.bool r)) (fun _ => [F]) := by
  unfold law5_told.f at H
  refine calls_atL [] Try.func23 rfl rfl trivial (fun W => ?_)
  refine at_seq ?_
  refine at_region [0] rfl ?_
  refine at_s T rfl ?_
  refine at_end ?_
  refine at_sub [] trivial ?_
  refine at_then ?_
  refine at_seq ?_
  refine at_region [0, 1, 2, 3] rfl ?_
  refine at_cons (at_bs (k := (Fl.int .u8)) T [5, 6] rfl rfl rfl rfl rfl rfl rfl rfl rfl (fun a1 H1 s1 => ?_))
  refine at_s T rfl ?_
  obtain ⟨v1, V1, H⟩ := bind_e H
  refine at_cons (at_cR (grid_New.R v1) [] [] rfl rfl rfl rfl has15 rfl rfl (grid_New.c (api_Map.mk 2 1 [5, 6]) 0 v1 _ V1 (own_of s1 (j := 1) rfl) s1.cap_le) ?_)
  rintro _ _ ⟨_, _, O2, rfl, rfl⟩
  rcases v1 with _ | yv1
  · replace H := optm_n rfl H
    obtain ⟨rfl, rfl⟩ := O2
    refine at_s T rfl ?_
    refine at_end ?_
    refine at_to [(1, (.pointer none))] [0] [F] ⟨rfl, trivial⟩ rfl ?_
    refine at_then ?_
    refine at_seq ?_
    refine at_region [0, 1, 2, 3, 4, 5, 6, 7, 8, 9, 10, 11, 12, 13, 14, 15, 16, 17, 18, 19, 20, 21, 22, 23, 24, 25, 26, 27] rfl ?_
    iterate 28 refine at_s T rfl ?_
    refine at_end ?_
    refine at_sub [(0, (.bool false))] ⟨rfl, trivial⟩ ?_
    refine at_then ?_
    refine at_ret ?_
    obtain rfl := Option.some.inj H
    exact at_post (T := T) rfl (.tmp rfl .nil) (fun w o => ⟨(), rfl, own_to [0] rfl o⟩)
  · replace H := optm_s rfl H
    obtain ⟨b2, a3, n3, H3, a4, n4, H4, s3, s4, rfl, rfl⟩ := O2
    refine at_s T rfl ?_
    refine at_end ?_
    refine at_to [(1, (.pointer (some ⟨b2, 0, none⟩)))] [0, 1, 1, 1] [F, [(b2, Obj.cells #[(.int .i64 yv1.m.W), (.int .i64 yv1.m.H), (.slice a3 (List.length yv1.m.C) n3), (.int .i64 yv1.epoch), (.slice a4 (List.length yv1.versions) n4)] 71 (0, 0))], H3, H4] ⟨rfl, trivial⟩ rfl ?_
    refine at_then ?_
    obtain ⟨z3, Z3, H⟩ := bind_e H
    refine at_seq_mid (σ := Bool) (fun x2 => x2 = z3) (fun x2 => [(0, (.bool x2))]) (fun x2 => [F]) ?_ ?_
    · refine at_region [0, 1, 2, 3, 4, 5, 6, 7, 8, 9, 10, 11, 12, 13, 14, 15, 16, 17, 18, 19, 20, 21, 22, 23, 24, 25, 26, 27] rfl ?_
      iterate 4 refine at_s T rfl ?_
      obtain ⟨v4, V4, Z3⟩ := bind_e Z3
      refine at_cons (at_c (As := [[(b2, Obj.cells #[(.int .i64 yv1.m.W), (.int .i64 yv1.m.H), (.slice a3 (List.length yv1.m.C) n3), (.int .i64 yv1.epoch), (.slice a4 (List.length yv1.versions) n4)] 71 (0, 0))], H3, H4]) (R := [F]) (B := fun _ => [[(b2, Obj.cells #[(.int .i64 yv1.m.W), (.int .i64 yv1.m.H), (.slice a3 (List.length yv1.m.C) n3), (.int .i64 yv1.epoch), (.slice a4 (List.length yv1.versions) n4)] 71 (0, 0))], H3, H4]) [1, 1, 1] rfl rfl rfl rfl has19 rfl rfl (grid_Grid_Epoch.c yv1 v4 _ V4 s3 s4) (fun _ => ?_))
      iterate 3 refine at_s T rfl ?_
      refine at_case (s := 12) rfl (fun c5 => ?_) (fun c5 => ?_)
      · replace Z3 := if_t c5 Z3
        refine at_s T rfl ?_
        obtain ⟨v5, V6, Z3⟩ := bind_e Z3
        refine at_cons (at_cR (As := [[(b2, Obj.cells #[(.int .i64 yv1.m.W), (.int .i64 yv1.m.H), (.slice a3 (List.length yv1.m.C) n3), (.int .i64 yv1.epoch), (.slice a4 (List.length yv1.versions) n4)] 71 (0, 0))], H3, H4]) (R := [F]) (grid_Grid_Edit.R b2 v5) [] [1, 1, 1] rfl rfl rfl rfl has21 rfl rfl (grid_Grid_Edit.c yv1 1 9 v5 _ V6 s3 s4) ?_)
        rintro _ _ ⟨a5, n5, H5, a6, n6, H6, s5, s6, rfl, rfl⟩
        iterate 3 refine at_s T rfl ?_
        refine at_case (s := 17) rfl (fun c7 => ?_) (fun c7 => ?_)
        · replace Z3 := if_t c7 Z3
          refine at_s T rfl ?_
          obtain ⟨v6, V8, Z3⟩ := bind_e Z3
          refine at_cons (at_c (As := [[(b2, Obj.cells #[(.int .i64 v5.2.m.W), (.int .i64 v5.2.m.H), (.slice a5 (List.length v5.2.m.C) n5), (.int .i64 v5.2.epoch), (.slice a6 (List.length v5.2.versions) n6)] 71 (0, 0))], H5, H6]) (R := [F]) (B := fun _ => [[(b2, Obj.cells #[(.int .i64 v5.2.m.W), (.int .i64 v5.2.m.H), (.slice a5 (List.length v5.2.m.C) n5), (.int .i64 v5.2.epoch), (.slice a6 (List.length v5.2.versions) n6)] 71 (0, 0))], H5, H6]) [1, 1, 1] rfl rfl rfl rfl has19 rfl rfl (grid_Grid_Epoch.c v5.2 v6 _ V8 s5 s6) (fun _ => ?_))
          iterate 3 refine at_s T rfl ?_
          refine at_case (s := 22) rfl (fun c9 => ?_) (fun c9 => ?_)
          · replace Z3 := if_t c9 Z3
            refine at_s T rfl ?_
            obtain ⟨v7, V10, Z3⟩ := bind_e Z3
            refine at_cons (at_c (As := [[(b2, Obj.cells #[(.int .i64 v5.2.m.W), (.int .i64 v5.2.m.H), (.slice a5 (List.length v5.2.m.C) n5), (.int .i64 v5.2.epoch), (.slice a6 (List.length v5.2.versions) n6)] 71 (0, 0))], H5, H6]) (R := [F]) (B := fun _ => [[(b2, Obj.cells #[(.int .i64 v5.2.m.W), (.int .i64 v5.2.m.H), (.slice a5 (List.length v5.2.m.C) n5), (.int .i64 v5.2.epoch), (.slice a6 (List.length v5.2.versions) n6)] 71 (0, 0))], H5, H6]) [1, 1, 1] rfl rfl rfl rfl has20 rfl rfl (grid_Grid_Cost.c v5.2 1 v7 _ V10 s5 s6) (fun _ => ?_))
            iterate 3 refine at_s T rfl ?_
            refine at_case (s := 27) rfl (fun c11 => ?_) (fun c11 => ?_)
            · replace Z3 := if_t c11 Z3
              refine at_s T rfl ?_
              obtain ⟨v8, V12, Z3⟩ := bind_e Z3
              refine at_cons (at_c (As := [[(b2, Obj.cells #[(.int .i64 v5.2.m.W), (.int .i64 v5.2.m.H), (.slice a5 (List.length v5.2.m.C) n5), (.int .i64 v5.2.epoch), (.slice a6 (List.length v5.2.versions) n6)] 71 (0, 0))], H5, H6]) (R := [F]) (B := fun _ => [[(b2, Obj.cells #[(.int .i64 v5.2.m.W), (.int .i64 v5.2.m.H), (.slice a5 (List.length v5.2.m.C) n5), (.int .i64 v5.2.epoch), (.slice a6 (List.length v5.2.versions) n6)] 71 (0, 0))], H5, H6]) [1, 1, 1] rfl rfl rfl rfl has18 rfl rfl (grid_Grid_Version.c v5.2 0 v8 _ V12 s5 s6) (fun _ => ?_))
              iterate 3 refine at_s T rfl ?_
              refine at_end ?_
              refine at_to [(0, (.bool (v8 == 2)))] [0] [F] ⟨rfl, trivial⟩ rfl ?_
              refine at_then ?_
              obtain rfl := Option.some.inj Z3
              exact at_mid (v8 == 2) [0] rfl ⟨rfl, trivial⟩ rfl
            · replace Z3 := if_f (bf c11) Z3
              iterate 5 refine at_s T rfl ?_
              refine at_end ?_
              refine at_to [(0, (.bool false))] [0] [F] ⟨rfl, trivial⟩ rfl ?_
              refine at_then ?_
              obtain rfl := Option.some.inj Z3
              exact at_mid false [0] rfl ⟨rfl, trivial⟩ rfl
          · replace Z3 := if_f (bf c9) Z3
            iterate 10 refine at_s T rfl ?_
            refine at_end ?_
            refine at_to [(0, (.bool false))] [0] [F] ⟨rfl, trivial⟩ rfl ?_
            refine at_then ?_
            obtain rfl := Option.some.inj Z3
            exact at_mid false [0] rfl ⟨rfl, trivial⟩ rfl
        · replace Z3 := if_f (bf c7) Z3
          iterate 15 refine at_s T rfl ?_
          refine at_end ?_
          refine at_to [(0, (.bool false))] [0] [F] ⟨rfl, trivial⟩ rfl ?_
          refine at_then ?_
          obtain rfl := Option.some.inj Z3
          exact at_mid false [0] rfl ⟨rfl, trivial⟩ rfl
      · replace Z3 := if_f (bf c5) Z3
        iterate 20 refine at_s T rfl ?_
        refine at_end ?_
        refine at_to [(0, (.bool false))] [0] [F] ⟨rfl, trivial⟩ rfl ?_
        refine at_then ?_
        obtain rfl := Option.some.inj Z3
        exact at_mid false [0] rfl ⟨rfl, trivial⟩ rfl
    · rintro x2 rfl
      refine at_ret ?_
      obtain rfl := Option.some.inj H
      exact at_post (T := T) rfl (.tmp rfl .nil) (fun w o => ⟨(), rfl, own_to [0] rfl o⟩)
end Go.Proofs.Ytmjcmkimhkjdeaa
