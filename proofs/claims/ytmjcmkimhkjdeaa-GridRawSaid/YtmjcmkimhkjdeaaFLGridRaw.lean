import Derived.Test.YtmjcmkimhkjdeaaT
import Derived.Test.YtmjcmkimhkjdeaaFgrid
import Derived.Test.YtmjcmkimhkjdeaaFlaw5
import Derived.Test.YtmjcmkimhkjdeaaFref1
namespace Go.Proofs.Ytmjcmkimhkjdeaa
open Go.Hx
set_option maxRecDepth 100000
set_option linter.unusedVariables false
/-! ### herdsman/herdsmanlaw5.GridRaw: function 4 -/
def law5_GridRaw.f (m : api_Map) (epoch : Int) (raw : Bool) : Option Bool := if (List.length m.C : Int) > 2500 then ((law5_told.f).bind fun v1 => some v1) else ((ref1_Own.f m).bind fun v2 => (if (!raw) = true then ((ref1_Made.f m.W m.H m.C).bind fun v7 => some (v7.W, v7.H, v7.C)) else (some (v2.W, v2.H, v2.C))).bind fun (x3, x4, x5) => (grid_New.f (api_Map.mk x3 x4 x5) epoch).bind fun v8 => optm v8 ((ref1_MayMap.f (api_Map.mk x3 x4 x5)).bind fun v9 => if (((!v9) || (decide (epoch < 0))) || (decide (epoch > 4611686018427387904))) = true then ((law5_told.f).bind fun v10 => some (v10 && true)) else (((law5_told.f).bind fun v12 => if v12 = true then (some ()) else (some ())).bind fun _ => some false)) (fun yv8 => (ref1_MayMap.f (api_Map.mk x3 x4 x5)).bind fun v13 => if (((!v13) || (decide (epoch < 0))) || (decide (epoch > 4611686018427387904))) = true then ((law5_told.f).bind fun v14 => some (v14 && false)) else (((law5_told.f).bind fun v17 => if v17 = true then ((grid_Grid_Epoch.f yv8).bind fun v18 => if (v18 == (w64 (epoch + 1))) = true then ((grid_Grid_Map.f yv8).bind fun v19 => (ref1_SameMap.f v19 (api_Map.mk x3 x4 x5)).bind fun v20 => some v20) else (some false)) else (some false)).bind fun x15 => some x15)))
set_option maxHeartbeats 4000000 in
theorem law5_GridRaw.c {a_m_C : Option Addr} {n_m_C : Nat} (m : api_Map) (epoch : Int) (raw : Bool) (r : Bool) (F : Hp) (H : law5_GridRaw.f m epoch raw = some r) (h_m_C : SliceR (Fl.int .u8) m.C a_m_C F) (c_m_C : List.length m.C ≤ n_m_C) :
    CallsL Try.prog 4 [(.agg #[(.int .i64 m.W), (.int .i64 m.H), (.slice a_m_C (List.length m.C) n_m_C)]), (.int .i64 epoch), (.bool raw)] [F] (fun _ : Unit => (.bool r)) (fun _ => [F]) := by
  unfold law5_GridRaw.f at H
  refine calls_atL [(0, (.agg #[(.int .i64 m.W), (.int .i64 m.H), (.slice a_m_C (List.length m.C) n_m_C)])), (1, (.int .i64 epoch)), (2, (.bool raw))] Try.func4 rfl rfl ⟨rfl, rfl, rfl, trivial⟩ (fun W => ?_)
  refine at_seq ?_
  refine at_region [0, 1] rfl ?_
  refine at_cons (at_bx T [(.int .i64 m.W), (.int .i64 m.H), (.slice a_m_C (List.length m.C) n_m_C)] rfl rfl rfl rfl (fun b1 => ?_))
  refine at_s T rfl ?_
  refine at_end ?_
  refine at_sub [(1, (.int .i64 epoch)), (2, (.bool raw)), (3, (.pointer (some ⟨b1, 0, none⟩)))] ⟨rfl, rfl, rfl, trivial⟩ ?_
  refine at_then ?_
  refine at_seq ?_
  refine at_seq ?_
  refine at_region [0, 1, 2, 3] rfl ?_
  refine at_s T rfl ?_
  refine at_v rfl (g_load T rfl rfl rfl rfl (in_var (j := 1) rfl rfl)) ?_
  iterate 2 refine at_s T rfl ?_
  refine at_end ?_
  refine at_sub [(1, (.int .i64 epoch)), (2, (.bool raw)), (3, (.pointer (some ⟨b1, 0, none⟩))), (12, (.bool (decide ((List.length m.C : Int) > 2500))))] ⟨rfl, rfl, rfl, rfl, trivial⟩ ?_
  refine at_then ?_
  refine at_cond rfl (fun c1 => ?_) (fun c1 => ?_)
  · replace H := if_t (of_decide_eq_true c1) H
    refine at_seq ?_
    refine at_region [0, 1] rfl ?_
    obtain ⟨v1, V2, H⟩ := bind_e H
    refine at_cons (at_c (B := fun _ => []) [] rfl rfl rfl rfl has23 rfl rfl (law5_told.c  v1 _ V2) (fun _ => ?_))
    refine at_s T rfl ?_
    refine at_end ?_
    refine at_to [(6, (.bool v1))] [0] [F] ⟨rfl, trivial⟩ rfl ?_
    refine at_then ?_
    refine at_ret ?_
    refine at_rt ?_
    obtain rfl := Option.some.inj H
    exact at_post (T := T) rfl (.tmp rfl .nil) (fun w o => ⟨(), rfl, own_to [0] rfl o⟩)
  · replace H := if_f (of_decide_eq_false c1) H
    refine at_skip ?_
    refine at_then ?_
    refine at_seq ?_
    refine at_region [0, 1, 2, 3] rfl ?_
    refine at_v rfl (g_loadA T (cs := [(.int .i64 m.W), (.int .i64 m.H), (.slice a_m_C (List.length m.C) n_m_C)]) rfl rfl rfl rfl rfl rfl (in_varA (j := 1) rfl rfl)) ?_
    obtain ⟨v2, V3, H⟩ := bind_e H
    refine at_cons (at_cR (ref1_Own.R v2) [] [] rfl rfl rfl rfl has24 rfl rfl (ref1_Own.c m v2 _ V3 (ro_of h_m_C (j := 0) rfl) c_m_C) ?_)
    rintro _ _ ⟨a2, n2, H2, s2, rfl, rfl⟩
    refine at_cons (at_al T [(.int .i64 0), (.int .i64 0), (.slice none 0 0)] rfl rfl rfl rfl (fun b3 => ?_))
    refine at_cons (at_st T 3 [(.int .i64 v2.W), (.int .i64 v2.H), (.slice a2 (List.length v2.C) n2)] rfl rfl rfl rfl rfl rfl rfl rfl rfl rfl ?_)
    refine at_end ?_
    refine at_sub [(1, (.int .i64 epoch)), (2, (.bool raw)), (3, (.pointer (some ⟨b1, 0, none⟩))), (7, (.pointer (some ⟨b3, 0, none⟩)))] ⟨rfl, rfl, rfl, rfl, trivial⟩ ?_
    refine at_then ?_
    obtain ⟨z6, Z4, H⟩ := bind_e H
    refine at_seq_mid (σ := Int × Int × List Int × Option Addr × Nat × Hp) (fun ⟨x3, x4, x5, a4, n4, H4⟩ => (x3, x4, x5) = z6 ∧ SliceO (Fl.int .u8) 5 x5 a4 n4 H4) (fun ⟨x3, x4, x5, a4, n4, H4⟩ => [(1, (.int .i64 epoch)), (7, (.pointer (some ⟨b3, 0, none⟩)))]) (fun ⟨x3, x4, x5, a4, n4, H4⟩ => [F, [(b3, Obj.cells #[(.int .i64 x3), (.int .i64 x4), (.slice a4 (List.length x5) n4)] 25 (0, 0))], H4]) ?_ ?_
    · refine at_seq ?_
      refine at_region [0, 1] rfl ?_
      iterate 2 refine at_s T rfl ?_
      refine at_end ?_
      refine at_sub [(1, (.int .i64 epoch)), (3, (.pointer (some ⟨b1, 0, none⟩))), (7, (.pointer (some ⟨b3, 0, none⟩))), (17, (.bool (!raw)))] ⟨rfl, rfl, rfl, rfl, trivial⟩ ?_
      refine at_then ?_
      refine at_cond rfl (fun c5 => ?_) (fun c5 => ?_)
      · replace Z4 := if_t c5 Z4
        refine at_region [0, 1, 2, 3, 4, 5, 6, 7] rfl ?_
        refine at_s T rfl ?_
        refine at_v rfl (g_load T rfl rfl rfl rfl (in_var (j := 1) rfl rfl)) ?_
        refine at_s T rfl ?_
        refine at_v rfl (g_load T rfl rfl rfl rfl (in_var (j := 1) rfl rfl)) ?_
        refine at_s T rfl ?_
        refine at_v rfl (g_load T rfl rfl rfl rfl (in_var (j := 1) rfl rfl)) ?_
        obtain ⟨v7, V6, Z4⟩ := bind_e Z4
        refine at_cons (at_cR (ref1_Made.R v7) [] [] rfl rfl rfl rfl has14 rfl rfl (ref1_Made.c m.W m.H m.C v7 _ V6 (ro_of h_m_C (j := 0) rfl) c_m_C) ?_)
        rintro _ _ ⟨a5, n5, H5, s5, rfl, rfl⟩
        refine at_cons (at_st T 3 [(.int .i64 v7.W), (.int .i64 v7.H), (.slice a5 (List.length v7.C) n5)] rfl rfl rfl rfl rfl rfl rfl rfl rfl rfl ?_)
        refine at_end ?_
        refine at_to [(1, (.int .i64 epoch)), (7, (.pointer (some ⟨b3, 0, none⟩)))] [0, 2, 2] [F, [(b3, Obj.cells #[(.int .i64 v7.W), (.int .i64 v7.H), (.slice a5 (List.length v7.C) n5)] 25 (0, 0))], H5] ⟨rfl, rfl, trivial⟩ rfl ?_
        refine at_then ?_
        obtain rfl := Option.some.inj Z4
        exact at_mid (v7.W, v7.H, v7.C, a5, n5, H5) [0, 0, 0] ⟨rfl, s5⟩ ⟨rfl, rfl, trivial⟩ rfl
      · replace Z4 := if_f (bf c5) Z4
        refine at_skip ?_
        refine at_then ?_
        obtain rfl := Option.some.inj Z4
        exact at_mid (v2.W, v2.H, v2.C, a2, n2, H2) [0, 2, 1] ⟨rfl, s2⟩ ⟨rfl, rfl, trivial⟩ rfl
    · rintro ⟨x3, x4, x5, a4, n4, H4⟩ ⟨rfl, s4⟩
      refine at_seq ?_
      refine at_region [0, 1, 2, 3] rfl ?_
      refine at_v rfl (g_loadA T (cs := [(.int .i64 x3), (.int .i64 x4), (.slice a4 (List.length x5) n4)]) rfl rfl rfl rfl rfl rfl (in_varA (j := 1) rfl rfl)) ?_
      refine at_s T rfl ?_
      obtain ⟨v8, V7, H⟩ := bind_e H
      refine at_cons (at_cR (grid_New.R v8) [] [] rfl rfl rfl rfl has15 rfl rfl (grid_New.c (api_Map.mk x3 x4 x5) epoch v8 _ V7 (own_of s4 (j := 2) rfl) s4.cap_le) ?_)
      rintro _ _ ⟨_, _, O8, rfl, rfl⟩
      rcases v8 with _ | yv8
      · replace H := optm_n rfl H
        obtain ⟨rfl, rfl⟩ := O8
        refine at_s T rfl ?_
        refine at_end ?_
        refine at_sub [(1, (.int .i64 epoch)), (7, (.pointer (some ⟨b3, 0, none⟩))), (8, (.pointer none))] ⟨rfl, rfl, rfl, trivial⟩ ?_
        refine at_then ?_
        refine at_seq ?_
        refine at_seq ?_
        refine at_region [0, 1, 2, 3, 4, 5, 6, 7, 8, 9, 10] rfl ?_
        refine at_v rfl (g_loadA T (cs := [(.int .i64 x3), (.int .i64 x4), (.slice a4 (List.length x5) n4)]) rfl rfl rfl rfl rfl rfl (in_varA (j := 1) rfl rfl)) ?_
        obtain ⟨v9, V9, H⟩ := bind_e H
        refine at_cons (at_c (B := fun _ => []) [] rfl rfl rfl rfl has25 rfl rfl (ref1_MayMap.c (api_Map.mk x3 x4 x5) v9 _ V9 (own_of s4 (j := 2) rfl) s4.cap_le) (fun _ => ?_))
        iterate 2 refine at_s T rfl ?_
        refine at_grp T [4, 5, 6] (s := 31) (c := (!v9)) [(1, (.int .i64 epoch)), (7, (.pointer (some ⟨b3, 0, none⟩))), (8, (.pointer none)), (34, (.bool ((!v9) || (decide (epoch < 0)))))] rfl rfl rfl (fun c10 => ⟨rfl, rfl, rfl, (by rw [c10]; rfl), trivial⟩) (fun c10 => ⟨rfl, rfl, rfl, (by rw [c10]; rfl), trivial⟩) ?_
        refine at_s T rfl ?_
        refine at_grp T [8, 9, 10] (s := 35) (c := ((!v9) || (decide (epoch < 0)))) [(1, (.int .i64 epoch)), (7, (.pointer (some ⟨b3, 0, none⟩))), (8, (.pointer none)), (38, (.bool (((!v9) || (decide (epoch < 0))) || (decide (epoch > 4611686018427387904)))))] rfl rfl rfl (fun c11 => ⟨rfl, rfl, rfl, (by rw [c11]; rfl), trivial⟩) (fun c11 => ⟨rfl, rfl, rfl, (by rw [c11]; rfl), trivial⟩) ?_
        refine at_end ?_
        refine at_sub [(1, (.int .i64 epoch)), (7, (.pointer (some ⟨b3, 0, none⟩))), (8, (.pointer none)), (38, (.bool (((!v9) || (decide (epoch < 0))) || (decide (epoch > 4611686018427387904)))))] ⟨rfl, rfl, rfl, rfl, trivial⟩ ?_
        refine at_then ?_
        refine at_cond rfl (fun c12 => ?_) (fun c12 => ?_)
        · replace H := if_t c12 H
          refine at_seq ?_
          refine at_region [0, 1, 2, 3, 4, 5] rfl ?_
          obtain ⟨v10, V13, H⟩ := bind_e H
          refine at_cons (at_c (B := fun _ => []) [] rfl rfl rfl rfl has23 rfl rfl (law5_told.c  v10 _ V13) (fun _ => ?_))
          refine at_s T rfl ?_
          refine at_grp T [2, 3, 4] (s := 40) (c := v10) [(43, (.bool (v10 && true)))] rfl rfl rfl (fun c14 => ⟨(by rw [c14]; rfl), trivial⟩) (fun c14 => ⟨(by rw [c14]; rfl), trivial⟩) ?_
          refine at_s T rfl ?_
          refine at_end ?_
          refine at_to [(6, (.bool (v10 && true)))] [0] [F] ⟨rfl, trivial⟩ rfl ?_
          refine at_then ?_
          refine at_ret ?_
          refine at_rt ?_
          obtain rfl := Option.some.inj H
          exact at_post (T := T) rfl (.tmp rfl .nil) (fun w o => ⟨(), rfl, own_to [0] rfl o⟩)
        · replace H := if_f (bf c12) H
          refine at_skip ?_
          refine at_then ?_
          obtain ⟨z11, Z15, H⟩ := bind_e H
          refine at_seq_mid (σ := Unit) (fun ⟨⟩ => () = z11) (fun ⟨⟩ => [(6, (.bool false))]) (fun ⟨⟩ => [F]) ?_ ?_
          · refine at_region_m [[], [0], [0, 1], [0, 1, 2], [0, 1, 2, 3], [0, 1, 2, 3, 4], [0, 1, 2, 3, 4, 5], [0, 1, 2, 3, 4, 5, 6], [0, 1, 2, 3, 4, 5], [0, 1, 2, 3, 4, 5, 8], [0, 1, 2, 3, 4, 5, 6, 7, 8, 9], [0, 1, 2, 3, 4, 5, 6, 7, 8, 9, 10], [0, 1, 2, 3, 4, 5, 6, 7, 8, 9, 10, 11], [0, 1, 2, 3, 4, 5, 6, 7, 8, 9, 10, 11, 12], [0, 1, 2, 3, 4, 5, 6, 7, 8, 9, 10, 11, 12, 13], [0, 1, 2, 3, 4, 5, 6, 7, 8, 9, 10, 11, 12], [0, 1, 2, 3, 4, 5, 6, 7, 8, 9, 10, 11, 12, 13, 14, 15], [0, 1, 2, 3, 4, 5, 6, 7, 8, 9, 10, 11, 12, 13, 14, 15, 16], [0, 1, 2, 3, 4, 5, 6, 7, 8, 9, 10, 11, 12, 13, 14, 15, 16, 17]] [] [F, [(b3, Obj.cells #[(.int .i64 x3), (.int .i64 x4), (.slice a4 (List.length x5) n4)] 25 (0, 0))], H4] mix (by kernel_rfl) (by repeat first | exact pf_body | refine pf_then ?_ | refine pf_block ?_) (fun hg pf => ?_)
            refine atm_one 0 (by kernel_rfl) ?_
            obtain ⟨v12, V16, Z15⟩ := bind_e Z15
            refine at_c (B := fun _ => []) [] rfl rfl rfl rfl has23 rfl rfl (law5_told.c  v12 _ V16) (fun _ => ?_)
            refine atm_next (still_o [0, 0, 0] rfl) ?_
            refine atm_s T 1 hg pf (by kernel_rfl) (still_o [0, 0, 0] rfl) rfl ?_
            refine at_case (s := 45) rfl (fun c17 => ?_) (fun c17 => ?_)
            · replace Z15 := if_t c17 Z15
              refine atm_s T 2 hg pf (by kernel_rfl) (still_o [0, 0, 0] rfl) rfl ?_
              refine atm_s T 3 hg pf (by kernel_rfl) (still_o [0, 0, 0] rfl) rfl ?_
              refine atm_s T 4 hg pf (by kernel_rfl) (still_o [0, 0, 0] rfl) rfl ?_
              refine atm_s T 5 hg pf (by kernel_rfl) (still_o [0, 0, 0] rfl) rfl ?_
              refine atm_s T 6 hg pf (by kernel_rfl) (still_o [0, 0, 0] rfl) rfl ?_
              refine atm_s T 7 hg pf (by kernel_rfl) (still_o [0, 0, 0] rfl) rfl ?_
              refine atm_s T 8 hg pf (by kernel_rfl) (still_o [0, 0, 0] rfl) rfl ?_
              refine atm_s T 9 hg pf (by kernel_rfl) (still_o [0, 0, 0] rfl) rfl ?_
              refine atm_s T 10 hg pf (by kernel_rfl) (still_o [0, 0, 0] rfl) rfl ?_
              refine atm_s T 11 hg pf (by kernel_rfl) (still_o [0, 0, 0] rfl) rfl ?_
              refine atm_s T 12 hg pf (by kernel_rfl) (still_o [0, 0, 0] rfl) rfl ?_
              refine atm_s T 13 hg pf (by kernel_rfl) (still_o [0, 0, 0] rfl) rfl ?_
              refine atm_s T 14 hg pf (by kernel_rfl) (still_o [0, 0, 0] rfl) rfl ?_
              refine atm_s T 15 hg pf (by kernel_rfl) (still_o [0, 0, 0] rfl) rfl ?_
              refine atm_s T 16 hg pf (by kernel_rfl) (still_o [0, 0, 0] rfl) rfl ?_
              refine atm_s T 17 hg pf (by kernel_rfl) (still_o [0, 0, 0] rfl) rfl ?_
              refine atm_s T 18 hg pf (by kernel_rfl) (still_o [0, 0, 0] rfl) rfl ?_
              refine atm_end (by kernel_rfl) ?_
              refine at_to [(6, (.bool false))] [0] [F] ⟨rfl, trivial⟩ rfl ?_
              refine at_then ?_
              obtain rfl := Option.some.inj Z15
              exact at_mid () [0] rfl ⟨rfl, trivial⟩ rfl
            · replace Z15 := if_f (bf c17) Z15
              refine atm_s T 2 hg pf (by kernel_rfl) (still_o [0, 0, 0] rfl) rfl ?_
              refine atm_s T 3 hg pf (by kernel_rfl) (still_o [0, 0, 0] rfl) rfl ?_
              refine atm_s T 4 hg pf (by kernel_rfl) (still_o [0, 0, 0] rfl) rfl ?_
              refine atm_s T 5 hg pf (by kernel_rfl) (still_o [0, 0, 0] rfl) rfl ?_
              refine atm_s T 6 hg pf (by kernel_rfl) (still_o [0, 0, 0] rfl) rfl ?_
              refine atm_s T 7 hg pf (by kernel_rfl) (still_o [0, 0, 0] rfl) rfl ?_
              refine atm_s T 8 hg pf (by kernel_rfl) (still_o [0, 0, 0] rfl) rfl ?_
              refine atm_s T 9 hg pf (by kernel_rfl) (still_o [0, 0, 0] rfl) rfl ?_
              refine atm_s T 10 hg pf (by kernel_rfl) (still_o [0, 0, 0] rfl) rfl ?_
              refine atm_s T 11 hg pf (by kernel_rfl) (still_o [0, 0, 0] rfl) rfl ?_
              refine atm_s T 12 hg pf (by kernel_rfl) (still_o [0, 0, 0] rfl) rfl ?_
              refine atm_s T 13 hg pf (by kernel_rfl) (still_o [0, 0, 0] rfl) rfl ?_
              refine atm_s T 14 hg pf (by kernel_rfl) (still_o [0, 0, 0] rfl) rfl ?_
              refine atm_s T 15 hg pf (by kernel_rfl) (still_o [0, 0, 0] rfl) rfl ?_
              refine atm_s T 16 hg pf (by kernel_rfl) (still_o [0, 0, 0] rfl) rfl ?_
              refine atm_s T 17 hg pf (by kernel_rfl) (still_o [0, 0, 0] rfl) rfl ?_
              refine atm_s T 18 hg pf (by kernel_rfl) (still_o [0, 0, 0] rfl) rfl ?_
              refine atm_end (by kernel_rfl) ?_
              refine at_to [(6, (.bool false))] [0] [F] ⟨rfl, trivial⟩ rfl ?_
              refine at_then ?_
              obtain rfl := Option.some.inj Z15
              exact at_mid () [0] rfl ⟨rfl, trivial⟩ rfl
          · rintro ⟨⟩ rfl
            refine at_ret ?_
            obtain rfl := Option.some.inj H
            exact at_post (T := T) rfl (.tmp rfl .nil) (fun w o => ⟨(), rfl, own_to [0] rfl o⟩)
      · replace H := optm_s rfl H
        obtain ⟨b6, a7, n7, H7, a8, n8, H8, s7, s8, rfl, rfl⟩ := O8
        refine at_s T rfl ?_
        refine at_end ?_
        refine at_sub [(1, (.int .i64 epoch)), (7, (.pointer (some ⟨b3, 0, none⟩))), (8, (.pointer (some ⟨b6, 0, none⟩)))] ⟨rfl, rfl, rfl, trivial⟩ ?_
        refine at_then ?_
        refine at_seq ?_
        refine at_seq ?_
        refine at_region [0, 1, 2, 3, 4, 5, 6, 7, 8, 9, 10] rfl ?_
        refine at_v rfl (g_loadA T (cs := [(.int .i64 x3), (.int .i64 x4), (.slice a4 (List.length x5) n4)]) rfl rfl rfl rfl rfl rfl (in_varA (j := 1) rfl rfl)) ?_
        obtain ⟨v13, V18, H⟩ := bind_e H
        refine at_cons (at_c (B := fun _ => []) [] rfl rfl rfl rfl has25 rfl rfl (ref1_MayMap.c (api_Map.mk x3 x4 x5) v13 _ V18 (own_of s4 (j := 2) rfl) s4.cap_le) (fun _ => ?_))
        iterate 2 refine at_s T rfl ?_
        refine at_grp T [4, 5, 6] (s := 31) (c := (!v13)) [(1, (.int .i64 epoch)), (7, (.pointer (some ⟨b3, 0, none⟩))), (8, (.pointer (some ⟨b6, 0, none⟩))), (34, (.bool ((!v13) || (decide (epoch < 0)))))] rfl rfl rfl (fun c19 => ⟨rfl, rfl, rfl, (by rw [c19]; rfl), trivial⟩) (fun c19 => ⟨rfl, rfl, rfl, (by rw [c19]; rfl), trivial⟩) ?_
        refine at_s T rfl ?_
        refine at_grp T [8, 9, 10] (s := 35) (c := ((!v13) || (decide (epoch < 0)))) [(1, (.int .i64 epoch)), (7, (.pointer (some ⟨b3, 0, none⟩))), (8, (.pointer (some ⟨b6, 0, none⟩))), (38, (.bool (((!v13) || (decide (epoch < 0))) || (decide (epoch > 4611686018427387904)))))] rfl rfl rfl (fun c20 => ⟨rfl, rfl, rfl, (by rw [c20]; rfl), trivial⟩) (fun c20 => ⟨rfl, rfl, rfl, (by rw [c20]; rfl), trivial⟩) ?_
        refine at_end ?_
        refine at_sub [(1, (.int .i64 epoch)), (7, (.pointer (some ⟨b3, 0, none⟩))), (8, (.pointer (some ⟨b6, 0, none⟩))), (38, (.bool (((!v13) || (decide (epoch < 0))) || (decide (epoch > 4611686018427387904)))))] ⟨rfl, rfl, rfl, rfl, trivial⟩ ?_
        refine at_then ?_
        refine at_cond rfl (fun c21 => ?_) (fun c21 => ?_)
        · replace H := if_t c21 H
          refine at_seq ?_
          refine at_region [0, 1, 2, 3, 4, 5] rfl ?_
          obtain ⟨v14, V22, H⟩ := bind_e H
          refine at_cons (at_c (B := fun _ => []) [] rfl rfl rfl rfl has23 rfl rfl (law5_told.c  v14 _ V22) (fun _ => ?_))
          refine at_s T rfl ?_
          refine at_grp T [2, 3, 4] (s := 40) (c := v14) [(43, (.bool (v14 && false)))] rfl rfl rfl (fun c23 => ⟨(by rw [c23]; rfl), trivial⟩) (fun c23 => ⟨(by rw [c23]; rfl), trivial⟩) ?_
          refine at_s T rfl ?_
          refine at_end ?_
          refine at_to [(6, (.bool (v14 && false)))] [0] [F] ⟨rfl, trivial⟩ rfl ?_
          refine at_then ?_
          refine at_ret ?_
          refine at_rt ?_
          obtain rfl := Option.some.inj H
          exact at_post (T := T) rfl (.tmp rfl .nil) (fun w o => ⟨(), rfl, own_to [0] rfl o⟩)
        · replace H := if_f (bf c21) H
          refine at_skip ?_
          refine at_then ?_
          obtain ⟨z16, Z24, H⟩ := bind_e H
          refine at_seq_mid (σ := Bool) (fun x15 => x15 = z16) (fun x15 => [(6, (.bool x15))]) (fun x15 => [F]) ?_ ?_
          · refine at_region_m [[], [0], [0, 1], [0, 1, 2], [0, 1, 2, 3], [0, 1, 2, 3, 4], [0, 1, 2, 3, 4, 5], [0, 1, 2, 3, 4, 5, 6], [0, 1, 2, 3, 4, 5], [0, 1, 2, 3, 4, 5, 8], [0, 1, 2, 3, 4, 5, 6, 7, 8, 9], [0, 1, 2, 3, 4, 5, 6, 7, 8, 9, 10], [0, 1, 2, 3, 4, 5, 6, 7, 8, 9, 10, 11], [0, 1, 2, 3, 4, 5, 6, 7, 8, 9, 10, 11, 12], [0, 1, 2, 3, 4, 5, 6, 7, 8, 9, 10, 11, 12, 13], [0, 1, 2, 3, 4, 5, 6, 7, 8, 9, 10, 11, 12], [0, 1, 2, 3, 4, 5, 6, 7, 8, 9, 10, 11, 12, 13, 14, 15], [0, 1, 2, 3, 4, 5, 6, 7, 8, 9, 10, 11, 12, 13, 14, 15, 16], [0, 1, 2, 3, 4, 5, 6, 7, 8, 9, 10, 11, 12, 13, 14, 15, 16, 17]] [] [F, [(b3, Obj.cells #[(.int .i64 x3), (.int .i64 x4), (.slice a4 (List.length x5) n4)] 25 (0, 0))], H4, [(b6, Obj.cells #[(.int .i64 yv8.m.W), (.int .i64 yv8.m.H), (.slice a7 (List.length yv8.m.C) n7), (.int .i64 yv8.epoch), (.slice a8 (List.length yv8.versions) n8)] 71 (0, 0))], H7, H8] mix (by kernel_rfl) (by repeat first | exact pf_body | refine pf_then ?_ | refine pf_block ?_) (fun hg pf => ?_)
            refine atm_one 0 (by kernel_rfl) ?_
            obtain ⟨v17, V25, Z24⟩ := bind_e Z24
            refine at_c (B := fun _ => []) [] rfl rfl rfl rfl has23 rfl rfl (law5_told.c  v17 _ V25) (fun _ => ?_)
            refine atm_next (still_o [0, 0, 0, 0, 0, 0] rfl) ?_
            refine atm_s T 1 hg pf (by kernel_rfl) (still_o [0, 0, 0, 0, 0, 0] rfl) rfl ?_
            refine at_case (s := 45) rfl (fun c26 => ?_) (fun c26 => ?_)
            · replace Z24 := if_t c26 Z24
              refine atm_s T 2 hg pf (by kernel_rfl) (still_o [0, 0, 0, 0, 0, 0] rfl) rfl ?_
              refine atm_s T 3 hg pf (by kernel_rfl) (still_o [0, 0, 0, 0, 0, 0] rfl) rfl ?_
              refine atm_s T 4 hg pf (by kernel_rfl) (still_o [0, 0, 0, 0, 0, 0] rfl) rfl ?_
              refine atm_s T 5 hg pf (by kernel_rfl) (still_o [0, 0, 0, 0, 0, 0] rfl) rfl ?_
              refine atm_s T 6 hg pf (by kernel_rfl) (still_o [0, 0, 0, 0, 0, 0] rfl) rfl ?_
              refine atm_s T 8 hg pf (by kernel_rfl) (still_o [0, 0, 0, 0, 0, 0] rfl) rfl ?_
              refine atm_s T 9 hg pf (by kernel_rfl) (still_o [0, 0, 0, 0, 0, 0] rfl) rfl ?_
              refine atm_one 7 (by kernel_rfl) ?_
              obtain ⟨v18, V27, Z24⟩ := bind_e Z24
              refine at_c (As := [[(b6, Obj.cells #[(.int .i64 yv8.m.W), (.int .i64 yv8.m.H), (.slice a7 (List.length yv8.m.C) n7), (.int .i64 yv8.epoch), (.slice a8 (List.length yv8.versions) n8)] 71 (0, 0))], H7, H8]) (R := [F, [(b3, Obj.cells #[(.int .i64 x3), (.int .i64 x4), (.slice a4 (List.length x5) n4)] 25 (0, 0))], H4]) (B := fun _ => [[(b6, Obj.cells #[(.int .i64 yv8.m.W), (.int .i64 yv8.m.H), (.slice a7 (List.length yv8.m.C) n7), (.int .i64 yv8.epoch), (.slice a8 (List.length yv8.versions) n8)] 71 (0, 0))], H7, H8]) [3, 3, 3] rfl rfl rfl rfl has19 rfl rfl (grid_Grid_Epoch.c yv8 v18 _ V27 s7 s8) (fun _ => ?_)
              refine atm_next (still_o [0, 0, 0, 0, 0, 0] rfl) ?_
              refine atm_s T 10 hg pf (by kernel_rfl) (still_o [0, 0, 0, 0, 0, 0] rfl) rfl ?_
              refine atm_s T 11 hg pf (by kernel_rfl) (still_o [0, 0, 0, 0, 0, 0] rfl) rfl ?_
              refine atm_s T 12 hg pf (by kernel_rfl) (still_o [0, 0, 0, 0, 0, 0] rfl) rfl ?_
              refine at_case (s := 56) rfl (fun c28 => ?_) (fun c28 => ?_)
              · replace Z24 := if_t c28 Z24
                refine atm_s T 13 hg pf (by kernel_rfl) (still_o [0, 0, 0, 0, 0, 0] rfl) rfl ?_
                refine atm_v 15 hg pf (by kernel_rfl) (still_o [0, 0, 0, 0, 0, 0] rfl) rfl rfl (g_loadA T (cs := [(.int .i64 x3), (.int .i64 x4), (.slice a4 (List.length x5) n4)]) rfl rfl rfl rfl rfl rfl (in_varA (j := 1) rfl rfl)) ?_
                refine atm_one 14 (by kernel_rfl) ?_
                obtain ⟨v19, V29, Z24⟩ := bind_e Z24
                refine at_cR (As := [[(b6, Obj.cells #[(.int .i64 yv8.m.W), (.int .i64 yv8.m.H), (.slice a7 (List.length yv8.m.C) n7), (.int .i64 yv8.epoch), (.slice a8 (List.length yv8.versions) n8)] 71 (0, 0))], H7, H8]) (R := [F, [(b3, Obj.cells #[(.int .i64 x3), (.int .i64 x4), (.slice a4 (List.length x5) n4)] 25 (0, 0))], H4]) (grid_Grid_Map.R v19) [[(b6, Obj.cells #[(.int .i64 yv8.m.W), (.int .i64 yv8.m.H), (.slice a7 (List.length yv8.m.C) n7), (.int .i64 yv8.epoch), (.slice a8 (List.length yv8.versions) n8)] 71 (0, 0))], H7, H8] [3, 3, 3] rfl rfl rfl rfl has27 rfl rfl (grid_Grid_Map.c yv8 v19 _ V29 s7 s8) ?_
                rintro _ _ ⟨a9, n9, H9, s9, rfl, rfl⟩
                refine atm_next (still_o [0, 0, 0, 1, 1, 1] rfl) ?_
                refine atm_one 16 (by kernel_rfl) ?_
                obtain ⟨v20, V30, Z24⟩ := bind_e Z24
                refine at_c (B := fun _ => []) [] rfl rfl rfl rfl has26 rfl rfl (ref1_SameMap.c v19 (api_Map.mk x3 x4 x5) v20 _ V30 (own_of s9 (j := 3) rfl) s9.cap_le (own_of s4 (j := 2) rfl) s4.cap_le) (fun _ => ?_)
                refine atm_next (still_o [0, 0, 0, 1, 1, 1] rfl) ?_
                refine atm_s T 17 hg pf (by kernel_rfl) (still_o [0, 0, 0, 1, 1, 1] rfl) rfl ?_
                refine atm_s T 18 hg pf (by kernel_rfl) (still_o [0, 0, 0, 1, 1, 1] rfl) rfl ?_
                refine atm_end (by kernel_rfl) ?_
                refine at_to [(6, (.bool v20))] [0] [F] ⟨rfl, trivial⟩ rfl ?_
                refine at_then ?_
                obtain rfl := Option.some.inj Z24
                exact at_mid v20 [0] rfl ⟨rfl, trivial⟩ rfl
              · replace Z24 := if_f (bf c28) Z24
                refine atm_s T 13 hg pf (by kernel_rfl) (still_o [0, 0, 0, 0, 0, 0] rfl) rfl ?_
                refine atm_s T 14 hg pf (by kernel_rfl) (still_o [0, 0, 0, 0, 0, 0] rfl) rfl ?_
                refine atm_s T 15 hg pf (by kernel_rfl) (still_o [0, 0, 0, 0, 0, 0] rfl) rfl ?_
                refine atm_s T 16 hg pf (by kernel_rfl) (still_o [0, 0, 0, 0, 0, 0] rfl) rfl ?_
                refine atm_s T 17 hg pf (by kernel_rfl) (still_o [0, 0, 0, 0, 0, 0] rfl) rfl ?_
                refine atm_s T 18 hg pf (by kernel_rfl) (still_o [0, 0, 0, 0, 0, 0] rfl) rfl ?_
                refine atm_end (by kernel_rfl) ?_
                refine at_to [(6, (.bool false))] [0] [F] ⟨rfl, trivial⟩ rfl ?_
                refine at_then ?_
                obtain rfl := Option.some.inj Z24
                exact at_mid false [0] rfl ⟨rfl, trivial⟩ rfl
            · replace Z24 := if_f (bf c26) Z24
              refine atm_s T 2 hg pf (by kernel_rfl) (still_o [0, 0, 0, 0, 0, 0] rfl) rfl ?_
              refine atm_s T 3 hg pf (by kernel_rfl) (still_o [0, 0, 0, 0, 0, 0] rfl) rfl ?_
              refine atm_s T 4 hg pf (by kernel_rfl) (still_o [0, 0, 0, 0, 0, 0] rfl) rfl ?_
              refine atm_s T 5 hg pf (by kernel_rfl) (still_o [0, 0, 0, 0, 0, 0] rfl) rfl ?_
              refine atm_s T 6 hg pf (by kernel_rfl) (still_o [0, 0, 0, 0, 0, 0] rfl) rfl ?_
              refine atm_s T 7 hg pf (by kernel_rfl) (still_o [0, 0, 0, 0, 0, 0] rfl) rfl ?_
              refine atm_s T 8 hg pf (by kernel_rfl) (still_o [0, 0, 0, 0, 0, 0] rfl) rfl ?_
              refine atm_s T 9 hg pf (by kernel_rfl) (still_o [0, 0, 0, 0, 0, 0] rfl) rfl ?_
              refine atm_s T 10 hg pf (by kernel_rfl) (still_o [0, 0, 0, 0, 0, 0] rfl) rfl ?_
              refine atm_s T 11 hg pf (by kernel_rfl) (still_o [0, 0, 0, 0, 0, 0] rfl) rfl ?_
              refine atm_s T 12 hg pf (by kernel_rfl) (still_o [0, 0, 0, 0, 0, 0] rfl) rfl ?_
              refine atm_s T 13 hg pf (by kernel_rfl) (still_o [0, 0, 0, 0, 0, 0] rfl) rfl ?_
              refine atm_s T 14 hg pf (by kernel_rfl) (still_o [0, 0, 0, 0, 0, 0] rfl) rfl ?_
              refine atm_s T 15 hg pf (by kernel_rfl) (still_o [0, 0, 0, 0, 0, 0] rfl) rfl ?_
              refine atm_s T 16 hg pf (by kernel_rfl) (still_o [0, 0, 0, 0, 0, 0] rfl) rfl ?_
              refine atm_s T 17 hg pf (by kernel_rfl) (still_o [0, 0, 0, 0, 0, 0] rfl) rfl ?_
              refine atm_s T 18 hg pf (by kernel_rfl) (still_o [0, 0, 0, 0, 0, 0] rfl) rfl ?_
              refine atm_end (by kernel_rfl) ?_
              refine at_to [(6, (.bool false))] [0] [F] ⟨rfl, trivial⟩ rfl ?_
              refine at_then ?_
              obtain rfl := Option.some.inj Z24
              exact at_mid false [0] rfl ⟨rfl, trivial⟩ rfl
          · rintro x15 rfl
            refine at_ret ?_
            obtain rfl := Option.some.inj H
            exact at_post (T := T) rfl (.tmp rfl .nil) (fun w o => ⟨(), rfl, own_to [0] rfl o⟩)
def law5_GridRaw.Pure : Prop := ∀ (m : api_Map) (epoch : Int) (raw : Bool), (inI64 m.W ∧ inI64 m.H ∧ (∀ y ∈ m.C, inU8 y)) → inI64 epoch → List.length m.C ≤ 9223372036854775807 → law5_GridRaw.f m epoch raw = some true
end Go.Proofs.Ytmjcmkimhkjdeaa
