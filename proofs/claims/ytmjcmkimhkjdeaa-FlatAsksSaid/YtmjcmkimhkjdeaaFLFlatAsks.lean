import Derived.Test.YtmjcmkimhkjdeaaT
import Derived.Test.YtmjcmkimhkjdeaaFflat
import Derived.Test.YtmjcmkimhkjdeaaFlaw17
import Derived.Test.YtmjcmkimhkjdeaaFref1
import Derived.Test.YtmjcmkimhkjdeaaFref11
namespace Go.Proofs.Ytmjcmkimhkjdeaa
open Go.Hx
set_option maxRecDepth 100000
set_option linter.unusedVariables false
/-! ### herdsman/herdsmanlaw17.FlatAsks: function 11 -/
def law17_FlatAsks.f (m : api_Map) (goal : Int) (cell : Int) (raw : Bool) : Option Bool := if (List.length m.C : Int) > 2500 then ((law17_told.f).bind fun v1 => some v1) else ((ref1_Own.f m).bind fun v2 => (if (!raw) = true then ((ref1_Made.f m.W m.H m.C).bind fun v9 => (ref1_Within.f goal (-1) (List.length v9.C : Int)).bind fun v10 => (ref1_Within.f cell (-1) (List.length v9.C : Int)).bind fun v11 => some (v10, v11, v9.W, v9.H, v9.C)) else (some (goal, cell, v2.W, v2.H, v2.C))).bind fun (x3, x4, x5, x6, x7) => (flat_Dist.f (api_Map.mk x5 x6 x7) x3).bind fun v12 => (flat_Dirs.f (api_Map.mk x5 x6 x7) x3).bind fun v13 => (flat_Query.f (api_Map.mk x5 x6 x7) x3 x4).bind fun v14 => ((ref1_MayMap.f (api_Map.mk x5 x6 x7)).bind fun v18 => if (!v18) = true then (some (1, 1)) else ((ref1_IsCell.f x5 x6 x3).bind fun v19 => if (!v19) = true then (some (7, 7)) else ((ref1_IsCell.f x5 x6 x4).bind fun v20 => if (!v20) = true then (some (0, 7)) else (some (0, 0))))).bind fun (x15, x16) => (if (((v12.2 != x15) || (v13.2 != x15)) || (v14.2.2 != x16)) = true then (some true) else (if (x16 != 0) = true then (if (v14.1 != 0) = true then (some true) else (some (v14.2.1 != 0))) else (some false))).bind fun x21 => if x21 = true then (some false) else (if (x15 != 0) = true then ((law17_told.f).bind fun v23 => some ((v23 && ((List.length v12.1 : Int) == 0)) && ((List.length v13.1 : Int) == 0))) else ((ref11_Flat.f (api_Map.mk x5 x6 x7) x3).bind fun v24 => ((law17_told.f).bind fun v27 => if v27 = true then ((ref1_Ints.f v12.1 v24).bind fun v28 => if v28 = true then ((ref11_Dirs.f (api_Map.mk x5 x6 x7) x3).bind fun v29 => (ref1_Ints.f v13.1 v29).bind fun v30 => if v30 = true then (if (x16 != 0) = true then (some true) else (if (0 ≤ x4 ∧ x4 < (List.length v24 : Int)) then (if (v14.1 == (rd v24 x4)) = true then (if (0 ≤ x4 ∧ x4 < (List.length v13.1 : Int)) then (some (v14.2.1 == (rd v13.1 x4))) else none) else (some false)) else none)) else (some false)) else (some false)) else (some false)).bind fun x25 => some x25)))
set_option maxHeartbeats 4000000 in
theorem law17_FlatAsks.c {a_m_C : Option Addr} {n_m_C : Nat} (m : api_Map) (goal : Int) (cell : Int) (raw : Bool) (r : Bool) (F : Hp) (H : law17_FlatAsks.f m goal cell raw = some r) (h_m_C : SliceR (Fl.int .u8) m.C a_m_C F) (c_m_C : List.length m.C ≤ n_m_C) :
    CallsL Try.prog 11 [(.agg #[(.int .i64 m.W), (.int .i64 m.H), (.slice a_m_C (List.length m.C) n_m_C)]), (.int .i64 goal), (.int .i64 cell), (.bool raw)] [F] (fun _ : Unit => (.bool r)) (fun _ => [F]) := by
  unfold law17_FlatAsks.f at H
  refine calls_atL [(0, (.agg #[(.int .i64 m.W), (.int .i64 m.H), (.slice a_m_C (List.length m.C) n_m_C)])), (1, (.int .i64 goal)), (2, (.int .i64 cell)), (3, (.bool raw))] Try.func11 rfl rfl ⟨rfl, rfl, rfl, rfl, trivial⟩ (fun W => ?_)
  refine at_seq ?_
  refine at_region [0, 1] rfl ?_
  refine at_cons (at_bx T [(.int .i64 m.W), (.int .i64 m.H), (.slice a_m_C (List.length m.C) n_m_C)] rfl rfl rfl rfl (fun b1 => ?_))
  refine at_s T rfl ?_
  refine at_end ?_
  refine at_sub [(1, (.int .i64 goal)), (2, (.int .i64 cell)), (3, (.bool raw)), (4, (.pointer (some ⟨b1, 0, none⟩)))] ⟨rfl, rfl, rfl, rfl, trivial⟩ ?_
  refine at_then ?_
  refine at_seq ?_
  refine at_seq ?_
  refine at_region [0, 1, 2, 3] rfl ?_
  refine at_s T rfl ?_
  refine at_v rfl (g_load T rfl rfl rfl rfl (in_var (j := 1) rfl rfl)) ?_
  iterate 2 refine at_s T rfl ?_
  refine at_end ?_
  refine at_sub [(1, (.int .i64 goal)), (2, (.int .i64 cell)), (3, (.bool raw)), (4, (.pointer (some ⟨b1, 0, none⟩))), (23, (.bool (decide ((List.length m.C : Int) > 2500))))] ⟨rfl, rfl, rfl, rfl, rfl, trivial⟩ ?_
  refine at_then ?_
  refine at_cond rfl (fun c1 => ?_) (fun c1 => ?_)
  · replace H := if_t (of_decide_eq_true c1) H
    refine at_seq ?_
    refine at_region [0, 1] rfl ?_
    obtain ⟨v1, V2, H⟩ := bind_e H
    refine at_cons (at_c (B := fun _ => []) [] rfl rfl rfl rfl has37 rfl rfl (law17_told.c  v1 _ V2) (fun _ => ?_))
    refine at_s T rfl ?_
    refine at_end ?_
    refine at_to [(8, (.bool v1))] [0] [F] ⟨rfl, trivial⟩ rfl ?_
    refine at_then ?_
    refine at_ret ?_
    refine at_rt ?_
    obtain rfl := Option.some.inj H
    exact at_post (T := T) rfl (.tmp rfl .nil) (fun w o => ⟨(), rfl, own_to [0] rfl o⟩)
  · replace H := if_f (of_decide_eq_false c1) H
    refine at_skip ?_
    refine at_then ?_
    refine at_seq ?_
    refine at_region [0, 1, 2, 3] rfl ?_
    refine at_v rfl (g_loadA T (cs := [(.int .i64 m.W), (.int .i64 m.H), (.slice a_m_C (List.length m.C) n_m_C)]) rfl rfl rfl rfl rfl rfl (in_varA (j := 1) rfl rfl)) ?_
    obtain ⟨v2, V3, H⟩ := bind_e H
    refine at_cons (at_cR (ref1_Own.R v2) [] [] rfl rfl rfl rfl has24 rfl rfl (ref1_Own.c m v2 _ V3 (ro_of h_m_C (j := 0) rfl) c_m_C) ?_)
    rintro _ _ ⟨a2, n2, H2, s2, rfl, rfl⟩
    refine at_cons (at_al T [(.int .i64 0), (.int .i64 0), (.slice none 0 0)] rfl rfl rfl rfl (fun b3 => ?_))
    refine at_cons (at_st T 3 [(.int .i64 v2.W), (.int .i64 v2.H), (.slice a2 (List.length v2.C) n2)] rfl rfl rfl rfl rfl rfl rfl rfl rfl rfl ?_)
    refine at_end ?_
    refine at_sub [(1, (.int .i64 goal)), (2, (.int .i64 cell)), (3, (.bool raw)), (4, (.pointer (some ⟨b1, 0, none⟩))), (9, (.pointer (some ⟨b3, 0, none⟩)))] ⟨rfl, rfl, rfl, rfl, rfl, trivial⟩ ?_
    refine at_then ?_
    obtain ⟨z8, Z4, H⟩ := bind_e H
    refine at_seq_mid (σ := Int × Int × Int × Int × List Int × Option Addr × Nat × Hp) (fun ⟨x3, x4, x5, x6, x7, a4, n4, H4⟩ => (x3, x4, x5, x6, x7) = z8 ∧ SliceO (Fl.int .u8) 5 x7 a4 n4 H4) (fun ⟨x3, x4, x5, x6, x7, a4, n4, H4⟩ => [(1, (.int .i64 x3)), (2, (.int .i64 x4)), (9, (.pointer (some ⟨b3, 0, none⟩)))]) (fun ⟨x3, x4, x5, x6, x7, a4, n4, H4⟩ => [F, [(b3, Obj.cells #[(.int .i64 x5), (.int .i64 x6), (.slice a4 (List.length x7) n4)] 25 (0, 0))], H4]) ?_ ?_
    · refine at_seq ?_
      refine at_region [0, 1] rfl ?_
      iterate 2 refine at_s T rfl ?_
      refine at_end ?_
      refine at_sub [(1, (.int .i64 goal)), (2, (.int .i64 cell)), (4, (.pointer (some ⟨b1, 0, none⟩))), (9, (.pointer (some ⟨b3, 0, none⟩))), (28, (.bool (!raw)))] ⟨rfl, rfl, rfl, rfl, rfl, trivial⟩ ?_
      refine at_then ?_
      refine at_cond rfl (fun c5 => ?_) (fun c5 => ?_)
      · replace Z4 := if_t c5 Z4
        refine at_seq ?_
        refine at_region [0, 1, 2, 3, 4, 5, 6, 7] rfl ?_
        refine at_s T rfl ?_
        refine at_v rfl (g_load T rfl rfl rfl rfl (in_var (j := 1) rfl rfl)) ?_
        refine at_s T rfl ?_
        refine at_v rfl (g_load T rfl rfl rfl rfl (in_var (j := 1) rfl rfl)) ?_
        refine at_s T rfl ?_
        refine at_v rfl (g_load T rfl rfl rfl rfl (in_var (j := 1) rfl rfl)) ?_
        obtain ⟨v9, V6, Z4⟩ := bind_e Z4
        refine at_cons (at_cR (ref1_Made.R v9) [] [] rfl rfl rfl rfl has14 rfl rfl (ref1_Made.c m.W m.H m.C v9 _ V6 (ro_of h_m_C (j := 0) rfl) c_m_C) ?_)
        rintro _ _ ⟨a5, n5, H5, s5, rfl, rfl⟩
        refine at_cons (at_st T 3 [(.int .i64 v9.W), (.int .i64 v9.H), (.slice a5 (List.length v9.C) n5)] rfl rfl rfl rfl rfl rfl rfl rfl rfl rfl ?_)
        refine at_end ?_
        refine at_to [(1, (.int .i64 goal)), (2, (.int .i64 cell)), (9, (.pointer (some ⟨b3, 0, none⟩)))] [0, 2, 2] [F, [(b3, Obj.cells #[(.int .i64 v9.W), (.int .i64 v9.H), (.slice a5 (List.length v9.C) n5)] 25 (0, 0))], H5] ⟨rfl, rfl, rfl, trivial⟩ rfl ?_
        refine at_then ?_
        refine at_region_q mix (by kernel_rfl) ?_
        iterate 2 refine atq_s T rfl ?_
        refine atq_v rfl rfl rfl (g_load T rfl rfl rfl rfl (in_var (j := 1) rfl rfl)) ?_
        refine atq_s T rfl ?_
        obtain ⟨v10, V7, Z4⟩ := bind_e Z4
        refine atq_c rfl rfl rfl rfl rfl rfl has17 rfl (ref1_Within.c goal (-1) (List.length v9.C : Int) v10 _ V7) ?_
        iterate 2 refine atq_s T rfl ?_
        refine atq_v rfl rfl rfl (g_load T rfl rfl rfl rfl (in_var (j := 1) rfl rfl)) ?_
        refine atq_s T rfl ?_
        obtain ⟨v11, V8, Z4⟩ := bind_e Z4
        refine atq_c rfl rfl rfl rfl rfl rfl has17 rfl (ref1_Within.c cell (-1) (List.length v9.C : Int) v11 _ V8) ?_
        iterate 2 refine atq_s T rfl ?_
        refine atq_end ?_
        refine at_sub [(1, (.int .i64 v10)), (2, (.int .i64 v11)), (9, (.pointer (some ⟨b3, 0, none⟩)))] ⟨rfl, rfl, rfl, trivial⟩ ?_
        refine at_then ?_
        obtain rfl := Option.some.inj Z4
        exact at_mid (v10, v11, v9.W, v9.H, v9.C, a5, n5, H5) [0, 0, 0] ⟨rfl, s5⟩ ⟨rfl, rfl, rfl, trivial⟩ rfl
      · replace Z4 := if_f (bf c5) Z4
        refine at_skip ?_
        refine at_then ?_
        obtain rfl := Option.some.inj Z4
        exact at_mid (goal, cell, v2.W, v2.H, v2.C, a2, n2, H2) [0, 2, 1] ⟨rfl, s2⟩ ⟨rfl, rfl, rfl, trivial⟩ rfl
    · rintro ⟨x3, x4, x5, x6, x7, a4, n4, H4⟩ ⟨rfl, s4⟩
      refine at_seq ?_
      refine at_region [0, 1, 2, 3, 4, 5, 6, 7] rfl ?_
      refine at_v rfl (g_loadA T (cs := [(.int .i64 x5), (.int .i64 x6), (.slice a4 (List.length x7) n4)]) rfl rfl rfl rfl rfl rfl (in_varA (j := 1) rfl rfl)) ?_
      refine at_s T rfl ?_
      obtain ⟨v12, V9, H⟩ := bind_e H
      refine at_cons (at_cR (flat_Dist.R v12) [] [] rfl rfl rfl rfl has35 rfl rfl (flat_Dist.c (api_Map.mk x5 x6 x7) x3 v12 _ V9 (own_of s4 (j := 2) rfl) s4.cap_le) ?_)
      rintro _ _ ⟨a6, n6, H6, s6, rfl, rfl⟩
      iterate 5 refine at_s T rfl ?_
      refine at_end ?_
      refine at_sub [(1, (.int .i64 x3)), (2, (.int .i64 x4)), (9, (.pointer (some ⟨b3, 0, none⟩))), (10, (.slice a6 (List.length v12.1) n6)), (11, (.int .i64 v12.2))] ⟨rfl, rfl, rfl, rfl, rfl, trivial⟩ ?_
      refine at_then ?_
      refine at_seq ?_
      refine at_region [0, 1, 2, 3, 4, 5, 6, 7] rfl ?_
      refine at_v rfl (g_loadA T (cs := [(.int .i64 x5), (.int .i64 x6), (.slice a4 (List.length x7) n4)]) rfl rfl rfl rfl rfl rfl (in_varA (j := 1) rfl rfl)) ?_
      refine at_s T rfl ?_
      obtain ⟨v13, V10, H⟩ := bind_e H
      refine at_cons (at_cR (flat_Dirs.R v13) [] [] rfl rfl rfl rfl has38 rfl rfl (flat_Dirs.c (api_Map.mk x5 x6 x7) x3 v13 _ V10 (own_of s4 (j := 2) rfl) s4.cap_le) ?_)
      rintro _ _ ⟨a7, n7, H7, s7, rfl, rfl⟩
      iterate 5 refine at_s T rfl ?_
      refine at_end ?_
      refine at_sub [(1, (.int .i64 x3)), (2, (.int .i64 x4)), (9, (.pointer (some ⟨b3, 0, none⟩))), (10, (.slice a6 (List.length v12.1) n6)), (11, (.int .i64 v12.2)), (12, (.slice a7 (List.length v13.1) n7)), (13, (.int .i64 v13.2))] ⟨rfl, rfl, rfl, rfl, rfl, rfl, rfl, trivial⟩ ?_
      refine at_then ?_
      refine at_seq ?_
      refine at_region [0, 1, 2, 3, 4, 5, 6, 7, 8, 9, 10] rfl ?_
      refine at_v rfl (g_loadA T (cs := [(.int .i64 x5), (.int .i64 x6), (.slice a4 (List.length x7) n4)]) rfl rfl rfl rfl rfl rfl (in_varA (j := 1) rfl rfl)) ?_
      iterate 2 refine at_s T rfl ?_
      obtain ⟨v14, V11, H⟩ := bind_e H
      refine at_cons (at_c (B := fun _ => []) [] rfl rfl rfl rfl has39 rfl rfl (flat_Query.c (api_Map.mk x5 x6 x7) x3 x4 v14 _ V11 (own_of s4 (j := 2) rfl) s4.cap_le) (fun _ => ?_))
      iterate 7 refine at_s T rfl ?_
      refine at_end ?_
      refine at_sub [(1, (.int .i64 x3)), (2, (.int .i64 x4)), (9, (.pointer (some ⟨b3, 0, none⟩))), (10, (.slice a6 (List.length v12.1) n6)), (11, (.int .i64 v12.2)), (12, (.slice a7 (List.length v13.1) n7)), (13, (.int .i64 v13.2)), (14, (.int .i64 v14.1)), (15, (.int .i64 v14.2.1)), (16, (.int .i64 v14.2.2))] ⟨rfl, rfl, rfl, rfl, rfl, rfl, rfl, rfl, rfl, rfl, trivial⟩ ?_
      refine at_then ?_
      refine at_seq ?_
      refine at_region [0, 1] rfl ?_
      iterate 2 refine at_s T rfl ?_
      refine at_end ?_
      refine at_sub [(1, (.int .i64 x3)), (2, (.int .i64 x4)), (9, (.pointer (some ⟨b3, 0, none⟩))), (10, (.slice a6 (List.length v12.1) n6)), (11, (.int .i64 v12.2)), (12, (.slice a7 (List.length v13.1) n7)), (13, (.int .i64 v13.2)), (14, (.int .i64 v14.1)), (15, (.int .i64 v14.2.1)), (16, (.int .i64 v14.2.2)), (17, (.int .i64 0)), (18, (.int .i64 0))] ⟨rfl, rfl, rfl, rfl, rfl, rfl, rfl, rfl, rfl, rfl, rfl, rfl, trivial⟩ ?_
      refine at_then ?_
      obtain ⟨z17, Z12, H⟩ := bind_e H
      refine at_seq_mid (σ := Int × Int) (fun ⟨x15, x16⟩ => (x15, x16) = z17) (fun ⟨x15, x16⟩ => [(1, (.int .i64 x3)), (2, (.int .i64 x4)), (9, (.pointer (some ⟨b3, 0, none⟩))), (10, (.slice a6 (List.length v12.1) n6)), (11, (.int .i64 v12.2)), (12, (.slice a7 (List.length v13.1) n7)), (13, (.int .i64 v13.2)), (14, (.int .i64 v14.1)), (15, (.int .i64 v14.2.1)), (16, (.int .i64 v14.2.2)), (17, (.int .i64 x15)), (18, (.int .i64 x16))]) (fun ⟨x15, x16⟩ => [F, [(b3, Obj.cells #[(.int .i64 x5), (.int .i64 x6), (.slice a4 (List.length x7) n4)] 25 (0, 0))], H4, H6, H7]) ?_ ?_
      · refine at_block ?_
        refine at_seq ?_
        refine at_region [0, 1, 2, 3] rfl ?_
        refine at_v rfl (g_loadA T (cs := [(.int .i64 x5), (.int .i64 x6), (.slice a4 (List.length x7) n4)]) rfl rfl rfl rfl rfl rfl (in_varA (j := 1) rfl rfl)) ?_
        obtain ⟨v18, V13, Z12⟩ := bind_e Z12
        refine at_cons (at_c (B := fun _ => []) [] rfl rfl rfl rfl has25 rfl rfl (ref1_MayMap.c (api_Map.mk x5 x6 x7) v18 _ V13 (own_of s4 (j := 2) rfl) s4.cap_le) (fun _ => ?_))
        iterate 2 refine at_s T rfl ?_
        refine at_end ?_
        refine at_sub [(1, (.int .i64 x3)), (2, (.int .i64 x4)), (9, (.pointer (some ⟨b3, 0, none⟩))), (10, (.slice a6 (List.length v12.1) n6)), (11, (.int .i64 v12.2)), (12, (.slice a7 (List.length v13.1) n7)), (13, (.int .i64 v13.2)), (14, (.int .i64 v14.1)), (15, (.int .i64 v14.2.1)), (16, (.int .i64 v14.2.2)), (17, (.int .i64 0)), (18, (.int .i64 0)), (66, (.bool (!v18)))] ⟨rfl, rfl, rfl, rfl, rfl, rfl, rfl, rfl, rfl, rfl, rfl, rfl, rfl, trivial⟩ ?_
        refine at_then ?_
        refine at_cond rfl (fun c14 => ?_) (fun c14 => ?_)
        · replace Z12 := if_t c14 Z12
          refine at_region [0, 1] rfl ?_
          iterate 2 refine at_s T rfl ?_
          refine at_end ?_
          refine at_sub [(1, (.int .i64 x3)), (2, (.int .i64 x4)), (9, (.pointer (some ⟨b3, 0, none⟩))), (10, (.slice a6 (List.length v12.1) n6)), (11, (.int .i64 v12.2)), (12, (.slice a7 (List.length v13.1) n7)), (13, (.int .i64 v13.2)), (14, (.int .i64 v14.1)), (15, (.int .i64 v14.2.1)), (16, (.int .i64 v14.2.2)), (17, (.int .i64 1)), (18, (.int .i64 1))] ⟨rfl, rfl, rfl, rfl, rfl, rfl, rfl, rfl, rfl, rfl, rfl, rfl, trivial⟩ ?_
          refine at_nb ?_
          refine at_then ?_
          obtain rfl := Option.some.inj Z12
          exact at_mid (1, 1) [0, 0, 0, 0, 0] rfl ⟨rfl, rfl, rfl, rfl, rfl, rfl, rfl, rfl, rfl, rfl, rfl, rfl, trivial⟩ rfl
        · replace Z12 := if_f (bf c14) Z12
          refine at_seq ?_
          refine at_region [0, 1, 2, 3, 4, 5, 6, 7] rfl ?_
          refine at_s T rfl ?_
          refine at_v rfl (g_load T rfl rfl rfl rfl (in_var (j := 1) rfl rfl)) ?_
          refine at_s T rfl ?_
          refine at_v rfl (g_load T rfl rfl rfl rfl (in_var (j := 1) rfl rfl)) ?_
          refine at_s T rfl ?_
          obtain ⟨v19, V15, Z12⟩ := bind_e Z12
          refine at_cons (at_c (B := fun _ => []) [] rfl rfl rfl rfl has28 rfl rfl (ref1_IsCell.c x5 x6 x3 v19 _ V15) (fun _ => ?_))
          iterate 2 refine at_s T rfl ?_
          refine at_end ?_
          refine at_sub [(1, (.int .i64 x3)), (2, (.int .i64 x4)), (9, (.pointer (some ⟨b3, 0, none⟩))), (10, (.slice a6 (List.length v12.1) n6)), (11, (.int .i64 v12.2)), (12, (.slice a7 (List.length v13.1) n7)), (13, (.int .i64 v13.2)), (14, (.int .i64 v14.1)), (15, (.int .i64 v14.2.1)), (16, (.int .i64 v14.2.2)), (17, (.int .i64 0)), (18, (.int .i64 0)), (70, (.bool (!v19)))] ⟨rfl, rfl, rfl, rfl, rfl, rfl, rfl, rfl, rfl, rfl, rfl, rfl, rfl, trivial⟩ ?_
          refine at_then ?_
          refine at_cond rfl (fun c16 => ?_) (fun c16 => ?_)
          · replace Z12 := if_t c16 Z12
            refine at_region [0, 1] rfl ?_
            iterate 2 refine at_s T rfl ?_
            refine at_end ?_
            refine at_sub [(1, (.int .i64 x3)), (2, (.int .i64 x4)), (9, (.pointer (some ⟨b3, 0, none⟩))), (10, (.slice a6 (List.length v12.1) n6)), (11, (.int .i64 v12.2)), (12, (.slice a7 (List.length v13.1) n7)), (13, (.int .i64 v13.2)), (14, (.int .i64 v14.1)), (15, (.int .i64 v14.2.1)), (16, (.int .i64 v14.2.2)), (17, (.int .i64 7)), (18, (.int .i64 7))] ⟨rfl, rfl, rfl, rfl, rfl, rfl, rfl, rfl, rfl, rfl, rfl, rfl, trivial⟩ ?_
            refine at_nb ?_
            refine at_then ?_
            obtain rfl := Option.some.inj Z12
            exact at_mid (7, 7) [0, 0, 0, 0, 0] rfl ⟨rfl, rfl, rfl, rfl, rfl, rfl, rfl, rfl, rfl, rfl, rfl, rfl, trivial⟩ rfl
          · replace Z12 := if_f (bf c16) Z12
            refine at_seq ?_
            refine at_region [0, 1, 2, 3, 4, 5, 6, 7] rfl ?_
            refine at_s T rfl ?_
            refine at_v rfl (g_load T rfl rfl rfl rfl (in_var (j := 1) rfl rfl)) ?_
            refine at_s T rfl ?_
            refine at_v rfl (g_load T rfl rfl rfl rfl (in_var (j := 1) rfl rfl)) ?_
            refine at_s T rfl ?_
            obtain ⟨v20, V17, Z12⟩ := bind_e Z12
            refine at_cons (at_c (B := fun _ => []) [] rfl rfl rfl rfl has28 rfl rfl (ref1_IsCell.c x5 x6 x4 v20 _ V17) (fun _ => ?_))
            iterate 2 refine at_s T rfl ?_
            refine at_end ?_
            refine at_sub [(1, (.int .i64 x3)), (2, (.int .i64 x4)), (9, (.pointer (some ⟨b3, 0, none⟩))), (10, (.slice a6 (List.length v12.1) n6)), (11, (.int .i64 v12.2)), (12, (.slice a7 (List.length v13.1) n7)), (13, (.int .i64 v13.2)), (14, (.int .i64 v14.1)), (15, (.int .i64 v14.2.1)), (16, (.int .i64 v14.2.2)), (17, (.int .i64 0)), (18, (.int .i64 0)), (78, (.bool (!v20)))] ⟨rfl, rfl, rfl, rfl, rfl, rfl, rfl, rfl, rfl, rfl, rfl, rfl, rfl, trivial⟩ ?_
            refine at_then ?_
            refine at_cond rfl (fun c18 => ?_) (fun c18 => ?_)
            · replace Z12 := if_t c18 Z12
              refine at_region [0] rfl ?_
              refine at_s T rfl ?_
              refine at_end ?_
              refine at_sub [(1, (.int .i64 x3)), (2, (.int .i64 x4)), (9, (.pointer (some ⟨b3, 0, none⟩))), (10, (.slice a6 (List.length v12.1) n6)), (11, (.int .i64 v12.2)), (12, (.slice a7 (List.length v13.1) n7)), (13, (.int .i64 v13.2)), (14, (.int .i64 v14.1)), (15, (.int .i64 v14.2.1)), (16, (.int .i64 v14.2.2)), (17, (.int .i64 0)), (18, (.int .i64 7))] ⟨rfl, rfl, rfl, rfl, rfl, rfl, rfl, rfl, rfl, rfl, rfl, rfl, trivial⟩ ?_
              refine at_nb ?_
              refine at_then ?_
              obtain rfl := Option.some.inj Z12
              exact at_mid (0, 7) [0, 0, 0, 0, 0] rfl ⟨rfl, rfl, rfl, rfl, rfl, rfl, rfl, rfl, rfl, rfl, rfl, rfl, trivial⟩ rfl
            · replace Z12 := if_f (bf c18) Z12
              refine at_skip ?_
              refine at_nb ?_
              refine at_then ?_
              obtain rfl := Option.some.inj Z12
              exact at_mid (0, 0) [0, 0, 0, 0, 0] rfl ⟨rfl, rfl, rfl, rfl, rfl, rfl, rfl, rfl, rfl, rfl, rfl, rfl, trivial⟩ rfl
      · rintro ⟨x15, x16⟩ rfl
        refine at_seq ?_
        obtain ⟨z22, Z19, H⟩ := bind_e H
        refine at_seq_mid (σ := Bool) (fun x21 => x21 = z22) (fun x21 => [(1, (.int .i64 x3)), (2, (.int .i64 x4)), (9, (.pointer (some ⟨b3, 0, none⟩))), (10, (.slice a6 (List.length v12.1) n6)), (12, (.slice a7 (List.length v13.1) n7)), (14, (.int .i64 v14.1)), (15, (.int .i64 v14.2.1)), (17, (.int .i64 x15)), (18, (.int .i64 x16)), (110, (.bool x21))]) (fun x21 => [F, [(b3, Obj.cells #[(.int .i64 x5), (.int .i64 x6), (.slice a4 (List.length x7) n4)] 25 (0, 0))], H4, H6, H7]) ?_ ?_
        · refine at_region [0, 1, 2, 3, 4, 5, 6, 7, 8, 9, 10, 11, 12, 13, 14, 15, 16, 17, 18, 19, 20, 21, 22, 23, 24] rfl ?_
          iterate 4 refine at_s T rfl ?_
          refine at_grp T [4, 5, 6, 7] (s := 89) (c := (v12.2 != x15)) [(1, (.int .i64 x3)), (2, (.int .i64 x4)), (9, (.pointer (some ⟨b3, 0, none⟩))), (10, (.slice a6 (List.length v12.1) n6)), (12, (.slice a7 (List.length v13.1) n7)), (14, (.int .i64 v14.1)), (15, (.int .i64 v14.2.1)), (16, (.int .i64 v14.2.2)), (17, (.int .i64 x15)), (18, (.int .i64 x16)), (93, (.bool ((v12.2 != x15) || (v13.2 != x15))))] rfl rfl rfl (fun c20 => ⟨rfl, rfl, rfl, rfl, rfl, rfl, rfl, rfl, rfl, rfl, (by rw [c20]; rfl), trivial⟩) (fun c20 => ⟨rfl, rfl, rfl, rfl, rfl, rfl, rfl, rfl, rfl, rfl, (by rw [c20]; rfl), trivial⟩) ?_
          refine at_s T rfl ?_
          refine at_grp T [9, 10, 11, 12] (s := 94) (c := ((v12.2 != x15) || (v13.2 != x15))) [(1, (.int .i64 x3)), (2, (.int .i64 x4)), (9, (.pointer (some ⟨b3, 0, none⟩))), (10, (.slice a6 (List.length v12.1) n6)), (12, (.slice a7 (List.length v13.1) n7)), (14, (.int .i64 v14.1)), (15, (.int .i64 v14.2.1)), (17, (.int .i64 x15)), (18, (.int .i64 x16)), (98, (.bool (((v12.2 != x15) || (v13.2 != x15)) || (v14.2.2 != x16))))] rfl rfl rfl (fun c21 => ⟨rfl, rfl, rfl, rfl, rfl, rfl, rfl, rfl, rfl, (by rw [c21]; rfl), trivial⟩) (fun c21 => ⟨rfl, rfl, rfl, rfl, rfl, rfl, rfl, rfl, rfl, (by rw [c21]; rfl), trivial⟩) ?_
          refine at_s T rfl ?_
          refine at_case (s := 99) rfl (fun c22 => ?_) (fun c22 => ?_)
          · replace Z19 := if_t c22 Z19
            iterate 11 refine at_s T rfl ?_
            refine at_end ?_
            refine at_sub [(1, (.int .i64 x3)), (2, (.int .i64 x4)), (9, (.pointer (some ⟨b3, 0, none⟩))), (10, (.slice a6 (List.length v12.1) n6)), (12, (.slice a7 (List.length v13.1) n7)), (14, (.int .i64 v14.1)), (15, (.int .i64 v14.2.1)), (17, (.int .i64 x15)), (18, (.int .i64 x16)), (110, (.bool true))] ⟨rfl, rfl, rfl, rfl, rfl, rfl, rfl, rfl, rfl, rfl, trivial⟩ ?_
            refine at_then ?_
            obtain rfl := Option.some.inj Z19
            exact at_mid true [0, 0, 0, 0, 0] rfl ⟨rfl, rfl, rfl, rfl, rfl, rfl, rfl, rfl, rfl, rfl, trivial⟩ rfl
          · replace Z19 := if_f (bf c22) Z19
            iterate 3 refine at_s T rfl ?_
            refine at_case (s := 102) rfl (fun c23 => ?_) (fun c23 => ?_)
            · replace Z19 := if_t c23 Z19
              iterate 3 refine at_s T rfl ?_
              refine at_case (s := 105) rfl (fun c24 => ?_) (fun c24 => ?_)
              · replace Z19 := if_t c24 Z19
                iterate 5 refine at_s T rfl ?_
                refine at_end ?_
                refine at_sub [(1, (.int .i64 x3)), (2, (.int .i64 x4)), (9, (.pointer (some ⟨b3, 0, none⟩))), (10, (.slice a6 (List.length v12.1) n6)), (12, (.slice a7 (List.length v13.1) n7)), (14, (.int .i64 v14.1)), (15, (.int .i64 v14.2.1)), (17, (.int .i64 x15)), (18, (.int .i64 x16)), (110, (.bool true))] ⟨rfl, rfl, rfl, rfl, rfl, rfl, rfl, rfl, rfl, rfl, trivial⟩ ?_
                refine at_then ?_
                obtain rfl := Option.some.inj Z19
                exact at_mid true [0, 0, 0, 0, 0] rfl ⟨rfl, rfl, rfl, rfl, rfl, rfl, rfl, rfl, rfl, rfl, trivial⟩ rfl
              · replace Z19 := if_f (bf c24) Z19
                iterate 5 refine at_s T rfl ?_
                refine at_end ?_
                refine at_sub [(1, (.int .i64 x3)), (2, (.int .i64 x4)), (9, (.pointer (some ⟨b3, 0, none⟩))), (10, (.slice a6 (List.length v12.1) n6)), (12, (.slice a7 (List.length v13.1) n7)), (14, (.int .i64 v14.1)), (15, (.int .i64 v14.2.1)), (17, (.int .i64 x15)), (18, (.int .i64 x16)), (110, (.bool (v14.2.1 != 0)))] ⟨rfl, rfl, rfl, rfl, rfl, rfl, rfl, rfl, rfl, rfl, trivial⟩ ?_
                refine at_then ?_
                obtain rfl := Option.some.inj Z19
                exact at_mid (v14.2.1 != 0) [0, 0, 0, 0, 0] rfl ⟨rfl, rfl, rfl, rfl, rfl, rfl, rfl, rfl, rfl, rfl, trivial⟩ rfl
            · replace Z19 := if_f (bf c23) Z19
              iterate 8 refine at_s T rfl ?_
              refine at_end ?_
              refine at_sub [(1, (.int .i64 x3)), (2, (.int .i64 x4)), (9, (.pointer (some ⟨b3, 0, none⟩))), (10, (.slice a6 (List.length v12.1) n6)), (12, (.slice a7 (List.length v13.1) n7)), (14, (.int .i64 v14.1)), (15, (.int .i64 v14.2.1)), (17, (.int .i64 x15)), (18, (.int .i64 x16)), (110, (.bool false))] ⟨rfl, rfl, rfl, rfl, rfl, rfl, rfl, rfl, rfl, rfl, trivial⟩ ?_
              refine at_then ?_
              obtain rfl := Option.some.inj Z19
              exact at_mid false [0, 0, 0, 0, 0] rfl ⟨rfl, rfl, rfl, rfl, rfl, rfl, rfl, rfl, rfl, rfl, trivial⟩ rfl
        · rintro x21 rfl
          refine at_cond rfl (fun c25 => ?_) (fun c25 => ?_)
          · replace H := if_t c25 H
            refine at_seq ?_
            refine at_region [0] rfl ?_
            refine at_s T rfl ?_
            refine at_end ?_
            refine at_to [(8, (.bool false))] [0] [F] ⟨rfl, trivial⟩ rfl ?_
            refine at_then ?_
            refine at_ret ?_
            refine at_rt ?_
            obtain rfl := Option.some.inj H
            exact at_post (T := T) rfl (.tmp rfl .nil) (fun w o => ⟨(), rfl, own_to [0] rfl o⟩)
          · replace H := if_f (bf c25) H
            refine at_skip ?_
            refine at_then ?_
            refine at_seq ?_
            refine at_seq ?_
            refine at_region [0, 1] rfl ?_
            iterate 2 refine at_s T rfl ?_
            refine at_end ?_
            refine at_sub [(1, (.int .i64 x3)), (2, (.int .i64 x4)), (9, (.pointer (some ⟨b3, 0, none⟩))), (10, (.slice a6 (List.length v12.1) n6)), (12, (.slice a7 (List.length v13.1) n7)), (14, (.int .i64 v14.1)), (15, (.int .i64 v14.2.1)), (18, (.int .i64 x16)), (112, (.bool (x15 != 0)))] ⟨rfl, rfl, rfl, rfl, rfl, rfl, rfl, rfl, rfl, trivial⟩ ?_
            refine at_then ?_
            refine at_cond rfl (fun c26 => ?_) (fun c26 => ?_)
            · replace H := if_t c26 H
              refine at_seq ?_
              refine at_region [0, 1, 2, 3, 4, 5, 6, 7, 8, 9, 10, 11] rfl ?_
              obtain ⟨v23, V27, H⟩ := bind_e H
              refine at_cons (at_c (B := fun _ => []) [] rfl rfl rfl rfl has37 rfl rfl (law17_told.c  v23 _ V27) (fun _ => ?_))
              refine at_s T rfl ?_
              refine at_grp T [2, 3, 4, 5] (s := 114) (c := v23) [(12, (.slice a7 (List.length v13.1) n7)), (118, (.bool (v23 && ((List.length v12.1 : Int) == 0))))] rfl rfl rfl (fun c28 => ⟨rfl, (by rw [c28]; rfl), trivial⟩) (fun c28 => ⟨rfl, (by rw [c28]; rfl), trivial⟩) ?_
              refine at_s T rfl ?_
              refine at_grp T [7, 8, 9, 10] (s := 119) (c := (v23 && ((List.length v12.1 : Int) == 0))) [(123, (.bool ((v23 && ((List.length v12.1 : Int) == 0)) && ((List.length v13.1 : Int) == 0))))] rfl rfl rfl (fun c29 => ⟨(by rw [c29]; rfl), trivial⟩) (fun c29 => ⟨(by rw [c29]; rfl), trivial⟩) ?_
              refine at_s T rfl ?_
              refine at_end ?_
              refine at_to [(8, (.bool ((v23 && ((List.length v12.1 : Int) == 0)) && ((List.length v13.1 : Int) == 0))))] [0] [F] ⟨rfl, trivial⟩ rfl ?_
              refine at_then ?_
              refine at_ret ?_
              refine at_rt ?_
              obtain rfl := Option.some.inj H
              exact at_post (T := T) rfl (.tmp rfl .nil) (fun w o => ⟨(), rfl, own_to [0] rfl o⟩)
            · replace H := if_f (bf c26) H
              refine at_skip ?_
              refine at_then ?_
              refine at_seq ?_
              refine at_region [0, 1, 2, 3] rfl ?_
              refine at_v rfl (g_loadA T (cs := [(.int .i64 x5), (.int .i64 x6), (.slice a4 (List.length x7) n4)]) rfl rfl rfl rfl rfl rfl (in_varA (j := 1) rfl rfl)) ?_
              refine at_s T rfl ?_
              obtain ⟨v24, V30, H⟩ := bind_e H
              refine at_cons (at_cR (ref11_Flat.R v24) [] [] rfl rfl rfl rfl has40 rfl rfl (ref11_Flat.c (api_Map.mk x5 x6 x7) x3 v24 _ V30 (own_of s4 (j := 2) rfl) s4.cap_le) ?_)
              rintro _ _ ⟨a8, n8, H8, s8, rfl, rfl⟩
              refine at_s T rfl ?_
              refine at_end ?_
              refine at_sub [(1, (.int .i64 x3)), (2, (.int .i64 x4)), (9, (.pointer (some ⟨b3, 0, none⟩))), (10, (.slice a6 (List.length v12.1) n6)), (12, (.slice a7 (List.length v13.1) n7)), (14, (.int .i64 v14.1)), (15, (.int .i64 v14.2.1)), (18, (.int .i64 x16)), (19, (.slice a8 (List.length v24) n8))] ⟨rfl, rfl, rfl, rfl, rfl, rfl, rfl, rfl, rfl, trivial⟩ ?_
              refine at_then ?_
              obtain ⟨z26, Z31, H⟩ := bind_e H
              refine at_seq_mid (σ := Bool) (fun x25 => x25 = z26) (fun x25 => [(8, (.bool x25))]) (fun x25 => [F]) ?_ ?_
              · refine at_region [0, 1, 2, 3, 4, 5, 6, 7, 8, 9, 10, 11, 12, 13, 14, 15, 16, 17, 18, 19, 20, 21, 22, 23, 24, 25, 26, 27, 28, 29, 30, 31, 32, 33] rfl ?_
                obtain ⟨v27, V32, Z31⟩ := bind_e Z31
                refine at_cons (at_c (B := fun _ => []) [] rfl rfl rfl rfl has37 rfl rfl (law17_told.c  v27 _ V32) (fun _ => ?_))
                refine at_s T rfl ?_
                refine at_case (s := 128) rfl (fun c33 => ?_) (fun c33 => ?_)
                · replace Z31 := if_t c33 Z31
                  iterate 2 refine at_s T rfl ?_
                  obtain ⟨v28, V34, Z31⟩ := bind_e Z31
                  refine at_cons (at_c (B := fun _ => []) [] rfl rfl rfl rfl has41 rfl rfl (ref1_Ints.c v12.1 v24 v28 _ V34 (own_of s6 (j := 3) rfl) s6.cap_le (own_of s8 (j := 5) rfl) s8.cap_le) (fun _ => ?_))
                  iterate 2 refine at_s T rfl ?_
                  refine at_case (s := 133) rfl (fun c35 => ?_) (fun c35 => ?_)
                  · replace Z31 := if_t c35 Z31
                    refine at_s T rfl ?_
                    refine at_v rfl (g_loadA T (cs := [(.int .i64 x5), (.int .i64 x6), (.slice a4 (List.length x7) n4)]) rfl rfl rfl rfl rfl rfl (in_varA (j := 1) rfl rfl)) ?_
                    refine at_s T rfl ?_
                    obtain ⟨v29, V36, Z31⟩ := bind_e Z31
                    refine at_cons (at_cR (ref11_Dirs.R v29) [] [] rfl rfl rfl rfl has42 rfl rfl (ref11_Dirs.c (api_Map.mk x5 x6 x7) x3 v29 _ V36 (own_of s4 (j := 2) rfl) s4.cap_le) ?_)
                    rintro _ _ ⟨a9, n9, H9, s9, rfl, rfl⟩
                    obtain ⟨v30, V37, Z31⟩ := bind_e Z31
                    refine at_cons (at_c (B := fun _ => []) [] rfl rfl rfl rfl has41 rfl rfl (ref1_Ints.c v13.1 v29 v30 _ V37 (own_of s7 (j := 4) rfl) s7.cap_le (own_of s9 (j := 6) rfl) s9.cap_le) (fun _ => ?_))
                    iterate 2 refine at_s T rfl ?_
                    refine at_case (s := 140) rfl (fun c38 => ?_) (fun c38 => ?_)
                    · replace Z31 := if_t c38 Z31
                      iterate 3 refine at_s T rfl ?_
                      refine at_case (s := 143) rfl (fun c39 => ?_) (fun c39 => ?_)
                      · replace Z31 := if_t c39 Z31
                        iterate 17 refine at_s T rfl ?_
                        refine at_end ?_
                        refine at_to [(8, (.bool true))] [0] [F] ⟨rfl, trivial⟩ rfl ?_
                        refine at_then ?_
                        obtain rfl := Option.some.inj Z31
                        exact at_mid true [0] rfl ⟨rfl, trivial⟩ rfl
                      · replace Z31 := if_f (bf c39) Z31
                        iterate 3 refine at_s T rfl ?_
                        obtain ⟨c40, Z31⟩ := chk_e Z31
                        obtain ⟨q10, o10, e10⟩ := s8.r.addr c40.1 c40.2
                        refine at_v rfl (g_index T rfl rfl rfl rfl rfl e10 c40.1 c40.2) ?_
                        refine at_v rfl (g_load T rfl rfl rfl rfl (in_elem1 (k := (Fl.int .i64)) (own_of s8 (j := 5) rfl) e10 c40 0 rfl)) ?_
                        iterate 2 refine at_s T rfl ?_
                        refine at_case (s := 150) rfl (fun c41 => ?_) (fun c41 => ?_)
                        · replace Z31 := if_t c41 Z31
                          iterate 3 refine at_s T rfl ?_
                          obtain ⟨c42, Z31⟩ := chk_e Z31
                          obtain ⟨q11, o11, e11⟩ := s7.r.addr c42.1 c42.2
                          refine at_v rfl (g_index T rfl rfl rfl rfl rfl e11 c42.1 c42.2) ?_
                          refine at_v rfl (g_load T rfl rfl rfl rfl (in_elem1 (k := (Fl.int .i64)) (own_of s7 (j := 4) rfl) e11 c42 0 rfl)) ?_
                          iterate 5 refine at_s T rfl ?_
                          refine at_end ?_
                          refine at_to [(8, (.bool (v14.2.1 == (rd v13.1 x4))))] [0] [F] ⟨rfl, trivial⟩ rfl ?_
                          refine at_then ?_
                          obtain rfl := Option.some.inj Z31
                          exact at_mid (v14.2.1 == (rd v13.1 x4)) [0] rfl ⟨rfl, trivial⟩ rfl
                        · replace Z31 := if_f (bf c41) Z31
                          iterate 10 refine at_s T rfl ?_
                          refine at_end ?_
                          refine at_to [(8, (.bool false))] [0] [F] ⟨rfl, trivial⟩ rfl ?_
                          refine at_then ?_
                          obtain rfl := Option.some.inj Z31
                          exact at_mid false [0] rfl ⟨rfl, trivial⟩ rfl
                    · replace Z31 := if_f (bf c38) Z31
                      iterate 20 refine at_s T rfl ?_
                      refine at_end ?_
                      refine at_to [(8, (.bool false))] [0] [F] ⟨rfl, trivial⟩ rfl ?_
                      refine at_then ?_
                      obtain rfl := Option.some.inj Z31
                      exact at_mid false [0] rfl ⟨rfl, trivial⟩ rfl
                  · replace Z31 := if_f (bf c35) Z31
                    iterate 27 refine at_s T rfl ?_
                    refine at_end ?_
                    refine at_to [(8, (.bool false))] [0] [F] ⟨rfl, trivial⟩ rfl ?_
                    refine at_then ?_
                    obtain rfl := Option.some.inj Z31
                    exact at_mid false [0] rfl ⟨rfl, trivial⟩ rfl
                · replace Z31 := if_f (bf c33) Z31
                  iterate 32 refine at_s T rfl ?_
                  refine at_end ?_
                  refine at_to [(8, (.bool false))] [0] [F] ⟨rfl, trivial⟩ rfl ?_
                  refine at_then ?_
                  obtain rfl := Option.some.inj Z31
                  exact at_mid false [0] rfl ⟨rfl, trivial⟩ rfl
              · rintro x25 rfl
                refine at_ret ?_
                obtain rfl := Option.some.inj H
                exact at_post (T := T) rfl (.tmp rfl .nil) (fun w o => ⟨(), rfl, own_to [0] rfl o⟩)
def law17_FlatAsks.Pure : Prop := ∀ (m : api_Map) (goal : Int) (cell : Int) (raw : Bool), (inI64 m.W ∧ inI64 m.H ∧ (∀ y ∈ m.C, inU8 y)) → inI64 goal → inI64 cell → List.length m.C ≤ 9223372036854775807 → law17_FlatAsks.f m goal cell raw = some true
end Go.Proofs.Ytmjcmkimhkjdeaa
