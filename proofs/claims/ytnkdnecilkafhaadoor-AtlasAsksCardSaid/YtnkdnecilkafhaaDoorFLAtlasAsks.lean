import Derived.Test.YtnkdnecilkafhaaDoorT
import Derived.Test.YtnkdnecilkafhaaDoorFatlas
import Derived.Test.YtnkdnecilkafhaaDoorFlaw4
import Derived.Test.YtnkdnecilkafhaaDoorFref1
namespace Go.Proofs.YtnkdnecilkafhaaDoor
open Go.Hx
set_option maxRecDepth 100000
set_option linter.unusedVariables false
noncomputable section
/-! ### herdsman/herdsmanlaw4.AtlasAsks: function 7 -/
def law4_AtlasAsks.f (m : api_Map) (sector : Int) (raw : Bool) : Option Bool := if (List.length m.C : Int) > 2500 then ((law4_told.f).bind fun v1 => some v1) else ((law4_near.f m raw).bind fun v2 => (if (!raw) = true then ((ref1_Count.f v2.W v2.H).bind fun v5 => (ref1_Within.f sector (-1) v5).bind fun v6 => some v6) else (some sector)).bind fun x3 => (atlas_Put.f v2).bind fun v7 => (atlas_Tile.f v2 x3).bind fun v8 => (ref1_MayMap.f v2).bind fun v9 => if (!v9) = true then (((law4_told.f).bind fun v12 => if v12 = true then ((atlas_May.f v2).bind fun v13 => if ((((!v13) && (v7.2 == 1)) && ((List.length v7.1 : Int) == 0)) && (!v8.2)) = true then (if (v8.1.W == 0) = true then (if (v8.1.H == 0) = true then (some ((List.length v8.1.C : Int) == 0)) else (some false)) else (some false)) else (some false)) else (some false)).bind fun x10 => some x10) else ((ref1_Count.f v2.W v2.H).bind fun v14 => (ref1_In.f x3 0 (w64 (v14 - 1))).bind fun v15 => (if v15 = true then ((ref1_TileOf.f v2 x3).bind fun v20 => some (v20.W, v20.H, v20.C)) else (some (0, 0, []))).bind fun (x16, x17, x18) => ((law4_told.f).bind fun v23 => if v23 = true then ((atlas_May.f v2).bind fun v24 => if (v24 && (v7.2 == 0)) = true then ((ref1_PutMap.f v2).bind fun v25 => (ref1_Bytes.f v7.1 v25).bind fun v26 => if (v26 && (v8.2 == v15)) = true then ((ref1_SameTile.f v8.1 (api_Map.mk x16 x17 x18)).bind fun v27 => some v27) else (some false)) else (some false)) else (some false)).bind fun x21 => some x21))
set_option maxHeartbeats 4000000 in
theorem law4_AtlasAsks.c {el : Nat → Addr} {a_m_C : Option Addr} {n_m_C : Nat} (m : api_Map) (sector : Int) (raw : Bool) (r : Bool) (F : Hp) (H : law4_AtlasAsks.f m sector raw = some r) (hG : Glb 142 gs_ lits_ el F) (h_m_C : SliceR (Fl.int .u8) m.C a_m_C F) (c_m_C : List.length m.C ≤ n_m_C) :
    CallsL Tryd.prog 7 [(.agg #[(.int .i64 m.W), (.int .i64 m.H), (.slice a_m_C (List.length m.C) n_m_C)]), (.int .i64 sector), (.bool raw)] [F] (fun _ : Unit => (.bool r)) (fun _ => [F]) := by
  unfold law4_AtlasAsks.f at H
  refine calls_atL [(0, (.agg #[(.int .i64 m.W), (.int .i64 m.H), (.slice a_m_C (List.length m.C) n_m_C)])), (1, (.int .i64 sector)), (2, (.bool raw))] Tryd.func7 rfl rfl ⟨rfl, rfl, rfl, trivial⟩ (fun W => ?_)
  refine at_seq ?_
  refine at_region [0, 1] rfl ?_
  refine at_cons (at_bx T [(.int .i64 m.W), (.int .i64 m.H), (.slice a_m_C (List.length m.C) n_m_C)] rfl rfl rfl rfl (fun b1 => ?_))
  refine at_s T rfl ?_
  refine at_end ?_
  refine at_sub [(1, (.int .i64 sector)), (2, (.bool raw)), (3, (.pointer (some ⟨b1, 0, none⟩)))] ⟨rfl, rfl, rfl, trivial⟩ ?_
  refine at_then ?_
  refine at_seq ?_
  refine at_seq ?_
  refine at_region [0, 1, 2, 3] rfl ?_
  refine at_s T rfl ?_
  refine at_v rfl (g_load T rfl rfl rfl rfl (in_var (j := 1) rfl rfl)) ?_
  iterate 2 refine at_s T rfl ?_
  refine at_end ?_
  refine at_sub [(1, (.int .i64 sector)), (2, (.bool raw)), (3, (.pointer (some ⟨b1, 0, none⟩))), (17, (.bool (decide ((List.length m.C : Int) > 2500))))] ⟨rfl, rfl, rfl, rfl, trivial⟩ ?_
  refine at_then ?_
  refine at_cond rfl (fun c1 => ?_) (fun c1 => ?_)
  · replace H := if_t (of_decide_eq_true c1) H
    refine at_seq ?_
    refine at_region [0, 1] rfl ?_
    obtain ⟨v1, V2, H⟩ := bind_e H
    refine at_cons (at_c (B := fun _ => []) [] rfl rfl rfl rfl has9 rfl rfl (law4_told.c  v1 _ V2 (glb_of hG (j := 0) rfl)) (fun _ => ?_))
    refine at_s T rfl ?_
    refine at_end ?_
    refine at_to [(6, (.bool v1))] [0] [F] ⟨rfl, trivial⟩ rfl ?_
    refine at_then ?_
    refine at_ret ?_
    refine at_rt ?_
    obtain rfl := Option.some.inj H
    exact at_post (T := T) rfl (.tmp rfl .nil) (fun w o => ⟨(), rfl, own_to [0] rfl o⟩)
  · replace H := if_f (of_decide_eq_false c1) H
    refine at_skip ?_
    refine at_then ?_
    refine at_seq ?_
    refine at_region [0, 1, 2, 3, 4] rfl ?_
    refine at_v rfl (g_loadA T (cs := [(.int .i64 m.W), (.int .i64 m.H), (.slice a_m_C (List.length m.C) n_m_C)]) rfl rfl rfl rfl rfl rfl (in_varA (j := 1) rfl rfl)) ?_
    refine at_s T rfl ?_
    obtain ⟨v2, V3, H⟩ := bind_e H
    refine at_cons (at_cR (law4_near.R v2) [] [] rfl rfl rfl rfl has20 rfl rfl (law4_near.c m raw v2 _ V3 (ro_of h_m_C (j := 0) rfl) c_m_C) ?_)
    rintro _ _ ⟨a2, n2, H2, s2, rfl, rfl⟩
    refine at_cons (at_al T [(.int .i64 0), (.int .i64 0), (.slice none 0 0)] rfl rfl rfl rfl (fun b3 => ?_))
    refine at_cons (at_st T 3 [(.int .i64 v2.W), (.int .i64 v2.H), (.slice a2 (List.length v2.C) n2)] rfl rfl rfl rfl rfl rfl rfl rfl rfl rfl ?_)
    refine at_end ?_
    refine at_to [(1, (.int .i64 sector)), (2, (.bool raw)), (7, (.pointer (some ⟨b3, 0, none⟩)))] [0, 1, 1] [F, H2, [(b3, Obj.cells #[(.int .i64 v2.W), (.int .i64 v2.H), (.slice a2 (List.length v2.C) n2)] 26 (0, 0))]] ⟨rfl, rfl, rfl, trivial⟩ rfl ?_
    refine at_then ?_
    obtain ⟨z4, Z4, H⟩ := bind_e H
    refine at_seq_mid (σ := Int) (fun x3 => x3 = z4) (fun x3 => [(1, (.int .i64 x3)), (7, (.pointer (some ⟨b3, 0, none⟩)))]) (fun x3 => [F, [(b3, Obj.cells #[(.int .i64 v2.W), (.int .i64 v2.H), (.slice a2 (List.length v2.C) n2)] 26 (0, 0))], H2]) ?_ ?_
    · refine at_seq ?_
      refine at_region [0, 1] rfl ?_
      iterate 2 refine at_s T rfl ?_
      refine at_end ?_
      refine at_sub [(1, (.int .i64 sector)), (7, (.pointer (some ⟨b3, 0, none⟩))), (23, (.bool (!raw)))] ⟨rfl, rfl, rfl, trivial⟩ ?_
      refine at_then ?_
      refine at_cond rfl (fun c5 => ?_) (fun c5 => ?_)
      · replace Z4 := if_t c5 Z4
        refine at_region [0, 1, 2, 3, 4, 5, 6, 7] rfl ?_
        iterate 2 refine at_s T rfl ?_
        refine at_v rfl (g_load T rfl rfl rfl rfl (in_var (j := 2) rfl rfl)) ?_
        refine at_s T rfl ?_
        refine at_v rfl (g_load T rfl rfl rfl rfl (in_var (j := 2) rfl rfl)) ?_
        obtain ⟨v5, V6, Z4⟩ := bind_e Z4
        refine at_cons (at_c (B := fun _ => []) [] rfl rfl rfl rfl has21 rfl rfl (ref1_Count.c v2.W v2.H v5 _ V6) (fun _ => ?_))
        obtain ⟨v6, V7, Z4⟩ := bind_e Z4
        refine at_cons (at_c (B := fun _ => []) [] rfl rfl rfl rfl has12 rfl rfl (ref1_Within.c sector (-1) v5 v6 _ V7) (fun _ => ?_))
        refine at_s T rfl ?_
        refine at_end ?_
        refine at_sub [(1, (.int .i64 v6)), (7, (.pointer (some ⟨b3, 0, none⟩)))] ⟨rfl, rfl, trivial⟩ ?_
        refine at_then ?_
        obtain rfl := Option.some.inj Z4
        exact at_mid v6 [0, 1, 0] rfl ⟨rfl, rfl, trivial⟩ rfl
      · replace Z4 := if_f (bf c5) Z4
        refine at_skip ?_
        refine at_then ?_
        obtain rfl := Option.some.inj Z4
        exact at_mid sector [0, 1, 0] rfl ⟨rfl, rfl, trivial⟩ rfl
    · rintro x3 rfl
      refine at_seq ?_
      refine at_region [0, 1, 2, 3, 4, 5, 6] rfl ?_
      refine at_v rfl (g_loadA T (cs := [(.int .i64 v2.W), (.int .i64 v2.H), (.slice a2 (List.length v2.C) n2)]) rfl rfl rfl rfl rfl rfl (in_varA (j := 1) rfl rfl)) ?_
      obtain ⟨v7, V8, H⟩ := bind_e H
      refine at_cons (at_cR (atlas_Put.R v7) [] [] rfl rfl rfl rfl has17 rfl rfl (atlas_Put.c v2 v7 _ V8 (own_of s2 (j := 2) rfl) s2.cap_le) ?_)
      rintro _ _ ⟨a4, n4, H4, s4, rfl, rfl⟩
      iterate 5 refine at_s T rfl ?_
      refine at_end ?_
      refine at_sub [(1, (.int .i64 x3)), (7, (.pointer (some ⟨b3, 0, none⟩))), (8, (.slice a4 (List.length v7.1) n4)), (9, (.int .i64 v7.2))] ⟨rfl, rfl, rfl, rfl, trivial⟩ ?_
      refine at_then ?_
      refine at_seq ?_
      refine at_region [0, 1, 2, 3, 4, 5, 6, 7, 8] rfl ?_
      refine at_v rfl (g_loadA T (cs := [(.int .i64 v2.W), (.int .i64 v2.H), (.slice a2 (List.length v2.C) n2)]) rfl rfl rfl rfl rfl rfl (in_varA (j := 1) rfl rfl)) ?_
      refine at_s T rfl ?_
      obtain ⟨v8, V9, H⟩ := bind_e H
      refine at_cons (at_cR (atlas_Tile.R v8) [] [] rfl rfl rfl rfl has22 rfl rfl (atlas_Tile.c v2 x3 v8 _ V9 (own_of s2 (j := 2) rfl) s2.cap_le) ?_)
      rintro _ _ ⟨a5, n5, H5, s5, rfl, rfl⟩
      iterate 3 refine at_s T rfl ?_
      refine at_cons (at_al T [(.int .i64 0), (.int .i64 0), (.slice none 0 0)] rfl rfl rfl rfl (fun b6 => ?_))
      refine at_cons (at_st T 5 [(.int .i64 v8.1.W), (.int .i64 v8.1.H), (.slice a5 (List.length v8.1.C) n5)] rfl rfl rfl rfl rfl rfl rfl rfl rfl rfl ?_)
      refine at_s T rfl ?_
      refine at_end ?_
      refine at_sub [(1, (.int .i64 x3)), (7, (.pointer (some ⟨b3, 0, none⟩))), (8, (.slice a4 (List.length v7.1) n4)), (9, (.int .i64 v7.2)), (10, (.pointer (some ⟨b6, 0, none⟩))), (11, (.bool v8.2))] ⟨rfl, rfl, rfl, rfl, rfl, rfl, trivial⟩ ?_
      refine at_then ?_
      refine at_seq ?_
      refine at_seq ?_
      refine at_region [0, 1, 2] rfl ?_
      refine at_v rfl (g_loadA T (cs := [(.int .i64 v2.W), (.int .i64 v2.H), (.slice a2 (List.length v2.C) n2)]) rfl rfl rfl rfl rfl rfl (in_varA (j := 1) rfl rfl)) ?_
      obtain ⟨v9, V10, H⟩ := bind_e H
      refine at_cons (at_c (B := fun _ => []) [] rfl rfl rfl rfl has23 rfl rfl (ref1_MayMap.c v2 v9 _ V10 (own_of s2 (j := 2) rfl) s2.cap_le) (fun _ => ?_))
      refine at_s T rfl ?_
      refine at_end ?_
      refine at_sub [(1, (.int .i64 x3)), (7, (.pointer (some ⟨b3, 0, none⟩))), (8, (.slice a4 (List.length v7.1) n4)), (9, (.int .i64 v7.2)), (10, (.pointer (some ⟨b6, 0, none⟩))), (11, (.bool v8.2)), (44, (.bool (!v9)))] ⟨rfl, rfl, rfl, rfl, rfl, rfl, rfl, trivial⟩ ?_
      refine at_then ?_
      refine at_cond rfl (fun c11 => ?_) (fun c11 => ?_)
      · replace H := if_t c11 H
        obtain ⟨z11, Z12, H⟩ := bind_e H
        refine at_seq_mid (σ := Bool) (fun x10 => x10 = z11) (fun x10 => [(6, (.bool x10))]) (fun x10 => [F]) ?_ ?_
        · refine at_region [0, 1, 2, 3, 4, 5, 6, 7, 8, 9, 10, 11, 12, 13, 14, 15, 16, 17, 18, 19, 20, 21, 22, 23, 24, 25, 26, 27, 28, 29, 30, 31, 32, 33, 34, 35] rfl ?_
          obtain ⟨v12, V13, Z12⟩ := bind_e Z12
          refine at_cons (at_c (B := fun _ => []) [] rfl rfl rfl rfl has9 rfl rfl (law4_told.c  v12 _ V13 (glb_of hG (j := 0) rfl)) (fun _ => ?_))
          refine at_s T rfl ?_
          refine at_case (s := 46) rfl (fun c14 => ?_) (fun c14 => ?_)
          · replace Z12 := if_t c14 Z12
            refine at_v rfl (g_loadA T (cs := [(.int .i64 v2.W), (.int .i64 v2.H), (.slice a2 (List.length v2.C) n2)]) rfl rfl rfl rfl rfl rfl (in_varA (j := 1) rfl rfl)) ?_
            obtain ⟨v13, V15, Z12⟩ := bind_e Z12
            refine at_cons (at_c (B := fun _ => []) [] rfl rfl rfl rfl has24 rfl rfl (atlas_May.c v2 v13 _ V15 (own_of s2 (j := 2) rfl) s2.cap_le) (fun _ => ?_))
            iterate 3 refine at_s T rfl ?_
            refine at_grp T [7, 8, 9] (s := 51) (c := (!v13)) [(8, (.slice a4 (List.length v7.1) n4)), (10, (.pointer (some ⟨b6, 0, none⟩))), (11, (.bool v8.2)), (54, (.bool ((!v13) && (v7.2 == 1))))] rfl rfl rfl (fun c16 => ⟨rfl, rfl, rfl, (by rw [c16]; rfl), trivial⟩) (fun c16 => ⟨rfl, rfl, rfl, (by rw [c16]; rfl), trivial⟩) ?_
            refine at_s T rfl ?_
            refine at_grp T [11, 12, 13, 14] (s := 55) (c := ((!v13) && (v7.2 == 1))) [(10, (.pointer (some ⟨b6, 0, none⟩))), (11, (.bool v8.2)), (59, (.bool (((!v13) && (v7.2 == 1)) && ((List.length v7.1 : Int) == 0))))] rfl rfl rfl (fun c17 => ⟨rfl, rfl, (by rw [c17]; rfl), trivial⟩) (fun c17 => ⟨rfl, rfl, (by rw [c17]; rfl), trivial⟩) ?_
            refine at_s T rfl ?_
            refine at_grp T [16, 17, 18] (s := 60) (c := (((!v13) && (v7.2 == 1)) && ((List.length v7.1 : Int) == 0))) [(10, (.pointer (some ⟨b6, 0, none⟩))), (63, (.bool ((((!v13) && (v7.2 == 1)) && ((List.length v7.1 : Int) == 0)) && (!v8.2))))] rfl rfl rfl (fun c18 => ⟨rfl, (by rw [c18]; rfl), trivial⟩) (fun c18 => ⟨rfl, (by rw [c18]; rfl), trivial⟩) ?_
            refine at_s T rfl ?_
            refine at_case (s := 64) rfl (fun c19 => ?_) (fun c19 => ?_)
            · replace Z12 := if_t c19 Z12
              refine at_s T rfl ?_
              refine at_v rfl (g_load T rfl rfl rfl rfl (in_var (j := 5) rfl rfl)) ?_
              iterate 3 refine at_s T rfl ?_
              refine at_case (s := 69) rfl (fun c20 => ?_) (fun c20 => ?_)
              · replace Z12 := if_t c20 Z12
                refine at_s T rfl ?_
                refine at_v rfl (g_load T rfl rfl rfl rfl (in_var (j := 5) rfl rfl)) ?_
                iterate 3 refine at_s T rfl ?_
                refine at_case (s := 74) rfl (fun c21 => ?_) (fun c21 => ?_)
                · replace Z12 := if_t c21 Z12
                  refine at_s T rfl ?_
                  refine at_v rfl (g_load T rfl rfl rfl rfl (in_var (j := 5) rfl rfl)) ?_
                  iterate 4 refine at_s T rfl ?_
                  refine at_end ?_
                  refine at_to [(6, (.bool ((List.length v8.1.C : Int) == 0)))] [0] [F] ⟨rfl, trivial⟩ rfl ?_
                  refine at_then ?_
                  obtain rfl := Option.some.inj Z12
                  exact at_mid ((List.length v8.1.C : Int) == 0) [0] rfl ⟨rfl, trivial⟩ rfl
                · replace Z12 := if_f (bf c21) Z12
                  iterate 6 refine at_s T rfl ?_
                  refine at_end ?_
                  refine at_to [(6, (.bool false))] [0] [F] ⟨rfl, trivial⟩ rfl ?_
                  refine at_then ?_
                  obtain rfl := Option.some.inj Z12
                  exact at_mid false [0] rfl ⟨rfl, trivial⟩ rfl
              · replace Z12 := if_f (bf c20) Z12
                iterate 11 refine at_s T rfl ?_
                refine at_end ?_
                refine at_to [(6, (.bool false))] [0] [F] ⟨rfl, trivial⟩ rfl ?_
                refine at_then ?_
                obtain rfl := Option.some.inj Z12
                exact at_mid false [0] rfl ⟨rfl, trivial⟩ rfl
            · replace Z12 := if_f (bf c19) Z12
              iterate 16 refine at_s T rfl ?_
              refine at_end ?_
              refine at_to [(6, (.bool false))] [0] [F] ⟨rfl, trivial⟩ rfl ?_
              refine at_then ?_
              obtain rfl := Option.some.inj Z12
              exact at_mid false [0] rfl ⟨rfl, trivial⟩ rfl
          · replace Z12 := if_f (bf c14) Z12
            iterate 34 refine at_s T rfl ?_
            refine at_end ?_
            refine at_to [(6, (.bool false))] [0] [F] ⟨rfl, trivial⟩ rfl ?_
            refine at_then ?_
            obtain rfl := Option.some.inj Z12
            exact at_mid false [0] rfl ⟨rfl, trivial⟩ rfl
        · rintro x10 rfl
          refine at_ret ?_
          refine at_rt ?_
          obtain rfl := Option.some.inj H
          exact at_post (T := T) rfl (.tmp rfl .nil) (fun w o => ⟨(), rfl, own_to [0] rfl o⟩)
      · replace H := if_f (bf c11) H
        refine at_skip ?_
        refine at_then ?_
        refine at_seq ?_
        refine at_region [0, 1, 2] rfl ?_
        refine at_s T rfl ?_
        refine at_cons (at_al T [(.int .i64 0), (.int .i64 0), (.slice none 0 0)] rfl rfl rfl rfl (fun b7 => ?_))
        refine at_cons (at_st T 6 [(.int .i64 0), (.int .i64 0), (.slice none 0 0)] rfl rfl rfl rfl rfl rfl rfl rfl rfl rfl ?_)
        refine at_end ?_
        refine at_sub [(1, (.int .i64 x3)), (7, (.pointer (some ⟨b3, 0, none⟩))), (8, (.slice a4 (List.length v7.1) n4)), (9, (.int .i64 v7.2)), (10, (.pointer (some ⟨b6, 0, none⟩))), (11, (.bool v8.2)), (12, (.pointer (some ⟨b7, 0, none⟩)))] ⟨rfl, rfl, rfl, rfl, rfl, rfl, rfl, trivial⟩ ?_
        refine at_then ?_
        refine at_seq ?_
        refine at_region [0, 1, 2, 3, 4, 5, 6, 7, 8] rfl ?_
        iterate 2 refine at_s T rfl ?_
        refine at_v rfl (g_load T rfl rfl rfl rfl (in_var (j := 1) rfl rfl)) ?_
        refine at_s T rfl ?_
        refine at_v rfl (g_load T rfl rfl rfl rfl (in_var (j := 1) rfl rfl)) ?_
        obtain ⟨v14, V22, H⟩ := bind_e H
        refine at_cons (at_c (B := fun _ => []) [] rfl rfl rfl rfl has21 rfl rfl (ref1_Count.c v2.W v2.H v14 _ V22) (fun _ => ?_))
        refine at_s T rfl ?_
        obtain ⟨v15, V23, H⟩ := bind_e H
        refine at_cons (at_c (B := fun _ => []) [] rfl rfl rfl rfl has25 rfl rfl (ref1_In.c x3 0 (w64 (v14 - 1)) v15 _ V23) (fun _ => ?_))
        refine at_s T rfl ?_
        refine at_end ?_
        refine at_sub [(1, (.int .i64 x3)), (7, (.pointer (some ⟨b3, 0, none⟩))), (8, (.slice a4 (List.length v7.1) n4)), (9, (.int .i64 v7.2)), (10, (.pointer (some ⟨b6, 0, none⟩))), (11, (.bool v8.2)), (12, (.pointer (some ⟨b7, 0, none⟩))), (13, (.bool v15))] ⟨rfl, rfl, rfl, rfl, rfl, rfl, rfl, rfl, trivial⟩ ?_
        refine at_then ?_
        obtain ⟨z19, Z24, H⟩ := bind_e H
        refine at_seq_mid (σ := Int × Int × List Int × Option Addr × Nat × Hp) (fun ⟨x16, x17, x18, a8, n8, H8⟩ => (x16, x17, x18) = z19 ∧ SliceO (Fl.int .u8) 5 x18 a8 n8 H8) (fun ⟨x16, x17, x18, a8, n8, H8⟩ => [(7, (.pointer (some ⟨b3, 0, none⟩))), (8, (.slice a4 (List.length v7.1) n4)), (9, (.int .i64 v7.2)), (10, (.pointer (some ⟨b6, 0, none⟩))), (11, (.bool v8.2)), (12, (.pointer (some ⟨b7, 0, none⟩))), (13, (.bool v15))]) (fun ⟨x16, x17, x18, a8, n8, H8⟩ => [F, [(b3, Obj.cells #[(.int .i64 v2.W), (.int .i64 v2.H), (.slice a2 (List.length v2.C) n2)] 26 (0, 0))], H2, H4, [(b6, Obj.cells #[(.int .i64 v8.1.W), (.int .i64 v8.1.H), (.slice a5 (List.length v8.1.C) n5)] 41 (0, 0))], H5, [(b7, Obj.cells #[(.int .i64 x16), (.int .i64 x17), (.slice a8 (List.length x18) n8)] 41 (0, 0))], H8]) ?_ ?_
        · refine at_seq ?_
          refine at_region [0] rfl ?_
          refine at_s T rfl ?_
          refine at_end ?_
          refine at_sub [(1, (.int .i64 x3)), (7, (.pointer (some ⟨b3, 0, none⟩))), (8, (.slice a4 (List.length v7.1) n4)), (9, (.int .i64 v7.2)), (10, (.pointer (some ⟨b6, 0, none⟩))), (11, (.bool v8.2)), (12, (.pointer (some ⟨b7, 0, none⟩))), (13, (.bool v15)), (89, (.bool v15))] ⟨rfl, rfl, rfl, rfl, rfl, rfl, rfl, rfl, rfl, trivial⟩ ?_
          refine at_then ?_
          refine at_cond rfl (fun c25 => ?_) (fun c25 => ?_)
          · replace Z24 := if_t c25 Z24
            refine at_region [0, 1, 2, 3] rfl ?_
            refine at_v rfl (g_loadA T (cs := [(.int .i64 v2.W), (.int .i64 v2.H), (.slice a2 (List.length v2.C) n2)]) rfl rfl rfl rfl rfl rfl (in_varA (j := 1) rfl rfl)) ?_
            refine at_s T rfl ?_
            obtain ⟨v20, V26, Z24⟩ := bind_e Z24
            refine at_cons (at_cR (ref1_TileOf.R v20) [] [] rfl rfl rfl rfl has26 rfl rfl (ref1_TileOf.c v2 x3 v20 _ V26 (own_of s2 (j := 2) rfl) s2.cap_le) ?_)
            rintro _ _ ⟨a9, n9, H9, s9, rfl, rfl⟩
            refine at_cons (at_st T 6 [(.int .i64 v20.W), (.int .i64 v20.H), (.slice a9 (List.length v20.C) n9)] rfl rfl rfl rfl rfl rfl rfl rfl rfl rfl ?_)
            refine at_end ?_
            refine at_sub [(7, (.pointer (some ⟨b3, 0, none⟩))), (8, (.slice a4 (List.length v7.1) n4)), (9, (.int .i64 v7.2)), (10, (.pointer (some ⟨b6, 0, none⟩))), (11, (.bool v8.2)), (12, (.pointer (some ⟨b7, 0, none⟩))), (13, (.bool v15))] ⟨rfl, rfl, rfl, rfl, rfl, rfl, rfl, trivial⟩ ?_
            refine at_then ?_
            obtain rfl := Option.some.inj Z24
            exact at_mid (v20.W, v20.H, v20.C, a9, n9, H9) [0, 0, 0, 0, 1, 0, 0, 0] ⟨rfl, s9⟩ ⟨rfl, rfl, rfl, rfl, rfl, rfl, rfl, trivial⟩ rfl
          · replace Z24 := if_f (bf c25) Z24
            refine at_skip ?_
            refine at_then ?_
            obtain rfl := Option.some.inj Z24
            refine at_addnil ?_
            exact at_mid (0, 0, [], none, 0, []) [0, 0, 0, 0, 1, 0, 0, 0] ⟨rfl, SliceO.nil⟩ ⟨rfl, rfl, rfl, rfl, rfl, rfl, rfl, trivial⟩ rfl
        · rintro ⟨x16, x17, x18, a8, n8, H8⟩ ⟨rfl, s8⟩
          obtain ⟨z22, Z27, H⟩ := bind_e H
          refine at_seq_mid (σ := Bool) (fun x21 => x21 = z22) (fun x21 => [(6, (.bool x21))]) (fun x21 => [F]) ?_ ?_
          · refine at_region [0, 1, 2, 3, 4, 5, 6, 7, 8, 9, 10, 11, 12, 13, 14, 15, 16, 17, 18, 19, 20, 21, 22, 23, 24, 25] rfl ?_
            obtain ⟨v23, V28, Z27⟩ := bind_e Z27
            refine at_cons (at_c (B := fun _ => []) [] rfl rfl rfl rfl has9 rfl rfl (law4_told.c  v23 _ V28 (glb_of hG (j := 0) rfl)) (fun _ => ?_))
            refine at_s T rfl ?_
            refine at_case (s := 94) rfl (fun c29 => ?_) (fun c29 => ?_)
            · replace Z27 := if_t c29 Z27
              refine at_v rfl (g_loadA T (cs := [(.int .i64 v2.W), (.int .i64 v2.H), (.slice a2 (List.length v2.C) n2)]) rfl rfl rfl rfl rfl rfl (in_varA (j := 1) rfl rfl)) ?_
              obtain ⟨v24, V30, Z27⟩ := bind_e Z27
              refine at_cons (at_c (B := fun _ => []) [] rfl rfl rfl rfl has24 rfl rfl (atlas_May.c v2 v24 _ V30 (own_of s2 (j := 2) rfl) s2.cap_le) (fun _ => ?_))
              iterate 2 refine at_s T rfl ?_
              refine at_grp T [6, 7, 8] (s := 98) (c := v24) [(7, (.pointer (some ⟨b3, 0, none⟩))), (8, (.slice a4 (List.length v7.1) n4)), (10, (.pointer (some ⟨b6, 0, none⟩))), (11, (.bool v8.2)), (12, (.pointer (some ⟨b7, 0, none⟩))), (13, (.bool v15)), (101, (.bool (v24 && (v7.2 == 0))))] rfl rfl rfl (fun c31 => ⟨rfl, rfl, rfl, rfl, rfl, rfl, (by rw [c31]; rfl), trivial⟩) (fun c31 => ⟨rfl, rfl, rfl, rfl, rfl, rfl, (by rw [c31]; rfl), trivial⟩) ?_
              refine at_s T rfl ?_
              refine at_case (s := 102) rfl (fun c32 => ?_) (fun c32 => ?_)
              · replace Z27 := if_t c32 Z27
                refine at_s T rfl ?_
                refine at_v rfl (g_loadA T (cs := [(.int .i64 v2.W), (.int .i64 v2.H), (.slice a2 (List.length v2.C) n2)]) rfl rfl rfl rfl rfl rfl (in_varA (j := 1) rfl rfl)) ?_
                obtain ⟨v25, V33, Z27⟩ := bind_e Z27
                refine at_cons (at_cR (ref1_PutMap.R v25) [] [] rfl rfl rfl rfl has10 rfl rfl (ref1_PutMap.c v2 v25 _ V33 (own_of s2 (j := 2) rfl) s2.cap_le) ?_)
                rintro _ _ ⟨a10, n10, H10, s10, rfl, rfl⟩
                obtain ⟨v26, V34, Z27⟩ := bind_e Z27
                refine at_cons (at_c (B := fun _ => []) [] rfl rfl rfl rfl has16 rfl rfl (ref1_Bytes.c v7.1 v25 v26 _ V34 (own_of s4 (j := 3) rfl) s4.cap_le (own_of s10 (j := 8) rfl) s10.cap_le) (fun _ => ?_))
                iterate 2 refine at_s T rfl ?_
                refine at_grp T [16, 17, 18, 19] (s := 108) (c := v26) [(10, (.pointer (some ⟨b6, 0, none⟩))), (12, (.pointer (some ⟨b7, 0, none⟩))), (112, (.bool (v26 && (v8.2 == v15))))] rfl rfl rfl (fun c35 => ⟨rfl, rfl, (by rw [c35]; rfl), trivial⟩) (fun c35 => ⟨rfl, rfl, (by rw [c35]; rfl), trivial⟩) ?_
                refine at_s T rfl ?_
                refine at_case (s := 113) rfl (fun c36 => ?_) (fun c36 => ?_)
                · replace Z27 := if_t c36 Z27
                  refine at_v rfl (g_loadA T (cs := [(.int .i64 v8.1.W), (.int .i64 v8.1.H), (.slice a5 (List.length v8.1.C) n5)]) rfl rfl rfl rfl rfl rfl (in_varA (j := 4) rfl rfl)) ?_
                  refine at_v rfl (g_loadA T (cs := [(.int .i64 x16), (.int .i64 x17), (.slice a8 (List.length x18) n8)]) rfl rfl rfl rfl rfl rfl (in_varA (j := 6) rfl rfl)) ?_
                  obtain ⟨v27, V37, Z27⟩ := bind_e Z27
                  refine at_cons (at_c (B := fun _ => []) [] rfl rfl rfl rfl has27 rfl rfl (ref1_SameTile.c v8.1 (api_Map.mk x16 x17 x18) v27 _ V37 (own_of s5 (j := 5) rfl) s5.cap_le (own_of s8 (j := 7) rfl) s8.cap_le) (fun _ => ?_))
                  iterate 2 refine at_s T rfl ?_
                  refine at_end ?_
                  refine at_to [(6, (.bool v27))] [0] [F] ⟨rfl, trivial⟩ rfl ?_
                  refine at_then ?_
                  obtain rfl := Option.some.inj Z27
                  exact at_mid v27 [0] rfl ⟨rfl, trivial⟩ rfl
                · replace Z27 := if_f (bf c36) Z27
                  iterate 5 refine at_s T rfl ?_
                  refine at_end ?_
                  refine at_to [(6, (.bool false))] [0] [F] ⟨rfl, trivial⟩ rfl ?_
                  refine at_then ?_
                  obtain rfl := Option.some.inj Z27
                  exact at_mid false [0] rfl ⟨rfl, trivial⟩ rfl
              · replace Z27 := if_f (bf c32) Z27
                iterate 16 refine at_s T rfl ?_
                refine at_end ?_
                refine at_to [(6, (.bool false))] [0] [F] ⟨rfl, trivial⟩ rfl ?_
                refine at_then ?_
                obtain rfl := Option.some.inj Z27
                exact at_mid false [0] rfl ⟨rfl, trivial⟩ rfl
            · replace Z27 := if_f (bf c29) Z27
              iterate 24 refine at_s T rfl ?_
              refine at_end ?_
              refine at_to [(6, (.bool false))] [0] [F] ⟨rfl, trivial⟩ rfl ?_
              refine at_then ?_
              obtain rfl := Option.some.inj Z27
              exact at_mid false [0] rfl ⟨rfl, trivial⟩ rfl
          · rintro x21 rfl
            refine at_ret ?_
            obtain rfl := Option.some.inj H
            exact at_post (T := T) rfl (.tmp rfl .nil) (fun w o => ⟨(), rfl, own_to [0] rfl o⟩)
def law4_AtlasAsks.Pure : Prop := ∀ (m : api_Map) (sector : Int) (raw : Bool), (inI64 m.W ∧ inI64 m.H ∧ (∀ y ∈ m.C, inU8 y)) → inI64 sector → List.length m.C ≤ 9223372036854775807 → law4_AtlasAsks.f m sector raw = some true
end

end Go.Proofs.YtnkdnecilkafhaaDoor
