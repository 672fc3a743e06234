import Derived.Test.YtonjonpepfepfaaDoorT
import Derived.Test.YtonjonpepfepfaaDoorFlaw3
import Derived.Test.YtonjonpepfepfaaDoorFpack
import Derived.Test.YtonjonpepfepfaaDoorFref1
namespace Go.Proofs.YtonjonpepfepfaaDoor
open Go.Hx
set_option maxRecDepth 100000
set_option linter.unusedVariables false
noncomputable section
/-! ### herdsman/herdsmanlaw3.PackTurned: function 5 -/
def law3_PackTurned.f (c : (List Int)) (w : Int) (h : Int) (few : Int) (p4 : Int) (p5 : Int) : Option Bool := (law3_near.f (api_Tile.mk 0 0 c) w h few false).bind fun v1 => (pack_Put.f v1).bind fun v2 => if ((v2.2 != 0) || ((List.length v2.1 : Int) == 0)) = true then (some false) else (if (List.length ([] : List Int) + List.length v2.1 ≤ 1099511627776) then ((ref1_Within.f p4 0 (w64 ((List.length (([] : List Int) ++ v2.1) : Int) - 1))).bind fun v3 => if (0 ≤ v3 ∧ v3 < (List.length (([] : List Int) ++ v2.1) : Int)) then ((pack_Get.f (List.set (([] : List Int) ++ v2.1) (Int.toNat v3) (wu8 (BitVec.toNat (BitVec.ofInt (IntKind.bits .u8) (rd (([] : List Int) ++ v2.1) v3) ^^^ BitVec.ofInt (IntKind.bits .u8) p5)))) v1.W v1.H).bind fun v4 => if (v4.2.2 != 0) = true then (((law3_told.f).bind fun v7 => if (v7 && (v4.2.1 == 0)) = true then (if ((List.length v4.1.C : Int) == 0) = true then (if (v4.2.2 == 2) = true then (some true) else (some (v4.2.2 == 3))) else (some false)) else (some false)).bind fun x5 => some x5) else ((pack_Put.f v4.1).bind fun v8 => ((law3_told.f).bind fun v11 => if ((v11 && (v8.2 == 0)) && (decide (v4.2.1 ≤ (List.length (List.set (([] : List Int) ++ v2.1) (Int.toNat v3) (wu8 (BitVec.toNat (BitVec.ofInt (IntKind.bits .u8) (rd (([] : List Int) ++ v2.1) v3) ^^^ BitVec.ofInt (IntKind.bits .u8) p5)))) : Int)))) = true then (if (0 ≤ (0 : Int) ∧ (0 : Int) ≤ v4.2.1 ∧ v4.2.1 ≤ (List.length (List.set (([] : List Int) ++ v2.1) (Int.toNat v3) (wu8 (BitVec.toNat (BitVec.ofInt (IntKind.bits .u8) (rd (([] : List Int) ++ v2.1) v3) ^^^ BitVec.ofInt (IntKind.bits .u8) p5)))) : Int)) then ((ref1_Bytes.f v8.1 (sub' (List.set (([] : List Int) ++ v2.1) (Int.toNat v3) (wu8 (BitVec.toNat (BitVec.ofInt (IntKind.bits .u8) (rd (([] : List Int) ++ v2.1) v3) ^^^ BitVec.ofInt (IntKind.bits .u8) p5)))) 0 v4.2.1)).bind fun v12 => if v12 = true then (if (p5 != 0) = true then (some true) else ((ref1_SameTile.f v4.1 v1).bind fun v13 => some v13)) else (some false)) else none) else (some false)).bind fun x9 => some x9)) else none) else none)
set_option maxHeartbeats 4000000 in
theorem law3_PackTurned.c {el : Nat → Addr} {a_c : Option Addr} {n_c : Nat} (c : (List Int)) (w : Int) (h : Int) (few : Int) (p4 : Int) (p5 : Int) (r : Bool) (F : Hp) (H : law3_PackTurned.f c w h few p4 p5 = some r) (hG : Glb 110 gs_ lits_ el F) (h_c : SliceR (Fl.int .u8) c a_c F) (c_c : List.length c ≤ n_c) :
    CallsL Tryd.prog 5 [(.slice a_c (List.length c) n_c), (.int .i64 w), (.int .i64 h), (.int .i64 few), (.int .i64 p4), (.int .u8 p5)] [F] (fun _ : Unit => (.bool r)) (fun _ => [F]) := by
  unfold law3_PackTurned.f at H
  refine calls_atL [(0, (.slice a_c (List.length c) n_c)), (1, (.int .i64 w)), (2, (.int .i64 h)), (3, (.int .i64 few)), (4, (.int .i64 p4)), (5, (.int .u8 p5))] Tryd.func5 rfl rfl ⟨rfl, rfl, rfl, rfl, rfl, rfl, trivial⟩ (fun W => ?_)
  refine at_seq ?_
  refine at_region [0] rfl ?_
  refine at_s T rfl ?_
  refine at_end ?_
  refine at_sub [(0, (.slice a_c (List.length c) n_c)), (1, (.int .i64 w)), (2, (.int .i64 h)), (3, (.int .i64 few)), (4, (.int .i64 p4)), (5, (.int .u8 p5))] ⟨rfl, rfl, rfl, rfl, rfl, rfl, trivial⟩ ?_
  refine at_then ?_
  refine at_seq ?_
  refine at_region [0, 1, 2, 3, 4, 5, 6, 7] rfl ?_
  iterate 5 refine at_s T rfl ?_
  obtain ⟨v1, V1, H⟩ := bind_e H
  refine at_cons (at_cR (law3_near.R v1) [] [] rfl rfl rfl rfl has13 rfl rfl (law3_near.c (api_Tile.mk 0 0 c) w h few false v1 _ V1 (ro_of h_c (j := 0) rfl) c_c) ?_)
  rintro _ _ ⟨a1, n1, H1, s1, rfl, rfl⟩
  refine at_cons (at_al T [(.int .i64 0), (.int .i64 0), (.slice none 0 0)] rfl rfl rfl rfl (fun b2 => ?_))
  refine at_cons (at_st T 2 [(.int .i64 v1.W), (.int .i64 v1.H), (.slice a1 (List.length v1.C) n1)] rfl rfl rfl rfl rfl rfl rfl rfl rfl rfl ?_)
  refine at_end ?_
  refine at_sub [(4, (.int .i64 p4)), (5, (.int .u8 p5)), (13, (.pointer (some ⟨b2, 0, none⟩)))] ⟨rfl, rfl, rfl, trivial⟩ ?_
  refine at_then ?_
  refine at_seq ?_
  refine at_region [0, 1, 2, 3, 4, 5, 6] rfl ?_
  refine at_v rfl (g_loadA T (cs := [(.int .i64 v1.W), (.int .i64 v1.H), (.slice a1 (List.length v1.C) n1)]) rfl rfl rfl rfl rfl rfl (in_varA (j := 2) rfl rfl)) ?_
  obtain ⟨v2, V2, H⟩ := bind_e H
  refine at_cons (at_cR (pack_Put.R v2) [] [] rfl rfl rfl rfl has14 rfl rfl (pack_Put.c v1 v2 _ V2 (own_of s1 (j := 1) rfl) s1.cap_le) ?_)
  rintro _ _ ⟨a3, n3, H3, s3, rfl, rfl⟩
  iterate 5 refine at_s T rfl ?_
  refine at_end ?_
  refine at_sub [(4, (.int .i64 p4)), (5, (.int .u8 p5)), (13, (.pointer (some ⟨b2, 0, none⟩))), (14, (.slice a3 (List.length v2.1) n3)), (15, (.int .i64 v2.2))] ⟨rfl, rfl, rfl, rfl, rfl, trivial⟩ ?_
  refine at_then ?_
  refine at_seq ?_
  refine at_seq ?_
  refine at_region [0, 1, 2, 3, 4, 5, 6] rfl ?_
  iterate 3 refine at_s T rfl ?_
  refine at_grp T [3, 4, 5, 6] (s := 34) (c := (v2.2 != 0)) [(4, (.int .i64 p4)), (5, (.int .u8 p5)), (13, (.pointer (some ⟨b2, 0, none⟩))), (14, (.slice a3 (List.length v2.1) n3)), (38, (.bool ((v2.2 != 0) || ((List.length v2.1 : Int) == 0))))] rfl rfl rfl (fun c3 => ⟨rfl, rfl, rfl, rfl, (by rw [c3]; rfl), trivial⟩) (fun c3 => ⟨rfl, rfl, rfl, rfl, (by rw [c3]; rfl), trivial⟩) ?_
  refine at_end ?_
  refine at_sub [(4, (.int .i64 p4)), (5, (.int .u8 p5)), (13, (.pointer (some ⟨b2, 0, none⟩))), (14, (.slice a3 (List.length v2.1) n3)), (38, (.bool ((v2.2 != 0) || ((List.length v2.1 : Int) == 0))))] ⟨rfl, rfl, rfl, rfl, rfl, trivial⟩ ?_
  refine at_then ?_
  refine at_cond rfl (fun c4 => ?_) (fun c4 => ?_)
  · replace H := if_t c4 H
    refine at_seq ?_
    refine at_region [0] rfl ?_
    refine at_s T rfl ?_
    refine at_end ?_
    refine at_to [(12, (.bool false))] [0] [F] ⟨rfl, trivial⟩ rfl ?_
    refine at_then ?_
    refine at_ret ?_
    refine at_rt ?_
    obtain rfl := Option.some.inj H
    exact at_post (T := T) rfl (.tmp rfl .nil) (fun w o => ⟨(), rfl, own_to [0] rfl o⟩)
  · replace H := if_f (bf c4) H
    refine at_skip ?_
    refine at_then ?_
    refine at_seq ?_
    refine at_region [0, 1, 2, 3] rfl ?_
    refine at_cons (at_bs (k := (Fl.int .u8)) T ([] : List Int) rfl rfl rfl rfl rfl rfl rfl rfl rfl (fun a4 H4 s4 => ?_))
    refine at_s T rfl ?_
    obtain ⟨c5, H⟩ := chk_e H
    refine at_cons (at_ap (k := (Fl.int .u8)) (xs := ([] : List Int)) T (g := 4) rfl rfl rfl rfl rfl rfl rfl rfl rfl rfl s4 (own_of s3 (j := 3) rfl) c5 rfl (fun a5 n5 H5 s5 => ?_))
    refine at_s T rfl ?_
    refine at_end ?_
    refine at_to [(4, (.int .i64 p4)), (5, (.int .u8 p5)), (13, (.pointer (some ⟨b2, 0, none⟩))), (14, (.slice a5 (List.length (([] : List Int) ++ v2.1)) n5))] [0, 0, 0, 1] [F, H1, [(b2, Obj.cells #[(.int .i64 v1.W), (.int .i64 v1.H), (.slice a1 (List.length v1.C) n1)] 26 (0, 0))], H5] ⟨rfl, rfl, rfl, rfl, trivial⟩ rfl ?_
    refine at_then ?_
    refine at_seq ?_
    refine at_region [0, 1, 2, 3, 4, 5, 6, 7, 8, 9, 10, 11] rfl ?_
    iterate 5 refine at_s T rfl ?_
    obtain ⟨v3, V6, H⟩ := bind_e H
    refine at_cons (at_c (B := fun _ => []) [] rfl rfl rfl rfl has8 rfl rfl (ref1_Within.c p4 0 (w64 ((List.length (([] : List Int) ++ v2.1) : Int) - 1)) v3 _ V6) (fun _ => ?_))
    obtain ⟨c7, H⟩ := chk_e H
    obtain ⟨q6, o6, e6⟩ := s5.r.addr c7.1 c7.2
    refine at_v rfl (g_index T rfl rfl rfl rfl rfl e6 c7.1 c7.2) ?_
    refine at_v rfl (g_load T rfl rfl rfl rfl (in_elem1 (k := (Fl.int .u8)) (own_of s5 (j := 3) rfl) e6 c7 0 rfl)) ?_
    iterate 2 refine at_s T rfl ?_
    refine at_v rfl (g_index T rfl rfl rfl rfl rfl e6 c7.1 c7.2) ?_
    refine at_cons (at_se (k := (Fl.int .u8)) T 3 0 (wu8 (BitVec.toNat (BitVec.ofInt (IntKind.bits .u8) (rd (([] : List Int) ++ v2.1) v3) ^^^ BitVec.ofInt (IntKind.bits .u8) p5))) rfl rfl rfl rfl rfl rfl s5 e6 c7 rfl rfl rfl (fun H7 s7 => ?_))
    refine at_to [(5, (.int .u8 p5)), (13, (.pointer (some ⟨b2, 0, none⟩))), (14, (.slice a5 (List.length (List.set (([] : List Int) ++ v2.1) (Int.toNat v3) (wu8 (BitVec.toNat (BitVec.ofInt (IntKind.bits .u8) (rd (([] : List Int) ++ v2.1) v3) ^^^ BitVec.ofInt (IntKind.bits .u8) p5))))) n5))] [0, 0, 0, 0] [F, H1, [(b2, Obj.cells #[(.int .i64 v1.W), (.int .i64 v1.H), (.slice a1 (List.length v1.C) n1)] 26 (0, 0))], H7] ⟨rfl, rfl, (by first | rfl | (simp only [List.length_set]; rfl)), trivial⟩ rfl ?_
    refine at_end ?_
    refine at_sub [(5, (.int .u8 p5)), (13, (.pointer (some ⟨b2, 0, none⟩))), (14, (.slice a5 (List.length (List.set (([] : List Int) ++ v2.1) (Int.toNat v3) (wu8 (BitVec.toNat (BitVec.ofInt (IntKind.bits .u8) (rd (([] : List Int) ++ v2.1) v3) ^^^ BitVec.ofInt (IntKind.bits .u8) p5))))) n5))] ⟨rfl, rfl, rfl, trivial⟩ ?_
    refine at_then ?_
    refine at_seq ?_
    refine at_region [0, 1, 2, 3, 4, 5, 6, 7, 8, 9, 10, 11, 12, 13] rfl ?_
    iterate 2 refine at_s T rfl ?_
    refine at_v rfl (g_load T rfl rfl rfl rfl (in_var (j := 2) rfl rfl)) ?_
    refine at_s T rfl ?_
    refine at_v rfl (g_load T rfl rfl rfl rfl (in_var (j := 2) rfl rfl)) ?_
    obtain ⟨v4, V8, H⟩ := bind_e H
    refine at_cons (at_cR (pack_Get.R el v4) [] [] rfl rfl rfl rfl has9 rfl rfl (pack_Get.c (List.set (([] : List Int) ++ v2.1) (Int.toNat v3) (wu8 (BitVec.toNat (BitVec.ofInt (IntKind.bits .u8) (rd (([] : List Int) ++ v2.1) v3) ^^^ BitVec.ofInt (IntKind.bits .u8) p5)))) v1.W v1.H v4 _ V8 (glb_of hG (j := 0) rfl) (own_of s7 (j := 3) rfl) s7.cap_le) ?_)
    rintro _ _ ⟨a8, n8, H8, s8, rfl, rfl⟩
    iterate 4 refine at_s T rfl ?_
    refine at_cons (at_al T [(.int .i64 0), (.int .i64 0), (.slice none 0 0)] rfl rfl rfl rfl (fun b9 => ?_))
    refine at_cons (at_st T 5 [(.int .i64 v4.1.W), (.int .i64 v4.1.H), (.slice a8 (List.length v4.1.C) n8)] rfl rfl rfl rfl rfl rfl rfl rfl rfl rfl ?_)
    iterate 2 refine at_s T rfl ?_
    refine at_end ?_
    refine at_sub [(5, (.int .u8 p5)), (13, (.pointer (some ⟨b2, 0, none⟩))), (14, (.slice a5 (List.length (List.set (([] : List Int) ++ v2.1) (Int.toNat v3) (wu8 (BitVec.toNat (BitVec.ofInt (IntKind.bits .u8) (rd (([] : List Int) ++ v2.1) v3) ^^^ BitVec.ofInt (IntKind.bits .u8) p5))))) n5)), (16, (.pointer (some ⟨b9, 0, none⟩))), (17, (.int .i64 v4.2.1)), (18, (.int .i64 v4.2.2))] ⟨rfl, rfl, rfl, rfl, rfl, rfl, trivial⟩ ?_
    refine at_then ?_
    refine at_seq ?_
    refine at_seq ?_
    refine at_region [0, 1] rfl ?_
    iterate 2 refine at_s T rfl ?_
    refine at_end ?_
    refine at_sub [(5, (.int .u8 p5)), (13, (.pointer (some ⟨b2, 0, none⟩))), (14, (.slice a5 (List.length (List.set (([] : List Int) ++ v2.1) (Int.toNat v3) (wu8 (BitVec.toNat (BitVec.ofInt (IntKind.bits .u8) (rd (([] : List Int) ++ v2.1) v3) ^^^ BitVec.ofInt (IntKind.bits .u8) p5))))) n5)), (16, (.pointer (some ⟨b9, 0, none⟩))), (17, (.int .i64 v4.2.1)), (18, (.int .i64 v4.2.2)), (64, (.bool (v4.2.2 != 0)))] ⟨rfl, rfl, rfl, rfl, rfl, rfl, rfl, trivial⟩ ?_
    refine at_then ?_
    refine at_cond rfl (fun c9 => ?_) (fun c9 => ?_)
    · replace H := if_t c9 H
      obtain ⟨z6, Z10, H⟩ := bind_e H
      refine at_seq_mid (σ := Bool) (fun x5 => x5 = z6) (fun x5 => [(12, (.bool x5))]) (fun x5 => [F]) ?_ ?_
      · refine at_region [0, 1, 2, 3, 4, 5, 6, 7, 8, 9, 10, 11, 12, 13, 14, 15, 16, 17, 18, 19] rfl ?_
        obtain ⟨v7, V11, Z10⟩ := bind_e Z10
        refine at_cons (at_c (B := fun _ => []) [] rfl rfl rfl rfl has7 rfl rfl (law3_told.c  v7 _ V11) (fun _ => ?_))
        refine at_s T rfl ?_
        refine at_grp T [2, 3, 4] (s := 66) (c := v7) [(16, (.pointer (some ⟨b9, 0, none⟩))), (18, (.int .i64 v4.2.2)), (69, (.bool (v7 && (v4.2.1 == 0))))] rfl rfl rfl (fun c12 => ⟨rfl, rfl, (by rw [c12]; rfl), trivial⟩) (fun c12 => ⟨rfl, rfl, (by rw [c12]; rfl), trivial⟩) ?_
        refine at_s T rfl ?_
        refine at_case (s := 70) rfl (fun c13 => ?_) (fun c13 => ?_)
        · replace Z10 := if_t c13 Z10
          refine at_s T rfl ?_
          refine at_v rfl (g_load T rfl rfl rfl rfl (in_var (j := 5) rfl rfl)) ?_
          iterate 4 refine at_s T rfl ?_
          refine at_case (s := 76) rfl (fun c14 => ?_) (fun c14 => ?_)
          · replace Z10 := if_t c14 Z10
            iterate 3 refine at_s T rfl ?_
            refine at_case (s := 79) rfl (fun c15 => ?_) (fun c15 => ?_)
            · replace Z10 := if_t c15 Z10
              iterate 5 refine at_s T rfl ?_
              refine at_end ?_
              refine at_to [(12, (.bool true))] [0] [F] ⟨rfl, trivial⟩ rfl ?_
              refine at_then ?_
              obtain rfl := Option.some.inj Z10
              exact at_mid true [0] rfl ⟨rfl, trivial⟩ rfl
            · replace Z10 := if_f (bf c15) Z10
              iterate 5 refine at_s T rfl ?_
              refine at_end ?_
              refine at_to [(12, (.bool (v4.2.2 == 3)))] [0] [F] ⟨rfl, trivial⟩ rfl ?_
              refine at_then ?_
              obtain rfl := Option.some.inj Z10
              exact at_mid (v4.2.2 == 3) [0] rfl ⟨rfl, trivial⟩ rfl
          · replace Z10 := if_f (bf c14) Z10
            iterate 8 refine at_s T rfl ?_
            refine at_end ?_
            refine at_to [(12, (.bool false))] [0] [F] ⟨rfl, trivial⟩ rfl ?_
            refine at_then ?_
            obtain rfl := Option.some.inj Z10
            exact at_mid false [0] rfl ⟨rfl, trivial⟩ rfl
        · replace Z10 := if_f (bf c13) Z10
          iterate 14 refine at_s T rfl ?_
          refine at_end ?_
          refine at_to [(12, (.bool false))] [0] [F] ⟨rfl, trivial⟩ rfl ?_
          refine at_then ?_
          obtain rfl := Option.some.inj Z10
          exact at_mid false [0] rfl ⟨rfl, trivial⟩ rfl
      · rintro x5 rfl
        refine at_ret ?_
        refine at_rt ?_
        obtain rfl := Option.some.inj H
        exact at_post (T := T) rfl (.tmp rfl .nil) (fun w o => ⟨(), rfl, own_to [0] rfl o⟩)
    · replace H := if_f (bf c9) H
      refine at_skip ?_
      refine at_then ?_
      refine at_seq ?_
      refine at_region [0, 1, 2, 3, 4, 5, 6] rfl ?_
      refine at_v rfl (g_loadA T (cs := [(.int .i64 v4.1.W), (.int .i64 v4.1.H), (.slice a8 (List.length v4.1.C) n8)]) rfl rfl rfl rfl rfl rfl (in_varA (j := 5) rfl rfl)) ?_
      obtain ⟨v8, V16, H⟩ := bind_e H
      refine at_cons (at_cR (pack_Put.R v8) [] [] rfl rfl rfl rfl has14 rfl rfl (pack_Put.c v4.1 v8 _ V16 (own_of s8 (j := 4) rfl) s8.cap_le) ?_)
      rintro _ _ ⟨a10, n10, H10, s10, rfl, rfl⟩
      iterate 5 refine at_s T rfl ?_
      refine at_end ?_
      refine at_sub [(5, (.int .u8 p5)), (13, (.pointer (some ⟨b2, 0, none⟩))), (14, (.slice a5 (List.length (List.set (([] : List Int) ++ v2.1) (Int.toNat v3) (wu8 (BitVec.toNat (BitVec.ofInt (IntKind.bits .u8) (rd (([] : List Int) ++ v2.1) v3) ^^^ BitVec.ofInt (IntKind.bits .u8) p5))))) n5)), (16, (.pointer (some ⟨b9, 0, none⟩))), (17, (.int .i64 v4.2.1)), (19, (.slice a10 (List.length v8.1) n10)), (20, (.int .i64 v8.2))] ⟨rfl, rfl, rfl, rfl, rfl, rfl, rfl, trivial⟩ ?_
      refine at_then ?_
      obtain ⟨z10, Z17, H⟩ := bind_e H
      refine at_seq_mid (σ := Bool) (fun x9 => x9 = z10) (fun x9 => [(12, (.bool x9))]) (fun x9 => [F]) ?_ ?_
      · refine at_region [0, 1, 2, 3, 4, 5, 6, 7, 8, 9, 10, 11, 12, 13, 14, 15, 16, 17, 18, 19, 20, 21, 22, 23, 24, 25, 26, 27] rfl ?_
        obtain ⟨v11, V18, Z17⟩ := bind_e Z17
        refine at_cons (at_c (B := fun _ => []) [] rfl rfl rfl rfl has7 rfl rfl (law3_told.c  v11 _ V18) (fun _ => ?_))
        refine at_s T rfl ?_
        refine at_grp T [2, 3, 4] (s := 90) (c := v11) [(5, (.int .u8 p5)), (13, (.pointer (some ⟨b2, 0, none⟩))), (14, (.slice a5 (List.length (List.set (([] : List Int) ++ v2.1) (Int.toNat v3) (wu8 (BitVec.toNat (BitVec.ofInt (IntKind.bits .u8) (rd (([] : List Int) ++ v2.1) v3) ^^^ BitVec.ofInt (IntKind.bits .u8) p5))))) n5)), (16, (.pointer (some ⟨b9, 0, none⟩))), (17, (.int .i64 v4.2.1)), (19, (.slice a10 (List.length v8.1) n10)), (93, (.bool (v11 && (v8.2 == 0))))] rfl rfl rfl (fun c19 => ⟨rfl, rfl, rfl, rfl, rfl, rfl, (by rw [c19]; rfl), trivial⟩) (fun c19 => ⟨rfl, rfl, rfl, rfl, rfl, rfl, (by rw [c19]; rfl), trivial⟩) ?_
        refine at_s T rfl ?_
        refine at_grp T [6, 7, 8, 9, 10] (s := 94) (c := (v11 && (v8.2 == 0))) [(5, (.int .u8 p5)), (13, (.pointer (some ⟨b2, 0, none⟩))), (14, (.slice a5 (List.length (List.set (([] : List Int) ++ v2.1) (Int.toNat v3) (wu8 (BitVec.toNat (BitVec.ofInt (IntKind.bits .u8) (rd (([] : List Int) ++ v2.1) v3) ^^^ BitVec.ofInt (IntKind.bits .u8) p5))))) n5)), (16, (.pointer (some ⟨b9, 0, none⟩))), (17, (.int .i64 v4.2.1)), (19, (.slice a10 (List.length v8.1) n10)), (99, (.bool ((v11 && (v8.2 == 0)) && (decide (v4.2.1 ≤ (List.length (List.set (([] : List Int) ++ v2.1) (Int.toNat v3) (wu8 (BitVec.toNat (BitVec.ofInt (IntKind.bits .u8) (rd (([] : List Int) ++ v2.1) v3) ^^^ BitVec.ofInt (IntKind.bits .u8) p5)))) : Int))))))] rfl rfl rfl (fun c20 => ⟨rfl, rfl, rfl, rfl, rfl, rfl, (by rw [c20]; rfl), trivial⟩) (fun c20 => ⟨rfl, rfl, rfl, rfl, rfl, rfl, (by rw [c20]; rfl), trivial⟩) ?_
        refine at_s T rfl ?_
        refine at_case (s := 100) rfl (fun c21 => ?_) (fun c21 => ?_)
        · replace Z17 := if_t c21 Z17
          iterate 3 refine at_s T rfl ?_
          obtain ⟨c22, Z17⟩ := chk_e Z17
          refine at_v rfl (g_sub T rfl rfl rfl rfl rfl rfl c22 s7.cap_le) ?_
          obtain ⟨v12, V23, Z17⟩ := bind_e Z17
          refine at_cons (at_c (B := fun _ => []) [] rfl rfl rfl rfl has12 rfl rfl (ref1_Bytes.c v8.1 (sub' (List.set (([] : List Int) ++ v2.1) (Int.toNat v3) (wu8 (BitVec.toNat (BitVec.ofInt (IntKind.bits .u8) (rd (([] : List Int) ++ v2.1) v3) ^^^ BitVec.ofInt (IntKind.bits .u8) p5)))) 0 v4.2.1) v12 _ V23 (own_of s10 (j := 6) rfl) s10.cap_le (sub_r (own_of s7 (j := 3) rfl) c22 s7.cap_le) (sub_cap c22 s7.cap_le)) (fun _ => ?_))
          iterate 2 refine at_s T rfl ?_
          refine at_case (s := 107) rfl (fun c24 => ?_) (fun c24 => ?_)
          · replace Z17 := if_t c24 Z17
            iterate 3 refine at_s T rfl ?_
            refine at_case (s := 110) rfl (fun c25 => ?_) (fun c25 => ?_)
            · replace Z17 := if_t c25 Z17
              iterate 6 refine at_s T rfl ?_
              refine at_end ?_
              refine at_to [(12, (.bool true))] [0] [F] ⟨rfl, trivial⟩ rfl ?_
              refine at_then ?_
              obtain rfl := Option.some.inj Z17
              exact at_mid true [0] rfl ⟨rfl, trivial⟩ rfl
            · replace Z17 := if_f (bf c25) Z17
              refine at_v rfl (g_loadA T (cs := [(.int .i64 v4.1.W), (.int .i64 v4.1.H), (.slice a8 (List.length v4.1.C) n8)]) rfl rfl rfl rfl rfl rfl (in_varA (j := 5) rfl rfl)) ?_
              refine at_v rfl (g_loadA T (cs := [(.int .i64 v1.W), (.int .i64 v1.H), (.slice a1 (List.length v1.C) n1)]) rfl rfl rfl rfl rfl rfl (in_varA (j := 2) rfl rfl)) ?_
              obtain ⟨v13, V26, Z17⟩ := bind_e Z17
              refine at_cons (at_c (B := fun _ => []) [] rfl rfl rfl rfl has11 rfl rfl (ref1_SameTile.c v4.1 v1 v13 _ V26 (own_of s8 (j := 4) rfl) s8.cap_le (own_of s1 (j := 1) rfl) s1.cap_le) (fun _ => ?_))
              iterate 3 refine at_s T rfl ?_
              refine at_end ?_
              refine at_to [(12, (.bool v13))] [0] [F] ⟨rfl, trivial⟩ rfl ?_
              refine at_then ?_
              obtain rfl := Option.some.inj Z17
              exact at_mid v13 [0] rfl ⟨rfl, trivial⟩ rfl
          · replace Z17 := if_f (bf c24) Z17
            iterate 9 refine at_s T rfl ?_
            refine at_end ?_
            refine at_to [(12, (.bool false))] [0] [F] ⟨rfl, trivial⟩ rfl ?_
            refine at_then ?_
            obtain rfl := Option.some.inj Z17
            exact at_mid false [0] rfl ⟨rfl, trivial⟩ rfl
        · replace Z17 := if_f (bf c21) Z17
          iterate 16 refine at_s T rfl ?_
          refine at_end ?_
          refine at_to [(12, (.bool false))] [0] [F] ⟨rfl, trivial⟩ rfl ?_
          refine at_then ?_
          obtain rfl := Option.some.inj Z17
          exact at_mid false [0] rfl ⟨rfl, trivial⟩ rfl
      · rintro x9 rfl
        refine at_ret ?_
        obtain rfl := Option.some.inj H
        exact at_post (T := T) rfl (.tmp rfl .nil) (fun w o => ⟨(), rfl, own_to [0] rfl o⟩)
def law3_PackTurned.Pure : Prop := ∀ (c : (List Int)) (w : Int) (h : Int) (few : Int) (p4 : Int) (p5 : Int), (∀ y ∈ c, inU8 y) → inI64 w → inI64 h → inI64 few → inI64 p4 → inU8 p5 → List.length c ≤ 9223372036854775807 → law3_PackTurned.f c w h few p4 p5 = some true
end

end Go.Proofs.YtonjonpepfepfaaDoor
