import Derived.Test.YtnkdnecilkafhaaDoorT
import Derived.Test.YtnkdnecilkafhaaDoorFatlas
import Derived.Test.YtnkdnecilkafhaaDoorFlaw4
import Derived.Test.YtnkdnecilkafhaaDoorFref1
namespace Go.Proofs.YtnkdnecilkafhaaDoor
open Go.Hx
set_option maxRecDepth 100000
set_option linter.unusedVariables false
noncomputable section
/-! ### herdsman/herdsmanlaw4.AtlasTurned: function 6 -/
def law4_AtlasTurned.f (w : Int) (h : Int) (c : (List Int)) (p3 : Int) (p4 : Int) : Option Bool := (ref1_Made.f w h c).bind fun v1 => (atlas_Put.f v1).bind fun v2 => if ((v2.2 != 0) || (decide ((List.length v2.1 : Int) < 6))) = true then (some false) else (if (List.length ([] : List Int) + List.length v2.1 ≤ 1099511627776) then ((ref1_Within.f p3 0 (w64 ((List.length (([] : List Int) ++ v2.1) : Int) - 1))).bind fun v3 => if (0 ≤ v3 ∧ v3 < (List.length (([] : List Int) ++ v2.1) : Int)) then ((atlas_Get.f (List.set (([] : List Int) ++ v2.1) (Int.toNat v3) (wu8 (BitVec.toNat (BitVec.ofInt (IntKind.bits .u8) (rd (([] : List Int) ++ v2.1) v3) ^^^ BitVec.ofInt (IntKind.bits .u8) p4))))).bind fun v4 => if (v4.2 != 0) = true then (((law4_told.f).bind fun v7 => if v7 = true then (if ((List.length v4.1.C : Int) == 0) = true then (if (v4.1.W == 0) = true then (if (v4.1.H == 0) = true then (if (v4.2 == 2) = true then (some true) else (some (v4.2 == 3))) else (some false)) else (some false)) else (some false)) else (some false)).bind fun x5 => some x5) else ((atlas_Put.f v4.1).bind fun v8 => ((law4_told.f).bind fun v11 => if (v11 && (v8.2 == 0)) = true then ((ref1_Bytes.f v8.1 (List.set (([] : List Int) ++ v2.1) (Int.toNat v3) (wu8 (BitVec.toNat (BitVec.ofInt (IntKind.bits .u8) (rd (([] : List Int) ++ v2.1) v3) ^^^ BitVec.ofInt (IntKind.bits .u8) p4))))).bind fun v12 => if v12 = true then ((atlas_Same.f v4.1 v1).bind fun v13 => some (v13 == (p4 == 0))) else (some false)) else (some false)).bind fun x9 => some x9)) else none) else none)
set_option maxHeartbeats 4000000 in
theorem law4_AtlasTurned.c {el : Nat → Addr} {a_c : Option Addr} {n_c : Nat} (w : Int) (h : Int) (c : (List Int)) (p3 : Int) (p4 : Int) (r : Bool) (F : Hp) (H : law4_AtlasTurned.f w h c p3 p4 = some r) (hG : Glb 142 gs_ lits_ el F) (h_c : SliceR (Fl.int .u8) c a_c F) (c_c : List.length c ≤ n_c) :
    CallsL Tryd.prog 6 [(.int .i64 w), (.int .i64 h), (.slice a_c (List.length c) n_c), (.int .i64 p3), (.int .u8 p4)] [F] (fun _ : Unit => (.bool r)) (fun _ => [F]) := by
  unfold law4_AtlasTurned.f at H
  refine calls_atL [(0, (.int .i64 w)), (1, (.int .i64 h)), (2, (.slice a_c (List.length c) n_c)), (3, (.int .i64 p3)), (4, (.int .u8 p4))] Tryd.func6 rfl rfl ⟨rfl, rfl, rfl, rfl, rfl, trivial⟩ (fun W => ?_)
  refine at_seq ?_
  refine at_region [0] rfl ?_
  refine at_s T rfl ?_
  refine at_end ?_
  refine at_sub [(0, (.int .i64 w)), (1, (.int .i64 h)), (2, (.slice a_c (List.length c) n_c)), (3, (.int .i64 p3)), (4, (.int .u8 p4))] ⟨rfl, rfl, rfl, rfl, rfl, trivial⟩ ?_
  refine at_then ?_
  refine at_seq ?_
  refine at_region [0, 1, 2, 3, 4, 5] rfl ?_
  iterate 3 refine at_s T rfl ?_
  obtain ⟨v1, V1, H⟩ := bind_e H
  refine at_cons (at_cR (ref1_Made.R v1) [] [] rfl rfl rfl rfl has11 rfl rfl (ref1_Made.c w h c v1 _ V1 (ro_of h_c (j := 0) rfl) c_c) ?_)
  rintro _ _ ⟨a1, n1, H1, s1, rfl, rfl⟩
  refine at_cons (at_al T [(.int .i64 0), (.int .i64 0), (.slice none 0 0)] rfl rfl rfl rfl (fun b2 => ?_))
  refine at_cons (at_st T 2 [(.int .i64 v1.W), (.int .i64 v1.H), (.slice a1 (List.length v1.C) n1)] rfl rfl rfl rfl rfl rfl rfl rfl rfl rfl ?_)
  refine at_end ?_
  refine at_sub [(3, (.int .i64 p3)), (4, (.int .u8 p4)), (11, (.pointer (some ⟨b2, 0, none⟩)))] ⟨rfl, rfl, rfl, trivial⟩ ?_
  refine at_then ?_
  refine at_seq ?_
  refine at_region [0, 1, 2, 3, 4, 5, 6] rfl ?_
  refine at_v rfl (g_loadA T (cs := [(.int .i64 v1.W), (.int .i64 v1.H), (.slice a1 (List.length v1.C) n1)]) rfl rfl rfl rfl rfl rfl (in_varA (j := 2) rfl rfl)) ?_
  obtain ⟨v2, V2, H⟩ := bind_e H
  refine at_cons (at_cR (atlas_Put.R v2) [] [] rfl rfl rfl rfl has17 rfl rfl (atlas_Put.c v1 v2 _ V2 (own_of s1 (j := 1) rfl) s1.cap_le) ?_)
  rintro _ _ ⟨a3, n3, H3, s3, rfl, rfl⟩
  iterate 5 refine at_s T rfl ?_
  refine at_end ?_
  refine at_sub [(3, (.int .i64 p3)), (4, (.int .u8 p4)), (11, (.pointer (some ⟨b2, 0, none⟩))), (12, (.slice a3 (List.length v2.1) n3)), (13, (.int .i64 v2.2))] ⟨rfl, rfl, rfl, rfl, rfl, trivial⟩ ?_
  refine at_then ?_
  refine at_seq ?_
  refine at_seq ?_
  refine at_region [0, 1, 2, 3, 4, 5, 6] rfl ?_
  iterate 3 refine at_s T rfl ?_
  refine at_grp T [3, 4, 5, 6] (s := 29) (c := (v2.2 != 0)) [(3, (.int .i64 p3)), (4, (.int .u8 p4)), (11, (.pointer (some ⟨b2, 0, none⟩))), (12, (.slice a3 (List.length v2.1) n3)), (33, (.bool ((v2.2 != 0) || (decide ((List.length v2.1 : Int) < 6)))))] rfl rfl rfl (fun c3 => ⟨rfl, rfl, rfl, rfl, (by rw [c3]; rfl), trivial⟩) (fun c3 => ⟨rfl, rfl, rfl, rfl, (by rw [c3]; rfl), trivial⟩) ?_
  refine at_end ?_
  refine at_sub [(3, (.int .i64 p3)), (4, (.int .u8 p4)), (11, (.pointer (some ⟨b2, 0, none⟩))), (12, (.slice a3 (List.length v2.1) n3)), (33, (.bool ((v2.2 != 0) || (decide ((List.length v2.1 : Int) < 6)))))] ⟨rfl, rfl, rfl, rfl, rfl, trivial⟩ ?_
  refine at_then ?_
  refine at_cond rfl (fun c4 => ?_) (fun c4 => ?_)
  · replace H := if_t c4 H
    refine at_seq ?_
    refine at_region [0] rfl ?_
    refine at_s T rfl ?_
    refine at_end ?_
    refine at_to [(10, (.bool false))] [0] [F] ⟨rfl, trivial⟩ rfl ?_
    refine at_then ?_
    refine at_ret ?_
    refine at_rt ?_
    obtain rfl := Option.some.inj H
    exact at_post (T := T) rfl (.tmp rfl .nil) (fun w o => ⟨(), rfl, own_to [0] rfl o⟩)
  · replace H := if_f (bf c4) H
    refine at_skip ?_
    refine at_then ?_
    refine at_seq ?_
    refine at_region [0, 1, 2, 3] rfl ?_
    refine at_cons (at_bs (k := (Fl.int .u8)) T ([] : List Int) rfl rfl rfl rfl rfl rfl rfl rfl rfl (fun a4 H4 s4 => ?_))
    refine at_s T rfl ?_
    obtain ⟨c5, H⟩ := chk_e H
    refine at_cons (at_ap (k := (Fl.int .u8)) (xs := ([] : List Int)) T (g := 4) rfl rfl rfl rfl rfl rfl rfl rfl rfl rfl s4 (own_of s3 (j := 3) rfl) c5 rfl (fun a5 n5 H5 s5 => ?_))
    refine at_s T rfl ?_
    refine at_end ?_
    refine at_to [(3, (.int .i64 p3)), (4, (.int .u8 p4)), (11, (.pointer (some ⟨b2, 0, none⟩))), (12, (.slice a5 (List.length (([] : List Int) ++ v2.1)) n5))] [0, 0, 0, 1] [F, H1, [(b2, Obj.cells #[(.int .i64 v1.W), (.int .i64 v1.H), (.slice a1 (List.length v1.C) n1)] 26 (0, 0))], H5] ⟨rfl, rfl, rfl, rfl, trivial⟩ rfl ?_
    refine at_then ?_
    refine at_seq ?_
    refine at_region [0, 1, 2, 3, 4, 5, 6, 7, 8, 9, 10, 11] rfl ?_
    iterate 5 refine at_s T rfl ?_
    obtain ⟨v3, V6, H⟩ := bind_e H
    refine at_cons (at_c (B := fun _ => []) [] rfl rfl rfl rfl has12 rfl rfl (ref1_Within.c p3 0 (w64 ((List.length (([] : List Int) ++ v2.1) : Int) - 1)) v3 _ V6) (fun _ => ?_))
    obtain ⟨c7, H⟩ := chk_e H
    obtain ⟨q6, o6, e6⟩ := s5.r.addr c7.1 c7.2
    refine at_v rfl (g_index T rfl rfl rfl rfl rfl e6 c7.1 c7.2) ?_
    refine at_v rfl (g_load T rfl rfl rfl rfl (in_elem1 (k := (Fl.int .u8)) (own_of s5 (j := 3) rfl) e6 c7 0 rfl)) ?_
    iterate 2 refine at_s T rfl ?_
    refine at_v rfl (g_index T rfl rfl rfl rfl rfl e6 c7.1 c7.2) ?_
    refine at_cons (at_se (k := (Fl.int .u8)) T 3 0 (wu8 (BitVec.toNat (BitVec.ofInt (IntKind.bits .u8) (rd (([] : List Int) ++ v2.1) v3) ^^^ BitVec.ofInt (IntKind.bits .u8) p4))) rfl rfl rfl rfl rfl rfl s5 e6 c7 rfl rfl rfl (fun H7 s7 => ?_))
    refine at_to [(4, (.int .u8 p4)), (11, (.pointer (some ⟨b2, 0, none⟩))), (12, (.slice a5 (List.length (List.set (([] : List Int) ++ v2.1) (Int.toNat v3) (wu8 (BitVec.toNat (BitVec.ofInt (IntKind.bits .u8) (rd (([] : List Int) ++ v2.1) v3) ^^^ BitVec.ofInt (IntKind.bits .u8) p4))))) n5))] [0, 0, 0, 0] [F, H1, [(b2, Obj.cells #[(.int .i64 v1.W), (.int .i64 v1.H), (.slice a1 (List.length v1.C) n1)] 26 (0, 0))], H7] ⟨rfl, rfl, (by first | rfl | (simp only [List.length_set]; rfl)), trivial⟩ rfl ?_
    refine at_end ?_
    refine at_sub [(4, (.int .u8 p4)), (11, (.pointer (some ⟨b2, 0, none⟩))), (12, (.slice a5 (List.length (List.set (([] : List Int) ++ v2.1) (Int.toNat v3) (wu8 (BitVec.toNat (BitVec.ofInt (IntKind.bits .u8) (rd (([] : List Int) ++ v2.1) v3) ^^^ BitVec.ofInt (IntKind.bits .u8) p4))))) n5))] ⟨rfl, rfl, rfl, trivial⟩ ?_
    refine at_then ?_
    refine at_seq ?_
    refine at_region [0, 1, 2, 3, 4, 5, 6, 7] rfl ?_
    refine at_s T rfl ?_
    obtain ⟨v4, V8, H⟩ := bind_e H
    refine at_cons (at_cR (atlas_Get.R el v4) [] [] rfl rfl rfl rfl has13 rfl rfl (atlas_Get.c (List.set (([] : List Int) ++ v2.1) (Int.toNat v3) (wu8 (BitVec.toNat (BitVec.ofInt (IntKind.bits .u8) (rd (([] : List Int) ++ v2.1) v3) ^^^ BitVec.ofInt (IntKind.bits .u8) p4)))) v4 _ V8 (glb_of hG (j := 0) rfl) (own_of s7 (j := 3) rfl) s7.cap_le) ?_)
    rintro _ _ ⟨a8, n8, H8, s8, rfl, rfl⟩
    iterate 3 refine at_s T rfl ?_
    refine at_cons (at_al T [(.int .i64 0), (.int .i64 0), (.slice none 0 0)] rfl rfl rfl rfl (fun b9 => ?_))
    refine at_cons (at_st T 5 [(.int .i64 v4.1.W), (.int .i64 v4.1.H), (.slice a8 (List.length v4.1.C) n8)] rfl rfl rfl rfl rfl rfl rfl rfl rfl rfl ?_)
    refine at_s T rfl ?_
    refine at_end ?_
    refine at_sub [(4, (.int .u8 p4)), (11, (.pointer (some ⟨b2, 0, none⟩))), (12, (.slice a5 (List.length (List.set (([] : List Int) ++ v2.1) (Int.toNat v3) (wu8 (BitVec.toNat (BitVec.ofInt (IntKind.bits .u8) (rd (([] : List Int) ++ v2.1) v3) ^^^ BitVec.ofInt (IntKind.bits .u8) p4))))) n5)), (14, (.pointer (some ⟨b9, 0, none⟩))), (15, (.int .i64 v4.2))] ⟨rfl, rfl, rfl, rfl, rfl, trivial⟩ ?_
    refine at_then ?_
    refine at_seq ?_
    refine at_seq ?_
    refine at_region [0, 1] rfl ?_
    iterate 2 refine at_s T rfl ?_
    refine at_end ?_
    refine at_sub [(4, (.int .u8 p4)), (11, (.pointer (some ⟨b2, 0, none⟩))), (12, (.slice a5 (List.length (List.set (([] : List Int) ++ v2.1) (Int.toNat v3) (wu8 (BitVec.toNat (BitVec.ofInt (IntKind.bits .u8) (rd (([] : List Int) ++ v2.1) v3) ^^^ BitVec.ofInt (IntKind.bits .u8) p4))))) n5)), (14, (.pointer (some ⟨b9, 0, none⟩))), (15, (.int .i64 v4.2)), (54, (.bool (v4.2 != 0)))] ⟨rfl, rfl, rfl, rfl, rfl, rfl, trivial⟩ ?_
    refine at_then ?_
    refine at_cond rfl (fun c9 => ?_) (fun c9 => ?_)
    · replace H := if_t c9 H
      obtain ⟨z6, Z10, H⟩ := bind_e H
      refine at_seq_mid (σ := Bool) (fun x5 => x5 = z6) (fun x5 => [(10, (.bool x5))]) (fun x5 => [F]) ?_ ?_
      · refine at_region [0, 1, 2, 3, 4, 5, 6, 7, 8, 9, 10, 11, 12, 13, 14, 15, 16, 17, 18, 19, 20, 21, 22, 23, 24, 25] rfl ?_
        obtain ⟨v7, V11, Z10⟩ := bind_e Z10
        refine at_cons (at_c (B := fun _ => []) [] rfl rfl rfl rfl has9 rfl rfl (law4_told.c  v7 _ V11 (glb_of hG (j := 0) rfl)) (fun _ => ?_))
        refine at_s T rfl ?_
        refine at_case (s := 56) rfl (fun c12 => ?_) (fun c12 => ?_)
        · replace Z10 := if_t c12 Z10
          refine at_s T rfl ?_
          refine at_v rfl (g_load T rfl rfl rfl rfl (in_var (j := 5) rfl rfl)) ?_
          iterate 4 refine at_s T rfl ?_
          refine at_case (s := 62) rfl (fun c13 => ?_) (fun c13 => ?_)
          · replace Z10 := if_t c13 Z10
            refine at_s T rfl ?_
            refine at_v rfl (g_load T rfl rfl rfl rfl (in_var (j := 5) rfl rfl)) ?_
            iterate 3 refine at_s T rfl ?_
            refine at_case (s := 67) rfl (fun c14 => ?_) (fun c14 => ?_)
            · replace Z10 := if_t c14 Z10
              refine at_s T rfl ?_
              refine at_v rfl (g_load T rfl rfl rfl rfl (in_var (j := 5) rfl rfl)) ?_
              iterate 3 refine at_s T rfl ?_
              refine at_case (s := 72) rfl (fun c15 => ?_) (fun c15 => ?_)
              · replace Z10 := if_t c15 Z10
                iterate 3 refine at_s T rfl ?_
                refine at_case (s := 75) rfl (fun c16 => ?_) (fun c16 => ?_)
                · replace Z10 := if_t c16 Z10
                  iterate 5 refine at_s T rfl ?_
                  refine at_end ?_
                  refine at_to [(10, (.bool true))] [0] [F] ⟨rfl, trivial⟩ rfl ?_
                  refine at_then ?_
                  obtain rfl := Option.some.inj Z10
                  exact at_mid true [0] rfl ⟨rfl, trivial⟩ rfl
                · replace Z10 := if_f (bf c16) Z10
                  iterate 5 refine at_s T rfl ?_
                  refine at_end ?_
                  refine at_to [(10, (.bool (v4.2 == 3)))] [0] [F] ⟨rfl, trivial⟩ rfl ?_
                  refine at_then ?_
                  obtain rfl := Option.some.inj Z10
                  exact at_mid (v4.2 == 3) [0] rfl ⟨rfl, trivial⟩ rfl
              · replace Z10 := if_f (bf c15) Z10
                iterate 8 refine at_s T rfl ?_
                refine at_end ?_
                refine at_to [(10, (.bool false))] [0] [F] ⟨rfl, trivial⟩ rfl ?_
                refine at_then ?_
                obtain rfl := Option.some.inj Z10
                exact at_mid false [0] rfl ⟨rfl, trivial⟩ rfl
            · replace Z10 := if_f (bf c14) Z10
              iterate 13 refine at_s T rfl ?_
              refine at_end ?_
              refine at_to [(10, (.bool false))] [0] [F] ⟨rfl, trivial⟩ rfl ?_
              refine at_then ?_
              obtain rfl := Option.some.inj Z10
              exact at_mid false [0] rfl ⟨rfl, trivial⟩ rfl
          · replace Z10 := if_f (bf c13) Z10
            iterate 18 refine at_s T rfl ?_
            refine at_end ?_
            refine at_to [(10, (.bool false))] [0] [F] ⟨rfl, trivial⟩ rfl ?_
            refine at_then ?_
            obtain rfl := Option.some.inj Z10
            exact at_mid false [0] rfl ⟨rfl, trivial⟩ rfl
        · replace Z10 := if_f (bf c12) Z10
          iterate 24 refine at_s T rfl ?_
          refine at_end ?_
          refine at_to [(10, (.bool false))] [0] [F] ⟨rfl, trivial⟩ rfl ?_
          refine at_then ?_
          obtain rfl := Option.some.inj Z10
          exact at_mid false [0] rfl ⟨rfl, trivial⟩ rfl
      · rintro x5 rfl
        refine at_ret ?_
        refine at_rt ?_
        obtain rfl := Option.some.inj H
        exact at_post (T := T) rfl (.tmp rfl .nil) (fun w o => ⟨(), rfl, own_to [0] rfl o⟩)
    · replace H := if_f (bf c9) H
      refine at_skip ?_
      refine at_then ?_
      refine at_seq ?_
      refine at_region [0, 1, 2, 3, 4, 5, 6] rfl ?_
      refine at_v rfl (g_loadA T (cs := [(.int .i64 v4.1.W), (.int .i64 v4.1.H), (.slice a8 (List.length v4.1.C) n8)]) rfl rfl rfl rfl rfl rfl (in_varA (j := 5) rfl rfl)) ?_
      obtain ⟨v8, V17, H⟩ := bind_e H
      refine at_cons (at_cR (atlas_Put.R v8) [] [] rfl rfl rfl rfl has17 rfl rfl (atlas_Put.c v4.1 v8 _ V17 (own_of s8 (j := 4) rfl) s8.cap_le) ?_)
      rintro _ _ ⟨a10, n10, H10, s10, rfl, rfl⟩
      iterate 5 refine at_s T rfl ?_
      refine at_end ?_
      refine at_sub [(4, (.int .u8 p4)), (11, (.pointer (some ⟨b2, 0, none⟩))), (12, (.slice a5 (List.length (List.set (([] : List Int) ++ v2.1) (Int.toNat v3) (wu8 (BitVec.toNat (BitVec.ofInt (IntKind.bits .u8) (rd (([] : List Int) ++ v2.1) v3) ^^^ BitVec.ofInt (IntKind.bits .u8) p4))))) n5)), (14, (.pointer (some ⟨b9, 0, none⟩))), (16, (.slice a10 (List.length v8.1) n10)), (17, (.int .i64 v8.2))] ⟨rfl, rfl, rfl, rfl, rfl, rfl, trivial⟩ ?_
      refine at_then ?_
      obtain ⟨z10, Z18, H⟩ := bind_e H
      refine at_seq_mid (σ := Bool) (fun x9 => x9 = z10) (fun x9 => [(10, (.bool x9))]) (fun x9 => [F]) ?_ ?_
      · refine at_region [0, 1, 2, 3, 4, 5, 6, 7, 8, 9, 10, 11, 12, 13, 14, 15, 16, 17, 18] rfl ?_
        obtain ⟨v11, V19, Z18⟩ := bind_e Z18
        refine at_cons (at_c (B := fun _ => []) [] rfl rfl rfl rfl has9 rfl rfl (law4_told.c  v11 _ V19 (glb_of hG (j := 0) rfl)) (fun _ => ?_))
        refine at_s T rfl ?_
        refine at_grp T [2, 3, 4] (s := 86) (c := v11) [(4, (.int .u8 p4)), (11, (.pointer (some ⟨b2, 0, none⟩))), (12, (.slice a5 (List.length (List.set (([] : List Int) ++ v2.1) (Int.toNat v3) (wu8 (BitVec.toNat (BitVec.ofInt (IntKind.bits .u8) (rd (([] : List Int) ++ v2.1) v3) ^^^ BitVec.ofInt (IntKind.bits .u8) p4))))) n5)), (14, (.pointer (some ⟨b9, 0, none⟩))), (16, (.slice a10 (List.length v8.1) n10)), (89, (.bool (v11 && (v8.2 == 0))))] rfl rfl rfl (fun c20 => ⟨rfl, rfl, rfl, rfl, rfl, (by rw [c20]; rfl), trivial⟩) (fun c20 => ⟨rfl, rfl, rfl, rfl, rfl, (by rw [c20]; rfl), trivial⟩) ?_
        refine at_s T rfl ?_
        refine at_case (s := 90) rfl (fun c21 => ?_) (fun c21 => ?_)
        · replace Z18 := if_t c21 Z18
          iterate 2 refine at_s T rfl ?_
          obtain ⟨v12, V22, Z18⟩ := bind_e Z18
          refine at_cons (at_c (B := fun _ => []) [] rfl rfl rfl rfl has16 rfl rfl (ref1_Bytes.c v8.1 (List.set (([] : List Int) ++ v2.1) (Int.toNat v3) (wu8 (BitVec.toNat (BitVec.ofInt (IntKind.bits .u8) (rd (([] : List Int) ++ v2.1) v3) ^^^ BitVec.ofInt (IntKind.bits .u8) p4)))) v12 _ V22 (own_of s10 (j := 6) rfl) s10.cap_le (own_of s7 (j := 3) rfl) s7.cap_le) (fun _ => ?_))
          iterate 2 refine at_s T rfl ?_
          refine at_case (s := 95) rfl (fun c23 => ?_) (fun c23 => ?_)
          · replace Z18 := if_t c23 Z18
            refine at_v rfl (g_loadA T (cs := [(.int .i64 v4.1.W), (.int .i64 v4.1.H), (.slice a8 (List.length v4.1.C) n8)]) rfl rfl rfl rfl rfl rfl (in_varA (j := 5) rfl rfl)) ?_
            refine at_v rfl (g_loadA T (cs := [(.int .i64 v1.W), (.int .i64 v1.H), (.slice a1 (List.length v1.C) n1)]) rfl rfl rfl rfl rfl rfl (in_varA (j := 2) rfl rfl)) ?_
            obtain ⟨v13, V24, Z18⟩ := bind_e Z18
            refine at_cons (at_c (B := fun _ => []) [] rfl rfl rfl rfl has19 rfl rfl (atlas_Same.c v4.1 v1 v13 _ V24 (own_of s8 (j := 4) rfl) s8.cap_le (own_of s1 (j := 1) rfl) s1.cap_le) (fun _ => ?_))
            iterate 5 refine at_s T rfl ?_
            refine at_end ?_
            refine at_to [(10, (.bool (v13 == (p4 == 0))))] [0] [F] ⟨rfl, trivial⟩ rfl ?_
            refine at_then ?_
            obtain rfl := Option.some.inj Z18
            exact at_mid (v13 == (p4 == 0)) [0] rfl ⟨rfl, trivial⟩ rfl
          · replace Z18 := if_f (bf c23) Z18
            iterate 8 refine at_s T rfl ?_
            refine at_end ?_
            refine at_to [(10, (.bool false))] [0] [F] ⟨rfl, trivial⟩ rfl ?_
            refine at_then ?_
            obtain rfl := Option.some.inj Z18
            exact at_mid false [0] rfl ⟨rfl, trivial⟩ rfl
        · replace Z18 := if_f (bf c21) Z18
          iterate 13 refine at_s T rfl ?_
          refine at_end ?_
          refine at_to [(10, (.bool false))] [0] [F] ⟨rfl, trivial⟩ rfl ?_
          refine at_then ?_
          obtain rfl := Option.some.inj Z18
          exact at_mid false [0] rfl ⟨rfl, trivial⟩ rfl
      · rintro x9 rfl
        refine at_ret ?_
        obtain rfl := Option.some.inj H
        exact at_post (T := T) rfl (.tmp rfl .nil) (fun w o => ⟨(), rfl, own_to [0] rfl o⟩)
def law4_AtlasTurned.Pure : Prop := ∀ (w : Int) (h : Int) (c : (List Int)) (p3 : Int) (p4 : Int), inI64 w → inI64 h → (∀ y ∈ c, inU8 y) → inI64 p3 → inU8 p4 → List.length c ≤ 9223372036854775807 → law4_AtlasTurned.f w h c p3 p4 = some true
end

end Go.Proofs.YtnkdnecilkafhaaDoor
