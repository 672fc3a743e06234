import Derived.Test.YtnkdnecilkafhaaDoorT
import Derived.Test.YtnkdnecilkafhaaDoorFatlas
import Derived.Test.YtnkdnecilkafhaaDoorFlaw4
import Derived.Test.YtnkdnecilkafhaaDoorFref1
namespace Go.Proofs.YtnkdnecilkafhaaDoor
open Go.Hx
set_option maxRecDepth 100000
set_option linter.unusedVariables false
noncomputable section
/-! ### herdsman/herdsmanlaw4.AtlasBack: function 5 -/
def law4_AtlasBack.f (w : Int) (h : Int) (c : (List Int)) : Option Bool := (ref1_Made.f w h c).bind fun v1 => (ref1_Own.f v1).bind fun v2 => (atlas_Put.f v1).bind fun v3 => (atlas_Get.f v3.1).bind fun v4 => ((law4_told.f).bind fun v7 => if ((v7 && (v3.2 == 0)) && (v4.2 == 0)) = true then ((atlas_Same.f v4.1 v2).bind fun v8 => if v8 = true then ((ref1_SameMap.f v4.1 v2).bind fun v9 => if v9 = true then ((ref1_SameMap.f v1 v2).bind fun v10 => some v10) else (some false)) else (some false)) else (some false)).bind fun x5 => some x5
set_option maxHeartbeats 4000000 in
theorem law4_AtlasBack.c {el : Nat → Addr} {a_c : Option Addr} {n_c : Nat} (w : Int) (h : Int) (c : (List Int)) (r : Bool) (F : Hp) (H : law4_AtlasBack.f w h c = some r) (hG : Glb 142 gs_ lits_ el F) (h_c : SliceR (Fl.int .u8) c a_c F) (c_c : List.length c ≤ n_c) :
    CallsL Tryd.prog 5 [(.int .i64 w), (.int .i64 h), (.slice a_c (List.length c) n_c)] [F] (fun _ : Unit => (.bool r)) (fun _ => [F]) := by
  unfold law4_AtlasBack.f at H
  refine calls_atL [(0, (.int .i64 w)), (1, (.int .i64 h)), (2, (.slice a_c (List.length c) n_c))] Tryd.func5 rfl rfl ⟨rfl, rfl, rfl, trivial⟩ (fun W => ?_)
  refine at_seq ?_
  refine at_region [0] rfl ?_
  refine at_s T rfl ?_
  refine at_end ?_
  refine at_sub [(0, (.int .i64 w)), (1, (.int .i64 h)), (2, (.slice a_c (List.length c) n_c))] ⟨rfl, rfl, rfl, trivial⟩ ?_
  refine at_then ?_
  refine at_seq ?_
  refine at_region [0, 1, 2, 3, 4, 5] rfl ?_
  iterate 3 refine at_s T rfl ?_
  obtain ⟨v1, V1, H⟩ := bind_e H
  refine at_cons (at_cR (ref1_Made.R v1) [] [] rfl rfl rfl rfl has11 rfl rfl (ref1_Made.c w h c v1 _ V1 (ro_of h_c (j := 0) rfl) c_c) ?_)
  rintro _ _ ⟨a1, n1, H1, s1, rfl, rfl⟩
  refine at_cons (at_al T [(.int .i64 0), (.int .i64 0), (.slice none 0 0)] rfl rfl rfl rfl (fun b2 => ?_))
  refine at_cons (at_st T 2 [(.int .i64 v1.W), (.int .i64 v1.H), (.slice a1 (List.length v1.C) n1)] rfl rfl rfl rfl rfl rfl rfl rfl rfl rfl ?_)
  refine at_end ?_
  refine at_sub [(7, (.pointer (some ⟨b2, 0, none⟩)))] ⟨rfl, trivial⟩ ?_
  refine at_then ?_
  refine at_seq ?_
  refine at_region [0, 1, 2, 3] rfl ?_
  refine at_v rfl (g_loadA T (cs := [(.int .i64 v1.W), (.int .i64 v1.H), (.slice a1 (List.length v1.C) n1)]) rfl rfl rfl rfl rfl rfl (in_varA (j := 2) rfl rfl)) ?_
  obtain ⟨v2, V2, H⟩ := bind_e H
  refine at_cons (at_cR (ref1_Own.R v2) [] [] rfl rfl rfl rfl has18 rfl rfl (ref1_Own.c v1 v2 _ V2 (own_of s1 (j := 1) rfl) s1.cap_le) ?_)
  rintro _ _ ⟨a3, n3, H3, s3, rfl, rfl⟩
  refine at_cons (at_al T [(.int .i64 0), (.int .i64 0), (.slice none 0 0)] rfl rfl rfl rfl (fun b4 => ?_))
  refine at_cons (at_st T 4 [(.int .i64 v2.W), (.int .i64 v2.H), (.slice a3 (List.length v2.C) n3)] rfl rfl rfl rfl rfl rfl rfl rfl rfl rfl ?_)
  refine at_end ?_
  refine at_sub [(7, (.pointer (some ⟨b2, 0, none⟩))), (8, (.pointer (some ⟨b4, 0, none⟩)))] ⟨rfl, rfl, trivial⟩ ?_
  refine at_then ?_
  refine at_seq ?_
  refine at_region [0, 1, 2, 3, 4, 5, 6] rfl ?_
  refine at_v rfl (g_loadA T (cs := [(.int .i64 v1.W), (.int .i64 v1.H), (.slice a1 (List.length v1.C) n1)]) rfl rfl rfl rfl rfl rfl (in_varA (j := 2) rfl rfl)) ?_
  obtain ⟨v3, V3, H⟩ := bind_e H
  refine at_cons (at_cR (atlas_Put.R v3) [] [] rfl rfl rfl rfl has17 rfl rfl (atlas_Put.c v1 v3 _ V3 (own_of s1 (j := 1) rfl) s1.cap_le) ?_)
  rintro _ _ ⟨a5, n5, H5, s5, rfl, rfl⟩
  iterate 5 refine at_s T rfl ?_
  refine at_end ?_
  refine at_sub [(7, (.pointer (some ⟨b2, 0, none⟩))), (8, (.pointer (some ⟨b4, 0, none⟩))), (9, (.slice a5 (List.length v3.1) n5)), (10, (.int .i64 v3.2))] ⟨rfl, rfl, rfl, rfl, trivial⟩ ?_
  refine at_then ?_
  refine at_seq ?_
  refine at_region [0, 1, 2, 3, 4, 5, 6, 7] rfl ?_
  refine at_s T rfl ?_
  obtain ⟨v4, V4, H⟩ := bind_e H
  refine at_cons (at_cR (atlas_Get.R el v4) [] [] rfl rfl rfl rfl has13 rfl rfl (atlas_Get.c v3.1 v4 _ V4 (glb_of hG (j := 0) rfl) (own_of s5 (j := 5) rfl) s5.cap_le) ?_)
  rintro _ _ ⟨a6, n6, H6, s6, rfl, rfl⟩
  iterate 3 refine at_s T rfl ?_
  refine at_cons (at_al T [(.int .i64 0), (.int .i64 0), (.slice none 0 0)] rfl rfl rfl rfl (fun b7 => ?_))
  refine at_cons (at_st T 7 [(.int .i64 v4.1.W), (.int .i64 v4.1.H), (.slice a6 (List.length v4.1.C) n6)] rfl rfl rfl rfl rfl rfl rfl rfl rfl rfl ?_)
  refine at_s T rfl ?_
  refine at_end ?_
  refine at_to [(7, (.pointer (some ⟨b2, 0, none⟩))), (8, (.pointer (some ⟨b4, 0, none⟩))), (10, (.int .i64 v3.2)), (11, (.pointer (some ⟨b7, 0, none⟩))), (12, (.int .i64 v4.2))] [0, 0, 0, 0, 0, 1, 1] [F, H1, [(b2, Obj.cells #[(.int .i64 v1.W), (.int .i64 v1.H), (.slice a1 (List.length v1.C) n1)] 26 (0, 0))], H3, [(b4, Obj.cells #[(.int .i64 v2.W), (.int .i64 v2.H), (.slice a3 (List.length v2.C) n3)] 26 (0, 0))], H6, [(b7, Obj.cells #[(.int .i64 v4.1.W), (.int .i64 v4.1.H), (.slice a6 (List.length v4.1.C) n6)] 26 (0, 0))]] ⟨rfl, rfl, rfl, rfl, rfl, trivial⟩ rfl ?_
  refine at_then ?_
  obtain ⟨z6, Z5, H⟩ := bind_e H
  refine at_seq_mid (σ := Bool) (fun x5 => x5 = z6) (fun x5 => [(6, (.bool x5))]) (fun x5 => [F]) ?_ ?_
  · refine at_region [0, 1, 2, 3, 4, 5, 6, 7, 8, 9, 10, 11, 12, 13, 14, 15, 16, 17, 18, 19, 20, 21, 22, 23, 24] rfl ?_
    obtain ⟨v7, V6, Z5⟩ := bind_e Z5
    refine at_cons (at_c (B := fun _ => []) [] rfl rfl rfl rfl has9 rfl rfl (law4_told.c  v7 _ V6 (glb_of hG (j := 0) rfl)) (fun _ => ?_))
    refine at_s T rfl ?_
    refine at_grp T [2, 3, 4] (s := 30) (c := v7) [(7, (.pointer (some ⟨b2, 0, none⟩))), (8, (.pointer (some ⟨b4, 0, none⟩))), (11, (.pointer (some ⟨b7, 0, none⟩))), (12, (.int .i64 v4.2)), (33, (.bool (v7 && (v3.2 == 0))))] rfl rfl rfl (fun c7 => ⟨rfl, rfl, rfl, rfl, (by rw [c7]; rfl), trivial⟩) (fun c7 => ⟨rfl, rfl, rfl, rfl, (by rw [c7]; rfl), trivial⟩) ?_
    refine at_s T rfl ?_
    refine at_grp T [6, 7, 8] (s := 34) (c := (v7 && (v3.2 == 0))) [(7, (.pointer (some ⟨b2, 0, none⟩))), (8, (.pointer (some ⟨b4, 0, none⟩))), (11, (.pointer (some ⟨b7, 0, none⟩))), (37, (.bool ((v7 && (v3.2 == 0)) && (v4.2 == 0))))] rfl rfl rfl (fun c8 => ⟨rfl, rfl, rfl, (by rw [c8]; rfl), trivial⟩) (fun c8 => ⟨rfl, rfl, rfl, (by rw [c8]; rfl), trivial⟩) ?_
    refine at_s T rfl ?_
    refine at_case (s := 38) rfl (fun c9 => ?_) (fun c9 => ?_)
    · replace Z5 := if_t c9 Z5
      refine at_v rfl (g_loadA T (cs := [(.int .i64 v4.1.W), (.int .i64 v4.1.H), (.slice a6 (List.length v4.1.C) n6)]) rfl rfl rfl rfl rfl rfl (in_varA (j := 6) rfl rfl)) ?_
      refine at_v rfl (g_loadA T (cs := [(.int .i64 v2.W), (.int .i64 v2.H), (.slice a3 (List.length v2.C) n3)]) rfl rfl rfl rfl rfl rfl (in_varA (j := 4) rfl rfl)) ?_
      obtain ⟨v8, V10, Z5⟩ := bind_e Z5
      refine at_cons (at_c (B := fun _ => []) [] rfl rfl rfl rfl has19 rfl rfl (atlas_Same.c v4.1 v2 v8 _ V10 (own_of s6 (j := 5) rfl) s6.cap_le (own_of s3 (j := 3) rfl) s3.cap_le) (fun _ => ?_))
      iterate 2 refine at_s T rfl ?_
      refine at_case (s := 43) rfl (fun c11 => ?_) (fun c11 => ?_)
      · replace Z5 := if_t c11 Z5
        refine at_v rfl (g_loadA T (cs := [(.int .i64 v4.1.W), (.int .i64 v4.1.H), (.slice a6 (List.length v4.1.C) n6)]) rfl rfl rfl rfl rfl rfl (in_varA (j := 6) rfl rfl)) ?_
        refine at_v rfl (g_loadA T (cs := [(.int .i64 v2.W), (.int .i64 v2.H), (.slice a3 (List.length v2.C) n3)]) rfl rfl rfl rfl rfl rfl (in_varA (j := 4) rfl rfl)) ?_
        obtain ⟨v9, V12, Z5⟩ := bind_e Z5
        refine at_cons (at_c (B := fun _ => []) [] rfl rfl rfl rfl has15 rfl rfl (ref1_SameMap.c v4.1 v2 v9 _ V12 (own_of s6 (j := 5) rfl) s6.cap_le (own_of s3 (j := 3) rfl) s3.cap_le) (fun _ => ?_))
        iterate 2 refine at_s T rfl ?_
        refine at_case (s := 48) rfl (fun c13 => ?_) (fun c13 => ?_)
        · replace Z5 := if_t c13 Z5
          refine at_v rfl (g_loadA T (cs := [(.int .i64 v1.W), (.int .i64 v1.H), (.slice a1 (List.length v1.C) n1)]) rfl rfl rfl rfl rfl rfl (in_varA (j := 2) rfl rfl)) ?_
          refine at_v rfl (g_loadA T (cs := [(.int .i64 v2.W), (.int .i64 v2.H), (.slice a3 (List.length v2.C) n3)]) rfl rfl rfl rfl rfl rfl (in_varA (j := 4) rfl rfl)) ?_
          obtain ⟨v10, V14, Z5⟩ := bind_e Z5
          refine at_cons (at_c (B := fun _ => []) [] rfl rfl rfl rfl has15 rfl rfl (ref1_SameMap.c v1 v2 v10 _ V14 (own_of s1 (j := 1) rfl) s1.cap_le (own_of s3 (j := 3) rfl) s3.cap_le) (fun _ => ?_))
          iterate 2 refine at_s T rfl ?_
          refine at_end ?_
          refine at_to [(6, (.bool v10))] [0] [F] ⟨rfl, trivial⟩ rfl ?_
          refine at_then ?_
          obtain rfl := Option.some.inj Z5
          exact at_mid v10 [0] rfl ⟨rfl, trivial⟩ rfl
        · replace Z5 := if_f (bf c13) Z5
          iterate 5 refine at_s T rfl ?_
          refine at_end ?_
          refine at_to [(6, (.bool false))] [0] [F] ⟨rfl, trivial⟩ rfl ?_
          refine at_then ?_
          obtain rfl := Option.some.inj Z5
          exact at_mid false [0] rfl ⟨rfl, trivial⟩ rfl
      · replace Z5 := if_f (bf c11) Z5
        iterate 10 refine at_s T rfl ?_
        refine at_end ?_
        refine at_to [(6, (.bool false))] [0] [F] ⟨rfl, trivial⟩ rfl ?_
        refine at_then ?_
        obtain rfl := Option.some.inj Z5
        exact at_mid false [0] rfl ⟨rfl, trivial⟩ rfl
    · replace Z5 := if_f (bf c9) Z5
      iterate 15 refine at_s T rfl ?_
      refine at_end ?_
      refine at_to [(6, (.bool false))] [0] [F] ⟨rfl, trivial⟩ rfl ?_
      refine at_then ?_
      obtain rfl := Option.some.inj Z5
      exact at_mid false [0] rfl ⟨rfl, trivial⟩ rfl
  · rintro x5 rfl
    refine at_ret ?_
    obtain rfl := Option.some.inj H
    exact at_post (T := T) rfl (.tmp rfl .nil) (fun w o => ⟨(), rfl, own_to [0] rfl o⟩)
def law4_AtlasBack.Pure : Prop := ∀ (w : Int) (h : Int) (c : (List Int)), inI64 w → inI64 h → (∀ y ∈ c, inU8 y) → List.length c ≤ 9223372036854775807 → law4_AtlasBack.f w h c = some true
end

end Go.Proofs.YtnkdnecilkafhaaDoor
