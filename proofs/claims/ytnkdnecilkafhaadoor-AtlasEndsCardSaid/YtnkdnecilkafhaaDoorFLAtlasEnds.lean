import Derived.Test.YtnkdnecilkafhaaDoorT
import Derived.Test.YtnkdnecilkafhaaDoorFatlas
import Derived.Test.YtnkdnecilkafhaaDoorFlaw4
import Derived.Test.YtnkdnecilkafhaaDoorFref1
namespace Go.Proofs.YtnkdnecilkafhaaDoor
open Go.Hx
set_option maxRecDepth 100000
set_option linter.unusedVariables false
noncomputable section
/-! ### herdsman/herdsmanlaw4.AtlasEnds: function 4 -/
def law4_AtlasEnds.f (w : Int) (h : Int) (c : (List Int)) (cut : Int) (more : Int) : Option Bool := (ref1_Made.f w h c).bind fun v1 => (atlas_Put.f v1).bind fun v2 => if ((v2.2 != 0) || (decide ((List.length v2.1 : Int) < 6))) = true then (some false) else ((ref1_Within.f cut 0 (w64 ((List.length v2.1 : Int) - 1))).bind fun v3 => if (0 ≤ (0 : Int) ∧ (0 : Int) ≤ v3 ∧ v3 ≤ (List.length v2.1 : Int)) then ((atlas_Get.f (sub' v2.1 0 v3)).bind fun v4 => if (List.length ([] : List Int) + List.length v2.1 ≤ 1099511627776) then (if (List.length (([] : List Int) ++ v2.1) + 1 ≤ 1099511627776) then ((atlas_Get.f ((([] : List Int) ++ v2.1) ++ [more])).bind fun v5 => ((law4_told.f).bind fun v8 => if ((v8 && (v4.2 == 2)) && (v5.2 == 3)) = true then (if ((List.length v4.1.C : Int) == 0) = true then (some ((List.length v5.1.C : Int) == 0)) else (some false)) else (some false)).bind fun x6 => some x6) else none) else none) else none)
set_option maxHeartbeats 4000000 in
theorem law4_AtlasEnds.c {el : Nat → Addr} {a_c : Option Addr} {n_c : Nat} (w : Int) (h : Int) (c : (List Int)) (cut : Int) (more : Int) (r : Bool) (F : Hp) (H : law4_AtlasEnds.f w h c cut more = some r) (hG : Glb 142 gs_ lits_ el F) (h_c : SliceR (Fl.int .u8) c a_c F) (c_c : List.length c ≤ n_c) :
    CallsL Tryd.prog 4 [(.int .i64 w), (.int .i64 h), (.slice a_c (List.length c) n_c), (.int .i64 cut), (.int .u8 more)] [F] (fun _ : Unit => (.bool r)) (fun _ => [F]) := by
  unfold law4_AtlasEnds.f at H
  refine calls_atL [(0, (.int .i64 w)), (1, (.int .i64 h)), (2, (.slice a_c (List.length c) n_c)), (3, (.int .i64 cut)), (4, (.int .u8 more))] Tryd.func4 rfl rfl ⟨rfl, rfl, rfl, rfl, rfl, trivial⟩ (fun W => ?_)
  refine at_seq ?_
  refine at_region [0] rfl ?_
  refine at_s T rfl ?_
  refine at_end ?_
  refine at_sub [(0, (.int .i64 w)), (1, (.int .i64 h)), (2, (.slice a_c (List.length c) n_c)), (3, (.int .i64 cut)), (4, (.int .u8 more))] ⟨rfl, rfl, rfl, rfl, rfl, trivial⟩ ?_
  refine at_then ?_
  refine at_seq ?_
  refine at_region [0, 1, 2, 3, 4, 5, 6, 7, 8, 9] rfl ?_
  iterate 3 refine at_s T rfl ?_
  obtain ⟨v1, V1, H⟩ := bind_e H
  refine at_cons (at_cR (ref1_Made.R v1) [] [] rfl rfl rfl rfl has11 rfl rfl (ref1_Made.c w h c v1 _ V1 (ro_of h_c (j := 0) rfl) c_c) ?_)
  rintro _ _ ⟨a1, n1, H1, s1, rfl, rfl⟩
  obtain ⟨v2, V2, H⟩ := bind_e H
  refine at_cons (at_cR (atlas_Put.R v2) [] [] rfl rfl rfl rfl has17 rfl rfl (atlas_Put.c v1 v2 _ V2 (own_of s1 (j := 1) rfl) s1.cap_le) ?_)
  rintro _ _ ⟨a2, n2, H2, s2, rfl, rfl⟩
  iterate 5 refine at_s T rfl ?_
  refine at_end ?_
  refine at_to [(3, (.int .i64 cut)), (4, (.int .u8 more)), (11, (.slice a2 (List.length v2.1) n2)), (12, (.int .i64 v2.2))] [0, 1] [F, H2] ⟨rfl, rfl, rfl, rfl, trivial⟩ rfl ?_
  refine at_then ?_
  refine at_seq ?_
  refine at_seq ?_
  refine at_region [0, 1, 2, 3, 4, 5, 6] rfl ?_
  iterate 3 refine at_s T rfl ?_
  refine at_grp T [3, 4, 5, 6] (s := 27) (c := (v2.2 != 0)) [(3, (.int .i64 cut)), (4, (.int .u8 more)), (11, (.slice a2 (List.length v2.1) n2)), (31, (.bool ((v2.2 != 0) || (decide ((List.length v2.1 : Int) < 6)))))] rfl rfl rfl (fun c3 => ⟨rfl, rfl, rfl, (by rw [c3]; rfl), trivial⟩) (fun c3 => ⟨rfl, rfl, rfl, (by rw [c3]; rfl), trivial⟩) ?_
  refine at_end ?_
  refine at_sub [(3, (.int .i64 cut)), (4, (.int .u8 more)), (11, (.slice a2 (List.length v2.1) n2)), (31, (.bool ((v2.2 != 0) || (decide ((List.length v2.1 : Int) < 6)))))] ⟨rfl, rfl, rfl, rfl, trivial⟩ ?_
  refine at_then ?_
  refine at_cond rfl (fun c4 => ?_) (fun c4 => ?_)
  · replace H := if_t c4 H
    refine at_seq ?_
    refine at_region [0] rfl ?_
    refine at_s T rfl ?_
    refine at_end ?_
    refine at_to [(10, (.bool false))] [0] [F] ⟨rfl, trivial⟩ rfl ?_
    refine at_then ?_
    refine at_ret ?_
    refine at_rt ?_
    obtain rfl := Option.some.inj H
    exact at_post (T := T) rfl (.tmp rfl .nil) (fun w o => ⟨(), rfl, own_to [0] rfl o⟩)
  · replace H := if_f (bf c4) H
    refine at_skip ?_
    refine at_then ?_
    refine at_seq ?_
    refine at_region [0, 1, 2, 3, 4, 5, 6, 7, 8, 9, 10, 11, 12, 13] rfl ?_
    iterate 5 refine at_s T rfl ?_
    obtain ⟨v3, V5, H⟩ := bind_e H
    refine at_cons (at_c (B := fun _ => []) [] rfl rfl rfl rfl has12 rfl rfl (ref1_Within.c cut 0 (w64 ((List.length v2.1 : Int) - 1)) v3 _ V5) (fun _ => ?_))
    obtain ⟨c6, H⟩ := chk_e H
    refine at_v rfl (g_sub T rfl rfl rfl rfl rfl rfl c6 s2.cap_le) ?_
    obtain ⟨v4, V7, H⟩ := bind_e H
    refine at_cons (at_cR (atlas_Get.R el v4) [] [] rfl rfl rfl rfl has13 rfl rfl (atlas_Get.c (sub' v2.1 0 v3) v4 _ V7 (glb_of hG (j := 0) rfl) (sub_r (own_of s2 (j := 1) rfl) c6 s2.cap_le) (sub_cap c6 s2.cap_le)) ?_)
    rintro _ _ ⟨a3, n3, H3, s3, rfl, rfl⟩
    iterate 3 refine at_s T rfl ?_
    refine at_cons (at_al T [(.int .i64 0), (.int .i64 0), (.slice none 0 0)] rfl rfl rfl rfl (fun b4 => ?_))
    refine at_cons (at_st T 3 [(.int .i64 v4.1.W), (.int .i64 v4.1.H), (.slice a3 (List.length v4.1.C) n3)] rfl rfl rfl rfl rfl rfl rfl rfl rfl rfl ?_)
    refine at_s T rfl ?_
    refine at_end ?_
    refine at_sub [(4, (.int .u8 more)), (11, (.slice a2 (List.length v2.1) n2)), (13, (.pointer (some ⟨b4, 0, none⟩))), (14, (.int .i64 v4.2))] ⟨rfl, rfl, rfl, rfl, trivial⟩ ?_
    refine at_then ?_
    refine at_seq ?_
    refine at_region [0, 1, 2, 3, 4, 5, 6, 7, 8, 9, 10, 11, 12] rfl ?_
    refine at_cons (at_bs (k := (Fl.int .u8)) T ([] : List Int) rfl rfl rfl rfl rfl rfl rfl rfl rfl (fun a5 H5 s5 => ?_))
    refine at_s T rfl ?_
    obtain ⟨c8, H⟩ := chk_e H
    refine at_cons (at_ap (k := (Fl.int .u8)) (xs := ([] : List Int)) T (g := 4) rfl rfl rfl rfl rfl rfl rfl rfl rfl rfl s5 (own_of s2 (j := 1) rfl) c8 rfl (fun a6 n6 H6 s6 => ?_))
    refine at_s T rfl ?_
    refine at_cons (at_bs (k := (Fl.int .u8)) T [more] rfl rfl rfl rfl rfl rfl rfl rfl rfl (fun a7 H7 s7 => ?_))
    obtain ⟨c9, H⟩ := chk_e H
    refine at_cons (at_ap (k := (Fl.int .u8)) (xs := (([] : List Int) ++ v2.1)) T (g := 4) rfl rfl rfl rfl rfl rfl rfl rfl rfl rfl s6 (own_of s7 (j := 5) rfl) c9 rfl (fun a8 n8 H8 s8 => ?_))
    obtain ⟨v5, V10, H⟩ := bind_e H
    refine at_cons (at_cR (atlas_Get.R el v5) [] [] rfl rfl rfl rfl has13 rfl rfl (atlas_Get.c ((([] : List Int) ++ v2.1) ++ [more]) v5 _ V10 (glb_of hG (j := 0) rfl) (own_of s8 (j := 4) rfl) s8.cap_le) ?_)
    rintro _ _ ⟨a9, n9, H9, s9, rfl, rfl⟩
    iterate 3 refine at_s T rfl ?_
    refine at_cons (at_al T [(.int .i64 0), (.int .i64 0), (.slice none 0 0)] rfl rfl rfl rfl (fun b10 => ?_))
    refine at_cons (at_st T 7 [(.int .i64 v5.1.W), (.int .i64 v5.1.H), (.slice a9 (List.length v5.1.C) n9)] rfl rfl rfl rfl rfl rfl rfl rfl rfl rfl ?_)
    refine at_s T rfl ?_
    refine at_end ?_
    refine at_to [(13, (.pointer (some ⟨b4, 0, none⟩))), (14, (.int .i64 v4.2)), (15, (.pointer (some ⟨b10, 0, none⟩))), (16, (.int .i64 v5.2))] [0, 1, 1, 3, 3] [F, H3, [(b4, Obj.cells #[(.int .i64 v4.1.W), (.int .i64 v4.1.H), (.slice a3 (List.length v4.1.C) n3)] 26 (0, 0))], H9, [(b10, Obj.cells #[(.int .i64 v5.1.W), (.int .i64 v5.1.H), (.slice a9 (List.length v5.1.C) n9)] 26 (0, 0))]] ⟨rfl, rfl, rfl, rfl, trivial⟩ rfl ?_
    refine at_then ?_
    obtain ⟨z7, Z11, H⟩ := bind_e H
    refine at_seq_mid (σ := Bool) (fun x6 => x6 = z7) (fun x6 => [(10, (.bool x6))]) (fun x6 => [F]) ?_ ?_
    · refine at_region [0, 1, 2, 3, 4, 5, 6, 7, 8, 9, 10, 11, 12, 13, 14, 15, 16, 17, 18, 19, 20, 21] rfl ?_
      obtain ⟨v8, V12, Z11⟩ := bind_e Z11
      refine at_cons (at_c (B := fun _ => []) [] rfl rfl rfl rfl has9 rfl rfl (law4_told.c  v8 _ V12 (glb_of hG (j := 0) rfl)) (fun _ => ?_))
      refine at_s T rfl ?_
      refine at_grp T [2, 3, 4] (s := 54) (c := v8) [(13, (.pointer (some ⟨b4, 0, none⟩))), (15, (.pointer (some ⟨b10, 0, none⟩))), (16, (.int .i64 v5.2)), (57, (.bool (v8 && (v4.2 == 2))))] rfl rfl rfl (fun c13 => ⟨rfl, rfl, rfl, (by rw [c13]; rfl), trivial⟩) (fun c13 => ⟨rfl, rfl, rfl, (by rw [c13]; rfl), trivial⟩) ?_
      refine at_s T rfl ?_
      refine at_grp T [6, 7, 8] (s := 58) (c := (v8 && (v4.2 == 2))) [(13, (.pointer (some ⟨b4, 0, none⟩))), (15, (.pointer (some ⟨b10, 0, none⟩))), (61, (.bool ((v8 && (v4.2 == 2)) && (v5.2 == 3))))] rfl rfl rfl (fun c14 => ⟨rfl, rfl, (by rw [c14]; rfl), trivial⟩) (fun c14 => ⟨rfl, rfl, (by rw [c14]; rfl), trivial⟩) ?_
      refine at_s T rfl ?_
      refine at_case (s := 62) rfl (fun c15 => ?_) (fun c15 => ?_)
      · replace Z11 := if_t c15 Z11
        refine at_s T rfl ?_
        refine at_v rfl (g_load T rfl rfl rfl rfl (in_var (j := 2) rfl rfl)) ?_
        iterate 4 refine at_s T rfl ?_
        refine at_case (s := 68) rfl (fun c16 => ?_) (fun c16 => ?_)
        · replace Z11 := if_t c16 Z11
          refine at_s T rfl ?_
          refine at_v rfl (g_load T rfl rfl rfl rfl (in_var (j := 4) rfl rfl)) ?_
          iterate 4 refine at_s T rfl ?_
          refine at_end ?_
          refine at_to [(10, (.bool ((List.length v5.1.C : Int) == 0)))] [0] [F] ⟨rfl, trivial⟩ rfl ?_
          refine at_then ?_
          obtain rfl := Option.some.inj Z11
          exact at_mid ((List.length v5.1.C : Int) == 0) [0] rfl ⟨rfl, trivial⟩ rfl
        · replace Z11 := if_f (bf c16) Z11
          iterate 6 refine at_s T rfl ?_
          refine at_end ?_
          refine at_to [(10, (.bool false))] [0] [F] ⟨rfl, trivial⟩ rfl ?_
          refine at_then ?_
          obtain rfl := Option.some.inj Z11
          exact at_mid false [0] rfl ⟨rfl, trivial⟩ rfl
      · replace Z11 := if_f (bf c15) Z11
        iterate 12 refine at_s T rfl ?_
        refine at_end ?_
        refine at_to [(10, (.bool false))] [0] [F] ⟨rfl, trivial⟩ rfl ?_
        refine at_then ?_
        obtain rfl := Option.some.inj Z11
        exact at_mid false [0] rfl ⟨rfl, trivial⟩ rfl
    · rintro x6 rfl
      refine at_ret ?_
      obtain rfl := Option.some.inj H
      exact at_post (T := T) rfl (.tmp rfl .nil) (fun w o => ⟨(), rfl, own_to [0] rfl o⟩)
def law4_AtlasEnds.Pure : Prop := ∀ (w : Int) (h : Int) (c : (List Int)) (cut : Int) (more : Int), inI64 w → inI64 h → (∀ y ∈ c, inU8 y) → inI64 cut → inU8 more → List.length c ≤ 9223372036854775807 → law4_AtlasEnds.f w h c cut more = some true
end

end Go.Proofs.YtnkdnecilkafhaaDoor
