import Derived.Test.YtonjonpepfepfaaDoorT
import Derived.Test.YtonjonpepfepfaaDoorFlaw3
import Derived.Test.YtonjonpepfepfaaDoorFpack
import Derived.Test.YtonjonpepfepfaaDoorFref1
namespace Go.Proofs.YtonjonpepfepfaaDoor
open Go.Hx
set_option maxRecDepth 100000
set_option linter.unusedVariables false
noncomputable section
/-! ### herdsman/herdsmanlaw3.PackReads: function 3 -/
def law3_PackReads.f (b : (List Int)) (w : Int) (h : Int) (form : Int) (raw : Bool) : Option Bool := if (List.length b : Int) > 700 then ((law3_told.f).bind fun v1 => some v1) else (if (List.length ([] : List Int) + List.length b ≤ 1099511627776) then ((if (!raw) = true then ((ref1_Within.f w 1 5).bind fun v6 => (ref1_Within.f h 1 5).bind fun v7 => if (List.length (([] : List Int) ++ b) : Int) > 0 then ((ref1_Within.f form 0 2).bind fun v8 => if (0 ≤ (0 : Int) ∧ (0 : Int) < (List.length (([] : List Int) ++ b) : Int)) then (some (v6, v7, (List.set (([] : List Int) ++ b) (Int.toNat 0) (wu8 v8)))) else none) else (some (v6, v7, (([] : List Int) ++ b)))) else (some (w, h, (([] : List Int) ++ b)))).bind fun (x2, x3, x4) => if (List.length ([] : List Int) + List.length x4 ≤ 1099511627776) then ((pack_Get.f x4 x2 x3).bind fun v9 => (ref1_GetTile.f x4 x2 x3).bind fun v10 => ((law3_told.f).bind fun v13 => if ((v13 && (v9.2.2 == v10.2.2)) && (v9.2.1 == v10.2.1)) = true then ((ref1_SameTile.f v9.1 v10.1).bind fun v14 => if v14 = true then ((ref1_Bytes.f x4 (([] : List Int) ++ x4)).bind fun v15 => some v15) else (some false)) else (some false)).bind fun x11 => some x11) else none) else none)
set_option maxHeartbeats 4000000 in
theorem law3_PackReads.c {el : Nat → Addr} {a_b : Option Addr} {n_b : Nat} (b : (List Int)) (w : Int) (h : Int) (form : Int) (raw : Bool) (r : Bool) (F : Hp) (H : law3_PackReads.f b w h form raw = some r) (hG : Glb 110 gs_ lits_ el F) (h_b : SliceR (Fl.int .u8) b a_b F) (c_b : List.length b ≤ n_b) :
    CallsL Tryd.prog 3 [(.slice a_b (List.length b) n_b), (.int .i64 w), (.int .i64 h), (.int .i64 form), (.bool raw)] [F] (fun _ : Unit => (.bool r)) (fun _ => [F]) := by
  unfold law3_PackReads.f at H
  refine calls_atL [(0, (.slice a_b (List.length b) n_b)), (1, (.int .i64 w)), (2, (.int .i64 h)), (3, (.int .i64 form)), (4, (.bool raw))] Tryd.func3 rfl rfl ⟨rfl, rfl, rfl, rfl, rfl, trivial⟩ (fun W => ?_)
  refine at_seq ?_
  refine at_region [0] rfl ?_
  refine at_s T rfl ?_
  refine at_end ?_
  refine at_sub [(0, (.slice a_b (List.length b) n_b)), (1, (.int .i64 w)), (2, (.int .i64 h)), (3, (.int .i64 form)), (4, (.bool raw))] ⟨rfl, rfl, rfl, rfl, rfl, trivial⟩ ?_
  refine at_then ?_
  refine at_seq ?_
  refine at_seq ?_
  refine at_region [0, 1, 2] rfl ?_
  iterate 3 refine at_s T rfl ?_
  refine at_end ?_
  refine at_sub [(0, (.slice a_b (List.length b) n_b)), (1, (.int .i64 w)), (2, (.int .i64 h)), (3, (.int .i64 form)), (4, (.bool raw)), (21, (.bool (decide ((List.length b : Int) > 700))))] ⟨rfl, rfl, rfl, rfl, rfl, rfl, trivial⟩ ?_
  refine at_then ?_
  refine at_cond rfl (fun c1 => ?_) (fun c1 => ?_)
  · replace H := if_t (of_decide_eq_true c1) H
    refine at_seq ?_
    refine at_region [0, 1] rfl ?_
    obtain ⟨v1, V2, H⟩ := bind_e H
    refine at_cons (at_c (B := fun _ => []) [] rfl rfl rfl rfl has7 rfl rfl (law3_told.c  v1 _ V2) (fun _ => ?_))
    refine at_s T rfl ?_
    refine at_end ?_
    refine at_sub [(10, (.bool v1))] ⟨rfl, trivial⟩ ?_
    refine at_then ?_
    refine at_ret ?_
    refine at_rt ?_
    obtain rfl := Option.some.inj H
    exact at_post (T := T) rfl (.tmp rfl .nil) (fun w o => ⟨(), rfl, own_to [0] rfl o⟩)
  · replace H := if_f (of_decide_eq_false c1) H
    refine at_skip ?_
    refine at_then ?_
    refine at_seq ?_
    refine at_region [0, 1, 2, 3] rfl ?_
    refine at_cons (at_bs (k := (Fl.int .u8)) T ([] : List Int) rfl rfl rfl rfl rfl rfl rfl rfl rfl (fun a1 H1 s1 => ?_))
    refine at_s T rfl ?_
    obtain ⟨c3, H⟩ := chk_e H
    refine at_cons (at_ap (k := (Fl.int .u8)) (xs := ([] : List Int)) T (g := 1) rfl rfl rfl rfl rfl rfl rfl rfl rfl rfl s1 (ro_of h_b (j := 0) rfl) c3 rfl (fun a2 n2 H2 s2 => ?_))
    refine at_s T rfl ?_
    refine at_end ?_
    refine at_sub [(1, (.int .i64 w)), (2, (.int .i64 h)), (3, (.int .i64 form)), (4, (.bool raw)), (11, (.slice a2 (List.length (([] : List Int) ++ b)) n2))] ⟨rfl, rfl, rfl, rfl, rfl, trivial⟩ ?_
    refine at_then ?_
    obtain ⟨z5, Z4, H⟩ := bind_e H
    refine at_seq_mid (σ := Int × Int × List Int × Option Addr × Nat × Hp) (fun ⟨x2, x3, x4, a3, n3, H3⟩ => (x2, x3, x4) = z5 ∧ SliceO (Fl.int .u8) 5 x4 a3 n3 H3) (fun ⟨x2, x3, x4, a3, n3, H3⟩ => [(1, (.int .i64 x2)), (2, (.int .i64 x3)), (11, (.slice a3 (List.length x4) n3))]) (fun ⟨x2, x3, x4, a3, n3, H3⟩ => [F, H3]) ?_ ?_
    · refine at_seq ?_
      refine at_region [0, 1] rfl ?_
      iterate 2 refine at_s T rfl ?_
      refine at_end ?_
      refine at_sub [(1, (.int .i64 w)), (2, (.int .i64 h)), (3, (.int .i64 form)), (11, (.slice a2 (List.length (([] : List Int) ++ b)) n2)), (27, (.bool (!raw)))] ⟨rfl, rfl, rfl, rfl, rfl, trivial⟩ ?_
      refine at_then ?_
      refine at_cond rfl (fun c5 => ?_) (fun c5 => ?_)
      · replace Z4 := if_t c5 Z4
        refine at_seq ?_
        refine at_region [0, 1, 2, 3, 4, 5] rfl ?_
        refine at_s T rfl ?_
        obtain ⟨v6, V6, Z4⟩ := bind_e Z4
        refine at_cons (at_c (B := fun _ => []) [] rfl rfl rfl rfl has8 rfl rfl (ref1_Within.c w 1 5 v6 _ V6) (fun _ => ?_))
        refine at_s T rfl ?_
        obtain ⟨v7, V7, Z4⟩ := bind_e Z4
        refine at_cons (at_c (B := fun _ => []) [] rfl rfl rfl rfl has8 rfl rfl (ref1_Within.c h 1 5 v7 _ V7) (fun _ => ?_))
        iterate 2 refine at_s T rfl ?_
        refine at_end ?_
        refine at_sub [(1, (.int .i64 v6)), (2, (.int .i64 v7)), (3, (.int .i64 form)), (11, (.slice a2 (List.length (([] : List Int) ++ b)) n2))] ⟨rfl, rfl, rfl, rfl, trivial⟩ ?_
        refine at_then ?_
        refine at_seq ?_
        refine at_region [0, 1, 2] rfl ?_
        iterate 3 refine at_s T rfl ?_
        refine at_end ?_
        refine at_sub [(1, (.int .i64 v6)), (2, (.int .i64 v7)), (3, (.int .i64 form)), (11, (.slice a2 (List.length (([] : List Int) ++ b)) n2)), (34, (.bool (decide ((List.length (([] : List Int) ++ b) : Int) > 0))))] ⟨rfl, rfl, rfl, rfl, rfl, trivial⟩ ?_
        refine at_then ?_
        refine at_cond rfl (fun c8 => ?_) (fun c8 => ?_)
        · replace Z4 := if_t (of_decide_eq_true c8) Z4
          refine at_region [0, 1, 2, 3, 4, 5] rfl ?_
          iterate 2 refine at_s T rfl ?_
          obtain ⟨v8, V9, Z4⟩ := bind_e Z4
          refine at_cons (at_c (B := fun _ => []) [] rfl rfl rfl rfl has8 rfl rfl (ref1_Within.c form 0 2 v8 _ V9) (fun _ => ?_))
          refine at_s T rfl ?_
          obtain ⟨c10, Z4⟩ := chk_e Z4
          obtain ⟨q4, o4, e4⟩ := s2.r.addr c10.1 c10.2
          refine at_v rfl (g_index T rfl rfl rfl rfl rfl e4 c10.1 c10.2) ?_
          refine at_cons (at_se (k := (Fl.int .u8)) T 1 0 (wu8 v8) rfl rfl rfl rfl rfl rfl s2 e4 c10 rfl rfl rfl (fun H5 s5 => ?_))
          refine at_to [(1, (.int .i64 v6)), (2, (.int .i64 v7)), (11, (.slice a2 (List.length (List.set (([] : List Int) ++ b) (Int.toNat 0) (wu8 v8))) n2))] [0, 0] [F, H5] ⟨rfl, rfl, (by first | rfl | (simp only [List.length_set]; rfl)), trivial⟩ rfl ?_
          refine at_end ?_
          refine at_sub [(1, (.int .i64 v6)), (2, (.int .i64 v7)), (11, (.slice a2 (List.length (List.set (([] : List Int) ++ b) (Int.toNat 0) (wu8 v8))) n2))] ⟨rfl, rfl, rfl, trivial⟩ ?_
          refine at_then ?_
          obtain rfl := Option.some.inj Z4
          exact at_mid (v6, v7, (List.set (([] : List Int) ++ b) (Int.toNat 0) (wu8 v8)), a2, n2, H5) [0, 0] ⟨rfl, s5⟩ ⟨rfl, rfl, rfl, trivial⟩ rfl
        · replace Z4 := if_f (of_decide_eq_false c8) Z4
          refine at_skip ?_
          refine at_then ?_
          obtain rfl := Option.some.inj Z4
          exact at_mid (v6, v7, (([] : List Int) ++ b), a2, n2, H2) [0, 0] ⟨rfl, s2⟩ ⟨rfl, rfl, rfl, trivial⟩ rfl
      · replace Z4 := if_f (bf c5) Z4
        refine at_skip ?_
        refine at_then ?_
        obtain rfl := Option.some.inj Z4
        exact at_mid (w, h, (([] : List Int) ++ b), a2, n2, H2) [0, 0] ⟨rfl, s2⟩ ⟨rfl, rfl, rfl, trivial⟩ rfl
    · rintro ⟨x2, x3, x4, a3, n3, H3⟩ ⟨rfl, s3⟩
      refine at_seq ?_
      refine at_region [0, 1, 2, 3] rfl ?_
      refine at_cons (at_bs (k := (Fl.int .u8)) T ([] : List Int) rfl rfl rfl rfl rfl rfl rfl rfl rfl (fun a6 H6 s6 => ?_))
      refine at_s T rfl ?_
      obtain ⟨c11, H⟩ := chk_e H
      refine at_cons (at_ap (k := (Fl.int .u8)) (xs := ([] : List Int)) T (g := 2) rfl rfl rfl rfl rfl rfl rfl rfl rfl rfl s6 (own_of s3 (j := 1) rfl) c11 rfl (fun a7 n7 H7 s7 => ?_))
      refine at_s T rfl ?_
      refine at_end ?_
      refine at_sub [(1, (.int .i64 x2)), (2, (.int .i64 x3)), (11, (.slice a3 (List.length x4) n3)), (12, (.slice a7 (List.length (([] : List Int) ++ x4)) n7))] ⟨rfl, rfl, rfl, rfl, trivial⟩ ?_
      refine at_then ?_
      refine at_seq ?_
      refine at_region [0, 1, 2, 3, 4, 5, 6, 7, 8, 9, 10, 11] rfl ?_
      iterate 3 refine at_s T rfl ?_
      obtain ⟨v9, V12, H⟩ := bind_e H
      refine at_cons (at_cR (pack_Get.R el v9) [] [] rfl rfl rfl rfl has9 rfl rfl (pack_Get.c x4 x2 x3 v9 _ V12 (glb_of hG (j := 0) rfl) (own_of s3 (j := 1) rfl) s3.cap_le) ?_)
      rintro _ _ ⟨a8, n8, H8, s8, rfl, rfl⟩
      iterate 4 refine at_s T rfl ?_
      refine at_cons (at_al T [(.int .i64 0), (.int .i64 0), (.slice none 0 0)] rfl rfl rfl rfl (fun b9 => ?_))
      refine at_cons (at_st T 4 [(.int .i64 v9.1.W), (.int .i64 v9.1.H), (.slice a8 (List.length v9.1.C) n8)] rfl rfl rfl rfl rfl rfl rfl rfl rfl rfl ?_)
      iterate 2 refine at_s T rfl ?_
      refine at_end ?_
      refine at_sub [(1, (.int .i64 x2)), (2, (.int .i64 x3)), (11, (.slice a3 (List.length x4) n3)), (12, (.slice a7 (List.length (([] : List Int) ++ x4)) n7)), (13, (.pointer (some ⟨b9, 0, none⟩))), (14, (.int .i64 v9.2.1)), (15, (.int .i64 v9.2.2))] ⟨rfl, rfl, rfl, rfl, rfl, rfl, rfl, trivial⟩ ?_
      refine at_then ?_
      refine at_seq ?_
      refine at_region [0, 1, 2, 3, 4, 5, 6, 7, 8, 9, 10, 11] rfl ?_
      iterate 3 refine at_s T rfl ?_
      obtain ⟨v10, V13, H⟩ := bind_e H
      refine at_cons (at_cR (ref1_GetTile.R v10) [] [] rfl rfl rfl rfl has10 rfl rfl (ref1_GetTile.c x4 x2 x3 v10 _ V13 (own_of s3 (j := 1) rfl) s3.cap_le) ?_)
      rintro _ _ ⟨a10, n10, H10, s10, rfl, rfl⟩
      iterate 4 refine at_s T rfl ?_
      refine at_cons (at_al T [(.int .i64 0), (.int .i64 0), (.slice none 0 0)] rfl rfl rfl rfl (fun b11 => ?_))
      refine at_cons (at_st T 6 [(.int .i64 v10.1.W), (.int .i64 v10.1.H), (.slice a10 (List.length v10.1.C) n10)] rfl rfl rfl rfl rfl rfl rfl rfl rfl rfl ?_)
      iterate 2 refine at_s T rfl ?_
      refine at_end ?_
      refine at_sub [(11, (.slice a3 (List.length x4) n3)), (12, (.slice a7 (List.length (([] : List Int) ++ x4)) n7)), (13, (.pointer (some ⟨b9, 0, none⟩))), (14, (.int .i64 v9.2.1)), (15, (.int .i64 v9.2.2)), (16, (.pointer (some ⟨b11, 0, none⟩))), (17, (.int .i64 v10.2.1)), (18, (.int .i64 v10.2.2))] ⟨rfl, rfl, rfl, rfl, rfl, rfl, rfl, rfl, trivial⟩ ?_
      refine at_then ?_
      obtain ⟨z12, Z14, H⟩ := bind_e H
      refine at_seq_mid (σ := Bool) (fun x11 => x11 = z12) (fun x11 => [(10, (.bool x11))]) (fun x11 => [F]) ?_ ?_
      · refine at_region [0, 1, 2, 3, 4, 5, 6, 7, 8, 9, 10, 11, 12, 13, 14, 15, 16, 17, 18, 19, 20, 21] rfl ?_
        obtain ⟨v13, V15, Z14⟩ := bind_e Z14
        refine at_cons (at_c (B := fun _ => []) [] rfl rfl rfl rfl has7 rfl rfl (law3_told.c  v13 _ V15) (fun _ => ?_))
        refine at_s T rfl ?_
        refine at_grp T [2, 3, 4, 5] (s := 60) (c := v13) [(11, (.slice a3 (List.length x4) n3)), (12, (.slice a7 (List.length (([] : List Int) ++ x4)) n7)), (13, (.pointer (some ⟨b9, 0, none⟩))), (14, (.int .i64 v9.2.1)), (16, (.pointer (some ⟨b11, 0, none⟩))), (17, (.int .i64 v10.2.1)), (64, (.bool (v13 && (v9.2.2 == v10.2.2))))] rfl rfl rfl (fun c16 => ⟨rfl, rfl, rfl, rfl, rfl, rfl, (by rw [c16]; rfl), trivial⟩) (fun c16 => ⟨rfl, rfl, rfl, rfl, rfl, rfl, (by rw [c16]; rfl), trivial⟩) ?_
        refine at_s T rfl ?_
        refine at_grp T [7, 8, 9, 10] (s := 65) (c := (v13 && (v9.2.2 == v10.2.2))) [(11, (.slice a3 (List.length x4) n3)), (12, (.slice a7 (List.length (([] : List Int) ++ x4)) n7)), (13, (.pointer (some ⟨b9, 0, none⟩))), (16, (.pointer (some ⟨b11, 0, none⟩))), (69, (.bool ((v13 && (v9.2.2 == v10.2.2)) && (v9.2.1 == v10.2.1))))] rfl rfl rfl (fun c17 => ⟨rfl, rfl, rfl, rfl, (by rw [c17]; rfl), trivial⟩) (fun c17 => ⟨rfl, rfl, rfl, rfl, (by rw [c17]; rfl), trivial⟩) ?_
        refine at_s T rfl ?_
        refine at_case (s := 70) rfl (fun c18 => ?_) (fun c18 => ?_)
        · replace Z14 := if_t c18 Z14
          refine at_v rfl (g_loadA T (cs := [(.int .i64 v9.1.W), (.int .i64 v9.1.H), (.slice a8 (List.length v9.1.C) n8)]) rfl rfl rfl rfl rfl rfl (in_varA (j := 4) rfl rfl)) ?_
          refine at_v rfl (g_loadA T (cs := [(.int .i64 v10.1.W), (.int .i64 v10.1.H), (.slice a10 (List.length v10.1.C) n10)]) rfl rfl rfl rfl rfl rfl (in_varA (j := 6) rfl rfl)) ?_
          obtain ⟨v14, V19, Z14⟩ := bind_e Z14
          refine at_cons (at_c (B := fun _ => []) [] rfl rfl rfl rfl has11 rfl rfl (ref1_SameTile.c v9.1 v10.1 v14 _ V19 (own_of s8 (j := 3) rfl) s8.cap_le (own_of s10 (j := 5) rfl) s10.cap_le) (fun _ => ?_))
          iterate 2 refine at_s T rfl ?_
          refine at_case (s := 75) rfl (fun c20 => ?_) (fun c20 => ?_)
          · replace Z14 := if_t c20 Z14
            iterate 2 refine at_s T rfl ?_
            obtain ⟨v15, V21, Z14⟩ := bind_e Z14
            refine at_cons (at_c (B := fun _ => []) [] rfl rfl rfl rfl has12 rfl rfl (ref1_Bytes.c x4 (([] : List Int) ++ x4) v15 _ V21 (own_of s3 (j := 1) rfl) s3.cap_le (own_of s7 (j := 2) rfl) s7.cap_le) (fun _ => ?_))
            iterate 2 refine at_s T rfl ?_
            refine at_end ?_
            refine at_to [(10, (.bool v15))] [0] [F] ⟨rfl, trivial⟩ rfl ?_
            refine at_then ?_
            obtain rfl := Option.some.inj Z14
            exact at_mid v15 [0] rfl ⟨rfl, trivial⟩ rfl
          · replace Z14 := if_f (bf c20) Z14
            iterate 5 refine at_s T rfl ?_
            refine at_end ?_
            refine at_to [(10, (.bool false))] [0] [F] ⟨rfl, trivial⟩ rfl ?_
            refine at_then ?_
            obtain rfl := Option.some.inj Z14
            exact at_mid false [0] rfl ⟨rfl, trivial⟩ rfl
        · replace Z14 := if_f (bf c18) Z14
          iterate 10 refine at_s T rfl ?_
          refine at_end ?_
          refine at_to [(10, (.bool false))] [0] [F] ⟨rfl, trivial⟩ rfl ?_
          refine at_then ?_
          obtain rfl := Option.some.inj Z14
          exact at_mid false [0] rfl ⟨rfl, trivial⟩ rfl
      · rintro x11 rfl
        refine at_ret ?_
        obtain rfl := Option.some.inj H
        exact at_post (T := T) rfl (.tmp rfl .nil) (fun w o => ⟨(), rfl, own_to [0] rfl o⟩)
def law3_PackReads.Pure : Prop := ∀ (b : (List Int)) (w : Int) (h : Int) (form : Int) (raw : Bool), (∀ y ∈ b, inU8 y) → inI64 w → inI64 h → inI64 form → List.length b ≤ 9223372036854775807 → law3_PackReads.f b w h form raw = some true
end

end Go.Proofs.YtonjonpepfepfaaDoor
