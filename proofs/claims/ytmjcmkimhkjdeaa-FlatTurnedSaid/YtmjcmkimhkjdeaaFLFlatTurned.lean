import Derived.Test.YtmjcmkimhkjdeaaT
import Derived.Test.YtmjcmkimhkjdeaaFflat
import Derived.Test.YtmjcmkimhkjdeaaFlaw17
import Derived.Test.YtmjcmkimhkjdeaaFref1
namespace Go.Proofs.Ytmjcmkimhkjdeaa
open Go.Hx
set_option maxRecDepth 100000
set_option linter.unusedVariables false
/-! ### herdsman/herdsmanlaw17.FlatTurned: function 12 -/
def law17_FlatTurned.f (w : Int) (h : Int) (c : (List Int)) (a : Int) (b : Int) : Option Bool := (ref1_Made.f w h c).bind fun v1 => (ref1_Within.f a 0 (w64 ((List.length v1.C : Int) - 1))).bind fun v2 => (ref1_Within.f b 0 (w64 ((List.length v1.C : Int) - 1))).bind fun v3 => (flat_Query.f v1 v3 v2).bind fun v4 => (flat_Query.f v1 v2 v3).bind fun v5 => if (((v4.2.2 != 0) || (v5.2.2 != 0)) || (!((decide (v4.1 ≥ 1099511627776)) == (decide (v5.1 ≥ 1099511627776))))) = true then (some false) else (((law17_told.f).bind fun v8 => if v8 = true then (if v4.1 ≥ 1099511627776 then (some true) else (if (0 ≤ v2 ∧ v2 < (List.length v1.C : Int)) then (if (0 ≤ v3 ∧ v3 < (List.length v1.C : Int)) then (some ((w64 (v4.1 + (w64 (rd v1.C v2)))) == (w64 (v5.1 + (w64 (rd v1.C v3)))))) else none) else none)) else (some false)).bind fun x6 => some x6)
set_option maxHeartbeats 4000000 in
theorem law17_FlatTurned.c {a_c : Option Addr} {n_c : Nat} (w : Int) (h : Int) (c : (List Int)) (a : Int) (b : Int) (r : Bool) (F : Hp) (H : law17_FlatTurned.f w h c a b = some r) (h_c : SliceR (Fl.int .u8) c a_c F) (c_c : List.length c ≤ n_c) :
    CallsL Try.prog 12 [(.int .i64 w), (.int .i64 h), (.slice a_c (List.length c) n_c), (.int .i64 a), (.int .i64 b)] [F] (fun _ : Unit => (.bool r)) (fun _ => [F]) := by
  unfold law17_FlatTurned.f at H
  refine calls_atL [(0, (.int .i64 w)), (1, (.int .i64 h)), (2, (.slice a_c (List.length c) n_c)), (3, (.int .i64 a)), (4, (.int .i64 b))] Try.func12 rfl rfl ⟨rfl, rfl, rfl, rfl, rfl, trivial⟩ (fun W => ?_)
  refine at_seq ?_
  refine at_region [0] rfl ?_
  refine at_s T rfl ?_
  refine at_end ?_
  refine at_sub [(0, (.int .i64 w)), (1, (.int .i64 h)), (2, (.slice a_c (List.length c) n_c)), (3, (.int .i64 a)), (4, (.int .i64 b))] ⟨rfl, rfl, rfl, rfl, rfl, trivial⟩ ?_
  refine at_then ?_
  refine at_seq ?_
  refine at_region [0, 1, 2, 3, 4, 5] rfl ?_
  iterate 3 refine at_s T rfl ?_
  obtain ⟨v1, V1, H⟩ := bind_e H
  refine at_cons (at_cR (ref1_Made.R v1) [] [] rfl rfl rfl rfl has14 rfl rfl (ref1_Made.c w h c v1 _ V1 (ro_of h_c (j := 0) rfl) c_c) ?_)
  rintro _ _ ⟨a1, n1, H1, s1, rfl, rfl⟩
  refine at_cons (at_al T [(.int .i64 0), (.int .i64 0), (.slice none 0 0)] rfl rfl rfl rfl (fun b2 => ?_))
  refine at_cons (at_st T 2 [(.int .i64 v1.W), (.int .i64 v1.H), (.slice a1 (List.length v1.C) n1)] rfl rfl rfl rfl rfl rfl rfl rfl rfl rfl ?_)
  refine at_end ?_
  refine at_sub [(3, (.int .i64 a)), (4, (.int .i64 b)), (11, (.pointer (some ⟨b2, 0, none⟩)))] ⟨rfl, rfl, rfl, trivial⟩ ?_
  refine at_then ?_
  refine at_seq ?_
  refine at_region_q mix (by kernel_rfl) ?_
  iterate 2 refine atq_s T rfl ?_
  refine atq_v rfl rfl rfl (g_load T rfl rfl rfl rfl (in_var (j := 2) rfl rfl)) ?_
  iterate 2 refine atq_s T rfl ?_
  obtain ⟨v2, V2, H⟩ := bind_e H
  refine atq_c rfl rfl rfl rfl rfl rfl has17 rfl (ref1_Within.c a 0 (w64 ((List.length v1.C : Int) - 1)) v2 _ V2) ?_
  iterate 2 refine atq_s T rfl ?_
  refine atq_v rfl rfl rfl (g_load T rfl rfl rfl rfl (in_var (j := 2) rfl rfl)) ?_
  iterate 2 refine atq_s T rfl ?_
  obtain ⟨v3, V3, H⟩ := bind_e H
  refine atq_c rfl rfl rfl rfl rfl rfl has17 rfl (ref1_Within.c b 0 (w64 ((List.length v1.C : Int) - 1)) v3 _ V3) ?_
  iterate 2 refine atq_s T rfl ?_
  refine atq_end ?_
  refine at_sub [(11, (.pointer (some ⟨b2, 0, none⟩))), (12, (.int .i64 v2)), (13, (.int .i64 v3))] ⟨rfl, rfl, rfl, trivial⟩ ?_
  refine at_then ?_
  refine at_seq ?_
  refine at_region [0, 1, 2, 3, 4, 5, 6, 7, 8, 9, 10] rfl ?_
  refine at_v rfl (g_loadA T (cs := [(.int .i64 v1.W), (.int .i64 v1.H), (.slice a1 (List.length v1.C) n1)]) rfl rfl rfl rfl rfl rfl (in_varA (j := 2) rfl rfl)) ?_
  iterate 2 refine at_s T rfl ?_
  obtain ⟨v4, V4, H⟩ := bind_e H
  refine at_cons (at_c (B := fun _ => []) [] rfl rfl rfl rfl has39 rfl rfl (flat_Query.c v1 v3 v2 v4 _ V4 (own_of s1 (j := 1) rfl) s1.cap_le) (fun _ => ?_))
  iterate 7 refine at_s T rfl ?_
  refine at_end ?_
  refine at_sub [(11, (.pointer (some ⟨b2, 0, none⟩))), (12, (.int .i64 v2)), (13, (.int .i64 v3)), (14, (.int .i64 v4.1)), (16, (.int .i64 v4.2.2))] ⟨rfl, rfl, rfl, rfl, rfl, trivial⟩ ?_
  refine at_then ?_
  refine at_seq ?_
  refine at_region [0, 1, 2, 3, 4, 5, 6, 7, 8, 9, 10] rfl ?_
  refine at_v rfl (g_loadA T (cs := [(.int .i64 v1.W), (.int .i64 v1.H), (.slice a1 (List.length v1.C) n1)]) rfl rfl rfl rfl rfl rfl (in_varA (j := 2) rfl rfl)) ?_
  iterate 2 refine at_s T rfl ?_
  obtain ⟨v5, V5, H⟩ := bind_e H
  refine at_cons (at_c (B := fun _ => []) [] rfl rfl rfl rfl has39 rfl rfl (flat_Query.c v1 v2 v3 v5 _ V5 (own_of s1 (j := 1) rfl) s1.cap_le) (fun _ => ?_))
  iterate 7 refine at_s T rfl ?_
  refine at_end ?_
  refine at_sub [(11, (.pointer (some ⟨b2, 0, none⟩))), (12, (.int .i64 v2)), (13, (.int .i64 v3)), (14, (.int .i64 v4.1)), (16, (.int .i64 v4.2.2)), (17, (.int .i64 v5.1)), (19, (.int .i64 v5.2.2))] ⟨rfl, rfl, rfl, rfl, rfl, rfl, rfl, trivial⟩ ?_
  refine at_then ?_
  refine at_seq ?_
  refine at_seq ?_
  refine at_region [0, 1, 2, 3, 4, 5, 6, 7, 8, 9, 10, 11, 12] rfl ?_
  iterate 3 refine at_s T rfl ?_
  refine at_grp T [3, 4, 5] (s := 54) (c := (v4.2.2 != 0)) [(11, (.pointer (some ⟨b2, 0, none⟩))), (12, (.int .i64 v2)), (13, (.int .i64 v3)), (14, (.int .i64 v4.1)), (17, (.int .i64 v5.1)), (57, (.bool ((v4.2.2 != 0) || (v5.2.2 != 0))))] rfl rfl rfl (fun c6 => ⟨rfl, rfl, rfl, rfl, rfl, (by rw [c6]; rfl), trivial⟩) (fun c6 => ⟨rfl, rfl, rfl, rfl, rfl, (by rw [c6]; rfl), trivial⟩) ?_
  refine at_s T rfl ?_
  refine at_grp T [7, 8, 9, 10, 11, 12] (s := 58) (c := ((v4.2.2 != 0) || (v5.2.2 != 0))) [(11, (.pointer (some ⟨b2, 0, none⟩))), (12, (.int .i64 v2)), (13, (.int .i64 v3)), (14, (.int .i64 v4.1)), (17, (.int .i64 v5.1)), (64, (.bool (((v4.2.2 != 0) || (v5.2.2 != 0)) || (!((decide (v4.1 ≥ 1099511627776)) == (decide (v5.1 ≥ 1099511627776)))))))] rfl rfl rfl (fun c7 => ⟨rfl, rfl, rfl, rfl, rfl, (by rw [c7]; rfl), trivial⟩) (fun c7 => ⟨rfl, rfl, rfl, rfl, rfl, (by rw [c7]; rfl), trivial⟩) ?_
  refine at_end ?_
  refine at_sub [(11, (.pointer (some ⟨b2, 0, none⟩))), (12, (.int .i64 v2)), (13, (.int .i64 v3)), (14, (.int .i64 v4.1)), (17, (.int .i64 v5.1)), (64, (.bool (((v4.2.2 != 0) || (v5.2.2 != 0)) || (!((decide (v4.1 ≥ 1099511627776)) == (decide (v5.1 ≥ 1099511627776)))))))] ⟨rfl, rfl, rfl, rfl, rfl, rfl, trivial⟩ ?_
  refine at_then ?_
  refine at_cond rfl (fun c8 => ?_) (fun c8 => ?_)
  · replace H := if_t c8 H
    refine at_seq ?_
    refine at_region [0] rfl ?_
    refine at_s T rfl ?_
    refine at_end ?_
    refine at_to [(10, (.bool false))] [0] [F] ⟨rfl, trivial⟩ rfl ?_
    refine at_then ?_
    refine at_ret ?_
    refine at_rt ?_
    obtain rfl := Option.some.inj H
    exact at_post (T := T) rfl (.tmp rfl .nil) (fun w o => ⟨(), rfl, own_to [0] rfl o⟩)
  · replace H := if_f (bf c8) H
    refine at_skip ?_
    refine at_then ?_
    obtain ⟨z7, Z9, H⟩ := bind_e H
    refine at_seq_mid (σ := Bool) (fun x6 => x6 = z7) (fun x6 => [(10, (.bool x6))]) (fun x6 => [F]) ?_ ?_
    · refine at_region_q mix (by kernel_rfl) ?_
      obtain ⟨v8, V10, Z9⟩ := bind_e Z9
      refine atq_c rfl rfl rfl rfl rfl rfl has37 rfl (law17_told.c  v8 _ V10) ?_
      refine atq_s T rfl ?_
      refine atq_case (s := 66) rfl (fun c11 => ?_) (fun c11 => ?_)
      · replace Z9 := if_t c11 Z9
        iterate 3 refine atq_s T rfl ?_
        refine atq_case (s := 69) rfl (fun c12 => ?_) (fun c12 => ?_)
        · replace Z9 := if_t (of_decide_eq_true c12) Z9
          iterate 20 refine atq_s T rfl ?_
          refine atq_end ?_
          refine at_to [(10, (.bool true))] [0] [F] ⟨rfl, trivial⟩ rfl ?_
          refine at_then ?_
          obtain rfl := Option.some.inj Z9
          exact at_mid true [0] rfl ⟨rfl, trivial⟩ rfl
        · replace Z9 := if_f (of_decide_eq_false c12) Z9
          iterate 2 refine atq_s T rfl ?_
          refine atq_v rfl rfl rfl (g_load T rfl rfl rfl rfl (in_var (j := 2) rfl rfl)) ?_
          refine atq_s T rfl ?_
          obtain ⟨c13, Z9⟩ := chk_e Z9
          obtain ⟨q3, o3, e3⟩ := s1.r.addr c13.1 c13.2
          refine atq_v rfl rfl rfl (g_index T rfl rfl rfl rfl rfl e3 c13.1 c13.2) ?_
          refine atq_v rfl rfl rfl (g_load T rfl rfl rfl rfl (in_elem1 (k := (Fl.int .u8)) (own_of s1 (j := 1) rfl) e3 c13 0 rfl)) ?_
          iterate 4 refine atq_s T rfl ?_
          refine atq_v rfl rfl rfl (g_load T rfl rfl rfl rfl (in_var (j := 2) rfl rfl)) ?_
          refine atq_s T rfl ?_
          obtain ⟨c14, Z9⟩ := chk_e Z9
          refine atq_v rfl rfl rfl (g_index T rfl rfl rfl rfl rfl e3 c14.1 c14.2) ?_
          refine atq_v rfl rfl rfl (g_load T rfl rfl rfl rfl (in_elem1 (k := (Fl.int .u8)) (own_of s1 (j := 1) rfl) e3 c14 0 rfl)) ?_
          iterate 6 refine atq_s T rfl ?_
          refine atq_end ?_
          refine at_to [(10, (.bool ((w64 (v4.1 + (w64 (rd v1.C v2)))) == (w64 (v5.1 + (w64 (rd v1.C v3)))))))] [0] [F] ⟨rfl, trivial⟩ rfl ?_
          refine at_then ?_
          obtain rfl := Option.some.inj Z9
          exact at_mid ((w64 (v4.1 + (w64 (rd v1.C v2)))) == (w64 (v5.1 + (w64 (rd v1.C v3))))) [0] rfl ⟨rfl, trivial⟩ rfl
      · replace Z9 := if_f (bf c11) Z9
        iterate 23 refine atq_s T rfl ?_
        refine atq_end ?_
        refine at_to [(10, (.bool false))] [0] [F] ⟨rfl, trivial⟩ rfl ?_
        refine at_then ?_
        obtain rfl := Option.some.inj Z9
        exact at_mid false [0] rfl ⟨rfl, trivial⟩ rfl
    · rintro x6 rfl
      refine at_ret ?_
      obtain rfl := Option.some.inj H
      exact at_post (T := T) rfl (.tmp rfl .nil) (fun w o => ⟨(), rfl, own_to [0] rfl o⟩)
def law17_FlatTurned.Pure : Prop := ∀ (w : Int) (h : Int) (c : (List Int)) (a : Int) (b : Int), inI64 w → inI64 h → (∀ y ∈ c, inU8 y) → inI64 a → inI64 b → List.length c ≤ 9223372036854775807 → law17_FlatTurned.f w h c a b = some true
end Go.Proofs.Ytmjcmkimhkjdeaa
