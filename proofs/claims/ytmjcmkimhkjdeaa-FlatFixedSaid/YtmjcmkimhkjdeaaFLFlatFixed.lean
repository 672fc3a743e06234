import Derived.Test.YtmjcmkimhkjdeaaT
import Derived.Test.YtmjcmkimhkjdeaaFflat
import Derived.Test.YtmjcmkimhkjdeaaFlaw17
import Derived.Test.YtmjcmkimhkjdeaaFref1
namespace Go.Proofs.Ytmjcmkimhkjdeaa
open Go.Hx
set_option maxRecDepth 100000
set_option linter.unusedVariables false
/-! ### herdsman/herdsmanlaw17.FlatFixed: function 8 -/
def law17_FlatFixed.l1 : Nat → api_Map → Int → ((List Int) × Int) → Int → Int → Int → Option (Sum Bool Unit)
  | 0, _, _, _, _, _, _ => none
  | k14 + 1, v1, v2, v3, x7, x12, x13 => if x13 ≤ 3 then ((ref1_Step.f v1.W v1.H x7 x13).bind fun v15 => (if v15 ≥ 0 then (if (0 ≤ v15 ∧ v15 < (List.length v1.C : Int)) then (some ((rd v1.C v15) != 255)) else none) else (some false)).bind fun x16 => if x16 = true then (if (0 ≤ v15 ∧ v15 < (List.length v3.1 : Int)) then (if (0 ≤ v15 ∧ v15 < (List.length v1.C : Int)) then (law17_FlatFixed.l1 k14 v1 v2 v3 x7 (if (w64 ((rd v3.1 v15) + (w64 (rd v1.C v15)))) < x12 then (w64 ((rd v3.1 v15) + (w64 (rd v1.C v15)))) else x12) (w64 (x13 + 1))) else none) else none) else (law17_FlatFixed.l1 k14 v1 v2 v3 x7 x12 (w64 (x13 + 1)))) else ((if (x7 == v2) = true then (some 0) else (some x12)).bind fun x18 => if (0 ≤ x7 ∧ x7 < (List.length v1.C : Int)) then (if ((rd v1.C x7) == 255) = true then (if (0 ≤ x7 ∧ x7 < (List.length v3.1 : Int)) then (if ((rd v3.1 x7) != (if 1099511627776 < 1099511627776 then 1099511627776 else 1099511627776)) = true then (some (Sum.inl false)) else (some (Sum.inr ()))) else none) else (if (0 ≤ x7 ∧ x7 < (List.length v3.1 : Int)) then (if ((rd v3.1 x7) != (if 1099511627776 < x18 then 1099511627776 else x18)) = true then (some (Sum.inl false)) else (some (Sum.inr ()))) else none)) else none)
def law17_FlatFixed.l0 : Nat → api_Map → Int → ((List Int) × Int) → Int → Option Bool
  | 0, _, _, _, _ => none
  | k8 + 1, v1, v2, v3, x7 => if x7 < (List.length v3.1 : Int) then ((law17_FlatFixed.l1 fuel v1 v2 v3 x7 1099511627776 0).bind fun zz => match zz with | Sum.inl q => some q | Sum.inr _ => law17_FlatFixed.l0 k8 v1 v2 v3 (w64 (x7 + 1))) else ((law17_told.f).bind fun v20 => some v20)
def law17_FlatFixed.f (w : Int) (h : Int) (c : (List Int)) (goal : Int) : Option Bool := (ref1_Made.f w h c).bind fun v1 => (ref1_Within.f goal 0 (w64 ((List.length v1.C : Int) - 1))).bind fun v2 => (flat_Dist.f v1 v2).bind fun v3 => (if (v3.2 != 0) = true then (some true) else (some ((List.length v3.1 : Int) != (List.length v1.C : Int)))).bind fun x4 => if x4 = true then (some false) else (law17_FlatFixed.l0 fuel v1 v2 v3 0)
set_option maxHeartbeats 4000000 in
theorem law17_FlatFixed.c {a_c : Option Addr} {n_c : Nat} (w : Int) (h : Int) (c : (List Int)) (goal : Int) (r : Bool) (F : Hp) (H : law17_FlatFixed.f w h c goal = some r) (h_c : SliceR (Fl.int .u8) c a_c F) (c_c : List.length c ≤ n_c) :
    CallsL Try.prog 8 [(.int .i64 w), (.int .i64 h), (.slice a_c (List.length c) n_c), (.int .i64 goal)] [F] (fun _ : Unit => (.bool r)) (fun _ => [F]) := by
  unfold law17_FlatFixed.f at H
  refine calls_atL [(0, (.int .i64 w)), (1, (.int .i64 h)), (2, (.slice a_c (List.length c) n_c)), (3, (.int .i64 goal))] Try.func8 rfl rfl ⟨rfl, rfl, rfl, rfl, trivial⟩ (fun W => ?_)
  refine at_seq ?_
  refine at_region [0] rfl ?_
  refine at_s T rfl ?_
  refine at_end ?_
  refine at_sub [(0, (.int .i64 w)), (1, (.int .i64 h)), (2, (.slice a_c (List.length c) n_c)), (3, (.int .i64 goal))] ⟨rfl, rfl, rfl, rfl, trivial⟩ ?_
  refine at_then ?_
  refine at_seq ?_
  refine at_region [0, 1, 2, 3, 4, 5] rfl ?_
  iterate 3 refine at_s T rfl ?_
  obtain ⟨v1, V1, H⟩ := bind_e H
  refine at_cons (at_cR (ref1_Made.R v1) [] [] rfl rfl rfl rfl has14 rfl rfl (ref1_Made.c w h c v1 _ V1 (ro_of h_c (j := 0) rfl) c_c) ?_)
  rintro _ _ ⟨a1, n1, H1, s1, rfl, rfl⟩
  refine at_cons (at_al T [(.int .i64 0), (.int .i64 0), (.slice none 0 0)] rfl rfl rfl rfl (fun b2 => ?_))
  refine at_cons (at_st T 2 [(.int .i64 v1.W), (.int .i64 v1.H), (.slice a1 (List.length v1.C) n1)] rfl rfl rfl rfl rfl rfl rfl rfl rfl rfl ?_)
  refine at_end ?_
  refine at_sub [(3, (.int .i64 goal)), (9, (.pointer (some ⟨b2, 0, none⟩)))] ⟨rfl, rfl, trivial⟩ ?_
  refine at_then ?_
  refine at_seq ?_
  refine at_region [0, 1, 2, 3, 4, 5, 6] rfl ?_
  iterate 2 refine at_s T rfl ?_
  refine at_v rfl (g_load T rfl rfl rfl rfl (in_var (j := 2) rfl rfl)) ?_
  iterate 2 refine at_s T rfl ?_
  obtain ⟨v2, V2, H⟩ := bind_e H
  refine at_cons (at_c (B := fun _ => []) [] rfl rfl rfl rfl has17 rfl rfl (ref1_Within.c goal 0 (w64 ((List.length v1.C : Int) - 1)) v2 _ V2) (fun _ => ?_))
  refine at_s T rfl ?_
  refine at_end ?_
  refine at_sub [(9, (.pointer (some ⟨b2, 0, none⟩))), (10, (.int .i64 v2))] ⟨rfl, rfl, trivial⟩ ?_
  refine at_then ?_
  refine at_seq ?_
  refine at_region [0, 1, 2, 3, 4, 5, 6, 7] rfl ?_
  refine at_v rfl (g_loadA T (cs := [(.int .i64 v1.W), (.int .i64 v1.H), (.slice a1 (List.length v1.C) n1)]) rfl rfl rfl rfl rfl rfl (in_varA (j := 2) rfl rfl)) ?_
  refine at_s T rfl ?_
  obtain ⟨v3, V3, H⟩ := bind_e H
  refine at_cons (at_cR (flat_Dist.R v3) [] [] rfl rfl rfl rfl has35 rfl rfl (flat_Dist.c v1 v2 v3 _ V3 (own_of s1 (j := 1) rfl) s1.cap_le) ?_)
  rintro _ _ ⟨a3, n3, H3, s3, rfl, rfl⟩
  iterate 5 refine at_s T rfl ?_
  refine at_end ?_
  refine at_sub [(9, (.pointer (some ⟨b2, 0, none⟩))), (10, (.int .i64 v2)), (11, (.slice a3 (List.length v3.1) n3)), (12, (.int .i64 v3.2))] ⟨rfl, rfl, rfl, rfl, trivial⟩ ?_
  refine at_then ?_
  refine at_seq ?_
  obtain ⟨z5, Z4, H⟩ := bind_e H
  refine at_seq_mid (σ := Bool) (fun x4 => x4 = z5) (fun x4 => [(9, (.pointer (some ⟨b2, 0, none⟩))), (10, (.int .i64 v2)), (11, (.slice a3 (List.length v3.1) n3)), (42, (.bool x4))]) (fun x4 => [F, [(b2, Obj.cells #[(.int .i64 v1.W), (.int .i64 v1.H), (.slice a1 (List.length v1.C) n1)] 25 (0, 0))], H1, H3]) ?_ ?_
  · refine at_region [0, 1, 2, 3, 4, 5, 6, 7, 8, 9] rfl ?_
    iterate 3 refine at_s T rfl ?_
    refine at_case (s := 35) rfl (fun c5 => ?_) (fun c5 => ?_)
    · replace Z4 := if_t c5 Z4
      iterate 7 refine at_s T rfl ?_
      refine at_end ?_
      refine at_sub [(9, (.pointer (some ⟨b2, 0, none⟩))), (10, (.int .i64 v2)), (11, (.slice a3 (List.length v3.1) n3)), (42, (.bool true))] ⟨rfl, rfl, rfl, rfl, trivial⟩ ?_
      refine at_then ?_
      obtain rfl := Option.some.inj Z4
      exact at_mid true [0, 1, 0, 0] rfl ⟨rfl, rfl, rfl, rfl, trivial⟩ rfl
    · replace Z4 := if_f (bf c5) Z4
      iterate 3 refine at_s T rfl ?_
      refine at_v rfl (g_load T rfl rfl rfl rfl (in_var (j := 2) rfl rfl)) ?_
      iterate 3 refine at_s T rfl ?_
      refine at_end ?_
      refine at_sub [(9, (.pointer (some ⟨b2, 0, none⟩))), (10, (.int .i64 v2)), (11, (.slice a3 (List.length v3.1) n3)), (42, (.bool ((List.length v3.1 : Int) != (List.length v1.C : Int))))] ⟨rfl, rfl, rfl, rfl, trivial⟩ ?_
      refine at_then ?_
      obtain rfl := Option.some.inj Z4
      exact at_mid ((List.length v3.1 : Int) != (List.length v1.C : Int)) [0, 1, 0, 0] rfl ⟨rfl, rfl, rfl, rfl, trivial⟩ rfl
  · rintro x4 rfl
    refine at_cond rfl (fun c6 => ?_) (fun c6 => ?_)
    · replace H := if_t c6 H
      refine at_seq ?_
      refine at_region [0] rfl ?_
      refine at_s T rfl ?_
      refine at_end ?_
      refine at_to [(8, (.bool false))] [0] [F] ⟨rfl, trivial⟩ rfl ?_
      refine at_then ?_
      refine at_ret ?_
      refine at_rt ?_
      obtain rfl := Option.some.inj H
      exact at_post (T := T) rfl (.tmp rfl .nil) (fun w o => ⟨(), rfl, own_to [0] rfl o⟩)
    · replace H := if_f (bf c6) H
      refine at_skip ?_
      refine at_then ?_
      refine at_seq ?_
      refine at_seq ?_
      refine at_region [0] rfl ?_
      refine at_s T rfl ?_
      refine at_end ?_
      refine at_sub [(9, (.pointer (some ⟨b2, 0, none⟩))), (10, (.int .i64 v2)), (11, (.slice a3 (List.length v3.1) n3)), (13, (.int .i64 0))] ⟨rfl, rfl, rfl, rfl, trivial⟩ ?_
      refine at_then ?_
      refine at_block ?_
      refine at_loopL (σ := Nat × Int) (fun ⟨k8, x7⟩ => law17_FlatFixed.l0 k8 v1 v2 v3 x7 = some r) (fun ⟨k8, x7⟩ => [(9, (.pointer (some ⟨b2, 0, none⟩))), (10, (.int .i64 v2)), (11, (.slice a3 (List.length v3.1) n3)), (13, (.int .i64 x7))]) (fun ⟨k8, x7⟩ => [F, [(b2, Obj.cells #[(.int .i64 v1.W), (.int .i64 v1.H), (.slice a1 (List.length v1.C) n1)] 25 (0, 0))], H1, H3]) (fun s => s.1) (fuel, 0) [0, 0, 0, 0] H ⟨rfl, rfl, rfl, rfl, trivial⟩ rfl ?_
      rintro ⟨k8, x7⟩ Z7
      replace Z7 : law17_FlatFixed.l0 k8 v1 v2 v3 x7 = some r := Z7
      rcases k8 with _ | k8
      · rw [law17_FlatFixed.l0] at Z7; cases Z7
      · rw [law17_FlatFixed.l0] at Z7
        refine at_seq ?_
        refine at_seq ?_
        refine at_region [0, 1, 2, 3] rfl ?_
        iterate 4 refine at_s T rfl ?_
        refine at_end ?_
        refine at_sub [(9, (.pointer (some ⟨b2, 0, none⟩))), (10, (.int .i64 v2)), (11, (.slice a3 (List.length v3.1) n3)), (13, (.int .i64 x7)), (46, (.bool (decide (x7 < (List.length v3.1 : Int)))))] ⟨rfl, rfl, rfl, rfl, rfl, trivial⟩ ?_
        refine at_then ?_
        refine at_cond rfl (fun c8 => ?_) (fun c8 => ?_)
        · replace Z7 := if_t (of_decide_eq_true c8) Z7
          refine at_skip ?_
          refine at_then ?_
          obtain ⟨z9, Z9, Z7⟩ := bind_e Z7
          refine at_seq_mid (σ := Unit) (fun ⟨⟩ => (Sum.inr ()) = z9) (fun ⟨⟩ => [(9, (.pointer (some ⟨b2, 0, none⟩))), (10, (.int .i64 v2)), (11, (.slice a3 (List.length v3.1) n3)), (13, (.int .i64 x7))]) (fun ⟨⟩ => [F, [(b2, Obj.cells #[(.int .i64 v1.W), (.int .i64 v1.H), (.slice a1 (List.length v1.C) n1)] 25 (0, 0))], H1, H3]) ?_ ?_
          · refine at_block ?_
            refine at_seq ?_
            refine at_region [0] rfl ?_
            refine at_s T rfl ?_
            refine at_end ?_
            refine at_sub [(9, (.pointer (some ⟨b2, 0, none⟩))), (10, (.int .i64 v2)), (11, (.slice a3 (List.length v3.1) n3)), (13, (.int .i64 x7)), (14, (.int .i64 1099511627776))] ⟨rfl, rfl, rfl, rfl, rfl, trivial⟩ ?_
            refine at_then ?_
            refine at_seq ?_
            refine at_seq ?_
            refine at_region [0] rfl ?_
            refine at_s T rfl ?_
            refine at_end ?_
            refine at_sub [(9, (.pointer (some ⟨b2, 0, none⟩))), (10, (.int .i64 v2)), (11, (.slice a3 (List.length v3.1) n3)), (13, (.int .i64 x7)), (14, (.int .i64 1099511627776)), (15, (.int .i64 0))] ⟨rfl, rfl, rfl, rfl, rfl, rfl, trivial⟩ ?_
            refine at_then ?_
            refine at_block ?_
            refine at_loopL (σ := Nat × Int × Int) (fun ⟨k14, x12, x13⟩ => law17_FlatFixed.l1 k14 v1 v2 v3 x7 x12 x13 = some z9) (fun ⟨k14, x12, x13⟩ => [(9, (.pointer (some ⟨b2, 0, none⟩))), (10, (.int .i64 v2)), (11, (.slice a3 (List.length v3.1) n3)), (13, (.int .i64 x7)), (14, (.int .i64 x12)), (15, (.int .i64 x13))]) (fun ⟨k14, x12, x13⟩ => [F, [(b2, Obj.cells #[(.int .i64 v1.W), (.int .i64 v1.H), (.slice a1 (List.length v1.C) n1)] 25 (0, 0))], H1, H3]) (fun s => s.1) (fuel, 1099511627776, 0) [0, 0, 0, 0] Z9 ⟨rfl, rfl, rfl, rfl, rfl, rfl, trivial⟩ rfl ?_
            rintro ⟨k14, x12, x13⟩ Z10
            replace Z10 : law17_FlatFixed.l1 k14 v1 v2 v3 x7 x12 x13 = some z9 := Z10
            rcases k14 with _ | k14
            · rw [law17_FlatFixed.l1] at Z10; cases Z10
            · rw [law17_FlatFixed.l1] at Z10
              refine at_seq ?_
              refine at_seq ?_
              refine at_region [0, 1] rfl ?_
              iterate 2 refine at_s T rfl ?_
              refine at_end ?_
              refine at_sub [(9, (.pointer (some ⟨b2, 0, none⟩))), (10, (.int .i64 v2)), (11, (.slice a3 (List.length v3.1) n3)), (13, (.int .i64 x7)), (14, (.int .i64 x12)), (15, (.int .i64 x13)), (50, (.bool (decide (x13 ≤ 3))))] ⟨rfl, rfl, rfl, rfl, rfl, rfl, rfl, trivial⟩ ?_
              refine at_then ?_
              refine at_cond rfl (fun c11 => ?_) (fun c11 => ?_)
              · replace Z10 := if_t (of_decide_eq_true c11) Z10
                refine at_skip ?_
                refine at_then ?_
                refine at_seq ?_
                refine at_block ?_
                refine at_seq ?_
                refine at_region [0, 1, 2, 3, 4, 5, 6, 7] rfl ?_
                refine at_s T rfl ?_
                refine at_v rfl (g_load T rfl rfl rfl rfl (in_var (j := 1) rfl rfl)) ?_
                refine at_s T rfl ?_
                refine at_v rfl (g_load T rfl rfl rfl rfl (in_var (j := 1) rfl rfl)) ?_
                iterate 2 refine at_s T rfl ?_
                obtain ⟨v15, V12, Z10⟩ := bind_e Z10
                refine at_cons (at_c (B := fun _ => []) [] rfl rfl rfl rfl has36 rfl rfl (ref1_Step.c v1.W v1.H x7 x13 v15 _ V12) (fun _ => ?_))
                refine at_s T rfl ?_
                refine at_end ?_
                refine at_sub [(9, (.pointer (some ⟨b2, 0, none⟩))), (10, (.int .i64 v2)), (11, (.slice a3 (List.length v3.1) n3)), (13, (.int .i64 x7)), (14, (.int .i64 x12)), (15, (.int .i64 x13)), (16, (.int .i64 v15))] ⟨rfl, rfl, rfl, rfl, rfl, rfl, rfl, trivial⟩ ?_
                refine at_then ?_
                obtain ⟨z17, Z13, Z10⟩ := bind_e Z10
                refine at_seq_mid (σ := Bool) (fun x16 => x16 = z17) (fun x16 => [(9, (.pointer (some ⟨b2, 0, none⟩))), (10, (.int .i64 v2)), (11, (.slice a3 (List.length v3.1) n3)), (13, (.int .i64 x7)), (14, (.int .i64 x12)), (15, (.int .i64 x13)), (16, (.int .i64 v15)), (69, (.bool x16))]) (fun x16 => [F, [(b2, Obj.cells #[(.int .i64 v1.W), (.int .i64 v1.H), (.slice a1 (List.length v1.C) n1)] 25 (0, 0))], H1, H3]) ?_ ?_
                · refine at_region [0, 1, 2, 3, 4, 5, 6, 7, 8, 9] rfl ?_
                  iterate 3 refine at_s T rfl ?_
                  refine at_case (s := 62) rfl (fun c14 => ?_) (fun c14 => ?_)
                  · replace Z13 := if_t (of_decide_eq_true c14) Z13
                    refine at_s T rfl ?_
                    refine at_v rfl (g_load T rfl rfl rfl rfl (in_var (j := 1) rfl rfl)) ?_
                    refine at_s T rfl ?_
                    obtain ⟨c15, Z13⟩ := chk_e Z13
                    obtain ⟨q4, o4, e4⟩ := s1.r.addr c15.1 c15.2
                    refine at_v rfl (g_index T rfl rfl rfl rfl rfl e4 c15.1 c15.2) ?_
                    refine at_v rfl (g_load T rfl rfl rfl rfl (in_elem1 (k := (Fl.int .u8)) (own_of s1 (j := 2) rfl) e4 c15 0 rfl)) ?_
                    iterate 2 refine at_s T rfl ?_
                    refine at_end ?_
                    refine at_sub [(9, (.pointer (some ⟨b2, 0, none⟩))), (10, (.int .i64 v2)), (11, (.slice a3 (List.length v3.1) n3)), (13, (.int .i64 x7)), (14, (.int .i64 x12)), (15, (.int .i64 x13)), (16, (.int .i64 v15)), (69, (.bool ((rd v1.C v15) != 255)))] ⟨rfl, rfl, rfl, rfl, rfl, rfl, rfl, rfl, trivial⟩ ?_
                    refine at_then ?_
                    obtain rfl := Option.some.inj Z13
                    exact at_mid ((rd v1.C v15) != 255) [0, 0, 0, 0] rfl ⟨rfl, rfl, rfl, rfl, rfl, rfl, rfl, rfl, trivial⟩ rfl
                  · replace Z13 := if_f (of_decide_eq_false c14) Z13
                    iterate 7 refine at_s T rfl ?_
                    refine at_end ?_
                    refine at_sub [(9, (.pointer (some ⟨b2, 0, none⟩))), (10, (.int .i64 v2)), (11, (.slice a3 (List.length v3.1) n3)), (13, (.int .i64 x7)), (14, (.int .i64 x12)), (15, (.int .i64 x13)), (16, (.int .i64 v15)), (69, (.bool false))] ⟨rfl, rfl, rfl, rfl, rfl, rfl, rfl, rfl, trivial⟩ ?_
                    refine at_then ?_
                    obtain rfl := Option.some.inj Z13
                    exact at_mid false [0, 0, 0, 0] rfl ⟨rfl, rfl, rfl, rfl, rfl, rfl, rfl, rfl, trivial⟩ rfl
                · rintro x16 rfl
                  refine at_cond rfl (fun c16 => ?_) (fun c16 => ?_)
                  · replace Z10 := if_t c16 Z10
                    refine at_region_q mix (by kernel_rfl) ?_
                    iterate 3 refine atq_s T rfl ?_
                    obtain ⟨c17, Z10⟩ := chk_e Z10
                    obtain ⟨q5, o5, e5⟩ := s3.r.addr c17.1 c17.2
                    refine atq_v rfl rfl rfl (g_index T rfl rfl rfl rfl rfl e5 c17.1 c17.2) ?_
                    refine atq_v rfl rfl rfl (g_load T rfl rfl rfl rfl (in_elem1 (k := (Fl.int .i64)) (own_of s3 (j := 3) rfl) e5 c17 0 rfl)) ?_
                    refine atq_s T rfl ?_
                    refine atq_v rfl rfl rfl (g_load T rfl rfl rfl rfl (in_var (j := 1) rfl rfl)) ?_
                    refine atq_s T rfl ?_
                    obtain ⟨c18, Z10⟩ := chk_e Z10
                    obtain ⟨q6, o6, e6⟩ := s1.r.addr c18.1 c18.2
                    refine atq_v rfl rfl rfl (g_index T rfl rfl rfl rfl rfl e6 c18.1 c18.2) ?_
                    refine atq_v rfl rfl rfl (g_load T rfl rfl rfl rfl (in_elem1 (k := (Fl.int .u8)) (own_of s1 (j := 2) rfl) e6 c18 0 rfl)) ?_
                    iterate 4 refine atq_s T rfl ?_
                    refine atq_end ?_
                    refine at_sub [(9, (.pointer (some ⟨b2, 0, none⟩))), (10, (.int .i64 v2)), (11, (.slice a3 (List.length v3.1) n3)), (13, (.int .i64 x7)), (14, (.int .i64 (if (w64 ((rd v3.1 v15) + (w64 (rd v1.C v15)))) < x12 then (w64 ((rd v3.1 v15) + (w64 (rd v1.C v15)))) else x12))), (15, (.int .i64 x13))] ⟨rfl, rfl, rfl, rfl, rfl, rfl, trivial⟩ ?_
                    refine at_nb ?_
                    refine at_then ?_
                    refine at_region [0, 1, 2] rfl ?_
                    iterate 3 refine at_s T rfl ?_
                    refine at_end ?_
                    refine at_sub [(9, (.pointer (some ⟨b2, 0, none⟩))), (10, (.int .i64 v2)), (11, (.slice a3 (List.length v3.1) n3)), (13, (.int .i64 x7)), (14, (.int .i64 (if (w64 ((rd v3.1 v15) + (w64 (rd v1.C v15)))) < x12 then (w64 ((rd v3.1 v15) + (w64 (rd v1.C v15)))) else x12))), (15, (.int .i64 (w64 (x13 + 1))))] ⟨rfl, rfl, rfl, rfl, rfl, rfl, trivial⟩ ?_
                    refine at_then ?_
                    exact at_roundL (k14, (if (w64 ((rd v3.1 v15) + (w64 (rd v1.C v15)))) < x12 then (w64 ((rd v3.1 v15) + (w64 (rd v1.C v15)))) else x12), (w64 (x13 + 1))) [0, 0, 0, 0] Z10 (Nat.lt_succ_self _) ⟨rfl, rfl, rfl, rfl, rfl, rfl, trivial⟩ rfl
                  · replace Z10 := if_f (bf c16) Z10
                    refine at_skip ?_
                    refine at_nb ?_
                    refine at_then ?_
                    refine at_region [0, 1, 2] rfl ?_
                    iterate 3 refine at_s T rfl ?_
                    refine at_end ?_
                    refine at_sub [(9, (.pointer (some ⟨b2, 0, none⟩))), (10, (.int .i64 v2)), (11, (.slice a3 (List.length v3.1) n3)), (13, (.int .i64 x7)), (14, (.int .i64 x12)), (15, (.int .i64 (w64 (x13 + 1))))] ⟨rfl, rfl, rfl, rfl, rfl, rfl, trivial⟩ ?_
                    refine at_then ?_
                    exact at_roundL (k14, x12, (w64 (x13 + 1))) [0, 0, 0, 0] Z10 (Nat.lt_succ_self _) ⟨rfl, rfl, rfl, rfl, rfl, rfl, trivial⟩ rfl
              · replace Z10 := if_f (of_decide_eq_false c11) Z10
                refine at_exit ?_
                refine at_xt ?_
                refine at_xt ?_
                refine at_xb ?_
                refine at_then ?_
                obtain ⟨z19, Z19, Z10⟩ := bind_e Z10
                refine at_seq_mid (σ := Int) (fun x18 => x18 = z19) (fun x18 => [(9, (.pointer (some ⟨b2, 0, none⟩))), (10, (.int .i64 v2)), (11, (.slice a3 (List.length v3.1) n3)), (13, (.int .i64 x7)), (14, (.int .i64 x18))]) (fun x18 => [F, [(b2, Obj.cells #[(.int .i64 v1.W), (.int .i64 v1.H), (.slice a1 (List.length v1.C) n1)] 25 (0, 0))], H1, H3]) ?_ ?_
                · refine at_seq ?_
                  refine at_region [0, 1, 2] rfl ?_
                  iterate 3 refine at_s T rfl ?_
                  refine at_end ?_
                  refine at_sub [(9, (.pointer (some ⟨b2, 0, none⟩))), (10, (.int .i64 v2)), (11, (.slice a3 (List.length v3.1) n3)), (13, (.int .i64 x7)), (14, (.int .i64 x12)), (85, (.bool (x7 == v2)))] ⟨rfl, rfl, rfl, rfl, rfl, rfl, trivial⟩ ?_
                  refine at_then ?_
                  refine at_cond rfl (fun c20 => ?_) (fun c20 => ?_)
                  · replace Z19 := if_t c20 Z19
                    refine at_region [0] rfl ?_
                    refine at_s T rfl ?_
                    refine at_end ?_
                    refine at_sub [(9, (.pointer (some ⟨b2, 0, none⟩))), (10, (.int .i64 v2)), (11, (.slice a3 (List.length v3.1) n3)), (13, (.int .i64 x7)), (14, (.int .i64 0))] ⟨rfl, rfl, rfl, rfl, rfl, trivial⟩ ?_
                    refine at_then ?_
                    obtain rfl := Option.some.inj Z19
                    exact at_mid 0 [0, 0, 0, 0] rfl ⟨rfl, rfl, rfl, rfl, rfl, trivial⟩ rfl
                  · replace Z19 := if_f (bf c20) Z19
                    refine at_skip ?_
                    refine at_then ?_
                    obtain rfl := Option.some.inj Z19
                    exact at_mid x12 [0, 0, 0, 0] rfl ⟨rfl, rfl, rfl, rfl, rfl, trivial⟩ rfl
                · rintro x18 rfl
                  refine at_seq ?_
                  refine at_seq ?_
                  refine at_region [0, 1, 2, 3, 4, 5] rfl ?_
                  refine at_s T rfl ?_
                  refine at_v rfl (g_load T rfl rfl rfl rfl (in_var (j := 1) rfl rfl)) ?_
                  refine at_s T rfl ?_
                  obtain ⟨c21, Z10⟩ := chk_e Z10
                  obtain ⟨q7, o7, e7⟩ := s1.r.addr c21.1 c21.2
                  refine at_v rfl (g_index T rfl rfl rfl rfl rfl e7 c21.1 c21.2) ?_
                  refine at_v rfl (g_load T rfl rfl rfl rfl (in_elem1 (k := (Fl.int .u8)) (own_of s1 (j := 2) rfl) e7 c21 0 rfl)) ?_
                  refine at_s T rfl ?_
                  refine at_end ?_
                  refine at_sub [(9, (.pointer (some ⟨b2, 0, none⟩))), (10, (.int .i64 v2)), (11, (.slice a3 (List.length v3.1) n3)), (13, (.int .i64 x7)), (14, (.int .i64 x18)), (91, (.bool ((rd v1.C x7) == 255)))] ⟨rfl, rfl, rfl, rfl, rfl, rfl, trivial⟩ ?_
                  refine at_then ?_
                  refine at_cond rfl (fun c22 => ?_) (fun c22 => ?_)
                  · replace Z10 := if_t c22 Z10
                    refine at_region [0] rfl ?_
                    refine at_s T rfl ?_
                    refine at_end ?_
                    refine at_sub [(9, (.pointer (some ⟨b2, 0, none⟩))), (10, (.int .i64 v2)), (11, (.slice a3 (List.length v3.1) n3)), (13, (.int .i64 x7)), (14, (.int .i64 1099511627776))] ⟨rfl, rfl, rfl, rfl, rfl, trivial⟩ ?_
                    refine at_then ?_
                    refine at_seq ?_
                    refine at_region [0, 1, 2, 3, 4, 5, 6] rfl ?_
                    iterate 2 refine at_s T rfl ?_
                    obtain ⟨c23, Z10⟩ := chk_e Z10
                    obtain ⟨q8, o8, e8⟩ := s3.r.addr c23.1 c23.2
                    refine at_v rfl (g_index T rfl rfl rfl rfl rfl e8 c23.1 c23.2) ?_
                    refine at_v rfl (g_load T rfl rfl rfl rfl (in_elem1 (k := (Fl.int .i64)) (own_of s3 (j := 3) rfl) e8 c23 0 rfl)) ?_
                    iterate 3 refine at_s T rfl ?_
                    refine at_end ?_
                    refine at_sub [(9, (.pointer (some ⟨b2, 0, none⟩))), (10, (.int .i64 v2)), (11, (.slice a3 (List.length v3.1) n3)), (13, (.int .i64 x7)), (98, (.bool ((rd v3.1 x7) != (if 1099511627776 < 1099511627776 then 1099511627776 else 1099511627776))))] ⟨rfl, rfl, rfl, rfl, rfl, trivial⟩ ?_
                    refine at_then ?_
                    refine at_cond rfl (fun c24 => ?_) (fun c24 => ?_)
                    · replace Z10 := if_t c24 Z10
                      refine at_seq ?_
                      refine at_region [0] rfl ?_
                      refine at_s T rfl ?_
                      refine at_end ?_
                      refine at_to [(8, (.bool false))] [0] [F] ⟨rfl, trivial⟩ rfl ?_
                      refine at_then ?_
                      refine at_ret ?_
                      refine at_rb ?_
                      refine at_rt ?_
                      refine at_rt ?_
                      refine at_rb ?_
                      refine at_rt ?_
                      obtain rfl := Option.some.inj Z10
                      obtain rfl := Option.some.inj (show some false = some r from Z7)
                      exact at_post (T := T) rfl (.tmp rfl .nil) (fun w o => ⟨(), rfl, own_to [0] rfl o⟩)
                    · replace Z10 := if_f (bf c24) Z10
                      refine at_skip ?_
                      refine at_nb ?_
                      refine at_then ?_
                      obtain rfl := Option.some.inj Z10
                      exact at_mid () [0, 0, 0, 0] rfl ⟨rfl, rfl, rfl, rfl, trivial⟩ rfl
                  · replace Z10 := if_f (bf c22) Z10
                    refine at_skip ?_
                    refine at_then ?_
                    refine at_seq ?_
                    refine at_region [0, 1, 2, 3, 4, 5, 6] rfl ?_
                    iterate 2 refine at_s T rfl ?_
                    obtain ⟨c25, Z10⟩ := chk_e Z10
                    obtain ⟨q9, o9, e9⟩ := s3.r.addr c25.1 c25.2
                    refine at_v rfl (g_index T rfl rfl rfl rfl rfl e9 c25.1 c25.2) ?_
                    refine at_v rfl (g_load T rfl rfl rfl rfl (in_elem1 (k := (Fl.int .i64)) (own_of s3 (j := 3) rfl) e9 c25 0 rfl)) ?_
                    iterate 3 refine at_s T rfl ?_
                    refine at_end ?_
                    refine at_sub [(9, (.pointer (some ⟨b2, 0, none⟩))), (10, (.int .i64 v2)), (11, (.slice a3 (List.length v3.1) n3)), (13, (.int .i64 x7)), (98, (.bool ((rd v3.1 x7) != (if 1099511627776 < x18 then 1099511627776 else x18))))] ⟨rfl, rfl, rfl, rfl, rfl, trivial⟩ ?_
                    refine at_then ?_
                    refine at_cond rfl (fun c26 => ?_) (fun c26 => ?_)
                    · replace Z10 := if_t c26 Z10
                      refine at_seq ?_
                      refine at_region [0] rfl ?_
                      refine at_s T rfl ?_
                      refine at_end ?_
                      refine at_to [(8, (.bool false))] [0] [F] ⟨rfl, trivial⟩ rfl ?_
                      refine at_then ?_
                      refine at_ret ?_
                      refine at_rb ?_
                      refine at_rt ?_
                      refine at_rt ?_
                      refine at_rb ?_
                      refine at_rt ?_
                      obtain rfl := Option.some.inj Z10
                      obtain rfl := Option.some.inj (show some false = some r from Z7)
                      exact at_post (T := T) rfl (.tmp rfl .nil) (fun w o => ⟨(), rfl, own_to [0] rfl o⟩)
                    · replace Z10 := if_f (bf c26) Z10
                      refine at_skip ?_
                      refine at_nb ?_
                      refine at_then ?_
                      obtain rfl := Option.some.inj Z10
                      exact at_mid () [0, 0, 0, 0] rfl ⟨rfl, rfl, rfl, rfl, trivial⟩ rfl
          · rintro ⟨⟩ rfl
            refine at_region [0, 1, 2] rfl ?_
            iterate 3 refine at_s T rfl ?_
            refine at_end ?_
            refine at_sub [(9, (.pointer (some ⟨b2, 0, none⟩))), (10, (.int .i64 v2)), (11, (.slice a3 (List.length v3.1) n3)), (13, (.int .i64 (w64 (x7 + 1))))] ⟨rfl, rfl, rfl, rfl, trivial⟩ ?_
            refine at_then ?_
            exact at_roundL (k8, (w64 (x7 + 1))) [0, 0, 0, 0] Z7 (Nat.lt_succ_self _) ⟨rfl, rfl, rfl, rfl, trivial⟩ rfl
        · replace Z7 := if_f (of_decide_eq_false c8) Z7
          refine at_exit ?_
          refine at_xt ?_
          refine at_xt ?_
          refine at_xb ?_
          refine at_then ?_
          refine at_seq ?_
          refine at_region [0, 1] rfl ?_
          obtain ⟨v20, V27, Z7⟩ := bind_e Z7
          refine at_cons (at_c (B := fun _ => []) [] rfl rfl rfl rfl has37 rfl rfl (law17_told.c  v20 _ V27) (fun _ => ?_))
          refine at_s T rfl ?_
          refine at_end ?_
          refine at_to [(8, (.bool v20))] [0] [F] ⟨rfl, trivial⟩ rfl ?_
          refine at_then ?_
          refine at_ret ?_
          obtain rfl := Option.some.inj Z7
          exact at_post (T := T) rfl (.tmp rfl .nil) (fun w o => ⟨(), rfl, own_to [0] rfl o⟩)
def law17_FlatFixed.Pure : Prop := ∀ (w : Int) (h : Int) (c : (List Int)) (goal : Int), inI64 w → inI64 h → (∀ y ∈ c, inU8 y) → inI64 goal → List.length c ≤ 9223372036854775807 → law17_FlatFixed.f w h c goal = some true
end Go.Proofs.Ytmjcmkimhkjdeaa
