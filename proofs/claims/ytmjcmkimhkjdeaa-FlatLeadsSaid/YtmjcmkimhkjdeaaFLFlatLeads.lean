import Derived.Test.YtmjcmkimhkjdeaaT
import Derived.Test.YtmjcmkimhkjdeaaFflat
import Derived.Test.YtmjcmkimhkjdeaaFlaw17
import Derived.Test.YtmjcmkimhkjdeaaFref1
namespace Go.Proofs.Ytmjcmkimhkjdeaa
open Go.Hx
set_option maxRecDepth 100000
set_option linter.unusedVariables false
/-! ### herdsman/herdsmanlaw17.FlatLeads: function 10 -/
def law17_FlatLeads.l1 : Nat → api_Map → ((List Int) × Int) → ((List Int) × Int) → Int → Int → Option (Sum Bool Unit)
  | 0, _, _, _, _, _ => none
  | k15 + 1, v1, v3, v4, x8, x14 => (if x14 ≤ 3 then (if (0 ≤ x8 ∧ x8 < (List.length v4.1 : Int)) then (some (decide (x14 ≤ (rd v4.1 x8)))) else none) else (some false)).bind fun x16 => if x16 = true then ((ref1_Step.f v1.W v1.H x8 x14).bind fun v18 => (if v18 ≥ 0 then (if (0 ≤ v18 ∧ v18 < (List.length v1.C : Int)) then (if ((rd v1.C v18) != 255) = true then (if (0 ≤ v18 ∧ v18 < (List.length v3.1 : Int)) then (if (0 ≤ x8 ∧ x8 < (List.length v3.1 : Int)) then (some ((w64 ((rd v3.1 v18) + (w64 (rd v1.C v18)))) == (rd v3.1 x8))) else none) else none) else (some false)) else none) else (some false)).bind fun x19 => (if (0 ≤ x8 ∧ x8 < (List.length v4.1 : Int)) then (if (!(x19 == (x14 == (rd v4.1 x8)))) = true then (some (decide ((rd v4.1 x8) ≤ 3))) else (some false)) else none).bind fun x21 => if x21 = true then (some (Sum.inl false)) else (law17_FlatLeads.l1 k15 v1 v3 v4 x8 (w64 (x14 + 1)))) else (some (Sum.inr ()))
def law17_FlatLeads.l0 : Nat → api_Map → ((List Int) × Int) → ((List Int) × Int) → Int → Option Bool
  | 0, _, _, _, _ => none
  | k9 + 1, v1, v3, v4, x8 => if x8 < (List.length v3.1 : Int) then (((if (0 ≤ x8 ∧ x8 < (List.length v4.1 : Int)) then (if (0 ≤ x8 ∧ x8 < (List.length v3.1 : Int)) then (if (!(((rd v4.1 x8) == 5) == ((rd v3.1 x8) == 1099511627776))) = true then (some true) else (if (!(((rd v4.1 x8) == 4) == ((rd v3.1 x8) == 0))) = true then (some true) else (if (rd v4.1 x8) < 0 then (some true) else (some (decide ((rd v4.1 x8) > 5)))))) else none) else none).bind fun x11 => if x11 = true then (some (Sum.inl false)) else (law17_FlatLeads.l1 fuel v1 v3 v4 x8 0)).bind fun zz => match zz with | Sum.inl q => some q | Sum.inr _ => law17_FlatLeads.l0 k9 v1 v3 v4 (w64 (x8 + 1))) else ((law17_told.f).bind fun v23 => some v23)
def law17_FlatLeads.f (w : Int) (h : Int) (c : (List Int)) (goal : Int) : Option Bool := (ref1_Made.f w h c).bind fun v1 => (ref1_Within.f goal 0 (w64 ((List.length v1.C : Int) - 1))).bind fun v2 => (flat_Dist.f v1 v2).bind fun v3 => (flat_Dirs.f v1 v2).bind fun v4 => (if ((v3.2 != 0) || (v4.2 != 0)) = true then (some true) else (if ((List.length v3.1 : Int) != (List.length v1.C : Int)) = true then (some true) else (some ((List.length v4.1 : Int) != (List.length v1.C : Int))))).bind fun x5 => if x5 = true then (some false) else (law17_FlatLeads.l0 fuel v1 v3 v4 0)
set_option maxHeartbeats 4000000 in
theorem law17_FlatLeads.c {a_c : Option Addr} {n_c : Nat} (w : Int) (h : Int) (c : (List Int)) (goal : Int) (r : Bool) (F : Hp) (H : law17_FlatLeads.f w h c goal = some r) (h_c : SliceR (Fl.int .u8) c a_c F) (c_c : List.length c ≤ n_c) :
    CallsL Try.prog 10 [(.int .i64 w), (.int .i64 h), (.slice a_c (List.length c) n_c), (.int .i64 goal)] [F] (fun _ : Unit => (.bool r)) (fun _ => [F]) := by
  unfold law17_FlatLeads.f at H
  refine calls_atL [(0, (.int .i64 w)), (1, (.int .i64 h)), (2, (.slice a_c (List.length c) n_c)), (3, (.int .i64 goal))] Try.func10 rfl rfl ⟨rfl, rfl, rfl, rfl, trivial⟩ (fun W => ?_)
  refine at_seq ?_
  refine at_region [0] rfl ?_
  refine at_s T rfl ?_
  refine at_end ?_
  refine at_sub [(0, (.int .i64 w)), (1, (.int .i64 h)), (2, (.slice a_c (List.length c) n_c)), (3, (.int .i64 goal))] ⟨rfl, rfl, rfl, rfl, trivial⟩ ?_
  refine at_then ?_
  refine at_seq ?_
  refine at_region [0, 1, 2, 3, 4, 5] rfl ?_
  iterate 3 refine at_s T rfl ?_
  obtain ⟨v1, V1, H⟩ := bind_e H
  refine at_cons (at_cR (ref1_Made.R v1) [] [] rfl rfl rfl rfl has14 rfl rfl (ref1_Made.c w h c v1 _ V1 (ro_of h_c (j := 0) rfl) c_c) ?_)
  rintro _ _ ⟨a1, n1, H1, s1, rfl, rfl⟩
  refine at_cons (at_al T [(.int .i64 0), (.int .i64 0), (.slice none 0 0)] rfl rfl rfl rfl (fun b2 => ?_))
  refine at_cons (at_st T 2 [(.int .i64 v1.W), (.int .i64 v1.H), (.slice a1 (List.length v1.C) n1)] rfl rfl rfl rfl rfl rfl rfl rfl rfl rfl ?_)
  refine at_end ?_
  refine at_sub [(3, (.int .i64 goal)), (9, (.pointer (some ⟨b2, 0, none⟩)))] ⟨rfl, rfl, trivial⟩ ?_
  refine at_then ?_
  refine at_seq ?_
  refine at_region [0, 1, 2, 3, 4, 5, 6] rfl ?_
  iterate 2 refine at_s T rfl ?_
  refine at_v rfl (g_load T rfl rfl rfl rfl (in_var (j := 2) rfl rfl)) ?_
  iterate 2 refine at_s T rfl ?_
  obtain ⟨v2, V2, H⟩ := bind_e H
  refine at_cons (at_c (B := fun _ => []) [] rfl rfl rfl rfl has17 rfl rfl (ref1_Within.c goal 0 (w64 ((List.length v1.C : Int) - 1)) v2 _ V2) (fun _ => ?_))
  refine at_s T rfl ?_
  refine at_end ?_
  refine at_sub [(9, (.pointer (some ⟨b2, 0, none⟩))), (10, (.int .i64 v2))] ⟨rfl, rfl, trivial⟩ ?_
  refine at_then ?_
  refine at_seq ?_
  refine at_region [0, 1, 2, 3, 4, 5, 6, 7] rfl ?_
  refine at_v rfl (g_loadA T (cs := [(.int .i64 v1.W), (.int .i64 v1.H), (.slice a1 (List.length v1.C) n1)]) rfl rfl rfl rfl rfl rfl (in_varA (j := 2) rfl rfl)) ?_
  refine at_s T rfl ?_
  obtain ⟨v3, V3, H⟩ := bind_e H
  refine at_cons (at_cR (flat_Dist.R v3) [] [] rfl rfl rfl rfl has35 rfl rfl (flat_Dist.c v1 v2 v3 _ V3 (own_of s1 (j := 1) rfl) s1.cap_le) ?_)
  rintro _ _ ⟨a3, n3, H3, s3, rfl, rfl⟩
  iterate 5 refine at_s T rfl ?_
  refine at_end ?_
  refine at_sub [(9, (.pointer (some ⟨b2, 0, none⟩))), (10, (.int .i64 v2)), (11, (.slice a3 (List.length v3.1) n3)), (12, (.int .i64 v3.2))] ⟨rfl, rfl, rfl, rfl, trivial⟩ ?_
  refine at_then ?_
  refine at_seq ?_
  refine at_region [0, 1, 2, 3, 4, 5, 6, 7] rfl ?_
  refine at_v rfl (g_loadA T (cs := [(.int .i64 v1.W), (.int .i64 v1.H), (.slice a1 (List.length v1.C) n1)]) rfl rfl rfl rfl rfl rfl (in_varA (j := 2) rfl rfl)) ?_
  refine at_s T rfl ?_
  obtain ⟨v4, V4, H⟩ := bind_e H
  refine at_cons (at_cR (flat_Dirs.R v4) [] [] rfl rfl rfl rfl has38 rfl rfl (flat_Dirs.c v1 v2 v4 _ V4 (own_of s1 (j := 1) rfl) s1.cap_le) ?_)
  rintro _ _ ⟨a4, n4, H4, s4, rfl, rfl⟩
  iterate 5 refine at_s T rfl ?_
  refine at_end ?_
  refine at_sub [(9, (.pointer (some ⟨b2, 0, none⟩))), (11, (.slice a3 (List.length v3.1) n3)), (12, (.int .i64 v3.2)), (13, (.slice a4 (List.length v4.1) n4)), (14, (.int .i64 v4.2))] ⟨rfl, rfl, rfl, rfl, rfl, trivial⟩ ?_
  refine at_then ?_
  refine at_seq ?_
  obtain ⟨z6, Z5, H⟩ := bind_e H
  refine at_seq_mid (σ := Bool) (fun x5 => x5 = z6) (fun x5 => [(9, (.pointer (some ⟨b2, 0, none⟩))), (11, (.slice a3 (List.length v3.1) n3)), (13, (.slice a4 (List.length v4.1) n4)), (62, (.bool x5))]) (fun x5 => [F, [(b2, Obj.cells #[(.int .i64 v1.W), (.int .i64 v1.H), (.slice a1 (List.length v1.C) n1)] 25 (0, 0))], H1, H3, H4]) ?_ ?_
  · refine at_region [0, 1, 2, 3, 4, 5, 6, 7, 8, 9, 10, 11, 12, 13, 14, 15, 16, 17, 18, 19, 20, 21] rfl ?_
    iterate 3 refine at_s T rfl ?_
    refine at_grp T [3, 4, 5] (s := 43) (c := (v3.2 != 0)) [(9, (.pointer (some ⟨b2, 0, none⟩))), (11, (.slice a3 (List.length v3.1) n3)), (13, (.slice a4 (List.length v4.1) n4)), (46, (.bool ((v3.2 != 0) || (v4.2 != 0))))] rfl rfl rfl (fun c6 => ⟨rfl, rfl, rfl, (by rw [c6]; rfl), trivial⟩) (fun c6 => ⟨rfl, rfl, rfl, (by rw [c6]; rfl), trivial⟩) ?_
    refine at_s T rfl ?_
    refine at_case (s := 47) rfl (fun c7 => ?_) (fun c7 => ?_)
    · replace Z5 := if_t c7 Z5
      iterate 15 refine at_s T rfl ?_
      refine at_end ?_
      refine at_sub [(9, (.pointer (some ⟨b2, 0, none⟩))), (11, (.slice a3 (List.length v3.1) n3)), (13, (.slice a4 (List.length v4.1) n4)), (62, (.bool true))] ⟨rfl, rfl, rfl, rfl, trivial⟩ ?_
      refine at_then ?_
      obtain rfl := Option.some.inj Z5
      exact at_mid true [0, 1, 0, 0, 0] rfl ⟨rfl, rfl, rfl, rfl, trivial⟩ rfl
    · replace Z5 := if_f (bf c7) Z5
      iterate 3 refine at_s T rfl ?_
      refine at_v rfl (g_load T rfl rfl rfl rfl (in_var (j := 2) rfl rfl)) ?_
      iterate 4 refine at_s T rfl ?_
      refine at_case (s := 55) rfl (fun c8 => ?_) (fun c8 => ?_)
      · replace Z5 := if_t c8 Z5
        iterate 7 refine at_s T rfl ?_
        refine at_end ?_
        refine at_sub [(9, (.pointer (some ⟨b2, 0, none⟩))), (11, (.slice a3 (List.length v3.1) n3)), (13, (.slice a4 (List.length v4.1) n4)), (62, (.bool true))] ⟨rfl, rfl, rfl, rfl, trivial⟩ ?_
        refine at_then ?_
        obtain rfl := Option.some.inj Z5
        exact at_mid true [0, 1, 0, 0, 0] rfl ⟨rfl, rfl, rfl, rfl, trivial⟩ rfl
      · replace Z5 := if_f (bf c8) Z5
        iterate 3 refine at_s T rfl ?_
        refine at_v rfl (g_load T rfl rfl rfl rfl (in_var (j := 2) rfl rfl)) ?_
        iterate 3 refine at_s T rfl ?_
        refine at_end ?_
        refine at_sub [(9, (.pointer (some ⟨b2, 0, none⟩))), (11, (.slice a3 (List.length v3.1) n3)), (13, (.slice a4 (List.length v4.1) n4)), (62, (.bool ((List.length v4.1 : Int) != (List.length v1.C : Int))))] ⟨rfl, rfl, rfl, rfl, trivial⟩ ?_
        refine at_then ?_
        obtain rfl := Option.some.inj Z5
        exact at_mid ((List.length v4.1 : Int) != (List.length v1.C : Int)) [0, 1, 0, 0, 0] rfl ⟨rfl, rfl, rfl, rfl, trivial⟩ rfl
  · rintro x5 rfl
    refine at_cond rfl (fun c9 => ?_) (fun c9 => ?_)
    · replace H := if_t c9 H
      refine at_seq ?_
      refine at_region [0] rfl ?_
      refine at_s T rfl ?_
      refine at_end ?_
      refine at_to [(8, (.bool false))] [0] [F] ⟨rfl, trivial⟩ rfl ?_
      refine at_then ?_
      refine at_ret ?_
      refine at_rt ?_
      obtain rfl := Option.some.inj H
      exact at_post (T := T) rfl (.tmp rfl .nil) (fun w o => ⟨(), rfl, own_to [0] rfl o⟩)
    · replace H := if_f (bf c9) H
      refine at_skip ?_
      refine at_then ?_
      refine at_seq ?_
      refine at_seq ?_
      refine at_region [0] rfl ?_
      refine at_s T rfl ?_
      refine at_end ?_
      refine at_sub [(9, (.pointer (some ⟨b2, 0, none⟩))), (11, (.slice a3 (List.length v3.1) n3)), (13, (.slice a4 (List.length v4.1) n4)), (15, (.int .i64 0))] ⟨rfl, rfl, rfl, rfl, trivial⟩ ?_
      refine at_then ?_
      refine at_block ?_
      refine at_loopL (σ := Nat × Int) (fun ⟨k9, x8⟩ => law17_FlatLeads.l0 k9 v1 v3 v4 x8 = some r) (fun ⟨k9, x8⟩ => [(9, (.pointer (some ⟨b2, 0, none⟩))), (11, (.slice a3 (List.length v3.1) n3)), (13, (.slice a4 (List.length v4.1) n4)), (15, (.int .i64 x8))]) (fun ⟨k9, x8⟩ => [F, [(b2, Obj.cells #[(.int .i64 v1.W), (.int .i64 v1.H), (.slice a1 (List.length v1.C) n1)] 25 (0, 0))], H1, H3, H4]) (fun s => s.1) (fuel, 0) [0, 0, 0, 0, 0] H ⟨rfl, rfl, rfl, rfl, trivial⟩ rfl ?_
      rintro ⟨k9, x8⟩ Z10
      replace Z10 : law17_FlatLeads.l0 k9 v1 v3 v4 x8 = some r := Z10
      rcases k9 with _ | k9
      · rw [law17_FlatLeads.l0] at Z10; cases Z10
      · rw [law17_FlatLeads.l0] at Z10
        refine at_seq ?_
        refine at_seq ?_
        refine at_region [0, 1, 2, 3] rfl ?_
        iterate 4 refine at_s T rfl ?_
        refine at_end ?_
        refine at_sub [(9, (.pointer (some ⟨b2, 0, none⟩))), (11, (.slice a3 (List.length v3.1) n3)), (13, (.slice a4 (List.length v4.1) n4)), (15, (.int .i64 x8)), (66, (.bool (decide (x8 < (List.length v3.1 : Int)))))] ⟨rfl, rfl, rfl, rfl, rfl, trivial⟩ ?_
        refine at_then ?_
        refine at_cond rfl (fun c11 => ?_) (fun c11 => ?_)
        · replace Z10 := if_t (of_decide_eq_true c11) Z10
          refine at_skip ?_
          refine at_then ?_
          obtain ⟨z10, Z12, Z10⟩ := bind_e Z10
          refine at_seq_mid (σ := Unit) (fun ⟨⟩ => (Sum.inr ()) = z10) (fun ⟨⟩ => [(9, (.pointer (some ⟨b2, 0, none⟩))), (11, (.slice a3 (List.length v3.1) n3)), (13, (.slice a4 (List.length v4.1) n4)), (15, (.int .i64 x8))]) (fun ⟨⟩ => [F, [(b2, Obj.cells #[(.int .i64 v1.W), (.int .i64 v1.H), (.slice a1 (List.length v1.C) n1)] 25 (0, 0))], H1, H3, H4]) ?_ ?_
          · refine at_block ?_
            refine at_seq ?_
            obtain ⟨z12, Z13, Z12⟩ := bind_e Z12
            refine at_seq_mid (σ := Bool) (fun x11 => x11 = z12) (fun x11 => [(9, (.pointer (some ⟨b2, 0, none⟩))), (11, (.slice a3 (List.length v3.1) n3)), (13, (.slice a4 (List.length v4.1) n4)), (15, (.int .i64 x8)), (106, (.bool x11))]) (fun x11 => [F, [(b2, Obj.cells #[(.int .i64 v1.W), (.int .i64 v1.H), (.slice a1 (List.length v1.C) n1)] 25 (0, 0))], H1, H3, H4]) ?_ ?_
            · refine at_region_q mix (by kernel_rfl) ?_
              iterate 2 refine atq_s T rfl ?_
              obtain ⟨c14, Z13⟩ := chk_e Z13
              obtain ⟨q5, o5, e5⟩ := s4.r.addr c14.1 c14.2
              refine atq_v rfl rfl rfl (g_index T rfl rfl rfl rfl rfl e5 c14.1 c14.2) ?_
              refine atq_v rfl rfl rfl (g_load T rfl rfl rfl rfl (in_elem1 (k := (Fl.int .i64)) (own_of s4 (j := 4) rfl) e5 c14 0 rfl)) ?_
              iterate 3 refine atq_s T rfl ?_
              obtain ⟨c15, Z13⟩ := chk_e Z13
              obtain ⟨q6, o6, e6⟩ := s3.r.addr c15.1 c15.2
              refine atq_v rfl rfl rfl (g_index T rfl rfl rfl rfl rfl e6 c15.1 c15.2) ?_
              refine atq_v rfl rfl rfl (g_load T rfl rfl rfl rfl (in_elem1 (k := (Fl.int .i64)) (own_of s3 (j := 3) rfl) e6 c15 0 rfl)) ?_
              iterate 3 refine atq_s T rfl ?_
              refine atq_case (s := 80) rfl (fun c16 => ?_) (fun c16 => ?_)
              · replace Z13 := if_t c16 Z13
                iterate 26 refine atq_s T rfl ?_
                refine atq_end ?_
                refine at_sub [(9, (.pointer (some ⟨b2, 0, none⟩))), (11, (.slice a3 (List.length v3.1) n3)), (13, (.slice a4 (List.length v4.1) n4)), (15, (.int .i64 x8)), (106, (.bool true))] ⟨rfl, rfl, rfl, rfl, rfl, trivial⟩ ?_
                refine at_then ?_
                obtain rfl := Option.some.inj Z13
                exact at_mid true [0, 0, 0, 0, 0] rfl ⟨rfl, rfl, rfl, rfl, rfl, trivial⟩ rfl
              · replace Z13 := if_f (bf c16) Z13
                iterate 2 refine atq_s T rfl ?_
                refine atq_v rfl rfl rfl (g_index T rfl rfl rfl rfl rfl e5 c14.1 c14.2) ?_
                refine atq_v rfl rfl rfl (g_load T rfl rfl rfl rfl (in_elem1 (k := (Fl.int .i64)) (own_of s4 (j := 4) rfl) e5 c14 0 rfl)) ?_
                iterate 3 refine atq_s T rfl ?_
                refine atq_v rfl rfl rfl (g_index T rfl rfl rfl rfl rfl e6 c15.1 c15.2) ?_
                refine atq_v rfl rfl rfl (g_load T rfl rfl rfl rfl (in_elem1 (k := (Fl.int .i64)) (own_of s3 (j := 3) rfl) e6 c15 0 rfl)) ?_
                iterate 4 refine atq_s T rfl ?_
                refine atq_case (s := 93) rfl (fun c17 => ?_) (fun c17 => ?_)
                · replace Z13 := if_t c17 Z13
                  iterate 13 refine atq_s T rfl ?_
                  refine atq_end ?_
                  refine at_sub [(9, (.pointer (some ⟨b2, 0, none⟩))), (11, (.slice a3 (List.length v3.1) n3)), (13, (.slice a4 (List.length v4.1) n4)), (15, (.int .i64 x8)), (106, (.bool true))] ⟨rfl, rfl, rfl, rfl, rfl, trivial⟩ ?_
                  refine at_then ?_
                  obtain rfl := Option.some.inj Z13
                  exact at_mid true [0, 0, 0, 0, 0] rfl ⟨rfl, rfl, rfl, rfl, rfl, trivial⟩ rfl
                · replace Z13 := if_f (bf c17) Z13
                  iterate 2 refine atq_s T rfl ?_
                  refine atq_v rfl rfl rfl (g_index T rfl rfl rfl rfl rfl e5 c14.1 c14.2) ?_
                  refine atq_v rfl rfl rfl (g_load T rfl rfl rfl rfl (in_elem1 (k := (Fl.int .i64)) (own_of s4 (j := 4) rfl) e5 c14 0 rfl)) ?_
                  iterate 3 refine atq_s T rfl ?_
                  refine atq_case (s := 100) rfl (fun c18 => ?_) (fun c18 => ?_)
                  · replace Z13 := if_t (of_decide_eq_true c18) Z13
                    iterate 6 refine atq_s T rfl ?_
                    refine atq_end ?_
                    refine at_sub [(9, (.pointer (some ⟨b2, 0, none⟩))), (11, (.slice a3 (List.length v3.1) n3)), (13, (.slice a4 (List.length v4.1) n4)), (15, (.int .i64 x8)), (106, (.bool true))] ⟨rfl, rfl, rfl, rfl, rfl, trivial⟩ ?_
                    refine at_then ?_
                    obtain rfl := Option.some.inj Z13
                    exact at_mid true [0, 0, 0, 0, 0] rfl ⟨rfl, rfl, rfl, rfl, rfl, trivial⟩ rfl
                  · replace Z13 := if_f (of_decide_eq_false c18) Z13
                    iterate 2 refine atq_s T rfl ?_
                    refine atq_v rfl rfl rfl (g_index T rfl rfl rfl rfl rfl e5 c14.1 c14.2) ?_
                    refine atq_v rfl rfl rfl (g_load T rfl rfl rfl rfl (in_elem1 (k := (Fl.int .i64)) (own_of s4 (j := 4) rfl) e5 c14 0 rfl)) ?_
                    iterate 2 refine atq_s T rfl ?_
                    refine atq_end ?_
                    refine at_sub [(9, (.pointer (some ⟨b2, 0, none⟩))), (11, (.slice a3 (List.length v3.1) n3)), (13, (.slice a4 (List.length v4.1) n4)), (15, (.int .i64 x8)), (106, (.bool (decide ((rd v4.1 x8) > 5))))] ⟨rfl, rfl, rfl, rfl, rfl, trivial⟩ ?_
                    refine at_then ?_
                    obtain rfl := Option.some.inj Z13
                    exact at_mid (decide ((rd v4.1 x8) > 5)) [0, 0, 0, 0, 0] rfl ⟨rfl, rfl, rfl, rfl, rfl, trivial⟩ rfl
            · rintro x11 rfl
              refine at_cond rfl (fun c19 => ?_) (fun c19 => ?_)
              · replace Z12 := if_t c19 Z12
                refine at_seq ?_
                refine at_region [0] rfl ?_
                refine at_s T rfl ?_
                refine at_end ?_
                refine at_to [(8, (.bool false))] [0] [F] ⟨rfl, trivial⟩ rfl ?_
                refine at_then ?_
                refine at_ret ?_
                refine at_rt ?_
                refine at_rb ?_
                refine at_rt ?_
                refine at_rt ?_
                refine at_rb ?_
                refine at_rt ?_
                obtain rfl := Option.some.inj Z12
                obtain rfl := Option.some.inj (show some false = some r from Z10)
                exact at_post (T := T) rfl (.tmp rfl .nil) (fun w o => ⟨(), rfl, own_to [0] rfl o⟩)
              · replace Z12 := if_f (bf c19) Z12
                refine at_skip ?_
                refine at_then ?_
                refine at_seq ?_
                refine at_region [0] rfl ?_
                refine at_s T rfl ?_
                refine at_end ?_
                refine at_sub [(9, (.pointer (some ⟨b2, 0, none⟩))), (11, (.slice a3 (List.length v3.1) n3)), (13, (.slice a4 (List.length v4.1) n4)), (15, (.int .i64 x8)), (16, (.int .i64 0))] ⟨rfl, rfl, rfl, rfl, rfl, trivial⟩ ?_
                refine at_then ?_
                refine at_block ?_
                refine at_loopL (σ := Nat × Int) (fun ⟨k15, x14⟩ => law17_FlatLeads.l1 k15 v1 v3 v4 x8 x14 = some z10) (fun ⟨k15, x14⟩ => [(9, (.pointer (some ⟨b2, 0, none⟩))), (11, (.slice a3 (List.length v3.1) n3)), (13, (.slice a4 (List.length v4.1) n4)), (15, (.int .i64 x8)), (16, (.int .i64 x14))]) (fun ⟨k15, x14⟩ => [F, [(b2, Obj.cells #[(.int .i64 v1.W), (.int .i64 v1.H), (.slice a1 (List.length v1.C) n1)] 25 (0, 0))], H1, H3, H4]) (fun s => s.1) (fuel, 0) [0, 0, 0, 0, 0] Z12 ⟨rfl, rfl, rfl, rfl, rfl, trivial⟩ rfl ?_
                rintro ⟨k15, x14⟩ Z20
                replace Z20 : law17_FlatLeads.l1 k15 v1 v3 v4 x8 x14 = some z10 := Z20
                rcases k15 with _ | k15
                · rw [law17_FlatLeads.l1] at Z20; cases Z20
                · rw [law17_FlatLeads.l1] at Z20
                  refine at_seq ?_
                  obtain ⟨z17, Z21, Z20⟩ := bind_e Z20
                  refine at_seq_mid (σ := Bool) (fun x16 => x16 = z17) (fun x16 => [(9, (.pointer (some ⟨b2, 0, none⟩))), (11, (.slice a3 (List.length v3.1) n3)), (13, (.slice a4 (List.length v4.1) n4)), (15, (.int .i64 x8)), (16, (.int .i64 x14)), (116, (.bool x16))]) (fun x16 => [F, [(b2, Obj.cells #[(.int .i64 v1.W), (.int .i64 v1.H), (.slice a1 (List.length v1.C) n1)] 25 (0, 0))], H1, H3, H4]) ?_ ?_
                  · refine at_region [0, 1, 2, 3, 4, 5, 6, 7, 8, 9] rfl ?_
                    iterate 3 refine at_s T rfl ?_
                    refine at_case (s := 109) rfl (fun c22 => ?_) (fun c22 => ?_)
                    · replace Z21 := if_t (of_decide_eq_true c22) Z21
                      iterate 3 refine at_s T rfl ?_
                      obtain ⟨c23, Z21⟩ := chk_e Z21
                      obtain ⟨q7, o7, e7⟩ := s4.r.addr c23.1 c23.2
                      refine at_v rfl (g_index T rfl rfl rfl rfl rfl e7 c23.1 c23.2) ?_
                      refine at_v rfl (g_load T rfl rfl rfl rfl (in_elem1 (k := (Fl.int .i64)) (own_of s4 (j := 4) rfl) e7 c23 0 rfl)) ?_
                      iterate 2 refine at_s T rfl ?_
                      refine at_end ?_
                      refine at_sub [(9, (.pointer (some ⟨b2, 0, none⟩))), (11, (.slice a3 (List.length v3.1) n3)), (13, (.slice a4 (List.length v4.1) n4)), (15, (.int .i64 x8)), (16, (.int .i64 x14)), (116, (.bool (decide (x14 ≤ (rd v4.1 x8)))))] ⟨rfl, rfl, rfl, rfl, rfl, rfl, trivial⟩ ?_
                      refine at_then ?_
                      obtain rfl := Option.some.inj Z21
                      exact at_mid (decide (x14 ≤ (rd v4.1 x8))) [0, 0, 0, 0, 0] rfl ⟨rfl, rfl, rfl, rfl, rfl, rfl, trivial⟩ rfl
                    · replace Z21 := if_f (of_decide_eq_false c22) Z21
                      iterate 7 refine at_s T rfl ?_
                      refine at_end ?_
                      refine at_sub [(9, (.pointer (some ⟨b2, 0, none⟩))), (11, (.slice a3 (List.length v3.1) n3)), (13, (.slice a4 (List.length v4.1) n4)), (15, (.int .i64 x8)), (16, (.int .i64 x14)), (116, (.bool false))] ⟨rfl, rfl, rfl, rfl, rfl, rfl, trivial⟩ ?_
                      refine at_then ?_
                      obtain rfl := Option.some.inj Z21
                      exact at_mid false [0, 0, 0, 0, 0] rfl ⟨rfl, rfl, rfl, rfl, rfl, rfl, trivial⟩ rfl
                  · rintro x16 rfl
                    refine at_cond rfl (fun c24 => ?_) (fun c24 => ?_)
                    · replace Z20 := if_t c24 Z20
                      refine at_skip ?_
                      refine at_then ?_
                      refine at_seq ?_
                      refine at_block ?_
                      refine at_seq ?_
                      refine at_region [0, 1, 2, 3, 4, 5, 6, 7] rfl ?_
                      refine at_s T rfl ?_
                      refine at_v rfl (g_load T rfl rfl rfl rfl (in_var (j := 1) rfl rfl)) ?_
                      refine at_s T rfl ?_
                      refine at_v rfl (g_load T rfl rfl rfl rfl (in_var (j := 1) rfl rfl)) ?_
                      iterate 2 refine at_s T rfl ?_
                      obtain ⟨v18, V25, Z20⟩ := bind_e Z20
                      refine at_cons (at_c (B := fun _ => []) [] rfl rfl rfl rfl has36 rfl rfl (ref1_Step.c v1.W v1.H x8 x14 v18 _ V25) (fun _ => ?_))
                      refine at_s T rfl ?_
                      refine at_end ?_
                      refine at_sub [(9, (.pointer (some ⟨b2, 0, none⟩))), (11, (.slice a3 (List.length v3.1) n3)), (13, (.slice a4 (List.length v4.1) n4)), (15, (.int .i64 x8)), (16, (.int .i64 x14)), (17, (.int .i64 v18))] ⟨rfl, rfl, rfl, rfl, rfl, rfl, trivial⟩ ?_
                      refine at_then ?_
                      obtain ⟨z20, Z26, Z20⟩ := bind_e Z20
                      refine at_seq_mid (σ := Bool) (fun x19 => x19 = z20) (fun x19 => [(9, (.pointer (some ⟨b2, 0, none⟩))), (11, (.slice a3 (List.length v3.1) n3)), (13, (.slice a4 (List.length v4.1) n4)), (15, (.int .i64 x8)), (16, (.int .i64 x14)), (18, (.bool x19))]) (fun x19 => [F, [(b2, Obj.cells #[(.int .i64 v1.W), (.int .i64 v1.H), (.slice a1 (List.length v1.C) n1)] 25 (0, 0))], H1, H3, H4]) ?_ ?_
                      · refine at_region_q mix (by kernel_rfl) ?_
                        iterate 3 refine atq_s T rfl ?_
                        refine atq_case (s := 128) rfl (fun c27 => ?_) (fun c27 => ?_)
                        · replace Z26 := if_t (of_decide_eq_true c27) Z26
                          refine atq_s T rfl ?_
                          refine atq_v rfl rfl rfl (g_load T rfl rfl rfl rfl (in_var (j := 1) rfl rfl)) ?_
                          refine atq_s T rfl ?_
                          obtain ⟨c28, Z26⟩ := chk_e Z26
                          obtain ⟨q8, o8, e8⟩ := s1.r.addr c28.1 c28.2
                          refine atq_v rfl rfl rfl (g_index T rfl rfl rfl rfl rfl e8 c28.1 c28.2) ?_
                          refine atq_v rfl rfl rfl (g_load T rfl rfl rfl rfl (in_elem1 (k := (Fl.int .u8)) (own_of s1 (j := 2) rfl) e8 c28 0 rfl)) ?_
                          iterate 3 refine atq_s T rfl ?_
                          refine atq_case (s := 136) rfl (fun c29 => ?_) (fun c29 => ?_)
                          · replace Z26 := if_t c29 Z26
                            iterate 2 refine atq_s T rfl ?_
                            obtain ⟨c30, Z26⟩ := chk_e Z26
                            obtain ⟨q9, o9, e9⟩ := s3.r.addr c30.1 c30.2
                            refine atq_v rfl rfl rfl (g_index T rfl rfl rfl rfl rfl e9 c30.1 c30.2) ?_
                            refine atq_v rfl rfl rfl (g_load T rfl rfl rfl rfl (in_elem1 (k := (Fl.int .i64)) (own_of s3 (j := 3) rfl) e9 c30 0 rfl)) ?_
                            refine atq_s T rfl ?_
                            refine atq_v rfl rfl rfl (g_load T rfl rfl rfl rfl (in_var (j := 1) rfl rfl)) ?_
                            refine atq_s T rfl ?_
                            refine atq_v rfl rfl rfl (g_index T rfl rfl rfl rfl rfl e8 c28.1 c28.2) ?_
                            refine atq_v rfl rfl rfl (g_load T rfl rfl rfl rfl (in_elem1 (k := (Fl.int .u8)) (own_of s1 (j := 2) rfl) e8 c28 0 rfl)) ?_
                            iterate 4 refine atq_s T rfl ?_
                            obtain ⟨c31, Z26⟩ := chk_e Z26
                            refine atq_v rfl rfl rfl (g_index T rfl rfl rfl rfl rfl e9 c31.1 c31.2) ?_
                            refine atq_v rfl rfl rfl (g_load T rfl rfl rfl rfl (in_elem1 (k := (Fl.int .i64)) (own_of s3 (j := 3) rfl) e9 c31 0 rfl)) ?_
                            iterate 3 refine atq_s T rfl ?_
                            refine atq_end ?_
                            refine at_sub [(9, (.pointer (some ⟨b2, 0, none⟩))), (11, (.slice a3 (List.length v3.1) n3)), (13, (.slice a4 (List.length v4.1) n4)), (15, (.int .i64 x8)), (16, (.int .i64 x14)), (18, (.bool ((w64 ((rd v3.1 v18) + (w64 (rd v1.C v18)))) == (rd v3.1 x8))))] ⟨rfl, rfl, rfl, rfl, rfl, rfl, trivial⟩ ?_
                            refine at_then ?_
                            obtain rfl := Option.some.inj Z26
                            exact at_mid ((w64 ((rd v3.1 v18) + (w64 (rd v1.C v18)))) == (rd v3.1 x8)) [0, 0, 0, 0, 0] rfl ⟨rfl, rfl, rfl, rfl, rfl, rfl, trivial⟩ rfl
                          · replace Z26 := if_f (bf c29) Z26
                            iterate 18 refine atq_s T rfl ?_
                            refine atq_end ?_
                            refine at_sub [(9, (.pointer (some ⟨b2, 0, none⟩))), (11, (.slice a3 (List.length v3.1) n3)), (13, (.slice a4 (List.length v4.1) n4)), (15, (.int .i64 x8)), (16, (.int .i64 x14)), (18, (.bool false))] ⟨rfl, rfl, rfl, rfl, rfl, rfl, trivial⟩ ?_
                            refine at_then ?_
                            obtain rfl := Option.some.inj Z26
                            exact at_mid false [0, 0, 0, 0, 0] rfl ⟨rfl, rfl, rfl, rfl, rfl, rfl, trivial⟩ rfl
                        · replace Z26 := if_f (of_decide_eq_false c27) Z26
                          iterate 26 refine atq_s T rfl ?_
                          refine atq_end ?_
                          refine at_sub [(9, (.pointer (some ⟨b2, 0, none⟩))), (11, (.slice a3 (List.length v3.1) n3)), (13, (.slice a4 (List.length v4.1) n4)), (15, (.int .i64 x8)), (16, (.int .i64 x14)), (18, (.bool false))] ⟨rfl, rfl, rfl, rfl, rfl, rfl, trivial⟩ ?_
                          refine at_then ?_
                          obtain rfl := Option.some.inj Z26
                          exact at_mid false [0, 0, 0, 0, 0] rfl ⟨rfl, rfl, rfl, rfl, rfl, rfl, trivial⟩ rfl
                      · rintro x19 rfl
                        obtain ⟨z22, Z32, Z20⟩ := bind_e Z20
                        refine at_seq_mid (σ := Bool) (fun x21 => x21 = z22) (fun x21 => [(9, (.pointer (some ⟨b2, 0, none⟩))), (11, (.slice a3 (List.length v3.1) n3)), (13, (.slice a4 (List.length v4.1) n4)), (15, (.int .i64 x8)), (16, (.int .i64 x14)), (168, (.bool x21))]) (fun x21 => [F, [(b2, Obj.cells #[(.int .i64 v1.W), (.int .i64 v1.H), (.slice a1 (List.length v1.C) n1)] 25 (0, 0))], H1, H3, H4]) ?_ ?_
                        · refine at_region [0, 1, 2, 3, 4, 5, 6, 7, 8, 9, 10, 11, 12, 13, 14] rfl ?_
                          iterate 4 refine at_s T rfl ?_
                          obtain ⟨c33, Z32⟩ := chk_e Z32
                          obtain ⟨q10, o10, e10⟩ := s4.r.addr c33.1 c33.2
                          refine at_v rfl (g_index T rfl rfl rfl rfl rfl e10 c33.1 c33.2) ?_
                          refine at_v rfl (g_load T rfl rfl rfl rfl (in_elem1 (k := (Fl.int .i64)) (own_of s4 (j := 4) rfl) e10 c33 0 rfl)) ?_
                          iterate 3 refine at_s T rfl ?_
                          refine at_case (s := 162) rfl (fun c34 => ?_) (fun c34 => ?_)
                          · replace Z32 := if_t c34 Z32
                            iterate 2 refine at_s T rfl ?_
                            refine at_v rfl (g_index T rfl rfl rfl rfl rfl e10 c33.1 c33.2) ?_
                            refine at_v rfl (g_load T rfl rfl rfl rfl (in_elem1 (k := (Fl.int .i64)) (own_of s4 (j := 4) rfl) e10 c33 0 rfl)) ?_
                            iterate 2 refine at_s T rfl ?_
                            refine at_end ?_
                            refine at_sub [(9, (.pointer (some ⟨b2, 0, none⟩))), (11, (.slice a3 (List.length v3.1) n3)), (13, (.slice a4 (List.length v4.1) n4)), (15, (.int .i64 x8)), (16, (.int .i64 x14)), (168, (.bool (decide ((rd v4.1 x8) ≤ 3))))] ⟨rfl, rfl, rfl, rfl, rfl, rfl, trivial⟩ ?_
                            refine at_then ?_
                            obtain rfl := Option.some.inj Z32
                            exact at_mid (decide ((rd v4.1 x8) ≤ 3)) [0, 0, 0, 0, 0] rfl ⟨rfl, rfl, rfl, rfl, rfl, rfl, trivial⟩ rfl
                          · replace Z32 := if_f (bf c34) Z32
                            iterate 6 refine at_s T rfl ?_
                            refine at_end ?_
                            refine at_sub [(9, (.pointer (some ⟨b2, 0, none⟩))), (11, (.slice a3 (List.length v3.1) n3)), (13, (.slice a4 (List.length v4.1) n4)), (15, (.int .i64 x8)), (16, (.int .i64 x14)), (168, (.bool false))] ⟨rfl, rfl, rfl, rfl, rfl, rfl, trivial⟩ ?_
                            refine at_then ?_
                            obtain rfl := Option.some.inj Z32
                            exact at_mid false [0, 0, 0, 0, 0] rfl ⟨rfl, rfl, rfl, rfl, rfl, rfl, trivial⟩ rfl
                        · rintro x21 rfl
                          refine at_cond rfl (fun c35 => ?_) (fun c35 => ?_)
                          · replace Z20 := if_t c35 Z20
                            refine at_seq ?_
                            refine at_region [0] rfl ?_
                            refine at_s T rfl ?_
                            refine at_end ?_
                            refine at_to [(8, (.bool false))] [0] [F] ⟨rfl, trivial⟩ rfl ?_
                            refine at_then ?_
                            refine at_ret ?_
                            refine at_rb ?_
                            refine at_rt ?_
                            refine at_rt ?_
                            refine at_rb ?_
                            refine at_rb ?_
                            refine at_rt ?_
                            refine at_rt ?_
                            refine at_rb ?_
                            refine at_rt ?_
                            obtain rfl := Option.some.inj Z20
                            obtain rfl := Option.some.inj (show some false = some r from Z10)
                            exact at_post (T := T) rfl (.tmp rfl .nil) (fun w o => ⟨(), rfl, own_to [0] rfl o⟩)
                          · replace Z20 := if_f (bf c35) Z20
                            refine at_skip ?_
                            refine at_nb ?_
                            refine at_then ?_
                            refine at_region [0, 1, 2] rfl ?_
                            iterate 3 refine at_s T rfl ?_
                            refine at_end ?_
                            refine at_sub [(9, (.pointer (some ⟨b2, 0, none⟩))), (11, (.slice a3 (List.length v3.1) n3)), (13, (.slice a4 (List.length v4.1) n4)), (15, (.int .i64 x8)), (16, (.int .i64 (w64 (x14 + 1))))] ⟨rfl, rfl, rfl, rfl, rfl, trivial⟩ ?_
                            refine at_then ?_
                            exact at_roundL (k15, (w64 (x14 + 1))) [0, 0, 0, 0, 0] Z20 (Nat.lt_succ_self _) ⟨rfl, rfl, rfl, rfl, rfl, trivial⟩ rfl
                    · replace Z20 := if_f (bf c24) Z20
                      refine at_exit ?_
                      refine at_xt ?_
                      refine at_xt ?_
                      refine at_xb ?_
                      refine at_nb ?_
                      refine at_then ?_
                      obtain rfl := Option.some.inj Z20
                      exact at_mid () [0, 0, 0, 0, 0] rfl ⟨rfl, rfl, rfl, rfl, trivial⟩ rfl
          · rintro ⟨⟩ rfl
            refine at_region [0, 1, 2] rfl ?_
            iterate 3 refine at_s T rfl ?_
            refine at_end ?_
            refine at_sub [(9, (.pointer (some ⟨b2, 0, none⟩))), (11, (.slice a3 (List.length v3.1) n3)), (13, (.slice a4 (List.length v4.1) n4)), (15, (.int .i64 (w64 (x8 + 1))))] ⟨rfl, rfl, rfl, rfl, trivial⟩ ?_
            refine at_then ?_
            exact at_roundL (k9, (w64 (x8 + 1))) [0, 0, 0, 0, 0] Z10 (Nat.lt_succ_self _) ⟨rfl, rfl, rfl, rfl, trivial⟩ rfl
        · replace Z10 := if_f (of_decide_eq_false c11) Z10
          refine at_exit ?_
          refine at_xt ?_
          refine at_xt ?_
          refine at_xb ?_
          refine at_then ?_
          refine at_seq ?_
          refine at_region [0, 1] rfl ?_
          obtain ⟨v23, V36, Z10⟩ := bind_e Z10
          refine at_cons (at_c (B := fun _ => []) [] rfl rfl rfl rfl has37 rfl rfl (law17_told.c  v23 _ V36) (fun _ => ?_))
          refine at_s T rfl ?_
          refine at_end ?_
          refine at_to [(8, (.bool v23))] [0] [F] ⟨rfl, trivial⟩ rfl ?_
          refine at_then ?_
          refine at_ret ?_
          obtain rfl := Option.some.inj Z10
          exact at_post (T := T) rfl (.tmp rfl .nil) (fun w o => ⟨(), rfl, own_to [0] rfl o⟩)
def law17_FlatLeads.Pure : Prop := ∀ (w : Int) (h : Int) (c : (List Int)) (goal : Int), inI64 w → inI64 h → (∀ y ∈ c, inU8 y) → inI64 goal → List.length c ≤ 9223372036854775807 → law17_FlatLeads.f w h c goal = some true
end Go.Proofs.Ytmjcmkimhkjdeaa
