import Derived.Test.YticdodeoljodiaaT
import Derived.Test.YticdodeoljodiaaFborder
import Derived.Test.YticdodeoljodiaaFgrid
import Derived.Test.YticdodeoljodiaaFref1
import Derived.Test.YticdodeoljodiaaFref11
namespace Go.Proofs.Yticdodeoljodiaa
open Go.Hx
set_option maxRecDepth 100000
set_option linter.unusedVariables false
/-! ### herdsman/herdsmanlaw11.told: function 19 -/
def law11_told.l0 : Nat → List Int → Int → Option Bool
  | 0, _, _ => none
  | k5 + 1, x3, x4 => if x4 < 17 then (if (0 ≤ x4 ∧ x4 < (List.length x3 : Int)) then (law11_told.l0 k5 (List.set x3 (Int.toNat x4) 1) (w64 (x4 + 1))) else none) else ((grid_New.f (api_Map.mk 17 1 x3) 0).bind fun v6 => optm v6 (some false) (fun yv6 => ((border_Nodes.f yv6 0).bind fun v9 => (ref1_Ints.f v9 [15]).bind fun v10 => if v10 = true then ((border_Cross.f yv6 15).bind fun v11 => (ref11_Edges.f v11 [(api_Edge.mk 16 1)]).bind fun v12 => if v12 = true then ((border_Runs.f yv6 0 1).bind fun v13 => (ref11_SameRuns.f v13 [(api_Run.mk 0 1)]).bind fun v14 => some v14) else (some false)) else (some false)).bind fun x7 => some x7))
def law11_told.f : Option Bool := if (0 ≤ (17 : Int) ∧ (17 : Int) ≤ 1099511627776) then (law11_told.l0 fuel (List.replicate (Int.toNat 17) (0 : Int)) 0) else none
set_option maxHeartbeats 4000000 in
theorem law11_told.c (r : Bool) (F : Hp) (H : law11_told.f = some r) :
    CallsL Try.prog 19 [] [F] (fun _ : Unit => (.bool r)) (fun _ => [F]) := by
  unfold law11_told.f at H
  refine calls_atL [] Try.func19 rfl rfl trivial (fun W => ?_)
  refine at_seq ?_
  refine at_region [0] rfl ?_
  refine at_s T rfl ?_
  refine at_end ?_
  refine at_sub [] trivial ?_
  refine at_then ?_
  refine at_seq ?_
  refine at_region [0, 1, 2, 3] rfl ?_
  obtain ⟨c1, H⟩ := chk_e H
  refine at_cons (at_mk (k := (Fl.int .u8)) T (0 : Int) rfl rfl rfl rfl rfl rfl rfl rfl c1 rfl (fun a1 n1 H1 s1 => ?_))
  refine at_s T rfl ?_
  refine at_cons (at_al T [(.int .i64 0), (.int .i64 0), (.slice none 0 0)] rfl rfl rfl rfl (fun b2 => ?_))
  refine at_cons (at_st T 2 [(.int .i64 17), (.int .i64 1), (.slice a1 (List.length (List.replicate (Int.toNat 17) (0 : Int))) n1)] rfl rfl rfl rfl rfl rfl rfl rfl rfl rfl ?_)
  refine at_end ?_
  refine at_sub [(1, (.pointer (some ⟨b2, 0, none⟩)))] ⟨rfl, trivial⟩ ?_
  refine at_then ?_
  refine at_seq ?_
  refine at_seq ?_
  refine at_region [0] rfl ?_
  refine at_s T rfl ?_
  refine at_end ?_
  refine at_sub [(1, (.pointer (some ⟨b2, 0, none⟩))), (2, (.int .i64 0))] ⟨rfl, rfl, trivial⟩ ?_
  refine at_then ?_
  refine at_block ?_
  refine at_loopL (σ := Nat × List Int × Int × Option Addr × Nat × Hp) (fun ⟨k5, x3, x4, a4, n4, H4⟩ => law11_told.l0 k5 x3 x4 = some r ∧ SliceO (Fl.int .u8) 5 x3 a4 n4 H4) (fun ⟨k5, x3, x4, a4, n4, H4⟩ => [(1, (.pointer (some ⟨b2, 0, none⟩))), (2, (.int .i64 x4))]) (fun ⟨k5, x3, x4, a4, n4, H4⟩ => [F, [(b2, Obj.cells #[(.int .i64 17), (.int .i64 1), (.slice a4 (List.length x3) n4)] 24 (0, 0))], H4]) (fun s => s.1) (fuel, (List.replicate (Int.toNat 17) (0 : Int)), 0, a1, n1, H1) [0, 1, 0] ⟨H, s1⟩ ⟨rfl, rfl, trivial⟩ rfl ?_
  rintro ⟨k5, x3, x4, a4, n4, H4⟩ ⟨Z2, s4⟩
  replace Z2 : law11_told.l0 k5 x3 x4 = some r := Z2
  rcases k5 with _ | k5
  · rw [law11_told.l0] at Z2; cases Z2
  · rw [law11_told.l0] at Z2
    refine at_seq ?_
    refine at_seq ?_
    refine at_region [0, 1] rfl ?_
    iterate 2 refine at_s T rfl ?_
    refine at_end ?_
    refine at_sub [(1, (.pointer (some ⟨b2, 0, none⟩))), (2, (.int .i64 x4)), (7, (.bool (decide (x4 < 17))))] ⟨rfl, rfl, rfl, trivial⟩ ?_
    refine at_then ?_
    refine at_cond rfl (fun c3 => ?_) (fun c3 => ?_)
    · replace Z2 := if_t (of_decide_eq_true c3) Z2
      refine at_skip ?_
      refine at_then ?_
      refine at_seq ?_
      refine at_block ?_
      refine at_region [0, 1, 2, 3, 4] rfl ?_
      refine at_s T rfl ?_
      refine at_v rfl (g_load T rfl rfl rfl rfl (in_var (j := 1) rfl rfl)) ?_
      refine at_s T rfl ?_
      obtain ⟨c4, Z2⟩ := chk_e Z2
      obtain ⟨q5, o5, e5⟩ := s4.r.addr c4.1 c4.2
      refine at_v rfl (g_index T rfl rfl rfl rfl rfl e5 c4.1 c4.2) ?_
      refine at_cons (at_se (k := (Fl.int .u8)) T 2 0 1 rfl rfl rfl rfl rfl rfl s4 e5 c4 rfl rfl rfl (fun H6 s6 => ?_))
      refine at_to [(1, (.pointer (some ⟨b2, 0, none⟩))), (2, (.int .i64 x4))] [0, 0, 0] [F, [(b2, Obj.cells #[(.int .i64 17), (.int .i64 1), (.slice a4 (List.length (List.set x3 (Int.toNat x4) 1)) n4)] 24 (0, 0))], H6] ⟨rfl, rfl, trivial⟩ (by first | rfl | (simp only [List.length_set]; rfl)) ?_
      refine at_end ?_
      refine at_sub [(1, (.pointer (some ⟨b2, 0, none⟩))), (2, (.int .i64 x4))] ⟨rfl, rfl, trivial⟩ ?_
      refine at_nb ?_
      refine at_then ?_
      refine at_region [0, 1, 2] rfl ?_
      iterate 3 refine at_s T rfl ?_
      refine at_end ?_
      refine at_sub [(1, (.pointer (some ⟨b2, 0, none⟩))), (2, (.int .i64 (w64 (x4 + 1))))] ⟨rfl, rfl, trivial⟩ ?_
      refine at_then ?_
      exact at_roundL (k5, (List.set x3 (Int.toNat x4) 1), (w64 (x4 + 1)), a4, n4, H6) [0, 0, 0] ⟨Z2, s6⟩ (Nat.lt_succ_self _) ⟨rfl, rfl, trivial⟩ rfl
    · replace Z2 := if_f (of_decide_eq_false c3) Z2
      refine at_exit ?_
      refine at_xt ?_
      refine at_xt ?_
      refine at_xb ?_
      refine at_then ?_
      refine at_seq ?_
      refine at_region [0, 1, 2] rfl ?_
      refine at_v rfl (g_loadA T (cs := [(.int .i64 17), (.int .i64 1), (.slice a4 (List.length x3) n4)]) rfl rfl rfl rfl rfl rfl (in_varA (j := 1) rfl rfl)) ?_
      obtain ⟨v6, V5, Z2⟩ := bind_e Z2
      refine at_cons (at_cR (grid_New.R v6) [] [] rfl rfl rfl rfl has14 rfl rfl (grid_New.c (api_Map.mk 17 1 x3) 0 v6 _ V5 (own_of s4 (j := 2) rfl) s4.cap_le) ?_)
      rintro _ _ ⟨_, _, O6, rfl, rfl⟩
      rcases v6 with _ | yv6
      · replace Z2 := optm_n rfl Z2
        obtain ⟨rfl, rfl⟩ := O6
        refine at_s T rfl ?_
        refine at_end ?_
        refine at_to [(3, (.pointer none))] [0] [F] ⟨rfl, trivial⟩ rfl ?_
        refine at_then ?_
        refine at_seq ?_
        refine at_region [0, 1, 2, 3, 4, 5, 6, 7, 8, 9, 10, 11, 12, 13, 14, 15, 16, 17, 18, 19, 20, 21, 22] rfl ?_
        iterate 23 refine at_s T rfl ?_
        refine at_end ?_
        refine at_sub [(0, (.bool false))] ⟨rfl, trivial⟩ ?_
        refine at_then ?_
        refine at_ret ?_
        obtain rfl := Option.some.inj Z2
        exact at_post (T := T) rfl (.tmp rfl .nil) (fun w o => ⟨(), rfl, own_to [0] rfl o⟩)
      · replace Z2 := optm_s rfl Z2
        obtain ⟨b7, a8, n8, H8, a9, n9, H9, s8, s9, rfl, rfl⟩ := O6
        refine at_s T rfl ?_
        refine at_end ?_
        refine at_to [(3, (.pointer (some ⟨b7, 0, none⟩)))] [0, 2, 2, 2] [F, [(b7, Obj.cells #[(.int .i64 yv6.m.W), (.int .i64 yv6.m.H), (.slice a8 (List.length yv6.m.C) n8), (.int .i64 yv6.epoch), (.slice a9 (List.length yv6.versions) n9)] 81 (0, 0))], H8, H9] ⟨rfl, trivial⟩ rfl ?_
        refine at_then ?_
        obtain ⟨z8, Z7, Z2⟩ := bind_e Z2
        refine at_seq_mid (σ := Bool) (fun x7 => x7 = z8) (fun x7 => [(0, (.bool x7))]) (fun x7 => [F]) ?_ ?_
        · refine at_region [0, 1, 2, 3, 4, 5, 6, 7, 8, 9, 10, 11, 12, 13, 14, 15, 16, 17, 18, 19, 20, 21, 22] rfl ?_
          iterate 4 refine at_s T rfl ?_
          obtain ⟨v9, V8, Z7⟩ := bind_e Z7
          refine at_cons (at_cR (As := [[(b7, Obj.cells #[(.int .i64 yv6.m.W), (.int .i64 yv6.m.H), (.slice a8 (List.length yv6.m.C) n8), (.int .i64 yv6.epoch), (.slice a9 (List.length yv6.versions) n9)] 81 (0, 0))], H8, H9]) (R := [F]) (border_Nodes.R v9) [[(b7, Obj.cells #[(.int .i64 yv6.m.W), (.int .i64 yv6.m.H), (.slice a8 (List.length yv6.m.C) n8), (.int .i64 yv6.epoch), (.slice a9 (List.length yv6.versions) n9)] 81 (0, 0))], H8, H9] [1, 1, 1] rfl rfl rfl rfl has23 rfl rfl (border_Nodes.c yv6 0 v9 _ V8 s8 s9) ?_)
          rintro _ _ ⟨a10, n10, H10, s10, rfl, rfl⟩
          refine at_cons (at_bs (k := (Fl.int .i64)) T [15] rfl rfl rfl rfl rfl rfl rfl rfl rfl (fun a11 H11 s11 => ?_))
          obtain ⟨v10, V9, Z7⟩ := bind_e Z7
          refine at_cons (at_c (B := fun _ => []) [] rfl rfl rfl rfl has20 rfl rfl (ref1_Ints.c v9 [15] v10 _ V9 (own_of s10 (j := 1) rfl) s10.cap_le (own_of s11 (j := 5) rfl) s11.cap_le) (fun _ => ?_))
          iterate 2 refine at_s T rfl ?_
          refine at_case (s := 24) rfl (fun c10 => ?_) (fun c10 => ?_)
          · replace Z7 := if_t c10 Z7
            refine at_s T rfl ?_
            obtain ⟨v11, V11, Z7⟩ := bind_e Z7
            refine at_cons (at_cR (As := [[(b7, Obj.cells #[(.int .i64 yv6.m.W), (.int .i64 yv6.m.H), (.slice a8 (List.length yv6.m.C) n8), (.int .i64 yv6.epoch), (.slice a9 (List.length yv6.versions) n9)] 81 (0, 0))], H8, H9]) (R := [F, H10, H11]) (border_Cross.R v11) [[(b7, Obj.cells #[(.int .i64 yv6.m.W), (.int .i64 yv6.m.H), (.slice a8 (List.length yv6.m.C) n8), (.int .i64 yv6.epoch), (.slice a9 (List.length yv6.versions) n9)] 81 (0, 0))], H8, H9] [2, 2, 2] rfl rfl rfl rfl has29 rfl rfl (border_Cross.c yv6 15 v11 _ V11 s8 s9) ?_)
            rintro _ _ ⟨a12, n12, H12, s12, rfl, rfl⟩
            refine at_s T rfl ?_
            refine at_cons (at_bs (k := k_api_Edge) T [(api_Edge.mk 16 1)] rfl rfl rfl rfl rfl rfl rfl rfl rfl (fun a13 H13 s13 => ?_))
            obtain ⟨v12, V12, Z7⟩ := bind_e Z7
            refine at_cons (at_c (B := fun _ => []) [] rfl rfl rfl rfl has28 rfl rfl (ref11_Edges.c v11 [(api_Edge.mk 16 1)] v12 _ V12 (own_of s12 (j := 3) rfl) s12.cap_le (own_of s13 (j := 7) rfl) s13.cap_le) (fun _ => ?_))
            iterate 2 refine at_s T rfl ?_
            refine at_case (s := 31) rfl (fun c13 => ?_) (fun c13 => ?_)
            · replace Z7 := if_t c13 Z7
              refine at_s T rfl ?_
              obtain ⟨v13, V14, Z7⟩ := bind_e Z7
              refine at_cons (at_cR (As := [[(b7, Obj.cells #[(.int .i64 yv6.m.W), (.int .i64 yv6.m.H), (.slice a8 (List.length yv6.m.C) n8), (.int .i64 yv6.epoch), (.slice a9 (List.length yv6.versions) n9)] 81 (0, 0))], H8, H9]) (R := [F, H10, H11, H12, H13]) (border_Runs.R v13) [[(b7, Obj.cells #[(.int .i64 yv6.m.W), (.int .i64 yv6.m.H), (.slice a8 (List.length yv6.m.C) n8), (.int .i64 yv6.epoch), (.slice a9 (List.length yv6.versions) n9)] 81 (0, 0))], H8, H9] [4, 4, 4] rfl rfl rfl rfl has26 rfl rfl (border_Runs.c yv6 0 1 v13 _ V14 s8 s9) ?_)
              rintro _ _ ⟨a14, n14, H14, s14, rfl, rfl⟩
              refine at_s T rfl ?_
              refine at_cons (at_bs (k := k_api_Run) T [(api_Run.mk 0 1)] rfl rfl rfl rfl rfl rfl rfl rfl rfl (fun a15 H15 s15 => ?_))
              obtain ⟨v14, V15, Z7⟩ := bind_e Z7
              refine at_cons (at_c (B := fun _ => []) [] rfl rfl rfl rfl has25 rfl rfl (ref11_SameRuns.c v13 [(api_Run.mk 0 1)] v14 _ V15 (own_of s14 (j := 5) rfl) s14.cap_le (own_of s15 (j := 9) rfl) s15.cap_le) (fun _ => ?_))
              iterate 2 refine at_s T rfl ?_
              refine at_end ?_
              refine at_to [(0, (.bool v14))] [0] [F] ⟨rfl, trivial⟩ rfl ?_
              refine at_then ?_
              obtain rfl := Option.some.inj Z7
              exact at_mid v14 [0] rfl ⟨rfl, trivial⟩ rfl
            · replace Z7 := if_f (bf c13) Z7
              iterate 7 refine at_s T rfl ?_
              refine at_end ?_
              refine at_to [(0, (.bool false))] [0] [F] ⟨rfl, trivial⟩ rfl ?_
              refine at_then ?_
              obtain rfl := Option.some.inj Z7
              exact at_mid false [0] rfl ⟨rfl, trivial⟩ rfl
          · replace Z7 := if_f (bf c10) Z7
            iterate 14 refine at_s T rfl ?_
            refine at_end ?_
            refine at_to [(0, (.bool false))] [0] [F] ⟨rfl, trivial⟩ rfl ?_
            refine at_then ?_
            obtain rfl := Option.some.inj Z7
            exact at_mid false [0] rfl ⟨rfl, trivial⟩ rfl
        · rintro x7 rfl
          refine at_ret ?_
          obtain rfl := Option.some.inj Z2
          exact at_post (T := T) rfl (.tmp rfl .nil) (fun w o => ⟨(), rfl, own_to [0] rfl o⟩)
end Go.Proofs.Yticdodeoljodiaa
