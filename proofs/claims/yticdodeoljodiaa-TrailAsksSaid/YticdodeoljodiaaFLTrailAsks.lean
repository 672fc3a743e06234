import Derived.Test.YticdodeoljodiaaT
import Derived.Test.YticdodeoljodiaaFlaw30
import Derived.Test.YticdodeoljodiaaFref1
import Derived.Test.YticdodeoljodiaaFref27
import Derived.Test.YticdodeoljodiaaFtrail
namespace Go.Proofs.Yticdodeoljodiaa
open Go.Hx
set_option maxRecDepth 100000
set_option linter.unusedVariables false
/-! ### herdsman/herdsmanlaw30.TrailAsks: function 8 -/
def law30_TrailAsks.l0 : Nat → api_Map → Int → Int → List Int → Int → Int → Option (Int × Int × Int × Int × (List Int) × (List Int))
  | 0, _, _, _, _, _, _ => none
  | k20 + 1, v10, v11, v12, x17, x18, x19 => if x19 < (List.length x17 : Int) then (if (0 ≤ x19 ∧ x19 < (List.length x17 : Int)) then ((ref1_Within.f (rd x17 x19) 0 3).bind fun v21 => (ref1_Step.f v10.W v10.H x18 v21).bind fun v22 => if v22 ≥ 0 then (law30_TrailAsks.l0 k20 v10 v11 v12 (List.set x17 (Int.toNat x19) v22) v22 (w64 (x19 + 1))) else (law30_TrailAsks.l0 k20 v10 v11 v12 (List.set x17 (Int.toNat x19) x18) x18 (w64 (x19 + 1)))) else none) else (some (v11, v12, v10.W, v10.H, v10.C, x17))
def law30_TrailAsks.f (m : api_Map) (goal : Int) (cell : Int) (l : (List Int)) (raw : Bool) : Option Bool := if (List.length m.C : Int) > 2500 then ((law30_told.f).bind fun v1 => some v1) else ((ref1_Own.f m).bind fun v2 => if (0 ≤ (0 : Int) ∧ (0 : Int) ≤ (if 40 < (List.length l : Int) then 40 else (List.length l : Int)) ∧ (if 40 < (List.length l : Int) then 40 else (List.length l : Int)) ≤ (List.length l : Int)) then (if (List.length ([] : List Int) + List.length (sub' l 0 (if 40 < (List.length l : Int) then 40 else (List.length l : Int))) ≤ 1099511627776) then ((if (!raw) = true then ((ref1_Made.f m.W m.H m.C).bind fun v10 => (ref1_Within.f goal (-1) (List.length v10.C : Int)).bind fun v11 => (ref1_Within.f cell (-1) (List.length v10.C : Int)).bind fun v12 => (ref1_Within.f v12 0 (w64 ((List.length v10.C : Int) - 1))).bind fun v13 => law30_TrailAsks.l0 fuel v10 v11 v12 (([] : List Int) ++ (sub' l 0 (if 40 < (List.length l : Int) then 40 else (List.length l : Int)))) v13 0) else (some (goal, cell, v2.W, v2.H, v2.C, (([] : List Int) ++ (sub' l 0 (if 40 < (List.length l : Int) then 40 else (List.length l : Int))))))).bind fun (x3, x4, x5, x6, x7, x8) => (trail_Path.f (api_Map.mk x5 x6 x7) x3 x4).bind fun v23 => (ref27_Path.f (api_Map.mk x5 x6 x7) x3 x4).bind fun v24 => (trail_Cost.f (api_Map.mk x5 x6 x7) x8).bind fun v25 => (ref27_Cost.f (api_Map.mk x5 x6 x7) x8).bind fun v26 => ((law30_told.f).bind fun v29 => if (v29 && (v23.2 == v24.2)) = true then ((ref1_Ints.f v23.1 v24.1).bind fun v30 => some ((v30 && (v25.1 == v26.1)) && (v25.2 == v26.2))) else (some false)).bind fun x27 => some x27) else none) else none)
set_option maxHeartbeats 4000000 in
theorem law30_TrailAsks.c {a_m_C : Option Addr} {n_m_C : Nat} {a_l : Option Addr} {n_l : Nat} (m : api_Map) (goal : Int) (cell : Int) (l : (List Int)) (raw : Bool) (r : Bool) (F : Hp) (H : law30_TrailAsks.f m goal cell l raw = some r) (h_m_C : SliceR (Fl.int .u8) m.C a_m_C F) (c_m_C : List.length m.C ≤ n_m_C) (h_l : SliceR (Fl.int .i64) l a_l F) (c_l : List.length l ≤ n_l) :
    CallsL Try.prog 8 [(.agg #[(.int .i64 m.W), (.int .i64 m.H), (.slice a_m_C (List.length m.C) n_m_C)]), (.int .i64 goal), (.int .i64 cell), (.slice a_l (List.length l) n_l), (.bool raw)] [F] (fun _ : Unit => (.bool r)) (fun _ => [F]) := by
  unfold law30_TrailAsks.f at H
  refine calls_atL [(0, (.agg #[(.int .i64 m.W), (.int .i64 m.H), (.slice a_m_C (List.length m.C) n_m_C)])), (1, (.int .i64 goal)), (2, (.int .i64 cell)), (3, (.slice a_l (List.length l) n_l)), (4, (.bool raw))] Try.func8 rfl rfl ⟨rfl, rfl, rfl, rfl, rfl, trivial⟩ (fun W => ?_)
  refine at_seq ?_
  refine at_region [0, 1] rfl ?_
  refine at_cons (at_bx T [(.int .i64 m.W), (.int .i64 m.H), (.slice a_m_C (List.length m.C) n_m_C)] rfl rfl rfl rfl (fun b1 => ?_))
  refine at_s T rfl ?_
  refine at_end ?_
  refine at_sub [(1, (.int .i64 goal)), (2, (.int .i64 cell)), (3, (.slice a_l (List.length l) n_l)), (4, (.bool raw)), (5, (.pointer (some ⟨b1, 0, none⟩)))] ⟨rfl, rfl, rfl, rfl, rfl, trivial⟩ ?_
  refine at_then ?_
  refine at_seq ?_
  refine at_seq ?_
  refine at_region [0, 1, 2, 3] rfl ?_
  refine at_s T rfl ?_
  refine at_v rfl (g_load T rfl rfl rfl rfl (in_var (j := 1) rfl rfl)) ?_
  iterate 2 refine at_s T rfl ?_
  refine at_end ?_
  refine at_sub [(1, (.int .i64 goal)), (2, (.int .i64 cell)), (3, (.slice a_l (List.length l) n_l)), (4, (.bool raw)), (5, (.pointer (some ⟨b1, 0, none⟩))), (27, (.bool (decide ((List.length m.C : Int) > 2500))))] ⟨rfl, rfl, rfl, rfl, rfl, rfl, trivial⟩ ?_
  refine at_then ?_
  refine at_cond rfl (fun c1 => ?_) (fun c1 => ?_)
  · replace H := if_t (of_decide_eq_true c1) H
    refine at_seq ?_
    refine at_region [0, 1] rfl ?_
    obtain ⟨v1, V2, H⟩ := bind_e H
    refine at_cons (at_c (B := fun _ => []) [] rfl rfl rfl rfl has34 rfl rfl (law30_told.c  v1 _ V2) (fun _ => ?_))
    refine at_s T rfl ?_
    refine at_end ?_
    refine at_to [(10, (.bool v1))] [0] [F] ⟨rfl, trivial⟩ rfl ?_
    refine at_then ?_
    refine at_ret ?_
    refine at_rt ?_
    obtain rfl := Option.some.inj H
    exact at_post (T := T) rfl (.tmp rfl .nil) (fun w o => ⟨(), rfl, own_to [0] rfl o⟩)
  · replace H := if_f (of_decide_eq_false c1) H
    refine at_skip ?_
    refine at_then ?_
    refine at_seq ?_
    refine at_region [0, 1, 2, 3] rfl ?_
    refine at_v rfl (g_loadA T (cs := [(.int .i64 m.W), (.int .i64 m.H), (.slice a_m_C (List.length m.C) n_m_C)]) rfl rfl rfl rfl rfl rfl (in_varA (j := 1) rfl rfl)) ?_
    obtain ⟨v2, V3, H⟩ := bind_e H
    refine at_cons (at_cR (ref1_Own.R v2) [] [] rfl rfl rfl rfl has35 rfl rfl (ref1_Own.c m v2 _ V3 (ro_of h_m_C (j := 0) rfl) c_m_C) ?_)
    rintro _ _ ⟨a2, n2, H2, s2, rfl, rfl⟩
    refine at_cons (at_al T [(.int .i64 0), (.int .i64 0), (.slice none 0 0)] rfl rfl rfl rfl (fun b3 => ?_))
    refine at_cons (at_st T 3 [(.int .i64 v2.W), (.int .i64 v2.H), (.slice a2 (List.length v2.C) n2)] rfl rfl rfl rfl rfl rfl rfl rfl rfl rfl ?_)
    refine at_end ?_
    refine at_sub [(1, (.int .i64 goal)), (2, (.int .i64 cell)), (3, (.slice a_l (List.length l) n_l)), (4, (.bool raw)), (5, (.pointer (some ⟨b1, 0, none⟩))), (11, (.pointer (some ⟨b3, 0, none⟩)))] ⟨rfl, rfl, rfl, rfl, rfl, rfl, trivial⟩ ?_
    refine at_then ?_
    refine at_seq ?_
    refine at_region [0, 1, 2, 3, 4, 5, 6, 7] rfl ?_
    refine at_cons (at_bs (k := (Fl.int .i64)) T ([] : List Int) rfl rfl rfl rfl rfl rfl rfl rfl rfl (fun a4 H4 s4 => ?_))
    iterate 4 refine at_s T rfl ?_
    obtain ⟨c4, H⟩ := chk_e H
    refine at_v rfl (g_sub T rfl rfl rfl rfl rfl rfl c4 c_l) ?_
    obtain ⟨c5, H⟩ := chk_e H
    refine at_cons (at_ap (k := (Fl.int .i64)) (xs := ([] : List Int)) T (g := 4) rfl rfl rfl rfl rfl rfl rfl rfl rfl rfl s4 (sub_r (ro_of h_l (j := 0) rfl) c4 c_l) c5 rfl (fun a5 n5 H5 s5 => ?_))
    refine at_s T rfl ?_
    refine at_end ?_
    refine at_sub [(1, (.int .i64 goal)), (2, (.int .i64 cell)), (4, (.bool raw)), (5, (.pointer (some ⟨b1, 0, none⟩))), (11, (.pointer (some ⟨b3, 0, none⟩))), (12, (.slice a5 (List.length (([] : List Int) ++ (sub' l 0 (if 40 < (List.length l : Int) then 40 else (List.length l : Int))))) n5))] ⟨rfl, rfl, rfl, rfl, rfl, rfl, trivial⟩ ?_
    refine at_then ?_
    obtain ⟨z9, Z6, H⟩ := bind_e H
    refine at_seq_mid (σ := Int × Int × Int × Int × List Int × List Int × Option Addr × Nat × Hp × Option Addr × Nat × Hp) (fun ⟨x3, x4, x5, x6, x7, x8, a6, n6, H6, a7, n7, H7⟩ => (x3, x4, x5, x6, x7, x8) = z9 ∧ SliceO (Fl.int .u8) 5 x7 a6 n6 H6 ∧ SliceO (Fl.int .i64) 3 x8 a7 n7 H7) (fun ⟨x3, x4, x5, x6, x7, x8, a6, n6, H6, a7, n7, H7⟩ => [(1, (.int .i64 x3)), (2, (.int .i64 x4)), (11, (.pointer (some ⟨b3, 0, none⟩))), (12, (.slice a7 (List.length x8) n7))]) (fun ⟨x3, x4, x5, x6, x7, x8, a6, n6, H6, a7, n7, H7⟩ => [F, [(b3, Obj.cells #[(.int .i64 x5), (.int .i64 x6), (.slice a6 (List.length x7) n6)] 24 (0, 0))], H6, H7]) ?_ ?_
    · refine at_seq ?_
      refine at_region [0, 1] rfl ?_
      iterate 2 refine at_s T rfl ?_
      refine at_end ?_
      refine at_sub [(1, (.int .i64 goal)), (2, (.int .i64 cell)), (5, (.pointer (some ⟨b1, 0, none⟩))), (11, (.pointer (some ⟨b3, 0, none⟩))), (12, (.slice a5 (List.length (([] : List Int) ++ (sub' l 0 (if 40 < (List.length l : Int) then 40 else (List.length l : Int))))) n5)), (39, (.bool (!raw)))] ⟨rfl, rfl, rfl, rfl, rfl, rfl, trivial⟩ ?_
      refine at_then ?_
      refine at_cond rfl (fun c7 => ?_) (fun c7 => ?_)
      · replace Z6 := if_t c7 Z6
        refine at_seq ?_
        refine at_region [0, 1, 2, 3, 4, 5, 6, 7] rfl ?_
        refine at_s T rfl ?_
        refine at_v rfl (g_load T rfl rfl rfl rfl (in_var (j := 1) rfl rfl)) ?_
        refine at_s T rfl ?_
        refine at_v rfl (g_load T rfl rfl rfl rfl (in_var (j := 1) rfl rfl)) ?_
        refine at_s T rfl ?_
        refine at_v rfl (g_load T rfl rfl rfl rfl (in_var (j := 1) rfl rfl)) ?_
        obtain ⟨v10, V8, Z6⟩ := bind_e Z6
        refine at_cons (at_cR (ref1_Made.R v10) [] [] rfl rfl rfl rfl has13 rfl rfl (ref1_Made.c m.W m.H m.C v10 _ V8 (ro_of h_m_C (j := 0) rfl) c_m_C) ?_)
        rintro _ _ ⟨a8, n8, H8, s8, rfl, rfl⟩
        refine at_cons (at_st T 3 [(.int .i64 v10.W), (.int .i64 v10.H), (.slice a8 (List.length v10.C) n8)] rfl rfl rfl rfl rfl rfl rfl rfl rfl rfl ?_)
        refine at_end ?_
        refine at_to [(1, (.int .i64 goal)), (2, (.int .i64 cell)), (11, (.pointer (some ⟨b3, 0, none⟩))), (12, (.slice a5 (List.length (([] : List Int) ++ (sub' l 0 (if 40 < (List.length l : Int) then 40 else (List.length l : Int))))) n5))] [0, 2, 2, 2] [F, [(b3, Obj.cells #[(.int .i64 v10.W), (.int .i64 v10.H), (.slice a8 (List.length v10.C) n8)] 24 (0, 0))], H5, H8] ⟨rfl, rfl, rfl, rfl, trivial⟩ rfl ?_
        refine at_then ?_
        refine at_seq ?_
        refine at_region_q mix (by kernel_rfl) ?_
        iterate 2 refine atq_s T rfl ?_
        refine atq_v rfl rfl rfl (g_load T rfl rfl rfl rfl (in_var (j := 1) rfl rfl)) ?_
        refine atq_s T rfl ?_
        obtain ⟨v11, V9, Z6⟩ := bind_e Z6
        refine atq_c rfl rfl rfl rfl rfl rfl has15 rfl (ref1_Within.c goal (-1) (List.length v10.C : Int) v11 _ V9) ?_
        iterate 2 refine atq_s T rfl ?_
        refine atq_v rfl rfl rfl (g_load T rfl rfl rfl rfl (in_var (j := 1) rfl rfl)) ?_
        refine atq_s T rfl ?_
        obtain ⟨v12, V10, Z6⟩ := bind_e Z6
        refine atq_c rfl rfl rfl rfl rfl rfl has15 rfl (ref1_Within.c cell (-1) (List.length v10.C : Int) v12 _ V10) ?_
        iterate 2 refine atq_s T rfl ?_
        refine atq_end ?_
        refine at_sub [(1, (.int .i64 v11)), (2, (.int .i64 v12)), (11, (.pointer (some ⟨b3, 0, none⟩))), (12, (.slice a5 (List.length (([] : List Int) ++ (sub' l 0 (if 40 < (List.length l : Int) then 40 else (List.length l : Int))))) n5))] ⟨rfl, rfl, rfl, rfl, trivial⟩ ?_
        refine at_then ?_
        refine at_seq ?_
        refine at_region [0, 1, 2, 3, 4, 5, 6] rfl ?_
        iterate 2 refine at_s T rfl ?_
        refine at_v rfl (g_load T rfl rfl rfl rfl (in_var (j := 1) rfl rfl)) ?_
        iterate 2 refine at_s T rfl ?_
        obtain ⟨v13, V11, Z6⟩ := bind_e Z6
        refine at_cons (at_c (B := fun _ => []) [] rfl rfl rfl rfl has15 rfl rfl (ref1_Within.c v12 0 (w64 ((List.length v10.C : Int) - 1)) v13 _ V11) (fun _ => ?_))
        refine at_s T rfl ?_
        refine at_end ?_
        refine at_sub [(1, (.int .i64 v11)), (2, (.int .i64 v12)), (11, (.pointer (some ⟨b3, 0, none⟩))), (12, (.slice a5 (List.length (([] : List Int) ++ (sub' l 0 (if 40 < (List.length l : Int) then 40 else (List.length l : Int))))) n5)), (13, (.int .i64 v13))] ⟨rfl, rfl, rfl, rfl, rfl, trivial⟩ ?_
        refine at_then ?_
        refine at_seq ?_
        refine at_region [0] rfl ?_
        refine at_s T rfl ?_
        refine at_end ?_
        refine at_sub [(1, (.int .i64 v11)), (2, (.int .i64 v12)), (11, (.pointer (some ⟨b3, 0, none⟩))), (12, (.slice a5 (List.length (([] : List Int) ++ (sub' l 0 (if 40 < (List.length l : Int) then 40 else (List.length l : Int))))) n5)), (13, (.int .i64 v13)), (14, (.int .i64 0))] ⟨rfl, rfl, rfl, rfl, rfl, rfl, trivial⟩ ?_
        refine at_then ?_
        refine at_block ?_
        refine at_loopL (σ := Nat × List Int × Int × Int × Option Addr × Nat × Hp) (fun ⟨k20, x17, x18, x19, a10, n10, H10⟩ => law30_TrailAsks.l0 k20 v10 v11 v12 x17 x18 x19 = some z9 ∧ SliceO (Fl.int .i64) 3 x17 a10 n10 H10) (fun ⟨k20, x17, x18, x19, a10, n10, H10⟩ => [(1, (.int .i64 v11)), (2, (.int .i64 v12)), (11, (.pointer (some ⟨b3, 0, none⟩))), (12, (.slice a10 (List.length x17) n10)), (13, (.int .i64 x18)), (14, (.int .i64 x19))]) (fun ⟨k20, x17, x18, x19, a10, n10, H10⟩ => [F, [(b3, Obj.cells #[(.int .i64 v10.W), (.int .i64 v10.H), (.slice a8 (List.length v10.C) n8)] 24 (0, 0))], H8, H10]) (fun s => s.1) (fuel, (([] : List Int) ++ (sub' l 0 (if 40 < (List.length l : Int) then 40 else (List.length l : Int)))), v13, 0, a5, n5, H5) [0, 0, 1, 0] ⟨Z6, s5⟩ ⟨rfl, rfl, rfl, rfl, rfl, rfl, trivial⟩ rfl ?_
        rintro ⟨k20, x17, x18, x19, a10, n10, H10⟩ ⟨Z12, s10⟩
        replace Z12 : law30_TrailAsks.l0 k20 v10 v11 v12 x17 x18 x19 = some z9 := Z12
        rcases k20 with _ | k20
        · rw [law30_TrailAsks.l0] at Z12; cases Z12
        · rw [law30_TrailAsks.l0] at Z12
          refine at_seq ?_
          refine at_seq ?_
          refine at_region [0, 1, 2, 3] rfl ?_
          iterate 4 refine at_s T rfl ?_
          refine at_end ?_
          refine at_sub [(1, (.int .i64 v11)), (2, (.int .i64 v12)), (11, (.pointer (some ⟨b3, 0, none⟩))), (12, (.slice a10 (List.length x17) n10)), (13, (.int .i64 x18)), (14, (.int .i64 x19)), (66, (.bool (decide (x19 < (List.length x17 : Int)))))] ⟨rfl, rfl, rfl, rfl, rfl, rfl, rfl, trivial⟩ ?_
          refine at_then ?_
          refine at_cond rfl (fun c13 => ?_) (fun c13 => ?_)
          · replace Z12 := if_t (of_decide_eq_true c13) Z12
            refine at_skip ?_
            refine at_then ?_
            refine at_seq ?_
            refine at_block ?_
            refine at_seq ?_
            refine at_seq ?_
            refine at_region_q mix (by kernel_rfl) ?_
            refine atq_s T rfl ?_
            refine atq_v rfl rfl rfl (g_load T rfl rfl rfl rfl (in_var (j := 1) rfl rfl)) ?_
            refine atq_s T rfl ?_
            refine atq_v rfl rfl rfl (g_load T rfl rfl rfl rfl (in_var (j := 1) rfl rfl)) ?_
            iterate 3 refine atq_s T rfl ?_
            obtain ⟨c14, Z12⟩ := chk_e Z12
            obtain ⟨q11, o11, e11⟩ := s10.r.addr c14.1 c14.2
            refine atq_v rfl rfl rfl (g_index T rfl rfl rfl rfl rfl e11 c14.1 c14.2) ?_
            refine atq_v rfl rfl rfl (g_load T rfl rfl rfl rfl (in_elem1 (k := (Fl.int .i64)) (own_of s10 (j := 3) rfl) e11 c14 0 rfl)) ?_
            obtain ⟨v21, V15, Z12⟩ := bind_e Z12
            refine atq_c rfl rfl rfl rfl rfl rfl has15 rfl (ref1_Within.c (rd x17 x19) 0 3 v21 _ V15) ?_
            obtain ⟨v22, V16, Z12⟩ := bind_e Z12
            refine atq_c rfl rfl rfl rfl rfl rfl has36 rfl (ref1_Step.c v10.W v10.H x18 v21 v22 _ V16) ?_
            refine atq_s T rfl ?_
            refine atq_end ?_
            refine at_sub [(1, (.int .i64 v11)), (2, (.int .i64 v12)), (11, (.pointer (some ⟨b3, 0, none⟩))), (12, (.slice a10 (List.length x17) n10)), (13, (.int .i64 x18)), (14, (.int .i64 x19)), (15, (.int .i64 v22))] ⟨rfl, rfl, rfl, rfl, rfl, rfl, rfl, trivial⟩ ?_
            refine at_then ?_
            refine at_seq ?_
            refine at_region [0, 1] rfl ?_
            iterate 2 refine at_s T rfl ?_
            refine at_end ?_
            refine at_sub [(1, (.int .i64 v11)), (2, (.int .i64 v12)), (11, (.pointer (some ⟨b3, 0, none⟩))), (12, (.slice a10 (List.length x17) n10)), (13, (.int .i64 x18)), (14, (.int .i64 x19)), (15, (.int .i64 v22)), (81, (.bool (decide (v22 ≥ 0))))] ⟨rfl, rfl, rfl, rfl, rfl, rfl, rfl, rfl, trivial⟩ ?_
            refine at_then ?_
            refine at_cond rfl (fun c17 => ?_) (fun c17 => ?_)
            · replace Z12 := if_t (of_decide_eq_true c17) Z12
              refine at_region [0, 1] rfl ?_
              iterate 2 refine at_s T rfl ?_
              refine at_end ?_
              refine at_sub [(1, (.int .i64 v11)), (2, (.int .i64 v12)), (11, (.pointer (some ⟨b3, 0, none⟩))), (12, (.slice a10 (List.length x17) n10)), (13, (.int .i64 v22)), (14, (.int .i64 x19))] ⟨rfl, rfl, rfl, rfl, rfl, rfl, trivial⟩ ?_
              refine at_then ?_
              refine at_region [0, 1, 2, 3, 4] rfl ?_
              iterate 3 refine at_s T rfl ?_
              refine at_v rfl (g_index T rfl rfl rfl rfl rfl e11 c14.1 c14.2) ?_
              refine at_cons (at_se (k := (Fl.int .i64)) T 3 0 v22 rfl rfl rfl rfl rfl rfl s10 e11 c14 rfl rfl rfl (fun H12 s12 => ?_))
              refine at_to [(1, (.int .i64 v11)), (2, (.int .i64 v12)), (11, (.pointer (some ⟨b3, 0, none⟩))), (12, (.slice a10 (List.length (List.set x17 (Int.toNat x19) v22)) n10)), (13, (.int .i64 v22)), (14, (.int .i64 x19))] [0, 0, 0, 0] [F, [(b3, Obj.cells #[(.int .i64 v10.W), (.int .i64 v10.H), (.slice a8 (List.length v10.C) n8)] 24 (0, 0))], H8, H12] ⟨rfl, rfl, rfl, (by first | rfl | (simp only [List.length_set]; rfl)), rfl, rfl, trivial⟩ rfl ?_
              refine at_end ?_
              refine at_sub [(1, (.int .i64 v11)), (2, (.int .i64 v12)), (11, (.pointer (some ⟨b3, 0, none⟩))), (12, (.slice a10 (List.length (List.set x17 (Int.toNat x19) v22)) n10)), (13, (.int .i64 v22)), (14, (.int .i64 x19))] ⟨rfl, rfl, rfl, rfl, rfl, rfl, trivial⟩ ?_
              refine at_nb ?_
              refine at_then ?_
              refine at_region [0, 1, 2] rfl ?_
              iterate 3 refine at_s T rfl ?_
              refine at_end ?_
              refine at_sub [(1, (.int .i64 v11)), (2, (.int .i64 v12)), (11, (.pointer (some ⟨b3, 0, none⟩))), (12, (.slice a10 (List.length (List.set x17 (Int.toNat x19) v22)) n10)), (13, (.int .i64 v22)), (14, (.int .i64 (w64 (x19 + 1))))] ⟨rfl, rfl, rfl, rfl, rfl, rfl, trivial⟩ ?_
              refine at_then ?_
              exact at_roundL (k20, (List.set x17 (Int.toNat x19) v22), v22, (w64 (x19 + 1)), a10, n10, H12) [0, 0, 0, 0] ⟨Z12, s12⟩ (Nat.lt_succ_self _) ⟨rfl, rfl, rfl, rfl, rfl, rfl, trivial⟩ rfl
            · replace Z12 := if_f (of_decide_eq_false c17) Z12
              refine at_skip ?_
              refine at_then ?_
              refine at_region [0, 1, 2, 3, 4] rfl ?_
              iterate 3 refine at_s T rfl ?_
              refine at_v rfl (g_index T rfl rfl rfl rfl rfl e11 c14.1 c14.2) ?_
              refine at_cons (at_se (k := (Fl.int .i64)) T 3 0 x18 rfl rfl rfl rfl rfl rfl s10 e11 c14 rfl rfl rfl (fun H13 s13 => ?_))
              refine at_to [(1, (.int .i64 v11)), (2, (.int .i64 v12)), (11, (.pointer (some ⟨b3, 0, none⟩))), (12, (.slice a10 (List.length (List.set x17 (Int.toNat x19) x18)) n10)), (13, (.int .i64 x18)), (14, (.int .i64 x19))] [0, 0, 0, 0] [F, [(b3, Obj.cells #[(.int .i64 v10.W), (.int .i64 v10.H), (.slice a8 (List.length v10.C) n8)] 24 (0, 0))], H8, H13] ⟨rfl, rfl, rfl, (by first | rfl | (simp only [List.length_set]; rfl)), rfl, rfl, trivial⟩ rfl ?_
              refine at_end ?_
              refine at_sub [(1, (.int .i64 v11)), (2, (.int .i64 v12)), (11, (.pointer (some ⟨b3, 0, none⟩))), (12, (.slice a10 (List.length (List.set x17 (Int.toNat x19) x18)) n10)), (13, (.int .i64 x18)), (14, (.int .i64 x19))] ⟨rfl, rfl, rfl, rfl, rfl, rfl, trivial⟩ ?_
              refine at_nb ?_
              refine at_then ?_
              refine at_region [0, 1, 2] rfl ?_
              iterate 3 refine at_s T rfl ?_
              refine at_end ?_
              refine at_sub [(1, (.int .i64 v11)), (2, (.int .i64 v12)), (11, (.pointer (some ⟨b3, 0, none⟩))), (12, (.slice a10 (List.length (List.set x17 (Int.toNat x19) x18)) n10)), (13, (.int .i64 x18)), (14, (.int .i64 (w64 (x19 + 1))))] ⟨rfl, rfl, rfl, rfl, rfl, rfl, trivial⟩ ?_
              refine at_then ?_
              exact at_roundL (k20, (List.set x17 (Int.toNat x19) x18), x18, (w64 (x19 + 1)), a10, n10, H13) [0, 0, 0, 0] ⟨Z12, s13⟩ (Nat.lt_succ_self _) ⟨rfl, rfl, rfl, rfl, rfl, rfl, trivial⟩ rfl
          · replace Z12 := if_f (of_decide_eq_false c13) Z12
            refine at_exit ?_
            refine at_xt ?_
            refine at_xt ?_
            refine at_xb ?_
            refine at_then ?_
            obtain rfl := Option.some.inj Z12
            exact at_mid (v11, v12, v10.W, v10.H, v10.C, x17, a8, n8, H8, a10, n10, H10) [0, 0, 0, 0] ⟨rfl, s8, s10⟩ ⟨rfl, rfl, rfl, rfl, trivial⟩ rfl
      · replace Z6 := if_f (bf c7) Z6
        refine at_skip ?_
        refine at_then ?_
        obtain rfl := Option.some.inj Z6
        exact at_mid (goal, cell, v2.W, v2.H, v2.C, (([] : List Int) ++ (sub' l 0 (if 40 < (List.length l : Int) then 40 else (List.length l : Int)))), a2, n2, H2, a5, n5, H5) [0, 2, 1, 1] ⟨rfl, s2, s5⟩ ⟨rfl, rfl, rfl, rfl, trivial⟩ rfl
    · rintro ⟨x3, x4, x5, x6, x7, x8, a6, n6, H6, a7, n7, H7⟩ ⟨rfl, s6, s7⟩
      refine at_seq ?_
      refine at_region [0, 1, 2, 3, 4, 5, 6, 7, 8] rfl ?_
      refine at_v rfl (g_loadA T (cs := [(.int .i64 x5), (.int .i64 x6), (.slice a6 (List.length x7) n6)]) rfl rfl rfl rfl rfl rfl (in_varA (j := 1) rfl rfl)) ?_
      iterate 2 refine at_s T rfl ?_
      obtain ⟨v23, V18, H⟩ := bind_e H
      refine at_cons (at_cR (trail_Path.R v23) [] [] rfl rfl rfl rfl has37 rfl rfl (trail_Path.c (api_Map.mk x5 x6 x7) x3 x4 v23 _ V18 (own_of s6 (j := 2) rfl) s6.cap_le) ?_)
      rintro _ _ ⟨a14, n14, H14, s14, rfl, rfl⟩
      iterate 5 refine at_s T rfl ?_
      refine at_end ?_
      refine at_sub [(1, (.int .i64 x3)), (2, (.int .i64 x4)), (11, (.pointer (some ⟨b3, 0, none⟩))), (12, (.slice a7 (List.length x8) n7)), (16, (.slice a14 (List.length v23.1) n14)), (17, (.bool v23.2))] ⟨rfl, rfl, rfl, rfl, rfl, rfl, trivial⟩ ?_
      refine at_then ?_
      refine at_seq ?_
      refine at_region [0, 1, 2, 3, 4, 5, 6, 7, 8] rfl ?_
      refine at_v rfl (g_loadA T (cs := [(.int .i64 x5), (.int .i64 x6), (.slice a6 (List.length x7) n6)]) rfl rfl rfl rfl rfl rfl (in_varA (j := 1) rfl rfl)) ?_
      iterate 2 refine at_s T rfl ?_
      obtain ⟨v24, V19, H⟩ := bind_e H
      refine at_cons (at_cR (ref27_Path.R v24) [] [] rfl rfl rfl rfl has38 rfl rfl (ref27_Path.c (api_Map.mk x5 x6 x7) x3 x4 v24 _ V19 (own_of s6 (j := 2) rfl) s6.cap_le) ?_)
      rintro _ _ ⟨a15, n15, H15, s15, rfl, rfl⟩
      iterate 5 refine at_s T rfl ?_
      refine at_end ?_
      refine at_sub [(11, (.pointer (some ⟨b3, 0, none⟩))), (12, (.slice a7 (List.length x8) n7)), (16, (.slice a14 (List.length v23.1) n14)), (17, (.bool v23.2)), (18, (.slice a15 (List.length v24.1) n15)), (19, (.bool v24.2))] ⟨rfl, rfl, rfl, rfl, rfl, rfl, trivial⟩ ?_
      refine at_then ?_
      refine at_seq ?_
      refine at_region [0, 1, 2, 3, 4, 5, 6, 7] rfl ?_
      refine at_v rfl (g_loadA T (cs := [(.int .i64 x5), (.int .i64 x6), (.slice a6 (List.length x7) n6)]) rfl rfl rfl rfl rfl rfl (in_varA (j := 1) rfl rfl)) ?_
      refine at_s T rfl ?_
      obtain ⟨v25, V20, H⟩ := bind_e H
      refine at_cons (at_c (B := fun _ => []) [] rfl rfl rfl rfl has39 rfl rfl (trail_Cost.c (api_Map.mk x5 x6 x7) x8 v25 _ V20 (own_of s6 (j := 2) rfl) s6.cap_le (own_of s7 (j := 3) rfl) s7.cap_le) (fun _ => ?_))
      iterate 5 refine at_s T rfl ?_
      refine at_end ?_
      refine at_sub [(11, (.pointer (some ⟨b3, 0, none⟩))), (12, (.slice a7 (List.length x8) n7)), (16, (.slice a14 (List.length v23.1) n14)), (17, (.bool v23.2)), (18, (.slice a15 (List.length v24.1) n15)), (19, (.bool v24.2)), (20, (.int .i64 v25.1)), (21, (.bool v25.2))] ⟨rfl, rfl, rfl, rfl, rfl, rfl, rfl, rfl, trivial⟩ ?_
      refine at_then ?_
      refine at_seq ?_
      refine at_region [0, 1, 2, 3, 4, 5, 6, 7] rfl ?_
      refine at_v rfl (g_loadA T (cs := [(.int .i64 x5), (.int .i64 x6), (.slice a6 (List.length x7) n6)]) rfl rfl rfl rfl rfl rfl (in_varA (j := 1) rfl rfl)) ?_
      refine at_s T rfl ?_
      obtain ⟨v26, V21, H⟩ := bind_e H
      refine at_cons (at_c (B := fun _ => []) [] rfl rfl rfl rfl has40 rfl rfl (ref27_Cost.c (api_Map.mk x5 x6 x7) x8 v26 _ V21 (own_of s6 (j := 2) rfl) s6.cap_le (own_of s7 (j := 3) rfl) s7.cap_le) (fun _ => ?_))
      iterate 5 refine at_s T rfl ?_
      refine at_end ?_
      refine at_to [(16, (.slice a14 (List.length v23.1) n14)), (17, (.bool v23.2)), (18, (.slice a15 (List.length v24.1) n15)), (19, (.bool v24.2)), (20, (.int .i64 v25.1)), (21, (.bool v25.2)), (22, (.int .i64 v26.1)), (23, (.bool v26.2))] [0, 3, 3] [F, H14, H15] ⟨rfl, rfl, rfl, rfl, rfl, rfl, rfl, rfl, trivial⟩ rfl ?_
      refine at_then ?_
      obtain ⟨z28, Z22, H⟩ := bind_e H
      refine at_seq_mid (σ := Bool) (fun x27 => x27 = z28) (fun x27 => [(10, (.bool x27))]) (fun x27 => [F]) ?_ ?_
      · refine at_region [0, 1, 2, 3, 4, 5, 6, 7, 8, 9, 10, 11, 12, 13, 14, 15, 16, 17, 18, 19, 20, 21] rfl ?_
        obtain ⟨v29, V23, Z22⟩ := bind_e Z22
        refine at_cons (at_c (B := fun _ => []) [] rfl rfl rfl rfl has34 rfl rfl (law30_told.c  v29 _ V23) (fun _ => ?_))
        refine at_s T rfl ?_
        refine at_grp T [2, 3, 4, 5] (s := 114) (c := v29) [(16, (.slice a14 (List.length v23.1) n14)), (18, (.slice a15 (List.length v24.1) n15)), (20, (.int .i64 v25.1)), (21, (.bool v25.2)), (22, (.int .i64 v26.1)), (23, (.bool v26.2)), (118, (.bool (v29 && (v23.2 == v24.2))))] rfl rfl rfl (fun c24 => ⟨rfl, rfl, rfl, rfl, rfl, rfl, (by rw [c24]; rfl), trivial⟩) (fun c24 => ⟨rfl, rfl, rfl, rfl, rfl, rfl, (by rw [c24]; rfl), trivial⟩) ?_
        refine at_s T rfl ?_
        refine at_case (s := 119) rfl (fun c25 => ?_) (fun c25 => ?_)
        · replace Z22 := if_t c25 Z22
          iterate 2 refine at_s T rfl ?_
          obtain ⟨v30, V26, Z22⟩ := bind_e Z22
          refine at_cons (at_c (B := fun _ => []) [] rfl rfl rfl rfl has20 rfl rfl (ref1_Ints.c v23.1 v24.1 v30 _ V26 (own_of s14 (j := 1) rfl) s14.cap_le (own_of s15 (j := 2) rfl) s15.cap_le) (fun _ => ?_))
          iterate 2 refine at_s T rfl ?_
          refine at_grp T [12, 13, 14, 15] (s := 124) (c := v30) [(21, (.bool v25.2)), (23, (.bool v26.2)), (128, (.bool (v30 && (v25.1 == v26.1))))] rfl rfl rfl (fun c27 => ⟨rfl, rfl, (by rw [c27]; rfl), trivial⟩) (fun c27 => ⟨rfl, rfl, (by rw [c27]; rfl), trivial⟩) ?_
          refine at_s T rfl ?_
          refine at_grp T [17, 18, 19, 20] (s := 129) (c := (v30 && (v25.1 == v26.1))) [(133, (.bool ((v30 && (v25.1 == v26.1)) && (v25.2 == v26.2))))] rfl rfl rfl (fun c28 => ⟨(by rw [c28]; rfl), trivial⟩) (fun c28 => ⟨(by rw [c28]; rfl), trivial⟩) ?_
          refine at_s T rfl ?_
          refine at_end ?_
          refine at_to [(10, (.bool ((v30 && (v25.1 == v26.1)) && (v25.2 == v26.2))))] [0] [F] ⟨rfl, trivial⟩ rfl ?_
          refine at_then ?_
          obtain rfl := Option.some.inj Z22
          exact at_mid ((v30 && (v25.1 == v26.1)) && (v25.2 == v26.2)) [0] rfl ⟨rfl, trivial⟩ rfl
        · replace Z22 := if_f (bf c25) Z22
          iterate 15 refine at_s T rfl ?_
          refine at_end ?_
          refine at_to [(10, (.bool false))] [0] [F] ⟨rfl, trivial⟩ rfl ?_
          refine at_then ?_
          obtain rfl := Option.some.inj Z22
          exact at_mid false [0] rfl ⟨rfl, trivial⟩ rfl
      · rintro x27 rfl
        refine at_ret ?_
        obtain rfl := Option.some.inj H
        exact at_post (T := T) rfl (.tmp rfl .nil) (fun w o => ⟨(), rfl, own_to [0] rfl o⟩)
def law30_TrailAsks.Pure : Prop := ∀ (m : api_Map) (goal : Int) (cell : Int) (l : (List Int)) (raw : Bool), (inI64 m.W ∧ inI64 m.H ∧ (∀ y ∈ m.C, inU8 y)) → inI64 goal → inI64 cell → (∀ y ∈ l, inI64 y) → List.length m.C ≤ 9223372036854775807 → List.length l ≤ 9223372036854775807 → law30_TrailAsks.f m goal cell l raw = some true
end Go.Proofs.Yticdodeoljodiaa
