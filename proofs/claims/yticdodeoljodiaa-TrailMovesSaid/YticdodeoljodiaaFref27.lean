import Derived.Test.YticdodeoljodiaaT
import Derived.Test.YticdodeoljodiaaFref1
import Derived.Test.YticdodeoljodiaaFref11
namespace Go.Proofs.Yticdodeoljodiaa
open Go.Hx
set_option maxRecDepth 100000
set_option linter.unusedVariables false
noncomputable section
/-! ### herdsman/herdsmanref27.Path: function 38 -/
def ref27_Path.l0 : Nat → api_Map → Int → (List Int) → Int → List Int → Option (List Int)
  | 0, _, _, _, _, _ => none
  | k13 + 1, m, goal, v6, x11, x12 => if (x11 != goal) = true then ((ref11_Dir.f m goal v6 x11).bind fun v14 => (ref1_Step.f m.W m.H x11 v14).bind fun v15 => if (List.length x12 + 1 ≤ 1099511627776) then (ref27_Path.l0 k13 m goal v6 v15 (x12 ++ [v15])) else none) else (some x12)
def ref27_Path.f (m : api_Map) (goal : Int) (c : Int) : Option ((List Int) × Bool) := ((ref1_MayMap.f m).bind fun v3 => if (!v3) = true then (some true) else ((ref1_IsCell.f m.W m.H goal).bind fun v4 => if (!v4) = true then (some true) else ((ref1_IsCell.f m.W m.H c).bind fun v5 => some (!v5)))).bind fun x1 => if x1 = true then (some ([], false)) else ((ref11_Flat.f m goal).bind fun v6 => if (0 ≤ c ∧ c < (List.length v6 : Int)) then (if (rd v6 c) ≥ 1099511627776 then (some ([], false)) else ((ref27_Path.l0 fuel m goal v6 c [c]).bind fun x7 => some (x7, true))) else none)
def ref27_Path.R (r : ((List Int) × Bool)) (u : Value) (G : List Hp) : Prop := ∃ (a0 : Option Addr) (n0 : Nat) (H0 : Hp), SliceO (Fl.int .i64) 3 r.1 a0 n0 H0 ∧ u = (.tuple #[(.slice a0 (List.length r.1) n0), (.bool r.2)]) ∧ G = [H0]
set_option maxHeartbeats 4000000 in
theorem ref27_Path.c {a_m_C : Option Addr} {n_m_C : Nat} (m : api_Map) (goal : Int) (c : Int) (r : ((List Int) × Bool)) (F : Hp) (H : ref27_Path.f m goal c = some r) (h_m_C : SliceR (Fl.int .u8) m.C a_m_C F) (c_m_C : List.length m.C ≤ n_m_C) :
    CallsL Try.prog 38 [(.agg #[(.int .i64 m.W), (.int .i64 m.H), (.slice a_m_C (List.length m.C) n_m_C)]), (.int .i64 goal), (.int .i64 c)] [F] (fun qp : { qp : Value × List Hp // ref27_Path.R r qp.1 qp.2 } => qp.1.1) (fun qp => (qp.1.2 ++ []) ++ [F]) := by
  unfold ref27_Path.f at H
  refine calls_atL [(0, (.agg #[(.int .i64 m.W), (.int .i64 m.H), (.slice a_m_C (List.length m.C) n_m_C)])), (1, (.int .i64 goal)), (2, (.int .i64 c))] Try.func38 rfl rfl ⟨rfl, rfl, rfl, trivial⟩ (fun W => ?_)
  refine at_seq ?_
  refine at_region [0, 1, 2] rfl ?_
  refine at_cons (at_bx T [(.int .i64 m.W), (.int .i64 m.H), (.slice a_m_C (List.length m.C) n_m_C)] rfl rfl rfl rfl (fun b1 => ?_))
  iterate 2 refine at_s T rfl ?_
  refine at_end ?_
  refine at_sub [(1, (.int .i64 goal)), (2, (.int .i64 c)), (3, (.pointer (some ⟨b1, 0, none⟩)))] ⟨rfl, rfl, rfl, trivial⟩ ?_
  refine at_then ?_
  refine at_seq ?_
  obtain ⟨z2, Z1, H⟩ := bind_e H
  refine at_seq_mid (σ := Bool) (fun x1 => x1 = z2) (fun x1 => [(1, (.int .i64 goal)), (2, (.int .i64 c)), (3, (.pointer (some ⟨b1, 0, none⟩))), (30, (.bool x1))]) (fun x1 => [F, [(b1, Obj.cells #[(.int .i64 m.W), (.int .i64 m.H), (.slice a_m_C (List.length m.C) n_m_C)] 24 (0, 0))]]) ?_ ?_
  · refine at_region [0, 1, 2, 3, 4, 5, 6, 7, 8, 9, 10, 11, 12, 13, 14, 15, 16, 17, 18, 19, 20] rfl ?_
    refine at_v rfl (g_loadA T (cs := [(.int .i64 m.W), (.int .i64 m.H), (.slice a_m_C (List.length m.C) n_m_C)]) rfl rfl rfl rfl rfl rfl (in_varA (j := 1) rfl rfl)) ?_
    obtain ⟨v3, V2, Z1⟩ := bind_e Z1
    refine at_cons (at_c (B := fun _ => []) [] rfl rfl rfl rfl has70 rfl rfl (ref1_MayMap.c m v3 _ V2 (ro_of h_m_C (j := 0) rfl) c_m_C) (fun _ => ?_))
    iterate 2 refine at_s T rfl ?_
    refine at_case (s := 13) rfl (fun c3 => ?_) (fun c3 => ?_)
    · replace Z1 := if_t c3 Z1
      iterate 17 refine at_s T rfl ?_
      refine at_end ?_
      refine at_sub [(1, (.int .i64 goal)), (2, (.int .i64 c)), (3, (.pointer (some ⟨b1, 0, none⟩))), (30, (.bool true))] ⟨rfl, rfl, rfl, rfl, trivial⟩ ?_
      refine at_then ?_
      obtain rfl := Option.some.inj Z1
      exact at_mid true [0, 0] rfl ⟨rfl, rfl, rfl, rfl, trivial⟩ rfl
    · replace Z1 := if_f (bf c3) Z1
      refine at_s T rfl ?_
      refine at_v rfl (g_load T rfl rfl rfl rfl (in_var (j := 1) rfl rfl)) ?_
      refine at_s T rfl ?_
      refine at_v rfl (g_load T rfl rfl rfl rfl (in_var (j := 1) rfl rfl)) ?_
      refine at_s T rfl ?_
      obtain ⟨v4, V4, Z1⟩ := bind_e Z1
      refine at_cons (at_c (B := fun _ => []) [] rfl rfl rfl rfl has17 rfl rfl (ref1_IsCell.c m.W m.H goal v4 _ V4) (fun _ => ?_))
      iterate 3 refine at_s T rfl ?_
      refine at_case (s := 22) rfl (fun c5 => ?_) (fun c5 => ?_)
      · replace Z1 := if_t c5 Z1
        iterate 8 refine at_s T rfl ?_
        refine at_end ?_
        refine at_sub [(1, (.int .i64 goal)), (2, (.int .i64 c)), (3, (.pointer (some ⟨b1, 0, none⟩))), (30, (.bool true))] ⟨rfl, rfl, rfl, rfl, trivial⟩ ?_
        refine at_then ?_
        obtain rfl := Option.some.inj Z1
        exact at_mid true [0, 0] rfl ⟨rfl, rfl, rfl, rfl, trivial⟩ rfl
      · replace Z1 := if_f (bf c5) Z1
        refine at_s T rfl ?_
        refine at_v rfl (g_load T rfl rfl rfl rfl (in_var (j := 1) rfl rfl)) ?_
        refine at_s T rfl ?_
        refine at_v rfl (g_load T rfl rfl rfl rfl (in_var (j := 1) rfl rfl)) ?_
        refine at_s T rfl ?_
        obtain ⟨v5, V6, Z1⟩ := bind_e Z1
        refine at_cons (at_c (B := fun _ => []) [] rfl rfl rfl rfl has17 rfl rfl (ref1_IsCell.c m.W m.H c v5 _ V6) (fun _ => ?_))
        iterate 2 refine at_s T rfl ?_
        refine at_end ?_
        refine at_sub [(1, (.int .i64 goal)), (2, (.int .i64 c)), (3, (.pointer (some ⟨b1, 0, none⟩))), (30, (.bool (!v5)))] ⟨rfl, rfl, rfl, rfl, trivial⟩ ?_
        refine at_then ?_
        obtain rfl := Option.some.inj Z1
        exact at_mid (!v5) [0, 0] rfl ⟨rfl, rfl, rfl, rfl, trivial⟩ rfl
  · rintro x1 rfl
    refine at_cond rfl (fun c7 => ?_) (fun c7 => ?_)
    · replace H := if_t c7 H
      refine at_seq ?_
      refine at_region [0, 1] rfl ?_
      iterate 2 refine at_s T rfl ?_
      refine at_end ?_
      refine at_to [(6, (.slice none 0 0)), (7, (.bool false))] [0] [F] ⟨rfl, rfl, trivial⟩ rfl ?_
      refine at_then ?_
      refine at_ret ?_
      refine at_rt ?_
      obtain rfl := Option.some.inj H
      refine at_addnil ?_
      exact at_post (T := T) rfl (.tmp rfl (.tmp rfl .nil)) (fun w o => ⟨⟨(_, _), ⟨none, 0, [], SliceO.nil, rfl, rfl⟩⟩, rfl, own_to [1, 0] rfl o⟩)
    · replace H := if_f (bf c7) H
      refine at_skip ?_
      refine at_then ?_
      refine at_seq ?_
      refine at_region [0, 1, 2, 3] rfl ?_
      refine at_v rfl (g_loadA T (cs := [(.int .i64 m.W), (.int .i64 m.H), (.slice a_m_C (List.length m.C) n_m_C)]) rfl rfl rfl rfl rfl rfl (in_varA (j := 1) rfl rfl)) ?_
      refine at_s T rfl ?_
      obtain ⟨v6, V8, H⟩ := bind_e H
      refine at_cons (at_cR (ref11_Flat.R v6) [] [] rfl rfl rfl rfl has47 rfl rfl (ref11_Flat.c m goal v6 _ V8 (ro_of h_m_C (j := 0) rfl) c_m_C) ?_)
      rintro _ _ ⟨a3, n3, H3, s3, rfl, rfl⟩
      refine at_s T rfl ?_
      refine at_end ?_
      refine at_sub [(1, (.int .i64 goal)), (2, (.int .i64 c)), (3, (.pointer (some ⟨b1, 0, none⟩))), (8, (.slice a3 (List.length v6) n3))] ⟨rfl, rfl, rfl, rfl, trivial⟩ ?_
      refine at_then ?_
      refine at_seq ?_
      refine at_seq ?_
      refine at_region [0, 1, 2, 3, 4] rfl ?_
      iterate 2 refine at_s T rfl ?_
      obtain ⟨c9, H⟩ := chk_e H
      obtain ⟨q4, o4, e4⟩ := s3.r.addr c9.1 c9.2
      refine at_v rfl (g_index T rfl rfl rfl rfl rfl e4 c9.1 c9.2) ?_
      refine at_v rfl (g_load T rfl rfl rfl rfl (in_elem1 (k := (Fl.int .i64)) (own_of s3 (j := 2) rfl) e4 c9 0 rfl)) ?_
      refine at_s T rfl ?_
      refine at_end ?_
      refine at_sub [(1, (.int .i64 goal)), (2, (.int .i64 c)), (3, (.pointer (some ⟨b1, 0, none⟩))), (8, (.slice a3 (List.length v6) n3)), (38, (.bool (decide ((rd v6 c) ≥ 1099511627776))))] ⟨rfl, rfl, rfl, rfl, rfl, trivial⟩ ?_
      refine at_then ?_
      refine at_cond rfl (fun c10 => ?_) (fun c10 => ?_)
      · replace H := if_t (of_decide_eq_true c10) H
        refine at_seq ?_
        refine at_region [0, 1] rfl ?_
        iterate 2 refine at_s T rfl ?_
        refine at_end ?_
        refine at_to [(6, (.slice none 0 0)), (7, (.bool false))] [0] [F] ⟨rfl, rfl, trivial⟩ rfl ?_
        refine at_then ?_
        refine at_ret ?_
        refine at_rt ?_
        obtain rfl := Option.some.inj H
        refine at_addnil ?_
        exact at_post (T := T) rfl (.tmp rfl (.tmp rfl .nil)) (fun w o => ⟨⟨(_, _), ⟨none, 0, [], SliceO.nil, rfl, rfl⟩⟩, rfl, own_to [1, 0] rfl o⟩)
      · replace H := if_f (of_decide_eq_false c10) H
        refine at_skip ?_
        refine at_then ?_
        refine at_seq ?_
        refine at_region [0, 1, 2] rfl ?_
        refine at_s T rfl ?_
        refine at_cons (at_bs (k := (Fl.int .i64)) T [c] rfl rfl rfl rfl rfl rfl rfl rfl rfl (fun a6 H6 s6 => ?_))
        refine at_s T rfl ?_
        refine at_end ?_
        refine at_sub [(1, (.int .i64 goal)), (2, (.int .i64 c)), (3, (.pointer (some ⟨b1, 0, none⟩))), (8, (.slice a3 (List.length v6) n3)), (9, (.slice a6 (List.length [c]) (List.length [c])))] ⟨rfl, rfl, rfl, rfl, rfl, trivial⟩ ?_
        refine at_then ?_
        obtain ⟨z8, Z11, H⟩ := bind_e H
        refine at_seq_mid (σ := List Int × Option Addr × Nat × Hp) (fun ⟨x7, a7, n7, H7⟩ => x7 = z8 ∧ SliceO (Fl.int .i64) 3 x7 a7 n7 H7) (fun ⟨x7, a7, n7, H7⟩ => [(9, (.slice a7 (List.length x7) n7))]) (fun ⟨x7, a7, n7, H7⟩ => [F, H7]) ?_ ?_
        · refine at_block ?_
          refine at_loopL (σ := Nat × Int × List Int × Option Addr × Nat × Hp) (fun ⟨k13, x11, x12, a9, n9, H9⟩ => ref27_Path.l0 k13 m goal v6 x11 x12 = some z8 ∧ SliceO (Fl.int .i64) 3 x12 a9 n9 H9) (fun ⟨k13, x11, x12, a9, n9, H9⟩ => [(1, (.int .i64 goal)), (2, (.int .i64 x11)), (3, (.pointer (some ⟨b1, 0, none⟩))), (8, (.slice a3 (List.length v6) n3)), (9, (.slice a9 (List.length x12) n9))]) (fun ⟨k13, x11, x12, a9, n9, H9⟩ => [F, [(b1, Obj.cells #[(.int .i64 m.W), (.int .i64 m.H), (.slice a_m_C (List.length m.C) n_m_C)] 24 (0, 0))], H3, H9]) (fun s => s.1) (fuel, c, [c], a6, (List.length [c]), H6) [0, 0, 0, 0] ⟨Z11, s6⟩ ⟨rfl, rfl, rfl, rfl, rfl, trivial⟩ rfl ?_
          rintro ⟨k13, x11, x12, a9, n9, H9⟩ ⟨Z12, s9⟩
          replace Z12 : ref27_Path.l0 k13 m goal v6 x11 x12 = some z8 := Z12
          rcases k13 with _ | k13
          · rw [ref27_Path.l0] at Z12; cases Z12
          · rw [ref27_Path.l0] at Z12
            refine at_seq ?_
            refine at_seq ?_
            refine at_region [0, 1, 2] rfl ?_
            iterate 3 refine at_s T rfl ?_
            refine at_end ?_
            refine at_sub [(1, (.int .i64 goal)), (2, (.int .i64 x11)), (3, (.pointer (some ⟨b1, 0, none⟩))), (8, (.slice a3 (List.length v6) n3)), (9, (.slice a9 (List.length x12) n9)), (43, (.bool (x11 != goal)))] ⟨rfl, rfl, rfl, rfl, rfl, rfl, trivial⟩ ?_
            refine at_then ?_
            refine at_cond rfl (fun c13 => ?_) (fun c13 => ?_)
            · replace Z12 := if_t c13 Z12
              refine at_skip ?_
              refine at_then ?_
              refine at_block ?_
              refine at_seq ?_
              refine at_region_q mix (by kernel_rfl) ?_
              refine atq_s T rfl ?_
              refine atq_v rfl rfl rfl (g_load T rfl rfl rfl rfl (in_var (j := 1) rfl rfl)) ?_
              refine atq_s T rfl ?_
              refine atq_v rfl rfl rfl (g_load T rfl rfl rfl rfl (in_var (j := 1) rfl rfl)) ?_
              refine atq_s T rfl ?_
              refine atq_v rfl rfl rfl (g_loadA T (cs := [(.int .i64 m.W), (.int .i64 m.H), (.slice a_m_C (List.length m.C) n_m_C)]) rfl rfl rfl rfl rfl rfl (in_varA (j := 1) rfl rfl)) ?_
              iterate 3 refine atq_s T rfl ?_
              obtain ⟨v14, V14, Z12⟩ := bind_e Z12
              refine atq_c rfl rfl rfl rfl rfl rfl has71 rfl (ref11_Dir.c m goal v6 x11 v14 _ V14 (ro_of h_m_C (j := 0) rfl) c_m_C (own_of s3 (j := 2) rfl) s3.cap_le) ?_
              obtain ⟨v15, V15, Z12⟩ := bind_e Z12
              refine atq_c rfl rfl rfl rfl rfl rfl has36 rfl (ref1_Step.c m.W m.H x11 v14 v15 _ V15) ?_
              refine atq_s T rfl ?_
              refine atq_end ?_
              refine at_sub [(1, (.int .i64 goal)), (2, (.int .i64 v15)), (3, (.pointer (some ⟨b1, 0, none⟩))), (8, (.slice a3 (List.length v6) n3)), (9, (.slice a9 (List.length x12) n9))] ⟨rfl, rfl, rfl, rfl, rfl, trivial⟩ ?_
              refine at_then ?_
              refine at_region [0, 1, 2, 3, 4] rfl ?_
              iterate 2 refine at_s T rfl ?_
              refine at_cons (at_bs (k := (Fl.int .i64)) T [v15] rfl rfl rfl rfl rfl rfl rfl rfl rfl (fun a10 H10 s10 => ?_))
              obtain ⟨c16, Z12⟩ := chk_e Z12
              refine at_cons (at_ap (k := (Fl.int .i64)) (xs := x12) T (g := 3) rfl rfl rfl rfl rfl rfl rfl rfl rfl rfl s9 (own_of s10 (j := 4) rfl) c16 rfl (fun a11 n11 H11 s11 => ?_))
              refine at_s T rfl ?_
              refine at_end ?_
              refine at_to [(1, (.int .i64 goal)), (2, (.int .i64 v15)), (3, (.pointer (some ⟨b1, 0, none⟩))), (8, (.slice a3 (List.length v6) n3)), (9, (.slice a11 (List.length (x12 ++ [v15])) n11))] [0, 0, 0, 0] [F, [(b1, Obj.cells #[(.int .i64 m.W), (.int .i64 m.H), (.slice a_m_C (List.length m.C) n_m_C)] 24 (0, 0))], H3, H11] ⟨rfl, rfl, rfl, rfl, rfl, trivial⟩ rfl ?_
              refine at_nb ?_
              refine at_then ?_
              exact at_roundL (k13, v15, (x12 ++ [v15]), a11, n11, H11) [0, 0, 0, 0] ⟨Z12, s11⟩ (Nat.lt_succ_self _) ⟨rfl, rfl, rfl, rfl, rfl, trivial⟩ rfl
            · replace Z12 := if_f (bf c13) Z12
              refine at_exit ?_
              refine at_xt ?_
              refine at_xt ?_
              refine at_xb ?_
              refine at_then ?_
              obtain rfl := Option.some.inj Z12
              exact at_mid (x12, a9, n9, H9) [0, 2] ⟨rfl, s9⟩ ⟨rfl, trivial⟩ rfl
        · rintro ⟨x7, a7, n7, H7⟩ ⟨rfl, s7⟩
          refine at_seq ?_
          refine at_region [0, 1, 2] rfl ?_
          iterate 3 refine at_s T rfl ?_
          refine at_end ?_
          refine at_sub [(6, (.slice a7 (List.length x7) n7)), (7, (.bool true))] ⟨rfl, rfl, trivial⟩ ?_
          refine at_then ?_
          refine at_ret ?_
          obtain rfl := Option.some.inj H
          exact at_post (T := T) rfl (.tmp rfl (.tmp rfl .nil)) (fun w o => ⟨⟨(_, _), ⟨a7, n7, H7, s7, rfl, rfl⟩⟩, rfl, own_to [1, 0] rfl o⟩)

/-! ### herdsman/herdsmanref27.Cost: function 40 -/
def ref27_Cost.l0 : Nat → api_Map → (List Int) → Int → Int → Option (Int × Bool)
  | 0, _, _, _, _ => none
  | k6 + 1, m, l, x4, x5 => if x5 < (List.length l : Int) then ((if (0 ≤ x5 ∧ x5 < (List.length l : Int)) then ((ref1_IsCell.f m.W m.H (rd l x5)).bind fun v9 => if (!v9) = true then (some true) else (if (0 ≤ (rd l x5) ∧ (rd l x5) < (List.length m.C : Int)) then (some ((rd m.C (rd l x5)) == 255)) else none)) else none).bind fun x7 => if x7 = true then (some (0, false)) else (if x5 > 0 then (if (0 ≤ (w64 (x5 - 1)) ∧ (w64 (x5 - 1)) < (List.length l : Int)) then (if (0 ≤ x5 ∧ x5 < (List.length l : Int)) then ((ref1_Side.f m.W m.H (rd l (w64 (x5 - 1))) (rd l x5)).bind fun v10 => if v10 > 3 then (some (0, false)) else (if (0 ≤ (rd l x5) ∧ (rd l x5) < (List.length m.C : Int)) then (ref27_Cost.l0 k6 m l (w64 (x4 + (w64 (rd m.C (rd l x5))))) (w64 (x5 + 1))) else none)) else none) else none) else (ref27_Cost.l0 k6 m l x4 (w64 (x5 + 1))))) else (some (x4, true))
def ref27_Cost.f (m : api_Map) (l : (List Int)) : Option (Int × Bool) := (ref1_MayMap.f m).bind fun v1 => if ((!v1) || ((List.length l : Int) == 0)) = true then (some (0, false)) else (ref27_Cost.l0 fuel m l 0 0)
set_option maxHeartbeats 4000000 in
theorem ref27_Cost.c {a_m_C : Option Addr} {n_m_C : Nat} {a_l : Option Addr} {n_l : Nat} (m : api_Map) (l : (List Int)) (r : (Int × Bool)) (F : Hp) (H : ref27_Cost.f m l = some r) (h_m_C : SliceR (Fl.int .u8) m.C a_m_C F) (c_m_C : List.length m.C ≤ n_m_C) (h_l : SliceR (Fl.int .i64) l a_l F) (c_l : List.length l ≤ n_l) :
    CallsL Try.prog 40 [(.agg #[(.int .i64 m.W), (.int .i64 m.H), (.slice a_m_C (List.length m.C) n_m_C)]), (.slice a_l (List.length l) n_l)] [F] (fun _ : Unit => (.tuple #[(.int .i64 r.1), (.bool r.2)])) (fun _ => [F]) := by
  unfold ref27_Cost.f at H
  refine calls_atL [(0, (.agg #[(.int .i64 m.W), (.int .i64 m.H), (.slice a_m_C (List.length m.C) n_m_C)])), (1, (.slice a_l (List.length l) n_l))] Try.func40 rfl rfl ⟨rfl, rfl, trivial⟩ (fun W => ?_)
  refine at_seq ?_
  refine at_region [0, 1, 2] rfl ?_
  refine at_cons (at_bx T [(.int .i64 m.W), (.int .i64 m.H), (.slice a_m_C (List.length m.C) n_m_C)] rfl rfl rfl rfl (fun b1 => ?_))
  iterate 2 refine at_s T rfl ?_
  refine at_end ?_
  refine at_sub [(1, (.slice a_l (List.length l) n_l)), (2, (.pointer (some ⟨b1, 0, none⟩)))] ⟨rfl, rfl, trivial⟩ ?_
  refine at_then ?_
  refine at_seq ?_
  refine at_seq ?_
  refine at_region [0, 1, 2, 3, 4, 5, 6, 7] rfl ?_
  refine at_v rfl (g_loadA T (cs := [(.int .i64 m.W), (.int .i64 m.H), (.slice a_m_C (List.length m.C) n_m_C)]) rfl rfl rfl rfl rfl rfl (in_varA (j := 1) rfl rfl)) ?_
  obtain ⟨v1, V1, H⟩ := bind_e H
  refine at_cons (at_c (B := fun _ => []) [] rfl rfl rfl rfl has70 rfl rfl (ref1_MayMap.c m v1 _ V1 (ro_of h_m_C (j := 0) rfl) c_m_C) (fun _ => ?_))
  iterate 2 refine at_s T rfl ?_
  refine at_grp T [4, 5, 6, 7] (s := 11) (c := (!v1)) [(1, (.slice a_l (List.length l) n_l)), (2, (.pointer (some ⟨b1, 0, none⟩))), (15, (.bool ((!v1) || ((List.length l : Int) == 0))))] rfl rfl rfl (fun c2 => ⟨rfl, rfl, (by rw [c2]; rfl), trivial⟩) (fun c2 => ⟨rfl, rfl, (by rw [c2]; rfl), trivial⟩) ?_
  refine at_end ?_
  refine at_sub [(1, (.slice a_l (List.length l) n_l)), (2, (.pointer (some ⟨b1, 0, none⟩))), (15, (.bool ((!v1) || ((List.length l : Int) == 0))))] ⟨rfl, rfl, rfl, trivial⟩ ?_
  refine at_then ?_
  refine at_cond rfl (fun c3 => ?_) (fun c3 => ?_)
  · replace H := if_t c3 H
    refine at_seq ?_
    refine at_region [0, 1] rfl ?_
    iterate 2 refine at_s T rfl ?_
    refine at_end ?_
    refine at_to [(4, (.int .i64 0)), (5, (.bool false))] [0] [F] ⟨rfl, rfl, trivial⟩ rfl ?_
    refine at_then ?_
    refine at_ret ?_
    refine at_rt ?_
    obtain rfl := Option.some.inj H
    exact at_post (T := T) rfl (.tmp rfl (.tmp rfl .nil)) (fun w o => ⟨(), rfl, own_to [0] rfl o⟩)
  · replace H := if_f (bf c3) H
    refine at_skip ?_
    refine at_then ?_
    refine at_seq ?_
    refine at_region [0] rfl ?_
    refine at_s T rfl ?_
    refine at_end ?_
    refine at_sub [(1, (.slice a_l (List.length l) n_l)), (2, (.pointer (some ⟨b1, 0, none⟩))), (6, (.int .i64 0))] ⟨rfl, rfl, rfl, trivial⟩ ?_
    refine at_then ?_
    refine at_seq ?_
    refine at_seq ?_
    refine at_region [0] rfl ?_
    refine at_s T rfl ?_
    refine at_end ?_
    refine at_sub [(1, (.slice a_l (List.length l) n_l)), (2, (.pointer (some ⟨b1, 0, none⟩))), (6, (.int .i64 0)), (7, (.int .i64 0))] ⟨rfl, rfl, rfl, rfl, trivial⟩ ?_
    refine at_then ?_
    refine at_block ?_
    refine at_loopL (σ := Nat × Int × Int) (fun ⟨k6, x4, x5⟩ => ref27_Cost.l0 k6 m l x4 x5 = some r) (fun ⟨k6, x4, x5⟩ => [(1, (.slice a_l (List.length l) n_l)), (2, (.pointer (some ⟨b1, 0, none⟩))), (6, (.int .i64 x4)), (7, (.int .i64 x5))]) (fun ⟨k6, x4, x5⟩ => [F, [(b1, Obj.cells #[(.int .i64 m.W), (.int .i64 m.H), (.slice a_m_C (List.length m.C) n_m_C)] 24 (0, 0))]]) (fun s => s.1) (fuel, 0, 0) [0, 0] H ⟨rfl, rfl, rfl, rfl, trivial⟩ rfl ?_
    rintro ⟨k6, x4, x5⟩ Z4
    replace Z4 : ref27_Cost.l0 k6 m l x4 x5 = some r := Z4
    rcases k6 with _ | k6
    · rw [ref27_Cost.l0] at Z4; cases Z4
    · rw [ref27_Cost.l0] at Z4
      refine at_seq ?_
      refine at_seq ?_
      refine at_region [0, 1, 2, 3] rfl ?_
      iterate 4 refine at_s T rfl ?_
      refine at_end ?_
      refine at_sub [(1, (.slice a_l (List.length l) n_l)), (2, (.pointer (some ⟨b1, 0, none⟩))), (6, (.int .i64 x4)), (7, (.int .i64 x5)), (19, (.bool (decide (x5 < (List.length l : Int)))))] ⟨rfl, rfl, rfl, rfl, rfl, trivial⟩ ?_
      refine at_then ?_
      refine at_cond rfl (fun c5 => ?_) (fun c5 => ?_)
      · replace Z4 := if_t (of_decide_eq_true c5) Z4
        refine at_skip ?_
        refine at_then ?_
        refine at_seq ?_
        refine at_block ?_
        refine at_seq ?_
        obtain ⟨z8, Z6, Z4⟩ := bind_e Z4
        refine at_seq_mid (σ := Bool) (fun x7 => x7 = z8) (fun x7 => [(1, (.slice a_l (List.length l) n_l)), (2, (.pointer (some ⟨b1, 0, none⟩))), (6, (.int .i64 x4)), (7, (.int .i64 x5)), (42, (.bool x7))]) (fun x7 => [F, [(b1, Obj.cells #[(.int .i64 m.W), (.int .i64 m.H), (.slice a_m_C (List.length m.C) n_m_C)] 24 (0, 0))]]) ?_ ?_
        · refine at_region_q mix (by kernel_rfl) ?_
          refine atq_s T rfl ?_
          refine atq_v rfl rfl rfl (g_load T rfl rfl rfl rfl (in_var (j := 1) rfl rfl)) ?_
          refine atq_s T rfl ?_
          refine atq_v rfl rfl rfl (g_load T rfl rfl rfl rfl (in_var (j := 1) rfl rfl)) ?_
          iterate 2 refine atq_s T rfl ?_
          obtain ⟨c7, Z6⟩ := chk_e Z6
          obtain ⟨q2, o2, e2⟩ := h_l.addr c7.1 c7.2
          refine atq_v rfl rfl rfl (g_index T rfl rfl rfl rfl rfl e2 c7.1 c7.2) ?_
          refine atq_v rfl rfl rfl (g_load T rfl rfl rfl rfl (in_elem1 (k := (Fl.int .i64)) (ro_of h_l (j := 0) rfl) e2 c7 0 rfl)) ?_
          obtain ⟨v9, V8, Z6⟩ := bind_e Z6
          refine atq_c rfl rfl rfl rfl rfl rfl has17 rfl (ref1_IsCell.c m.W m.H (rd l x5) v9 _ V8) ?_
          iterate 2 refine atq_s T rfl ?_
          refine atq_case (s := 32) rfl (fun c9 => ?_) (fun c9 => ?_)
          · replace Z6 := if_t c9 Z6
            iterate 10 refine atq_s T rfl ?_
            refine atq_end ?_
            refine at_sub [(1, (.slice a_l (List.length l) n_l)), (2, (.pointer (some ⟨b1, 0, none⟩))), (6, (.int .i64 x4)), (7, (.int .i64 x5)), (42, (.bool true))] ⟨rfl, rfl, rfl, rfl, rfl, trivial⟩ ?_
            refine at_then ?_
            obtain rfl := Option.some.inj Z6
            exact at_mid true [0, 0] rfl ⟨rfl, rfl, rfl, rfl, rfl, trivial⟩ rfl
          · replace Z6 := if_f (bf c9) Z6
            refine atq_s T rfl ?_
            refine atq_v rfl rfl rfl (g_load T rfl rfl rfl rfl (in_var (j := 1) rfl rfl)) ?_
            iterate 2 refine atq_s T rfl ?_
            refine atq_v rfl rfl rfl (g_index T rfl rfl rfl rfl rfl e2 c7.1 c7.2) ?_
            refine atq_v rfl rfl rfl (g_load T rfl rfl rfl rfl (in_elem1 (k := (Fl.int .i64)) (ro_of h_l (j := 0) rfl) e2 c7 0 rfl)) ?_
            obtain ⟨c10, Z6⟩ := chk_e Z6
            obtain ⟨q3, o3, e3⟩ := h_m_C.addr c10.1 c10.2
            refine atq_v rfl rfl rfl (g_index T rfl rfl rfl rfl rfl e3 c10.1 c10.2) ?_
            refine atq_v rfl rfl rfl (g_load T rfl rfl rfl rfl (in_elem1 (k := (Fl.int .u8)) (ro_of h_m_C (j := 0) rfl) e3 c10 0 rfl)) ?_
            iterate 2 refine atq_s T rfl ?_
            refine atq_end ?_
            refine at_sub [(1, (.slice a_l (List.length l) n_l)), (2, (.pointer (some ⟨b1, 0, none⟩))), (6, (.int .i64 x4)), (7, (.int .i64 x5)), (42, (.bool ((rd m.C (rd l x5)) == 255)))] ⟨rfl, rfl, rfl, rfl, rfl, trivial⟩ ?_
            refine at_then ?_
            obtain rfl := Option.some.inj Z6
            exact at_mid ((rd m.C (rd l x5)) == 255) [0, 0] rfl ⟨rfl, rfl, rfl, rfl, rfl, trivial⟩ rfl
        · rintro x7 rfl
          refine at_cond rfl (fun c11 => ?_) (fun c11 => ?_)
          · replace Z4 := if_t c11 Z4
            refine at_seq ?_
            refine at_region [0, 1] rfl ?_
            iterate 2 refine at_s T rfl ?_
            refine at_end ?_
            refine at_to [(4, (.int .i64 0)), (5, (.bool false))] [0] [F] ⟨rfl, rfl, trivial⟩ rfl ?_
            refine at_then ?_
            refine at_ret ?_
            refine at_rt ?_
            refine at_rb ?_
            refine at_rt ?_
            refine at_rt ?_
            refine at_rb ?_
            refine at_rt ?_
            obtain rfl := Option.some.inj Z4
            exact at_post (T := T) rfl (.tmp rfl (.tmp rfl .nil)) (fun w o => ⟨(), rfl, own_to [0] rfl o⟩)
          · replace Z4 := if_f (bf c11) Z4
            refine at_skip ?_
            refine at_then ?_
            refine at_seq ?_
            refine at_region [0, 1] rfl ?_
            iterate 2 refine at_s T rfl ?_
            refine at_end ?_
            refine at_sub [(1, (.slice a_l (List.length l) n_l)), (2, (.pointer (some ⟨b1, 0, none⟩))), (6, (.int .i64 x4)), (7, (.int .i64 x5)), (44, (.bool (decide (x5 > 0))))] ⟨rfl, rfl, rfl, rfl, rfl, trivial⟩ ?_
            refine at_then ?_
            refine at_cond rfl (fun c12 => ?_) (fun c12 => ?_)
            · replace Z4 := if_t (of_decide_eq_true c12) Z4
              refine at_seq ?_
              refine at_seq ?_
              refine at_region_q mix (by kernel_rfl) ?_
              refine atq_s T rfl ?_
              refine atq_v rfl rfl rfl (g_load T rfl rfl rfl rfl (in_var (j := 1) rfl rfl)) ?_
              refine atq_s T rfl ?_
              refine atq_v rfl rfl rfl (g_load T rfl rfl rfl rfl (in_var (j := 1) rfl rfl)) ?_
              iterate 3 refine atq_s T rfl ?_
              obtain ⟨c13, Z4⟩ := chk_e Z4
              obtain ⟨q4, o4, e4⟩ := h_l.addr c13.1 c13.2
              refine atq_v rfl rfl rfl (g_index T rfl rfl rfl rfl rfl e4 c13.1 c13.2) ?_
              refine atq_v rfl rfl rfl (g_load T rfl rfl rfl rfl (in_elem1 (k := (Fl.int .i64)) (ro_of h_l (j := 0) rfl) e4 c13 0 rfl)) ?_
              iterate 2 refine atq_s T rfl ?_
              obtain ⟨c14, Z4⟩ := chk_e Z4
              refine atq_v rfl rfl rfl (g_index T rfl rfl rfl rfl rfl e4 c14.1 c14.2) ?_
              refine atq_v rfl rfl rfl (g_load T rfl rfl rfl rfl (in_elem1 (k := (Fl.int .i64)) (ro_of h_l (j := 0) rfl) e4 c14 0 rfl)) ?_
              obtain ⟨v10, V15, Z4⟩ := bind_e Z4
              refine atq_c rfl rfl rfl rfl rfl rfl has72 rfl (ref1_Side.c m.W m.H (rd l (w64 (x5 - 1))) (rd l x5) v10 _ V15) ?_
              refine atq_s T rfl ?_
              refine atq_end ?_
              refine at_sub [(1, (.slice a_l (List.length l) n_l)), (2, (.pointer (some ⟨b1, 0, none⟩))), (6, (.int .i64 x4)), (7, (.int .i64 x5)), (59, (.bool (decide (v10 > 3))))] ⟨rfl, rfl, rfl, rfl, rfl, trivial⟩ ?_
              refine at_then ?_
              refine at_cond rfl (fun c16 => ?_) (fun c16 => ?_)
              · replace Z4 := if_t (of_decide_eq_true c16) Z4
                refine at_seq ?_
                refine at_region [0, 1] rfl ?_
                iterate 2 refine at_s T rfl ?_
                refine at_end ?_
                refine at_to [(4, (.int .i64 0)), (5, (.bool false))] [0] [F] ⟨rfl, rfl, trivial⟩ rfl ?_
                refine at_then ?_
                refine at_ret ?_
                refine at_rt ?_
                refine at_rb ?_
                refine at_rt ?_
                refine at_rt ?_
                refine at_rb ?_
                refine at_rt ?_
                obtain rfl := Option.some.inj Z4
                exact at_post (T := T) rfl (.tmp rfl (.tmp rfl .nil)) (fun w o => ⟨(), rfl, own_to [0] rfl o⟩)
              · replace Z4 := if_f (of_decide_eq_false c16) Z4
                refine at_skip ?_
                refine at_then ?_
                refine at_region_q mix (by kernel_rfl) ?_
                iterate 2 refine atq_s T rfl ?_
                refine atq_v rfl rfl rfl (g_load T rfl rfl rfl rfl (in_var (j := 1) rfl rfl)) ?_
                iterate 2 refine atq_s T rfl ?_
                refine atq_v rfl rfl rfl (g_index T rfl rfl rfl rfl rfl e4 c14.1 c14.2) ?_
                refine atq_v rfl rfl rfl (g_load T rfl rfl rfl rfl (in_elem1 (k := (Fl.int .i64)) (ro_of h_l (j := 0) rfl) e4 c14 0 rfl)) ?_
                obtain ⟨c17, Z4⟩ := chk_e Z4
                obtain ⟨q5, o5, e5⟩ := h_m_C.addr c17.1 c17.2
                refine atq_v rfl rfl rfl (g_index T rfl rfl rfl rfl rfl e5 c17.1 c17.2) ?_
                refine atq_v rfl rfl rfl (g_load T rfl rfl rfl rfl (in_elem1 (k := (Fl.int .u8)) (ro_of h_m_C (j := 0) rfl) e5 c17 0 rfl)) ?_
                iterate 3 refine atq_s T rfl ?_
                refine atq_end ?_
                refine at_sub [(1, (.slice a_l (List.length l) n_l)), (2, (.pointer (some ⟨b1, 0, none⟩))), (6, (.int .i64 (w64 (x4 + (w64 (rd m.C (rd l x5))))))), (7, (.int .i64 x5))] ⟨rfl, rfl, rfl, rfl, trivial⟩ ?_
                refine at_nb ?_
                refine at_then ?_
                refine at_region [0, 1, 2] rfl ?_
                iterate 3 refine at_s T rfl ?_
                refine at_end ?_
                refine at_sub [(1, (.slice a_l (List.length l) n_l)), (2, (.pointer (some ⟨b1, 0, none⟩))), (6, (.int .i64 (w64 (x4 + (w64 (rd m.C (rd l x5))))))), (7, (.int .i64 (w64 (x5 + 1))))] ⟨rfl, rfl, rfl, rfl, trivial⟩ ?_
                refine at_then ?_
                exact at_roundL (k6, (w64 (x4 + (w64 (rd m.C (rd l x5))))), (w64 (x5 + 1))) [0, 0] Z4 (Nat.lt_succ_self _) ⟨rfl, rfl, rfl, rfl, trivial⟩ rfl
            · replace Z4 := if_f (of_decide_eq_false c12) Z4
              refine at_skip ?_
              refine at_nb ?_
              refine at_then ?_
              refine at_region [0, 1, 2] rfl ?_
              iterate 3 refine at_s T rfl ?_
              refine at_end ?_
              refine at_sub [(1, (.slice a_l (List.length l) n_l)), (2, (.pointer (some ⟨b1, 0, none⟩))), (6, (.int .i64 x4)), (7, (.int .i64 (w64 (x5 + 1))))] ⟨rfl, rfl, rfl, rfl, trivial⟩ ?_
              refine at_then ?_
              exact at_roundL (k6, x4, (w64 (x5 + 1))) [0, 0] Z4 (Nat.lt_succ_self _) ⟨rfl, rfl, rfl, rfl, trivial⟩ rfl
      · replace Z4 := if_f (of_decide_eq_false c5) Z4
        refine at_exit ?_
        refine at_xt ?_
        refine at_xt ?_
        refine at_xb ?_
        refine at_then ?_
        refine at_seq ?_
        refine at_region [0, 1, 2] rfl ?_
        iterate 3 refine at_s T rfl ?_
        refine at_end ?_
        refine at_to [(4, (.int .i64 x4)), (5, (.bool true))] [0] [F] ⟨rfl, rfl, trivial⟩ rfl ?_
        refine at_then ?_
        refine at_ret ?_
        obtain rfl := Option.some.inj Z4
        exact at_post (T := T) rfl (.tmp rfl (.tmp rfl .nil)) (fun w o => ⟨(), rfl, own_to [0] rfl o⟩)

/-! ### herdsman/herdsmanref27.Left: function 76 -/
def ref27_Left.l0 : Nat → api_Map → (List api_Unit) → List Int → Int → Option ((List Int) × Bool)
  | 0, _, _, _, _ => none
  | k6 + 1, m, l, x4, x5 => if x5 < (List.length l : Int) then ((if (0 ≤ x5 ∧ x5 < (List.length l : Int)) then ((ref1_IsCell.f m.W m.H ((rd l x5).Cell)).bind fun v9 => if (!v9) = true then (some true) else ((ref1_IsCell.f m.W m.H ((rd l x5).Goal)).bind fun v10 => some (!v10))) else none).bind fun x7 => if x7 = true then (some ([], false)) else (if (0 ≤ x5 ∧ x5 < (List.length l : Int)) then ((ref11_Flat.f m ((rd l x5).Goal)).bind fun v11 => if (0 ≤ (rd l x5).Cell ∧ (rd l x5).Cell < (List.length v11 : Int)) then (if (List.length x4 + 1 ≤ 1099511627776) then (ref27_Left.l0 k6 m l (x4 ++ [(rd v11 ((rd l x5).Cell))]) (w64 (x5 + 1))) else none) else none) else none)) else (some (x4, true))
def ref27_Left.f (m : api_Map) (l : (List api_Unit)) : Option ((List Int) × Bool) := (ref1_MayMap.f m).bind fun v1 => if (!v1) = true then (some ([], false)) else (ref27_Left.l0 fuel m l [] 0)
def ref27_Left.R (r : ((List Int) × Bool)) (u : Value) (G : List Hp) : Prop := ∃ (a0 : Option Addr) (n0 : Nat) (H0 : Hp), SliceO (Fl.int .i64) 3 r.1 a0 n0 H0 ∧ u = (.tuple #[(.slice a0 (List.length r.1) n0), (.bool r.2)]) ∧ G = [H0]
set_option maxHeartbeats 4000000 in
theorem ref27_Left.c {a_m_C : Option Addr} {n_m_C : Nat} {a_l : Option Addr} {n_l : Nat} (m : api_Map) (l : (List api_Unit)) (r : ((List Int) × Bool)) (F : Hp) (H : ref27_Left.f m l = some r) (h_m_C : SliceR (Fl.int .u8) m.C a_m_C F) (c_m_C : List.length m.C ≤ n_m_C) (h_l : SliceR k_api_Unit l a_l F) (c_l : List.length l ≤ n_l) :
    CallsL Try.prog 76 [(.agg #[(.int .i64 m.W), (.int .i64 m.H), (.slice a_m_C (List.length m.C) n_m_C)]), (.slice a_l (List.length l) n_l)] [F] (fun qp : { qp : Value × List Hp // ref27_Left.R r qp.1 qp.2 } => qp.1.1) (fun qp => (qp.1.2 ++ []) ++ [F]) := by
  unfold ref27_Left.f at H
  refine calls_atL [(0, (.agg #[(.int .i64 m.W), (.int .i64 m.H), (.slice a_m_C (List.length m.C) n_m_C)])), (1, (.slice a_l (List.length l) n_l))] Try.func76 rfl rfl ⟨rfl, rfl, trivial⟩ (fun W => ?_)
  refine at_seq ?_
  refine at_region [0, 1, 2] rfl ?_
  refine at_cons (at_bx T [(.int .i64 m.W), (.int .i64 m.H), (.slice a_m_C (List.length m.C) n_m_C)] rfl rfl rfl rfl (fun b1 => ?_))
  iterate 2 refine at_s T rfl ?_
  refine at_end ?_
  refine at_sub [(1, (.slice a_l (List.length l) n_l)), (2, (.pointer (some ⟨b1, 0, none⟩)))] ⟨rfl, rfl, trivial⟩ ?_
  refine at_then ?_
  refine at_seq ?_
  refine at_seq ?_
  refine at_region [0, 1, 2] rfl ?_
  refine at_v rfl (g_loadA T (cs := [(.int .i64 m.W), (.int .i64 m.H), (.slice a_m_C (List.length m.C) n_m_C)]) rfl rfl rfl rfl rfl rfl (in_varA (j := 1) rfl rfl)) ?_
  obtain ⟨v1, V1, H⟩ := bind_e H
  refine at_cons (at_c (B := fun _ => []) [] rfl rfl rfl rfl has70 rfl rfl (ref1_MayMap.c m v1 _ V1 (ro_of h_m_C (j := 0) rfl) c_m_C) (fun _ => ?_))
  refine at_s T rfl ?_
  refine at_end ?_
  refine at_sub [(1, (.slice a_l (List.length l) n_l)), (2, (.pointer (some ⟨b1, 0, none⟩))), (10, (.bool (!v1)))] ⟨rfl, rfl, rfl, trivial⟩ ?_
  refine at_then ?_
  refine at_cond rfl (fun c2 => ?_) (fun c2 => ?_)
  · replace H := if_t c2 H
    refine at_seq ?_
    refine at_region [0, 1] rfl ?_
    iterate 2 refine at_s T rfl ?_
    refine at_end ?_
    refine at_to [(4, (.slice none 0 0)), (5, (.bool false))] [0] [F] ⟨rfl, rfl, trivial⟩ rfl ?_
    refine at_then ?_
    refine at_ret ?_
    refine at_rt ?_
    obtain rfl := Option.some.inj H
    refine at_addnil ?_
    exact at_post (T := T) rfl (.tmp rfl (.tmp rfl .nil)) (fun w o => ⟨⟨(_, _), ⟨none, 0, [], SliceO.nil, rfl, rfl⟩⟩, rfl, own_to [1, 0] rfl o⟩)
  · replace H := if_f (bf c2) H
    refine at_skip ?_
    refine at_then ?_
    refine at_seq ?_
    refine at_region [0] rfl ?_
    refine at_s T rfl ?_
    refine at_end ?_
    refine at_sub [(1, (.slice a_l (List.length l) n_l)), (2, (.pointer (some ⟨b1, 0, none⟩))), (6, (.slice none 0 0))] ⟨rfl, rfl, rfl, trivial⟩ ?_
    refine at_then ?_
    refine at_seq ?_
    refine at_seq ?_
    refine at_region [0] rfl ?_
    refine at_s T rfl ?_
    refine at_end ?_
    refine at_sub [(1, (.slice a_l (List.length l) n_l)), (2, (.pointer (some ⟨b1, 0, none⟩))), (6, (.slice none 0 0)), (7, (.int .i64 0))] ⟨rfl, rfl, rfl, rfl, trivial⟩ ?_
    refine at_then ?_
    refine at_block ?_
    refine at_addnil ?_
    refine at_loopL (σ := Nat × List Int × Int × Option Addr × Nat × Hp) (fun ⟨k6, x4, x5, a4, n4, H4⟩ => ref27_Left.l0 k6 m l x4 x5 = some r ∧ SliceO (Fl.int .i64) 3 x4 a4 n4 H4) (fun ⟨k6, x4, x5, a4, n4, H4⟩ => [(1, (.slice a_l (List.length l) n_l)), (2, (.pointer (some ⟨b1, 0, none⟩))), (6, (.slice a4 (List.length x4) n4)), (7, (.int .i64 x5))]) (fun ⟨k6, x4, x5, a4, n4, H4⟩ => [F, [(b1, Obj.cells #[(.int .i64 m.W), (.int .i64 m.H), (.slice a_m_C (List.length m.C) n_m_C)] 24 (0, 0))], H4]) (fun s => s.1) (fuel, [], 0, none, 0, []) [0, 0, 0] ⟨H, SliceO.nil⟩ ⟨rfl, rfl, rfl, rfl, trivial⟩ rfl ?_
    rintro ⟨k6, x4, x5, a4, n4, H4⟩ ⟨Z3, s4⟩
    replace Z3 : ref27_Left.l0 k6 m l x4 x5 = some r := Z3
    rcases k6 with _ | k6
    · rw [ref27_Left.l0] at Z3; cases Z3
    · rw [ref27_Left.l0] at Z3
      refine at_seq ?_
      refine at_seq ?_
      refine at_region [0, 1, 2, 3] rfl ?_
      iterate 4 refine at_s T rfl ?_
      refine at_end ?_
      refine at_sub [(1, (.slice a_l (List.length l) n_l)), (2, (.pointer (some ⟨b1, 0, none⟩))), (6, (.slice a4 (List.length x4) n4)), (7, (.int .i64 x5)), (14, (.bool (decide (x5 < (List.length l : Int)))))] ⟨rfl, rfl, rfl, rfl, rfl, trivial⟩ ?_
      refine at_then ?_
      refine at_cond rfl (fun c4 => ?_) (fun c4 => ?_)
      · replace Z3 := if_t (of_decide_eq_true c4) Z3
        refine at_skip ?_
        refine at_then ?_
        refine at_seq ?_
        refine at_block ?_
        refine at_seq ?_
        obtain ⟨z8, Z5, Z3⟩ := bind_e Z3
        refine at_seq_mid (σ := Bool) (fun x7 => x7 = z8) (fun x7 => [(1, (.slice a_l (List.length l) n_l)), (2, (.pointer (some ⟨b1, 0, none⟩))), (6, (.slice a4 (List.length x4) n4)), (7, (.int .i64 x5)), (40, (.bool x7))]) (fun x7 => [F, [(b1, Obj.cells #[(.int .i64 m.W), (.int .i64 m.H), (.slice a_m_C (List.length m.C) n_m_C)] 24 (0, 0))], H4]) ?_ ?_
        · refine at_region_q mix (by kernel_rfl) ?_
          refine atq_s T rfl ?_
          refine atq_v rfl rfl rfl (g_load T rfl rfl rfl rfl (in_var (j := 1) rfl rfl)) ?_
          refine atq_s T rfl ?_
          refine atq_v rfl rfl rfl (g_load T rfl rfl rfl rfl (in_var (j := 1) rfl rfl)) ?_
          iterate 2 refine atq_s T rfl ?_
          obtain ⟨c6, Z5⟩ := chk_e Z5
          obtain ⟨q5, o5, e5⟩ := h_l.addr c6.1 c6.2
          refine atq_v rfl rfl rfl (g_index T rfl rfl rfl rfl rfl e5 c6.1 c6.2) ?_
          refine atq_s T rfl ?_
          refine atq_v rfl rfl rfl (g_load T rfl rfl rfl rfl (in_elem1 (k := k_api_Unit) (ro_of h_l (j := 0) rfl) e5 c6 1 rfl)) ?_
          obtain ⟨v9, V7, Z5⟩ := bind_e Z5
          refine atq_c rfl rfl rfl rfl rfl rfl has17 rfl (ref1_IsCell.c m.W m.H ((rd l x5).Cell) v9 _ V7) ?_
          iterate 2 refine atq_s T rfl ?_
          refine atq_case (s := 28) rfl (fun c8 => ?_) (fun c8 => ?_)
          · replace Z5 := if_t c8 Z5
            iterate 12 refine atq_s T rfl ?_
            refine atq_end ?_
            refine at_sub [(1, (.slice a_l (List.length l) n_l)), (2, (.pointer (some ⟨b1, 0, none⟩))), (6, (.slice a4 (List.length x4) n4)), (7, (.int .i64 x5)), (40, (.bool true))] ⟨rfl, rfl, rfl, rfl, rfl, trivial⟩ ?_
            refine at_then ?_
            obtain rfl := Option.some.inj Z5
            exact at_mid true [0, 0, 0] rfl ⟨rfl, rfl, rfl, rfl, rfl, trivial⟩ rfl
          · replace Z5 := if_f (bf c8) Z5
            refine atq_s T rfl ?_
            refine atq_v rfl rfl rfl (g_load T rfl rfl rfl rfl (in_var (j := 1) rfl rfl)) ?_
            refine atq_s T rfl ?_
            refine atq_v rfl rfl rfl (g_load T rfl rfl rfl rfl (in_var (j := 1) rfl rfl)) ?_
            iterate 2 refine atq_s T rfl ?_
            refine atq_v rfl rfl rfl (g_index T rfl rfl rfl rfl rfl e5 c6.1 c6.2) ?_
            refine atq_s T rfl ?_
            refine atq_v rfl rfl rfl (g_load T rfl rfl rfl rfl (in_elem1 (k := k_api_Unit) (ro_of h_l (j := 0) rfl) e5 c6 2 rfl)) ?_
            obtain ⟨v10, V9, Z5⟩ := bind_e Z5
            refine atq_c rfl rfl rfl rfl rfl rfl has17 rfl (ref1_IsCell.c m.W m.H ((rd l x5).Goal) v10 _ V9) ?_
            iterate 2 refine atq_s T rfl ?_
            refine atq_end ?_
            refine at_sub [(1, (.slice a_l (List.length l) n_l)), (2, (.pointer (some ⟨b1, 0, none⟩))), (6, (.slice a4 (List.length x4) n4)), (7, (.int .i64 x5)), (40, (.bool (!v10)))] ⟨rfl, rfl, rfl, rfl, rfl, trivial⟩ ?_
            refine at_then ?_
            obtain rfl := Option.some.inj Z5
            exact at_mid (!v10) [0, 0, 0] rfl ⟨rfl, rfl, rfl, rfl, rfl, trivial⟩ rfl
        · rintro x7 rfl
          refine at_cond rfl (fun c10 => ?_) (fun c10 => ?_)
          · replace Z3 := if_t c10 Z3
            refine at_seq ?_
            refine at_region [0, 1] rfl ?_
            iterate 2 refine at_s T rfl ?_
            refine at_end ?_
            refine at_to [(4, (.slice none 0 0)), (5, (.bool false))] [0] [F] ⟨rfl, rfl, trivial⟩ rfl ?_
            refine at_then ?_
            refine at_ret ?_
            refine at_rt ?_
            refine at_rb ?_
            refine at_rt ?_
            refine at_rt ?_
            refine at_rb ?_
            refine at_rt ?_
            obtain rfl := Option.some.inj Z3
            refine at_addnil ?_
            exact at_post (T := T) rfl (.tmp rfl (.tmp rfl .nil)) (fun w o => ⟨⟨(_, _), ⟨none, 0, [], SliceO.nil, rfl, rfl⟩⟩, rfl, own_to [1, 0] rfl o⟩)
          · replace Z3 := if_f (bf c10) Z3
            refine at_skip ?_
            refine at_then ?_
            refine at_region_m [[], [], [], [], [2, 3], [2, 3, 4], [2, 3, 4, 5], [1, 2, 3, 4, 5, 6], [], [], [8, 9], [8, 9, 10], [8, 9, 10, 11], [1, 2, 3, 4, 5, 6, 7, 8, 9, 10, 11, 12], [1, 2, 3, 4, 5, 6, 7, 8, 9, 10, 11, 12, 13], [1, 2, 3, 4, 5, 6, 7, 8, 9, 10, 11, 12, 13, 14], [0, 1, 2, 3, 4, 5, 6, 7, 8, 9, 10, 11, 12, 13, 14, 15], [0, 1, 2, 3, 4, 5, 6, 7, 8, 9, 10, 11, 12, 13, 14, 15, 16]] [16] [F, [(b1, Obj.cells #[(.int .i64 m.W), (.int .i64 m.H), (.slice a_m_C (List.length m.C) n_m_C)] 24 (0, 0))], H4] mix (by kernel_rfl) (by repeat first | exact pf_body | refine pf_then ?_ | refine pf_block ?_) (fun hg pf => ?_)
            refine atm_s T 0 hg pf (by kernel_rfl) (still_o [0, 0, 0] rfl) rfl ?_
            refine atm_v 1 hg pf (by kernel_rfl) (still_o [0, 0, 0] rfl) rfl rfl (g_loadA T (cs := [(.int .i64 m.W), (.int .i64 m.H), (.slice a_m_C (List.length m.C) n_m_C)]) rfl rfl rfl rfl rfl rfl (in_varA (j := 1) rfl rfl)) ?_
            refine atm_s T 2 hg pf (by kernel_rfl) (still_o [0, 0, 0] rfl) rfl ?_
            refine atm_s T 3 hg pf (by kernel_rfl) (still_o [0, 0, 0] rfl) rfl ?_
            obtain ⟨c11, Z3⟩ := chk_e Z3
            obtain ⟨q7, o7, e7⟩ := h_l.addr c11.1 c11.2
            refine atm_v 4 hg pf (by kernel_rfl) (still_o [0, 0, 0] rfl) rfl rfl (g_index T rfl rfl rfl rfl rfl e7 c11.1 c11.2) ?_
            refine atm_s T 5 hg pf (by kernel_rfl) (still_o [0, 0, 0] rfl) rfl ?_
            refine atm_v 6 hg pf (by kernel_rfl) (still_o [0, 0, 0] rfl) rfl rfl (g_load T rfl rfl rfl rfl (in_elem1 (k := k_api_Unit) (ro_of h_l (j := 0) rfl) e7 c11 2 rfl)) ?_
            refine atm_s T 8 hg pf (by kernel_rfl) (still_o [0, 0, 0] rfl) rfl ?_
            refine atm_s T 9 hg pf (by kernel_rfl) (still_o [0, 0, 0] rfl) rfl ?_
            refine atm_v 10 hg pf (by kernel_rfl) (still_o [0, 0, 0] rfl) rfl rfl (g_index T rfl rfl rfl rfl rfl e7 c11.1 c11.2) ?_
            refine atm_s T 11 hg pf (by kernel_rfl) (still_o [0, 0, 0] rfl) rfl ?_
            refine atm_v 12 hg pf (by kernel_rfl) (still_o [0, 0, 0] rfl) rfl rfl (g_load T rfl rfl rfl rfl (in_elem1 (k := k_api_Unit) (ro_of h_l (j := 0) rfl) e7 c11 1 rfl)) ?_
            refine atm_one 7 (by kernel_rfl) ?_
            obtain ⟨v11, V12, Z3⟩ := bind_e Z3
            refine at_cR (ref11_Flat.R v11) [] [] rfl rfl rfl rfl has47 rfl rfl (ref11_Flat.c m ((rd l x5).Goal) v11 _ V12 (ro_of h_m_C (j := 0) rfl) c_m_C) ?_
            rintro _ _ ⟨a8, n8, H8, s8, rfl, rfl⟩
            refine atm_next (still_o [0, 0, 0] rfl) ?_
            obtain ⟨c13, Z3⟩ := chk_e Z3
            obtain ⟨q9, o9, e9⟩ := s8.r.addr c13.1 c13.2
            refine atm_v 13 hg pf (by kernel_rfl) (still_o [0, 0, 0] rfl) rfl rfl (g_index T rfl rfl rfl rfl rfl e9 c13.1 c13.2) ?_
            refine atm_one 14 (by kernel_rfl) ?_
            refine at_g rfl (g_load T rfl rfl rfl rfl (in_elem1 (k := (Fl.int .i64)) (own_of s8 (j := 3) rfl) e9 c13 0 rfl)) ?_
            refine atm_next (still_o [0, 0, 0] rfl) ?_
            refine atm_one 15 (by kernel_rfl) ?_
            refine at_bs (k := (Fl.int .i64)) T [(rd v11 ((rd l x5).Cell))] rfl rfl rfl rfl rfl rfl rfl rfl rfl (fun a10 H10 s10 => ?_)
            refine atm_next (still_o [0, 0, 0] rfl) ?_
            refine atm_one 16 (by kernel_rfl) ?_
            obtain ⟨c14, Z3⟩ := chk_e Z3
            refine at_ap (k := (Fl.int .i64)) (xs := x4) T (g := 2) rfl rfl rfl rfl rfl rfl rfl rfl rfl rfl s4 (own_of s10 (j := 4) rfl) c14 rfl (fun a11 n11 H11 s11 => ?_)
            refine atm_next (still_l (by kernel_rfl)) ?_
            refine atm_s T 17 hg pf (by kernel_rfl) (still_l (by kernel_rfl)) rfl ?_
            refine atm_end (by kernel_rfl) ?_
            refine at_to [(1, (.slice a_l (List.length l) n_l)), (2, (.pointer (some ⟨b1, 0, none⟩))), (6, (.slice a11 (List.length (x4 ++ [(rd v11 ((rd l x5).Cell))])) n11)), (7, (.int .i64 x5))] [0, 0, 0] [F, [(b1, Obj.cells #[(.int .i64 m.W), (.int .i64 m.H), (.slice a_m_C (List.length m.C) n_m_C)] 24 (0, 0))], H11] ⟨rfl, rfl, rfl, rfl, trivial⟩ rfl ?_
            refine at_nb ?_
            refine at_then ?_
            refine at_region [0, 1, 2] rfl ?_
            iterate 3 refine at_s T rfl ?_
            refine at_end ?_
            refine at_sub [(1, (.slice a_l (List.length l) n_l)), (2, (.pointer (some ⟨b1, 0, none⟩))), (6, (.slice a11 (List.length (x4 ++ [(rd v11 ((rd l x5).Cell))])) n11)), (7, (.int .i64 (w64 (x5 + 1))))] ⟨rfl, rfl, rfl, rfl, trivial⟩ ?_
            refine at_then ?_
            exact at_roundL (k6, (x4 ++ [(rd v11 ((rd l x5).Cell))]), (w64 (x5 + 1)), a11, n11, H11) [0, 0, 0] ⟨Z3, s11⟩ (Nat.lt_succ_self _) ⟨rfl, rfl, rfl, rfl, trivial⟩ rfl
      · replace Z3 := if_f (of_decide_eq_false c4) Z3
        refine at_exit ?_
        refine at_xt ?_
        refine at_xt ?_
        refine at_xb ?_
        refine at_then ?_
        refine at_seq ?_
        refine at_region [0, 1, 2] rfl ?_
        iterate 3 refine at_s T rfl ?_
        refine at_end ?_
        refine at_to [(4, (.slice a4 (List.length x4) n4)), (5, (.bool true))] [0, 1] [F, H4] ⟨rfl, rfl, trivial⟩ rfl ?_
        refine at_then ?_
        refine at_ret ?_
        obtain rfl := Option.some.inj Z3
        exact at_post (T := T) rfl (.tmp rfl (.tmp rfl .nil)) (fun w o => ⟨⟨(_, _), ⟨a4, n4, H4, s4, rfl, rfl⟩⟩, rfl, own_to [1, 0] rfl o⟩)

/-! ### herdsman/herdsmanref27.Rest: function 44 -/
def ref27_Rest.l0 : Nat → ((List Int) × Bool) → Int → Int → Option (Int × Bool)
  | 0, _, _, _ => none
  | k6 + 1, v1, x4, x5 => if x5 < (List.length v1.1 : Int) then (if (0 ≤ x5 ∧ x5 < (List.length v1.1 : Int)) then (if (rd v1.1 x5) < 1099511627776 then (ref27_Rest.l0 k6 v1 (w64 (x4 + (rd v1.1 x5))) (w64 (x5 + 1))) else (ref27_Rest.l0 k6 v1 x4 (w64 (x5 + 1)))) else none) else (some (x4, v1.2))
def ref27_Rest.f (m : api_Map) (l : (List api_Unit)) : Option (Int × Bool) := (ref27_Left.f m l).bind fun v1 => ref27_Rest.l0 fuel v1 0 0
set_option maxHeartbeats 4000000 in
theorem ref27_Rest.c {a_m_C : Option Addr} {n_m_C : Nat} {a_l : Option Addr} {n_l : Nat} (m : api_Map) (l : (List api_Unit)) (r : (Int × Bool)) (F : Hp) (H : ref27_Rest.f m l = some r) (h_m_C : SliceR (Fl.int .u8) m.C a_m_C F) (c_m_C : List.length m.C ≤ n_m_C) (h_l : SliceR k_api_Unit l a_l F) (c_l : List.length l ≤ n_l) :
    CallsL Try.prog 44 [(.agg #[(.int .i64 m.W), (.int .i64 m.H), (.slice a_m_C (List.length m.C) n_m_C)]), (.slice a_l (List.length l) n_l)] [F] (fun _ : Unit => (.tuple #[(.int .i64 r.1), (.bool r.2)])) (fun _ => [F]) := by
  unfold ref27_Rest.f at H
  refine calls_atL [(0, (.agg #[(.int .i64 m.W), (.int .i64 m.H), (.slice a_m_C (List.length m.C) n_m_C)])), (1, (.slice a_l (List.length l) n_l))] Try.func44 rfl rfl ⟨rfl, rfl, trivial⟩ (fun W => ?_)
  refine at_seq ?_
  refine at_region [0, 1, 2] rfl ?_
  refine at_cons (at_bx T [(.int .i64 m.W), (.int .i64 m.H), (.slice a_m_C (List.length m.C) n_m_C)] rfl rfl rfl rfl (fun b1 => ?_))
  iterate 2 refine at_s T rfl ?_
  refine at_end ?_
  refine at_sub [(1, (.slice a_l (List.length l) n_l)), (2, (.pointer (some ⟨b1, 0, none⟩)))] ⟨rfl, rfl, trivial⟩ ?_
  refine at_then ?_
  refine at_seq ?_
  refine at_region [0, 1, 2, 3, 4, 5, 6, 7] rfl ?_
  refine at_v rfl (g_loadA T (cs := [(.int .i64 m.W), (.int .i64 m.H), (.slice a_m_C (List.length m.C) n_m_C)]) rfl rfl rfl rfl rfl rfl (in_varA (j := 1) rfl rfl)) ?_
  refine at_s T rfl ?_
  obtain ⟨v1, V1, H⟩ := bind_e H
  refine at_cons (at_cR (ref27_Left.R v1) [] [] rfl rfl rfl rfl has76 rfl rfl (ref27_Left.c m l v1 _ V1 (ro_of h_m_C (j := 0) rfl) c_m_C (ro_of h_l (j := 0) rfl) c_l) ?_)
  rintro _ _ ⟨a2, n2, H2, s2, rfl, rfl⟩
  iterate 5 refine at_s T rfl ?_
  refine at_end ?_
  refine at_to [(6, (.slice a2 (List.length v1.1) n2)), (7, (.bool v1.2))] [0, 1] [F, H2] ⟨rfl, rfl, trivial⟩ rfl ?_
  refine at_then ?_
  refine at_seq ?_
  refine at_region [0] rfl ?_
  refine at_s T rfl ?_
  refine at_end ?_
  refine at_sub [(6, (.slice a2 (List.length v1.1) n2)), (7, (.bool v1.2)), (8, (.int .i64 0))] ⟨rfl, rfl, rfl, trivial⟩ ?_
  refine at_then ?_
  refine at_seq ?_
  refine at_seq ?_
  refine at_region [0] rfl ?_
  refine at_s T rfl ?_
  refine at_end ?_
  refine at_sub [(6, (.slice a2 (List.length v1.1) n2)), (7, (.bool v1.2)), (8, (.int .i64 0)), (9, (.int .i64 0))] ⟨rfl, rfl, rfl, rfl, trivial⟩ ?_
  refine at_then ?_
  refine at_block ?_
  refine at_loopL (σ := Nat × Int × Int) (fun ⟨k6, x4, x5⟩ => ref27_Rest.l0 k6 v1 x4 x5 = some r) (fun ⟨k6, x4, x5⟩ => [(6, (.slice a2 (List.length v1.1) n2)), (7, (.bool v1.2)), (8, (.int .i64 x4)), (9, (.int .i64 x5))]) (fun ⟨k6, x4, x5⟩ => [F, H2]) (fun s => s.1) (fuel, 0, 0) [0, 0] H ⟨rfl, rfl, rfl, rfl, trivial⟩ rfl ?_
  rintro ⟨k6, x4, x5⟩ Z2
  replace Z2 : ref27_Rest.l0 k6 v1 x4 x5 = some r := Z2
  rcases k6 with _ | k6
  · rw [ref27_Rest.l0] at Z2; cases Z2
  · rw [ref27_Rest.l0] at Z2
    refine at_seq ?_
    refine at_seq ?_
    refine at_region [0, 1, 2, 3] rfl ?_
    iterate 4 refine at_s T rfl ?_
    refine at_end ?_
    refine at_sub [(6, (.slice a2 (List.length v1.1) n2)), (7, (.bool v1.2)), (8, (.int .i64 x4)), (9, (.int .i64 x5)), (19, (.bool (decide (x5 < (List.length v1.1 : Int)))))] ⟨rfl, rfl, rfl, rfl, rfl, trivial⟩ ?_
    refine at_then ?_
    refine at_cond rfl (fun c3 => ?_) (fun c3 => ?_)
    · replace Z2 := if_t (of_decide_eq_true c3) Z2
      refine at_skip ?_
      refine at_then ?_
      refine at_seq ?_
      refine at_block ?_
      refine at_seq ?_
      refine at_region [0, 1, 2, 3, 4] rfl ?_
      iterate 2 refine at_s T rfl ?_
      obtain ⟨c4, Z2⟩ := chk_e Z2
      obtain ⟨q3, o3, e3⟩ := s2.r.addr c4.1 c4.2
      refine at_v rfl (g_index T rfl rfl rfl rfl rfl e3 c4.1 c4.2) ?_
      refine at_v rfl (g_load T rfl rfl rfl rfl (in_elem1 (k := (Fl.int .i64)) (own_of s2 (j := 1) rfl) e3 c4 0 rfl)) ?_
      refine at_s T rfl ?_
      refine at_end ?_
      refine at_sub [(6, (.slice a2 (List.length v1.1) n2)), (7, (.bool v1.2)), (8, (.int .i64 x4)), (9, (.int .i64 x5)), (26, (.bool (decide ((rd v1.1 x5) < 1099511627776))))] ⟨rfl, rfl, rfl, rfl, rfl, trivial⟩ ?_
      refine at_then ?_
      refine at_cond rfl (fun c5 => ?_) (fun c5 => ?_)
      · replace Z2 := if_t (of_decide_eq_true c5) Z2
        refine at_region [0, 1, 2, 3, 4, 5, 6] rfl ?_
        iterate 3 refine at_s T rfl ?_
        refine at_v rfl (g_index T rfl rfl rfl rfl rfl e3 c4.1 c4.2) ?_
        refine at_v rfl (g_load T rfl rfl rfl rfl (in_elem1 (k := (Fl.int .i64)) (own_of s2 (j := 1) rfl) e3 c4 0 rfl)) ?_
        iterate 2 refine at_s T rfl ?_
        refine at_end ?_
        refine at_sub [(6, (.slice a2 (List.length v1.1) n2)), (7, (.bool v1.2)), (8, (.int .i64 (w64 (x4 + (rd v1.1 x5))))), (9, (.int .i64 x5))] ⟨rfl, rfl, rfl, rfl, trivial⟩ ?_
        refine at_nb ?_
        refine at_then ?_
        refine at_region [0, 1, 2] rfl ?_
        iterate 3 refine at_s T rfl ?_
        refine at_end ?_
        refine at_sub [(6, (.slice a2 (List.length v1.1) n2)), (7, (.bool v1.2)), (8, (.int .i64 (w64 (x4 + (rd v1.1 x5))))), (9, (.int .i64 (w64 (x5 + 1))))] ⟨rfl, rfl, rfl, rfl, trivial⟩ ?_
        refine at_then ?_
        exact at_roundL (k6, (w64 (x4 + (rd v1.1 x5))), (w64 (x5 + 1))) [0, 0] Z2 (Nat.lt_succ_self _) ⟨rfl, rfl, rfl, rfl, trivial⟩ rfl
      · replace Z2 := if_f (of_decide_eq_false c5) Z2
        refine at_skip ?_
        refine at_nb ?_
        refine at_then ?_
        refine at_region [0, 1, 2] rfl ?_
        iterate 3 refine at_s T rfl ?_
        refine at_end ?_
        refine at_sub [(6, (.slice a2 (List.length v1.1) n2)), (7, (.bool v1.2)), (8, (.int .i64 x4)), (9, (.int .i64 (w64 (x5 + 1))))] ⟨rfl, rfl, rfl, rfl, trivial⟩ ?_
        refine at_then ?_
        exact at_roundL (k6, x4, (w64 (x5 + 1))) [0, 0] Z2 (Nat.lt_succ_self _) ⟨rfl, rfl, rfl, rfl, trivial⟩ rfl
    · replace Z2 := if_f (of_decide_eq_false c3) Z2
      refine at_exit ?_
      refine at_xt ?_
      refine at_xt ?_
      refine at_xb ?_
      refine at_then ?_
      refine at_seq ?_
      refine at_region [0, 1, 2, 3] rfl ?_
      iterate 4 refine at_s T rfl ?_
      refine at_end ?_
      refine at_to [(4, (.int .i64 x4)), (5, (.bool v1.2))] [0] [F] ⟨rfl, rfl, trivial⟩ rfl ?_
      refine at_then ?_
      refine at_ret ?_
      obtain rfl := Option.some.inj Z2
      exact at_post (T := T) rfl (.tmp rfl (.tmp rfl .nil)) (fun w o => ⟨(), rfl, own_to [0] rfl o⟩)

/-! ### herdsman/herdsmanref27.First: function 45 -/
def ref27_First.l0 : Nat → (List api_Unit) → ((List Int) × Bool) → Int → Int → Option Int
  | 0, _, _, _, _ => none
  | k6 + 1, l, v1, x4, x5 => if x5 < (List.length v1.1 : Int) then ((if (0 ≤ x5 ∧ x5 < (List.length v1.1 : Int)) then (if (rd v1.1 x5) < 1099511627776 then (if x4 < 0 then (some true) else (if (0 ≤ x4 ∧ x4 < (List.length v1.1 : Int)) then (some (decide ((rd v1.1 x5) < (rd v1.1 x4)))) else none)) else (some false)) else none).bind fun x7 => if x7 = true then (ref27_First.l0 k6 l v1 x5 (w64 (x5 + 1))) else (ref27_First.l0 k6 l v1 x4 (w64 (x5 + 1)))) else (if x4 < 0 then (some (-1)) else (if (0 ≤ x4 ∧ x4 < (List.length l : Int)) then (some ((rd l x4).Id)) else none))
def ref27_First.f (m : api_Map) (l : (List api_Unit)) : Option Int := (ref27_Left.f m l).bind fun v1 => ref27_First.l0 fuel l v1 (-1) 0
set_option maxHeartbeats 4000000 in
theorem ref27_First.c {a_m_C : Option Addr} {n_m_C : Nat} {a_l : Option Addr} {n_l : Nat} (m : api_Map) (l : (List api_Unit)) (r : Int) (F : Hp) (H : ref27_First.f m l = some r) (h_m_C : SliceR (Fl.int .u8) m.C a_m_C F) (c_m_C : List.length m.C ≤ n_m_C) (h_l : SliceR k_api_Unit l a_l F) (c_l : List.length l ≤ n_l) :
    CallsL Try.prog 45 [(.agg #[(.int .i64 m.W), (.int .i64 m.H), (.slice a_m_C (List.length m.C) n_m_C)]), (.slice a_l (List.length l) n_l)] [F] (fun _ : Unit => (.int .i64 r)) (fun _ => [F]) := by
  unfold ref27_First.f at H
  refine calls_atL [(0, (.agg #[(.int .i64 m.W), (.int .i64 m.H), (.slice a_m_C (List.length m.C) n_m_C)])), (1, (.slice a_l (List.length l) n_l))] Try.func45 rfl rfl ⟨rfl, rfl, trivial⟩ (fun W => ?_)
  refine at_seq ?_
  refine at_region [0, 1] rfl ?_
  refine at_cons (at_bx T [(.int .i64 m.W), (.int .i64 m.H), (.slice a_m_C (List.length m.C) n_m_C)] rfl rfl rfl rfl (fun b1 => ?_))
  refine at_s T rfl ?_
  refine at_end ?_
  refine at_sub [(1, (.slice a_l (List.length l) n_l)), (2, (.pointer (some ⟨b1, 0, none⟩)))] ⟨rfl, rfl, trivial⟩ ?_
  refine at_then ?_
  refine at_seq ?_
  refine at_region [0, 1, 2, 3, 4, 5, 6, 7] rfl ?_
  refine at_v rfl (g_loadA T (cs := [(.int .i64 m.W), (.int .i64 m.H), (.slice a_m_C (List.length m.C) n_m_C)]) rfl rfl rfl rfl rfl rfl (in_varA (j := 1) rfl rfl)) ?_
  refine at_s T rfl ?_
  obtain ⟨v1, V1, H⟩ := bind_e H
  refine at_cons (at_cR (ref27_Left.R v1) [] [] rfl rfl rfl rfl has76 rfl rfl (ref27_Left.c m l v1 _ V1 (ro_of h_m_C (j := 0) rfl) c_m_C (ro_of h_l (j := 0) rfl) c_l) ?_)
  rintro _ _ ⟨a2, n2, H2, s2, rfl, rfl⟩
  iterate 5 refine at_s T rfl ?_
  refine at_end ?_
  refine at_to [(1, (.slice a_l (List.length l) n_l)), (5, (.slice a2 (List.length v1.1) n2))] [0, 1] [F, H2] ⟨rfl, rfl, trivial⟩ rfl ?_
  refine at_then ?_
  refine at_seq ?_
  refine at_region [0] rfl ?_
  refine at_s T rfl ?_
  refine at_end ?_
  refine at_sub [(1, (.slice a_l (List.length l) n_l)), (5, (.slice a2 (List.length v1.1) n2)), (7, (.int .i64 (-1)))] ⟨rfl, rfl, rfl, trivial⟩ ?_
  refine at_then ?_
  refine at_seq ?_
  refine at_seq ?_
  refine at_region [0] rfl ?_
  refine at_s T rfl ?_
  refine at_end ?_
  refine at_sub [(1, (.slice a_l (List.length l) n_l)), (5, (.slice a2 (List.length v1.1) n2)), (7, (.int .i64 (-1))), (8, (.int .i64 0))] ⟨rfl, rfl, rfl, rfl, trivial⟩ ?_
  refine at_then ?_
  refine at_block ?_
  refine at_loopL (σ := Nat × Int × Int) (fun ⟨k6, x4, x5⟩ => ref27_First.l0 k6 l v1 x4 x5 = some r) (fun ⟨k6, x4, x5⟩ => [(1, (.slice a_l (List.length l) n_l)), (5, (.slice a2 (List.length v1.1) n2)), (7, (.int .i64 x4)), (8, (.int .i64 x5))]) (fun ⟨k6, x4, x5⟩ => [F, H2]) (fun s => s.1) (fuel, (-1), 0) [0, 0] H ⟨rfl, rfl, rfl, rfl, trivial⟩ rfl ?_
  rintro ⟨k6, x4, x5⟩ Z2
  replace Z2 : ref27_First.l0 k6 l v1 x4 x5 = some r := Z2
  rcases k6 with _ | k6
  · rw [ref27_First.l0] at Z2; cases Z2
  · rw [ref27_First.l0] at Z2
    refine at_seq ?_
    refine at_seq ?_
    refine at_region [0, 1, 2, 3] rfl ?_
    iterate 4 refine at_s T rfl ?_
    refine at_end ?_
    refine at_sub [(1, (.slice a_l (List.length l) n_l)), (5, (.slice a2 (List.length v1.1) n2)), (7, (.int .i64 x4)), (8, (.int .i64 x5)), (18, (.bool (decide (x5 < (List.length v1.1 : Int)))))] ⟨rfl, rfl, rfl, rfl, rfl, trivial⟩ ?_
    refine at_then ?_
    refine at_cond rfl (fun c3 => ?_) (fun c3 => ?_)
    · replace Z2 := if_t (of_decide_eq_true c3) Z2
      refine at_skip ?_
      refine at_then ?_
      refine at_seq ?_
      refine at_block ?_
      obtain ⟨z8, Z4, Z2⟩ := bind_e Z2
      refine at_seq_mid (σ := Bool) (fun x7 => x7 = z8) (fun x7 => [(1, (.slice a_l (List.length l) n_l)), (5, (.slice a2 (List.length v1.1) n2)), (7, (.int .i64 x4)), (8, (.int .i64 x5)), (40, (.bool x7))]) (fun x7 => [F, H2]) ?_ ?_
      · refine at_region_q mix (by kernel_rfl) ?_
        iterate 2 refine atq_s T rfl ?_
        obtain ⟨c5, Z4⟩ := chk_e Z4
        obtain ⟨q3, o3, e3⟩ := s2.r.addr c5.1 c5.2
        refine atq_v rfl rfl rfl (g_index T rfl rfl rfl rfl rfl e3 c5.1 c5.2) ?_
        refine atq_v rfl rfl rfl (g_load T rfl rfl rfl rfl (in_elem1 (k := (Fl.int .i64)) (own_of s2 (j := 1) rfl) e3 c5 0 rfl)) ?_
        iterate 2 refine atq_s T rfl ?_
        refine atq_case (s := 26) rfl (fun c6 => ?_) (fun c6 => ?_)
        · replace Z4 := if_t (of_decide_eq_true c6) Z4
          iterate 3 refine atq_s T rfl ?_
          refine atq_case (s := 29) rfl (fun c7 => ?_) (fun c7 => ?_)
          · replace Z4 := if_t (of_decide_eq_true c7) Z4
            iterate 11 refine atq_s T rfl ?_
            refine atq_end ?_
            refine at_sub [(1, (.slice a_l (List.length l) n_l)), (5, (.slice a2 (List.length v1.1) n2)), (7, (.int .i64 x4)), (8, (.int .i64 x5)), (40, (.bool true))] ⟨rfl, rfl, rfl, rfl, rfl, trivial⟩ ?_
            refine at_then ?_
            obtain rfl := Option.some.inj Z4
            exact at_mid true [0, 0] rfl ⟨rfl, rfl, rfl, rfl, rfl, trivial⟩ rfl
          · replace Z4 := if_f (of_decide_eq_false c7) Z4
            iterate 2 refine atq_s T rfl ?_
            refine atq_v rfl rfl rfl (g_index T rfl rfl rfl rfl rfl e3 c5.1 c5.2) ?_
            refine atq_v rfl rfl rfl (g_load T rfl rfl rfl rfl (in_elem1 (k := (Fl.int .i64)) (own_of s2 (j := 1) rfl) e3 c5 0 rfl)) ?_
            iterate 2 refine atq_s T rfl ?_
            obtain ⟨c8, Z4⟩ := chk_e Z4
            refine atq_v rfl rfl rfl (g_index T rfl rfl rfl rfl rfl e3 c8.1 c8.2) ?_
            refine atq_v rfl rfl rfl (g_load T rfl rfl rfl rfl (in_elem1 (k := (Fl.int .i64)) (own_of s2 (j := 1) rfl) e3 c8 0 rfl)) ?_
            iterate 3 refine atq_s T rfl ?_
            refine atq_end ?_
            refine at_sub [(1, (.slice a_l (List.length l) n_l)), (5, (.slice a2 (List.length v1.1) n2)), (7, (.int .i64 x4)), (8, (.int .i64 x5)), (40, (.bool (decide ((rd v1.1 x5) < (rd v1.1 x4)))))] ⟨rfl, rfl, rfl, rfl, rfl, trivial⟩ ?_
            refine at_then ?_
            obtain rfl := Option.some.inj Z4
            exact at_mid (decide ((rd v1.1 x5) < (rd v1.1 x4))) [0, 0] rfl ⟨rfl, rfl, rfl, rfl, rfl, trivial⟩ rfl
        · replace Z4 := if_f (of_decide_eq_false c6) Z4
          iterate 14 refine atq_s T rfl ?_
          refine atq_end ?_
          refine at_sub [(1, (.slice a_l (List.length l) n_l)), (5, (.slice a2 (List.length v1.1) n2)), (7, (.int .i64 x4)), (8, (.int .i64 x5)), (40, (.bool false))] ⟨rfl, rfl, rfl, rfl, rfl, trivial⟩ ?_
          refine at_then ?_
          obtain rfl := Option.some.inj Z4
          exact at_mid false [0, 0] rfl ⟨rfl, rfl, rfl, rfl, rfl, trivial⟩ rfl
      · rintro x7 rfl
        refine at_cond rfl (fun c9 => ?_) (fun c9 => ?_)
        · replace Z2 := if_t c9 Z2
          refine at_region [0, 1] rfl ?_
          iterate 2 refine at_s T rfl ?_
          refine at_end ?_
          refine at_sub [(1, (.slice a_l (List.length l) n_l)), (5, (.slice a2 (List.length v1.1) n2)), (7, (.int .i64 x5)), (8, (.int .i64 x5))] ⟨rfl, rfl, rfl, rfl, trivial⟩ ?_
          refine at_nb ?_
          refine at_then ?_
          refine at_region [0, 1, 2] rfl ?_
          iterate 3 refine at_s T rfl ?_
          refine at_end ?_
          refine at_sub [(1, (.slice a_l (List.length l) n_l)), (5, (.slice a2 (List.length v1.1) n2)), (7, (.int .i64 x5)), (8, (.int .i64 (w64 (x5 + 1))))] ⟨rfl, rfl, rfl, rfl, trivial⟩ ?_
          refine at_then ?_
          exact at_roundL (k6, x5, (w64 (x5 + 1))) [0, 0] Z2 (Nat.lt_succ_self _) ⟨rfl, rfl, rfl, rfl, trivial⟩ rfl
        · replace Z2 := if_f (bf c9) Z2
          refine at_skip ?_
          refine at_nb ?_
          refine at_then ?_
          refine at_region [0, 1, 2] rfl ?_
          iterate 3 refine at_s T rfl ?_
          refine at_end ?_
          refine at_sub [(1, (.slice a_l (List.length l) n_l)), (5, (.slice a2 (List.length v1.1) n2)), (7, (.int .i64 x4)), (8, (.int .i64 (w64 (x5 + 1))))] ⟨rfl, rfl, rfl, rfl, trivial⟩ ?_
          refine at_then ?_
          exact at_roundL (k6, x4, (w64 (x5 + 1))) [0, 0] Z2 (Nat.lt_succ_self _) ⟨rfl, rfl, rfl, rfl, trivial⟩ rfl
    · replace Z2 := if_f (of_decide_eq_false c3) Z2
      refine at_exit ?_
      refine at_xt ?_
      refine at_xt ?_
      refine at_xb ?_
      refine at_then ?_
      refine at_seq ?_
      refine at_seq ?_
      refine at_region [0, 1] rfl ?_
      iterate 2 refine at_s T rfl ?_
      refine at_end ?_
      refine at_to [(1, (.slice a_l (List.length l) n_l)), (7, (.int .i64 x4)), (43, (.bool (decide (x4 < 0))))] [0] [F] ⟨rfl, rfl, rfl, trivial⟩ rfl ?_
      refine at_then ?_
      refine at_cond rfl (fun c10 => ?_) (fun c10 => ?_)
      · replace Z2 := if_t (of_decide_eq_true c10) Z2
        refine at_seq ?_
        refine at_region [0] rfl ?_
        refine at_s T rfl ?_
        refine at_end ?_
        refine at_sub [(4, (.int .i64 (-1)))] ⟨rfl, trivial⟩ ?_
        refine at_then ?_
        refine at_ret ?_
        refine at_rt ?_
        obtain rfl := Option.some.inj Z2
        exact at_post (T := T) rfl (.tmp rfl .nil) (fun w o => ⟨(), rfl, own_to [0] rfl o⟩)
      · replace Z2 := if_f (of_decide_eq_false c10) Z2
        refine at_skip ?_
        refine at_then ?_
        refine at_seq ?_
        refine at_region [0, 1, 2, 3, 4, 5] rfl ?_
        iterate 2 refine at_s T rfl ?_
        obtain ⟨c11, Z2⟩ := chk_e Z2
        obtain ⟨q4, o4, e4⟩ := h_l.addr c11.1 c11.2
        refine at_v rfl (g_index T rfl rfl rfl rfl rfl e4 c11.1 c11.2) ?_
        refine at_s T rfl ?_
        refine at_v rfl (g_load T rfl rfl rfl rfl (in_elem1 (k := k_api_Unit) (ro_of h_l (j := 0) rfl) e4 c11 0 rfl)) ?_
        refine at_s T rfl ?_
        refine at_end ?_
        refine at_sub [(4, (.int .i64 (rd l x4).Id))] ⟨rfl, trivial⟩ ?_
        refine at_then ?_
        refine at_ret ?_
        obtain rfl := Option.some.inj Z2
        exact at_post (T := T) rfl (.tmp rfl .nil) (fun w o => ⟨(), rfl, own_to [0] rfl o⟩)
end

end Go.Proofs.Yticdodeoljodiaa
