import Derived.Test.YticdodeoljodiaaT
import Derived.Test.YticdodeoljodiaaFref1
import Derived.Test.YticdodeoljodiaaFref11
namespace Go.Proofs.Yticdodeoljodiaa
open Go.Hx
set_option maxRecDepth 100000
set_option linter.unusedVariables false
/-! ### herdsman/herdsmanref27.Path: function 38 -/
def ref27_Path.l0 : Nat → api_Map → Int → (List Int) → Int → List Int → Option (List Int)
  | 0, _, _, _, _, _ => none
  | k13 + 1, m, goal, v6, x11, x12 => if (x11 != goal) = true then ((ref11_Dir.f m goal v6 x11).bind fun v14 => (ref1_Step.f m.W m.H x11 v14).bind fun v15 => if (List.length x12 + 1 ≤ 1099511627776) then (ref27_Path.l0 k13 m goal v6 v15 (x12 ++ [v15])) else none) else (some x12)
def ref27_Path.f (m : api_Map) (goal : Int) (c : Int) : Option ((List Int) × Bool) := ((ref1_MayMap.f m).bind fun v3 => if (!v3) = true then (some true) else ((ref1_IsCell.f m.W m.H goal).bind fun v4 => if (!v4) = true then (some true) else ((ref1_IsCell.f m.W m.H c).bind fun v5 => some (!v5)))).bind fun x1 => if x1 = true then (some ([], false)) else ((ref11_Flat.f m goal).bind fun v6 => if (0 ≤ c ∧ c < (List.length v6 : Int)) then (if (rd v6 c) ≥ 1099511627776 then (some ([], false)) else ((ref27_Path.l0 fuel m goal v6 c [c]).bind fun x7 => some (x7, true))) else none)
def ref27_Path.R (r : ((List Int) × Bool)) (u : Value) (G : List Hp) : Prop := ∃ (a0 : Option Addr) (n0 : Nat) (H0 : Hp), SliceO (Fl.int .i64) 3 r.1 a0 n0 H0 ∧ u = (.tuple #[(.slice a0 (List.length r.1) n0), (.bool r.2)]) ∧ G = [H0]
set_option maxHeartbeats 4000000 in
theorem ref27_Path.c {a_m_C : Option Addr} {n_m_C : Nat} (m : api_Map) (goal : Int) (c : Int) (r : ((List Int) × Bool)) (F : Hp) (H : ref27_Path.f m goal c = some r) (h_m_C : SliceR (Fl.int .u8) m.C a_m_C F) (c_m_C : List.length m.C ≤ n_m_C) :
    CallsL Try.prog 38 [(.agg #[(.int .i64 m.W), (.int .i64 m.H), (.slice a_m_C (List.length m.C) n_m_C)]), (.int .i64 goal), (.int .i64 c)] [F] (fun qp : { qp : Value × List Hp // ref27_Path.R r qp.1 qp.2 } => qp.1.1) (fun qp => (qp.1.2 ++ []) ++ [F]) := by
  unfold ref27_Path.f at H
  refine calls_atL [(0, (.agg #[(.int .i64 m.W), (.int .i64 m.H), (.slice a_m_C (List.length m.C) n_m_C)])), (1, (.int .i64 goal)), (2, (.int .i64 c))] Try.func38 rfl rfl ⟨rfl, rfl, rfl, trivial⟩ (fun W => ?_)
  refine at_seq ?_
  refine at_region [0, 1, 2] rfl ?_
  refine at_cons (at_bx T [(.int .i64 m.W), (.int .i64 m.H), (.slice a_m_C (List.length m.C) n_m_C)] rfl rfl rfl rfl (fun b1 => ?_))
  iterate 2 refine at_s T rfl ?_
  refine at_end ?_
  refine at_sub [(1, (.int .i64 goal)), (2, (.int .i64 c)), (3, (.pointer (some ⟨b1, 0, none⟩)))] ⟨rfl, rfl, rfl, trivial⟩ ?_
  refine at_then ?_
  refine at_seq ?_
  obtain ⟨z2, Z1, H⟩ := bind_e H
  refine at_seq_mid (σ := Bool) (fun x1 => x1 = z2) (fun x1 => [(1, (.int .i64 goal)), (2, (.int .i64 c)), (3, (.pointer (some ⟨b1, 0, none⟩))), (30, (.bool x1))]) (fun x1 => [F, [(b1, Obj.cells #[(.int .i64 m.W), (.int .i64 m.H), (.slice a_m_C (List.length m.C) n_m_C)] 24 (0, 0))]]) ?_ ?_
  · refine at_region [0, 1, 2, 3, 4, 5, 6, 7, 8, 9, 10, 11, 12, 13, 14, 15, 16, 17, 18, 19, 20] rfl ?_
    refine at_v rfl (g_loadA T (cs := [(.int .i64 m.W), (.int .i64 m.H), (.slice a_m_C (List.length m.C) n_m_C)]) rfl rfl rfl rfl rfl rfl (in_varA (j := 1) rfl rfl)) ?_
    obtain ⟨v3, V2, Z1⟩ := bind_e Z1
    refine at_cons (at_c (B := fun _ => []) [] rfl rfl rfl rfl has70 rfl rfl (ref1_MayMap.c m v3 _ V2 (ro_of h_m_C (j := 0) rfl) c_m_C) (fun _ => ?_))
    iterate 2 refine at_s T rfl ?_
    refine at_case (s := 13) rfl (fun c3 => ?_) (fun c3 => ?_)
    · replace Z1 := if_t c3 Z1
      iterate 17 refine at_s T rfl ?_
      refine at_end ?_
      refine at_sub [(1, (.int .i64 goal)), (2, (.int .i64 c)), (3, (.pointer (some ⟨b1, 0, none⟩))), (30, (.bool true))] ⟨rfl, rfl, rfl, rfl, trivial⟩ ?_
      refine at_then ?_
      obtain rfl := Option.some.inj Z1
      exact at_mid true [0, 0] rfl ⟨rfl, rfl, rfl, rfl, trivial⟩ rfl
    · replace Z1 := if_f (bf c3) Z1
      refine at_s T rfl ?_
      refine at_v rfl (g_load T rfl rfl rfl rfl (in_var (j := 1) rfl rfl)) ?_
      refine at_s T rfl ?_
      refine at_v rfl (g_load T rfl rfl rfl rfl (in_var (j := 1) rfl rfl)) ?_
      refine at_s T rfl ?_
      obtain ⟨v4, V4, Z1⟩ := bind_e Z1
      refine at_cons (at_c (B := fun _ => []) [] rfl rfl rfl rfl has17 rfl rfl (ref1_IsCell.c m.W m.H goal v4 _ V4) (fun _ => ?_))
      iterate 3 refine at_s T rfl ?_
      refine at_case (s := 22) rfl (fun c5 => ?_) (fun c5 => ?_)
      · replace Z1 := if_t c5 Z1
        iterate 8 refine at_s T rfl ?_
        refine at_end ?_
        refine at_sub [(1, (.int .i64 goal)), (2, (.int .i64 c)), (3, (.pointer (some ⟨b1, 0, none⟩))), (30, (.bool true))] ⟨rfl, rfl, rfl, rfl, trivial⟩ ?_
        refine at_then ?_
        obtain rfl := Option.some.inj Z1
        exact at_mid true [0, 0] rfl ⟨rfl, rfl, rfl, rfl, trivial⟩ rfl
      · replace Z1 := if_f (bf c5) Z1
        refine at_s T rfl ?_
        refine at_v rfl (g_load T rfl rfl rfl rfl (in_var (j := 1) rfl rfl)) ?_
        refine at_s T rfl ?_
        refine at_v rfl (g_load T rfl rfl rfl rfl (in_var (j := 1) rfl rfl)) ?_
        refine at_s T rfl ?_
        obtain ⟨v5, V6, Z1⟩ := bind_e Z1
        refine at_cons (at_c (B := fun _ => []) [] rfl rfl rfl rfl has17 rfl rfl (ref1_IsCell.c m.W m.H c v5 _ V6) (fun _ => ?_))
        iterate 2 refine at_s T rfl ?_
        refine at_end ?_
        refine at_sub [(1, (.int .i64 goal)), (2, (.int .i64 c)), (3, (.pointer (some ⟨b1, 0, none⟩))), (30, (.bool (!v5)))] ⟨rfl, rfl, rfl, rfl, trivial⟩ ?_
        refine at_then ?_
        obtain rfl := Option.some.inj Z1
        exact at_mid (!v5) [0, 0] rfl ⟨rfl, rfl, rfl, rfl, trivial⟩ rfl
  · rintro x1 rfl
    refine at_cond rfl (fun c7 => ?_) (fun c7 => ?_)
    · replace H := if_t c7 H
      refine at_seq ?_
      refine at_region [0, 1] rfl ?_
      iterate 2 refine at_s T rfl ?_
      refine at_end ?_
      refine at_to [(6, (.slice none 0 0)), (7, (.bool false))] [0] [F] ⟨rfl, rfl, trivial⟩ rfl ?_
      refine at_then ?_
      refine at_ret ?_
      refine at_rt ?_
      obtain rfl := Option.some.inj H
      refine at_addnil ?_
      exact at_post (T := T) rfl (.tmp rfl (.tmp rfl .nil)) (fun w o => ⟨⟨(_, _), ⟨none, 0, [], SliceO.nil, rfl, rfl⟩⟩, rfl, own_to [1, 0] rfl o⟩)
    · replace H := if_f (bf c7) H
      refine at_skip ?_
      refine at_then ?_
      refine at_seq ?_
      refine at_region [0, 1, 2, 3] rfl ?_
      refine at_v rfl (g_loadA T (cs := [(.int .i64 m.W), (.int .i64 m.H), (.slice a_m_C (List.length m.C) n_m_C)]) rfl rfl rfl rfl rfl rfl (in_varA (j := 1) rfl rfl)) ?_
      refine at_s T rfl ?_
      obtain ⟨v6, V8, H⟩ := bind_e H
      refine at_cons (at_cR (ref11_Flat.R v6) [] [] rfl rfl rfl rfl has47 rfl rfl (ref11_Flat.c m goal v6 _ V8 (ro_of h_m_C (j := 0) rfl) c_m_C) ?_)
      rintro _ _ ⟨a3, n3, H3, s3, rfl, rfl⟩
      refine at_s T rfl ?_
      refine at_end ?_
      refine at_sub [(1, (.int .i64 goal)), (2, (.int .i64 c)), (3, (.pointer (some ⟨b1, 0, none⟩))), (8, (.slice a3 (List.length v6) n3))] ⟨rfl, rfl, rfl, rfl, trivial⟩ ?_
      refine at_then ?_
      refine at_seq ?_
      refine at_seq ?_
      refine at_region [0, 1, 2, 3, 4] rfl ?_
      iterate 2 refine at_s T rfl ?_
      obtain ⟨c9, H⟩ := chk_e H
      obtain ⟨q4, o4, e4⟩ := s3.r.addr c9.1 c9.2
      refine at_v rfl (g_index T rfl rfl rfl rfl rfl e4 c9.1 c9.2) ?_
      refine at_v rfl (g_load T rfl rfl rfl rfl (in_elem1 (k := (Fl.int .i64)) (own_of s3 (j := 2) rfl) e4 c9 0 rfl)) ?_
      refine at_s T rfl ?_
      refine at_end ?_
      refine at_sub [(1, (.int .i64 goal)), (2, (.int .i64 c)), (3, (.pointer (some ⟨b1, 0, none⟩))), (8, (.slice a3 (List.length v6) n3)), (38, (.bool (decide ((rd v6 c) ≥ 1099511627776))))] ⟨rfl, rfl, rfl, rfl, rfl, trivial⟩ ?_
      refine at_then ?_
      refine at_cond rfl (fun c10 => ?_) (fun c10 => ?_)
      · replace H := if_t (of_decide_eq_true c10) H
        refine at_seq ?_
        refine at_region [0, 1] rfl ?_
        iterate 2 refine at_s T rfl ?_
        refine at_end ?_
        refine at_to [(6, (.slice none 0 0)), (7, (.bool false))] [0] [F] ⟨rfl, rfl, trivial⟩ rfl ?_
        refine at_then ?_
        refine at_ret ?_
        refine at_rt ?_
        obtain rfl := Option.some.inj H
        refine at_addnil ?_
        exact at_post (T := T) rfl (.tmp rfl (.tmp rfl .nil)) (fun w o => ⟨⟨(_, _), ⟨none, 0, [], SliceO.nil, rfl, rfl⟩⟩, rfl, own_to [1, 0] rfl o⟩)
      · replace H := if_f (of_decide_eq_false c10) H
        refine at_skip ?_
        refine at_then ?_
        refine at_seq ?_
        refine at_region [0, 1, 2] rfl ?_
        refine at_s T rfl ?_
        refine at_cons (at_bs (k := (Fl.int .i64)) T [c] rfl rfl rfl rfl rfl rfl rfl rfl rfl (fun a6 H6 s6 => ?_))
        refine at_s T rfl ?_
        refine at_end ?_
        refine at_sub [(1, (.int .i64 goal)), (2, (.int .i64 c)), (3, (.pointer (some ⟨b1, 0, none⟩))), (8, (.slice a3 (List.length v6) n3)), (9, (.slice a6 (List.length [c]) (List.length [c])))] ⟨rfl, rfl, rfl, rfl, rfl, trivial⟩ ?_
        refine at_then ?_
        obtain ⟨z8, Z11, H⟩ := bind_e H
        refine at_seq_mid (σ := List Int × Option Addr × Nat × Hp) (fun ⟨x7, a7, n7, H7⟩ => x7 = z8 ∧ SliceO (Fl.int .i64) 3 x7 a7 n7 H7) (fun ⟨x7, a7, n7, H7⟩ => [(9, (.slice a7 (List.length x7) n7))]) (fun ⟨x7, a7, n7, H7⟩ => [F, H7]) ?_ ?_
        · refine at_block ?_
          refine at_loopL (σ := Nat × Int × List Int × Option Addr × Nat × Hp) (fun ⟨k13, x11, x12, a9, n9, H9⟩ => ref27_Path.l0 k13 m goal v6 x11 x12 = some z8 ∧ SliceO (Fl.int .i64) 3 x12 a9 n9 H9) (fun ⟨k13, x11, x12, a9, n9, H9⟩ => [(1, (.int .i64 goal)), (2, (.int .i64 x11)), (3, (.pointer (some ⟨b1, 0, none⟩))), (8, (.slice a3 (List.length v6) n3)), (9, (.slice a9 (List.length x12) n9))]) (fun ⟨k13, x11, x12, a9, n9, H9⟩ => [F, [(b1, Obj.cells #[(.int .i64 m.W), (.int .i64 m.H), (.slice a_m_C (List.length m.C) n_m_C)] 24 (0, 0))], H3, H9]) (fun s => s.1) (fuel, c, [c], a6, (List.length [c]), H6) [0, 0, 0, 0] ⟨Z11, s6⟩ ⟨rfl, rfl, rfl, rfl, rfl, trivial⟩ rfl ?_
          rintro ⟨k13, x11, x12, a9, n9, H9⟩ ⟨Z12, s9⟩
          replace Z12 : ref27_Path.l0 k13 m goal v6 x11 x12 = some z8 := Z12
          rcases k13 with _ | k13
          · rw [ref27_Path.l0] at Z12; cases Z12
          · rw [ref27_Path.l0] at Z12
            refine at_seq ?_
            refine at_seq ?_
            refine at_region [0, 1, 2] rfl ?_
            iterate 3 refine at_s T rfl ?_
            refine at_end ?_
            refine at_sub [(1, (.int .i64 goal)), (2, (.int .i64 x11)), (3, (.pointer (some ⟨b1, 0, none⟩))), (8, (.slice a3 (List.length v6) n3)), (9, (.slice a9 (List.length x12) n9)), (43, (.bool (x11 != goal)))] ⟨rfl, rfl, rfl, rfl, rfl, rfl, trivial⟩ ?_
            refine at_then ?_
            refine at_cond rfl (fun c13 => ?_) (fun c13 => ?_)
            · replace Z12 := if_t c13 Z12
              refine at_skip ?_
              refine at_then ?_
              refine at_block ?_
              refine at_seq ?_
              refine at_region_q mix (by kernel_rfl) ?_
              refine atq_s T rfl ?_
              refine atq_v rfl rfl rfl (g_load T rfl rfl rfl rfl (in_var (j := 1) rfl rfl)) ?_
              refine atq_s T rfl ?_
              refine atq_v rfl rfl rfl (g_load T rfl rfl rfl rfl (in_var (j := 1) rfl rfl)) ?_
              refine atq_s T rfl ?_
              refine atq_v rfl rfl rfl (g_loadA T (cs := [(.int .i64 m.W), (.int .i64 m.H), (.slice a_m_C (List.length m.C) n_m_C)]) rfl rfl rfl rfl rfl rfl (in_varA (j := 1) rfl rfl)) ?_
              iterate 3 refine atq_s T rfl ?_
              obtain ⟨v14, V14, Z12⟩ := bind_e Z12
              refine atq_c rfl rfl rfl rfl rfl rfl has71 rfl (ref11_Dir.c m goal v6 x11 v14 _ V14 (ro_of h_m_C (j := 0) rfl) c_m_C (own_of s3 (j := 2) rfl) s3.cap_le) ?_
              obtain ⟨v15, V15, Z12⟩ := bind_e Z12
              refine atq_c rfl rfl rfl rfl rfl rfl has36 rfl (ref1_Step.c m.W m.H x11 v14 v15 _ V15) ?_
              refine atq_s T rfl ?_
              refine atq_end ?_
              refine at_sub [(1, (.int .i64 goal)), (2, (.int .i64 v15)), (3, (.pointer (some ⟨b1, 0, none⟩))), (8, (.slice a3 (List.length v6) n3)), (9, (.slice a9 (List.length x12) n9))] ⟨rfl, rfl, rfl, rfl, rfl, trivial⟩ ?_
              refine at_then ?_
              refine at_region [0, 1, 2, 3, 4] rfl ?_
              iterate 2 refine at_s T rfl ?_
              refine at_cons (at_bs (k := (Fl.int .i64)) T [v15] rfl rfl rfl rfl rfl rfl rfl rfl rfl (fun a10 H10 s10 => ?_))
              obtain ⟨c16, Z12⟩ := chk_e Z12
              refine at_cons (at_ap (k := (Fl.int .i64)) (xs := x12) T (g := 3) rfl rfl rfl rfl rfl rfl rfl rfl rfl rfl s9 (own_of s10 (j := 4) rfl) c16 rfl (fun a11 n11 H11 s11 => ?_))
              refine at_s T rfl ?_
              refine at_end ?_
              refine at_to [(1, (.int .i64 goal)), (2, (.int .i64 v15)), (3, (.pointer (some ⟨b1, 0, none⟩))), (8, (.slice a3 (List.length v6) n3)), (9, (.slice a11 (List.length (x12 ++ [v15])) n11))] [0, 0, 0, 0] [F, [(b1, Obj.cells #[(.int .i64 m.W), (.int .i64 m.H), (.slice a_m_C (List.length m.C) n_m_C)] 24 (0, 0))], H3, H11] ⟨rfl, rfl, rfl, rfl, rfl, trivial⟩ rfl ?_
              refine at_nb ?_
              refine at_then ?_
              exact at_roundL (k13, v15, (x12 ++ [v15]), a11, n11, H11) [0, 0, 0, 0] ⟨Z12, s11⟩ (Nat.lt_succ_self _) ⟨rfl, rfl, rfl, rfl, rfl, trivial⟩ rfl
            · replace Z12 := if_f (bf c13) Z12
              refine at_exit ?_
              refine at_xt ?_
              refine at_xt ?_
              refine at_xb ?_
              refine at_then ?_
              obtain rfl := Option.some.inj Z12
              exact at_mid (x12, a9, n9, H9) [0, 2] ⟨rfl, s9⟩ ⟨rfl, trivial⟩ rfl
        · rintro ⟨x7, a7, n7, H7⟩ ⟨rfl, s7⟩
          refine at_seq ?_
          refine at_region [0, 1, 2] rfl ?_
          iterate 3 refine at_s T rfl ?_
          refine at_end ?_
          refine at_sub [(6, (.slice a7 (List.length x7) n7)), (7, (.bool true))] ⟨rfl, rfl, trivial⟩ ?_
          refine at_then ?_
          refine at_ret ?_
          obtain rfl := Option.some.inj H
          exact at_post (T := T) rfl (.tmp rfl (.tmp rfl .nil)) (fun w o => ⟨⟨(_, _), ⟨a7, n7, H7, s7, rfl, rfl⟩⟩, rfl, own_to [1, 0] rfl o⟩)

/-! ### herdsman/herdsmanref27.Cost: function 40 -/
def ref27_Cost.l0 : Nat → api_Map → (List Int) → Int → Int → Option (Int × Bool)
  | 0, _, _, _, _ => none
  | k6 + 1, m, l, x4, x5 => if x5 < (List.length l : Int) then ((if (0 ≤ x5 ∧ x5 < (List.length l : Int)) then ((ref1_IsCell.f m.W m.H (rd l x5)).bind fun v9 => if (!v9) = true then (some true) else (if (0 ≤ (rd l x5) ∧ (rd l x5) < (List.length m.C : Int)) then (some ((rd m.C (rd l x5)) == 255)) else none)) else none).bind fun x7 => if x7 = true then (some (0, false)) else (if x5 > 0 then (if (0 ≤ (w64 (x5 - 1)) ∧ (w64 (x5 - 1)) < (List.length l : Int)) then (if (0 ≤ x5 ∧ x5 < (List.length l : Int)) then ((ref1_Side.f m.W m.H (rd l (w64 (x5 - 1))) (rd l x5)).bind fun v10 => if v10 > 3 then (some (0, false)) else (if (0 ≤ (rd l x5) ∧ (rd l x5) < (List.length m.C : Int)) then (ref27_Cost.l0 k6 m l (w64 (x4 + (w64 (rd m.C (rd l x5))))) (w64 (x5 + 1))) else none)) else none) else none) else (ref27_Cost.l0 k6 m l x4 (w64 (x5 + 1))))) else (some (x4, true))
def ref27_Cost.f (m : api_Map) (l : (List Int)) : Option (Int × Bool) := (ref1_MayMap.f m).bind fun v1 => if ((!v1) || ((List.length l : Int) == 0)) = true then (some (0, false)) else (ref27_Cost.l0 fuel m l 0 0)
set_option maxHeartbeats 4000000 in
theorem ref27_Cost.c {a_m_C : Option Addr} {n_m_C : Nat} {a_l : Option Addr} {n_l : Nat} (m : api_Map) (l : (List Int)) (r : (Int × Bool)) (F : Hp) (H : ref27_Cost.f m l = some r) (h_m_C : SliceR (Fl.int .u8) m.C a_m_C F) (c_m_C : List.length m.C ≤ n_m_C) (h_l : SliceR (Fl.int .i64) l a_l F) (c_l : List.length l ≤ n_l) :
    CallsL Try.prog 40 [(.agg #[(.int .i64 m.W), (.int .i64 m.H), (.slice a_m_C (List.length m.C) n_m_C)]), (.slice a_l (List.length l) n_l)] [F] (fun _ : Unit => (.tuple #[(.int .i64 r.1), (.bool r.2)])) (fun _ => [F]) := by
  unfold ref27_Cost.f at H
  refine calls_atL [(0, (.agg #[(.int .i64 m.W), (.int .i64 m.H), (.slice a_m_C (List.length m.C) n_m_C)])), (1, (.slice a_l (List.length l) n_l))] Try.func40 rfl rfl ⟨rfl, rfl, trivial⟩ (fun W => ?_)
  refine at_seq ?_
  refine at_region [0, 1, 2] rfl ?_
  refine at_cons (at_bx T [(.int .i64 m.W), (.int .i64 m.H), (.slice a_m_C (List.length m.C) n_m_C)] rfl rfl rfl rfl (fun b1 => ?_))
  iterate 2 refine at_s T rfl ?_
  refine at_end ?_
  refine at_sub [(1, (.slice a_l (List.length l) n_l)), (2, (.pointer (some ⟨b1, 0, none⟩)))] ⟨rfl, rfl, trivial⟩ ?_
  refine at_then ?_
  refine at_seq ?_
  refine at_seq ?_
  refine at_region [0, 1, 2, 3, 4, 5, 6, 7] rfl ?_
  refine at_v rfl (g_loadA T (cs := [(.int .i64 m.W), (.int .i64 m.H), (.slice a_m_C (List.length m.C) n_m_C)]) rfl rfl rfl rfl rfl rfl (in_varA (j := 1) rfl rfl)) ?_
  obtain ⟨v1, V1, H⟩ := bind_e H
  refine at_cons (at_c (B := fun _ => []) [] rfl rfl rfl rfl has70 rfl rfl (ref1_MayMap.c m v1 _ V1 (ro_of h_m_C (j := 0) rfl) c_m_C) (fun _ => ?_))
  iterate 2 refine at_s T rfl ?_
  refine at_grp T [4, 5, 6, 7] (s := 11) (c := (!v1)) [(1, (.slice a_l (List.length l) n_l)), (2, (.pointer (some ⟨b1, 0, none⟩))), (15, (.bool ((!v1) || ((List.length l : Int) == 0))))] rfl rfl rfl (fun c2 => ⟨rfl, rfl, (by rw [c2]; rfl), trivial⟩) (fun c2 => ⟨rfl, rfl, (by rw [c2]; rfl), trivial⟩) ?_
  refine at_end ?_
  refine at_sub [(1, (.slice a_l (List.length l) n_l)), (2, (.pointer (some ⟨b1, 0, none⟩))), (15, (.bool ((!v1) || ((List.length l : Int) == 0))))] ⟨rfl, rfl, rfl, trivial⟩ ?_
  refine at_then ?_
  refine at_cond rfl (fun c3 => ?_) (fun c3 => ?_)
  · replace H := if_t c3 H
    refine at_seq ?_
    refine at_region [0, 1] rfl ?_
    iterate 2 refine at_s T rfl ?_
    refine at_end ?_
    refine at_to [(4, (.int .i64 0)), (5, (.bool false))] [0] [F] ⟨rfl, rfl, trivial⟩ rfl ?_
    refine at_then ?_
    refine at_ret ?_
    refine at_rt ?_
    obtain rfl := Option.some.inj H
    exact at_post (T := T) rfl (.tmp rfl (.tmp rfl .nil)) (fun w o => ⟨(), rfl, own_to [0] rfl o⟩)
  · replace H := if_f (bf c3) H
    refine at_skip ?_
    refine at_then ?_
    refine at_seq ?_
    refine at_region [0] rfl ?_
    refine at_s T rfl ?_
    refine at_end ?_
    refine at_sub [(1, (.slice a_l (List.length l) n_l)), (2, (.pointer (some ⟨b1, 0, none⟩))), (6, (.int .i64 0))] ⟨rfl, rfl, rfl, trivial⟩ ?_
    refine at_then ?_
    refine at_seq ?_
    refine at_seq ?_
    refine at_region [0] rfl ?_
    refine at_s T rfl ?_
    refine at_end ?_
    refine at_sub [(1, (.slice a_l (List.length l) n_l)), (2, (.pointer (some ⟨b1, 0, none⟩))), (6, (.int .i64 0)), (7, (.int .i64 0))] ⟨rfl, rfl, rfl, rfl, trivial⟩ ?_
    refine at_then ?_
    refine at_block ?_
    refine at_loopL (σ := Nat × Int × Int) (fun ⟨k6, x4, x5⟩ => ref27_Cost.l0 k6 m l x4 x5 = some r) (fun ⟨k6, x4, x5⟩ => [(1, (.slice a_l (List.length l) n_l)), (2, (.pointer (some ⟨b1, 0, none⟩))), (6, (.int .i64 x4)), (7, (.int .i64 x5))]) (fun ⟨k6, x4, x5⟩ => [F, [(b1, Obj.cells #[(.int .i64 m.W), (.int .i64 m.H), (.slice a_m_C (List.length m.C) n_m_C)] 24 (0, 0))]]) (fun s => s.1) (fuel, 0, 0) [0, 0] H ⟨rfl, rfl, rfl, rfl, trivial⟩ rfl ?_
    rintro ⟨k6, x4, x5⟩ Z4
    replace Z4 : ref27_Cost.l0 k6 m l x4 x5 = some r := Z4
    rcases k6 with _ | k6
    · rw [ref27_Cost.l0] at Z4; cases Z4
    · rw [ref27_Cost.l0] at Z4
      refine at_seq ?_
      refine at_seq ?_
      refine at_region [0, 1, 2, 3] rfl ?_
      iterate 4 refine at_s T rfl ?_
      refine at_end ?_
      refine at_sub [(1, (.slice a_l (List.length l) n_l)), (2, (.pointer (some ⟨b1, 0, none⟩))), (6, (.int .i64 x4)), (7, (.int .i64 x5)), (19, (.bool (decide (x5 < (List.length l : Int)))))] ⟨rfl, rfl, rfl, rfl, rfl, trivial⟩ ?_
      refine at_then ?_
      refine at_cond rfl (fun c5 => ?_) (fun c5 => ?_)
      · replace Z4 := if_t (of_decide_eq_true c5) Z4
        refine at_skip ?_
        refine at_then ?_
        refine at_seq ?_
        refine at_block ?_
        refine at_seq ?_
        obtain ⟨z8, Z6, Z4⟩ := bind_e Z4
        refine at_seq_mid (σ := Bool) (fun x7 => x7 = z8) (fun x7 => [(1, (.slice a_l (List.length l) n_l)), (2, (.pointer (some ⟨b1, 0, none⟩))), (6, (.int .i64 x4)), (7, (.int .i64 x5)), (42, (.bool x7))]) (fun x7 => [F, [(b1, Obj.cells #[(.int .i64 m.W), (.int .i64 m.H), (.slice a_m_C (List.length m.C) n_m_C)] 24 (0, 0))]]) ?_ ?_
        · refine at_region_q mix (by kernel_rfl) ?_
          refine atq_s T rfl ?_
          refine atq_v rfl rfl rfl (g_load T rfl rfl rfl rfl (in_var (j := 1) rfl rfl)) ?_
          refine atq_s T rfl ?_
          refine atq_v rfl rfl rfl (g_load T rfl rfl rfl rfl (in_var (j := 1) rfl rfl)) ?_
          iterate 2 refine atq_s T rfl ?_
          obtain ⟨c7, Z6⟩ := chk_e Z6
          obtain ⟨q2, o2, e2⟩ := h_l.addr c7.1 c7.2
          refine atq_v rfl rfl rfl (g_index T rfl rfl rfl rfl rfl e2 c7.1 c7.2) ?_
          refine atq_v rfl rfl rfl (g_load T rfl rfl rfl rfl (in_elem1 (k := (Fl.int .i64)) (ro_of h_l (j := 0) rfl) e2 c7 0 rfl)) ?_
          obtain ⟨v9, V8, Z6⟩ := bind_e Z6
          refine atq_c rfl rfl rfl rfl rfl rfl has17 rfl (ref1_IsCell.c m.W m.H (rd l x5) v9 _ V8) ?_
          iterate 2 refine atq_s T rfl ?_
          refine atq_case (s := 32) rfl (fun c9 => ?_) (fun c9 => ?_)
          · replace Z6 := if_t c9 Z6
            iterate 10 refine atq_s T rfl ?_
            refine atq_end ?_
            refine at_sub [(1, (.slice a_l (List.length l) n_l)), (2, (.pointer (some ⟨b1, 0, none⟩))), (6, (.int .i64 x4)), (7, (.int .i64 x5)), (42, (.bool true))] ⟨rfl, rfl, rfl, rfl, rfl, trivial⟩ ?_
            refine at_then ?_
            obtain rfl := Option.some.inj Z6
            exact at_mid true [0, 0] rfl ⟨rfl, rfl, rfl, rfl, rfl, trivial⟩ rfl
          · replace Z6 := if_f (bf c9) Z6
            refine atq_s T rfl ?_
            refine atq_v rfl rfl rfl (g_load T rfl rfl rfl rfl (in_var (j := 1) rfl rfl)) ?_
            iterate 2 refine atq_s T rfl ?_
            refine atq_v rfl rfl rfl (g_index T rfl rfl rfl rfl rfl e2 c7.1 c7.2) ?_
            refine atq_v rfl rfl rfl (g_load T rfl rfl rfl rfl (in_elem1 (k := (Fl.int .i64)) (ro_of h_l (j := 0) rfl) e2 c7 0 rfl)) ?_
            obtain ⟨c10, Z6⟩ := chk_e Z6
            obtain ⟨q3, o3, e3⟩ := h_m_C.addr c10.1 c10.2
            refine atq_v rfl rfl rfl (g_index T rfl rfl rfl rfl rfl e3 c10.1 c10.2) ?_
            refine atq_v rfl rfl rfl (g_load T rfl rfl rfl rfl (in_elem1 (k := (Fl.int .u8)) (ro_of h_m_C (j := 0) rfl) e3 c10 0 rfl)) ?_
            iterate 2 refine atq_s T rfl ?_
            refine atq_end ?_
            refine at_sub [(1, (.slice a_l (List.length l) n_l)), (2, (.pointer (some ⟨b1, 0, none⟩))), (6, (.int .i64 x4)), (7, (.int .i64 x5)), (42, (.bool ((rd m.C (rd l x5)) == 255)))] ⟨rfl, rfl, rfl, rfl, rfl, trivial⟩ ?_
            refine at_then ?_
            obtain rfl := Option.some.inj Z6
            exact at_mid ((rd m.C (rd l x5)) == 255) [0, 0] rfl ⟨rfl, rfl, rfl, rfl, rfl, trivial⟩ rfl
        · rintro x7 rfl
          refine at_cond rfl (fun c11 => ?_) (fun c11 => ?_)
          · replace Z4 := if_t c11 Z4
            refine at_seq ?_
            refine at_region [0, 1] rfl ?_
            iterate 2 refine at_s T rfl ?_
            refine at_end ?_
            refine at_to [(4, (.int .i64 0)), (5, (.bool false))] [0] [F] ⟨rfl, rfl, trivial⟩ rfl ?_
            refine at_then ?_
            refine at_ret ?_
            refine at_rt ?_
            refine at_rb ?_
            refine at_rt ?_
            refine at_rt ?_
            refine at_rb ?_
            refine at_rt ?_
            obtain rfl := Option.some.inj Z4
            exact at_post (T := T) rfl (.tmp rfl (.tmp rfl .nil)) (fun w o => ⟨(), rfl, own_to [0] rfl o⟩)
          · replace Z4 := if_f (bf c11) Z4
            refine at_skip ?_
            refine at_then ?_
            refine at_seq ?_
            refine at_region [0, 1] rfl ?_
            iterate 2 refine at_s T rfl ?_
            refine at_end ?_
            refine at_sub [(1, (.slice a_l (List.length l) n_l)), (2, (.pointer (some ⟨b1, 0, none⟩))), (6, (.int .i64 x4)), (7, (.int .i64 x5)), (44, (.bool (decide (x5 > 0))))] ⟨rfl, rfl, rfl, rfl, rfl, trivial⟩ ?_
            refine at_then ?_
            refine at_cond rfl (fun c12 => ?_) (fun c12 => ?_)
            · replace Z4 := if_t (of_decide_eq_true c12) Z4
              refine at_seq ?_
              refine at_seq ?_
              refine at_region_q mix (by kernel_rfl) ?_
              refine atq_s T rfl ?_
              refine atq_v rfl rfl rfl (g_load T rfl rfl rfl rfl (in_var (j := 1) rfl rfl)) ?_
              refine atq_s T rfl ?_
              refine atq_v rfl rfl rfl (g_load T rfl rfl rfl rfl (in_var (j := 1) rfl rfl)) ?_
              iterate 3 refine atq_s T rfl ?_
              obtain ⟨c13, Z4⟩ := chk_e Z4
              obtain ⟨q4, o4, e4⟩ := h_l.addr c13.1 c13.2
              refine atq_v rfl rfl rfl (g_index T rfl rfl rfl rfl rfl e4 c13.1 c13.2) ?_
              refine atq_v rfl rfl rfl (g_load T rfl rfl rfl rfl (in_elem1 (k := (Fl.int .i64)) (ro_of h_l (j := 0) rfl) e4 c13 0 rfl)) ?_
              iterate 2 refine atq_s T rfl ?_
              obtain ⟨c14, Z4⟩ := chk_e Z4
              refine atq_v rfl rfl rfl (g_index T rfl rfl rfl rfl rfl e4 c14.1 c14.2) ?_
              refine atq_v rfl rfl rfl (g_load T rfl rfl rfl rfl (in_elem1 (k := (Fl.int .i64)) (ro_of h_l (j := 0) rfl) e4 c14 0 rfl)) ?_
              obtain ⟨v10, V15, Z4⟩ := bind_e Z4
              refine atq_c rfl rfl rfl rfl rfl rfl has72 rfl (ref1_Side.c m.W m.H (rd l (w64 (x5 - 1))) (rd l x5) v10 _ V15) ?_
              refine atq_s T rfl ?_
              refine atq_end ?_
              refine at_sub [(1, (.slice a_l (List.length l) n_l)), (2, (.pointer (some ⟨b1, 0, none⟩))), (6, (.int .i64 x4)), (7, (.int .i64 x5)), (59, (.bool (decide (v10 > 3))))] ⟨rfl, rfl, rfl, rfl, rfl, trivial⟩ ?_
              refine at_then ?_
              refine at_cond rfl (fun c16 => ?_) (fun c16 => ?_)
              · replace Z4 := if_t (of_decide_eq_true c16) Z4
                refine at_seq ?_
                refine at_region [0, 1] rfl ?_
                iterate 2 refine at_s T rfl ?_
                refine at_end ?_
                refine at_to [(4, (.int .i64 0)), (5, (.bool false))] [0] [F] ⟨rfl, rfl, trivial⟩ rfl ?_
                refine at_then ?_
                refine at_ret ?_
                refine at_rt ?_
                refine at_rb ?_
                refine at_rt ?_
                refine at_rt ?_
                refine at_rb ?_
                refine at_rt ?_
                obtain rfl := Option.some.inj Z4
                exact at_post (T := T) rfl (.tmp rfl (.tmp rfl .nil)) (fun w o => ⟨(), rfl, own_to [0] rfl o⟩)
              · replace Z4 := if_f (of_decide_eq_false c16) Z4
                refine at_skip ?_
                refine at_then ?_
                refine at_region_q mix (by kernel_rfl) ?_
                iterate 2 refine atq_s T rfl ?_
                refine atq_v rfl rfl rfl (g_load T rfl rfl rfl rfl (in_var (j := 1) rfl rfl)) ?_
                iterate 2 refine atq_s T rfl ?_
                refine atq_v rfl rfl rfl (g_index T rfl rfl rfl rfl rfl e4 c14.1 c14.2) ?_
                refine atq_v rfl rfl rfl (g_load T rfl rfl rfl rfl (in_elem1 (k := (Fl.int .i64)) (ro_of h_l (j := 0) rfl) e4 c14 0 rfl)) ?_
                obtain ⟨c17, Z4⟩ := chk_e Z4
                obtain ⟨q5, o5, e5⟩ := h_m_C.addr c17.1 c17.2
                refine atq_v rfl rfl rfl (g_index T rfl rfl rfl rfl rfl e5 c17.1 c17.2) ?_
                refine atq_v rfl rfl rfl (g_load T rfl rfl rfl rfl (in_elem1 (k := (Fl.int .u8)) (ro_of h_m_C (j := 0) rfl) e5 c17 0 rfl)) ?_
                iterate 3 refine atq_s T rfl ?_
                refine atq_end ?_
                refine at_sub [(1, (.slice a_l (List.length l) n_l)), (2, (.pointer (some ⟨b1, 0, none⟩))), (6, (.int .i64 (w64 (x4 + (w64 (rd m.C (rd l x5))))))), (7, (.int .i64 x5))] ⟨rfl, rfl, rfl, rfl, trivial⟩ ?_
                refine at_nb ?_
                refine at_then ?_
                refine at_region [0, 1, 2] rfl ?_
                iterate 3 refine at_s T rfl ?_
                refine at_end ?_
                refine at_sub [(1, (.slice a_l (List.length l) n_l)), (2, (.pointer (some ⟨b1, 0, none⟩))), (6, (.int .i64 (w64 (x4 + (w64 (rd m.C (rd l x5))))))), (7, (.int .i64 (w64 (x5 + 1))))] ⟨rfl, rfl, rfl, rfl, trivial⟩ ?_
                refine at_then ?_
                exact at_roundL (k6, (w64 (x4 + (w64 (rd m.C (rd l x5))))), (w64 (x5 + 1))) [0, 0] Z4 (Nat.lt_succ_self _) ⟨rfl, rfl, rfl, rfl, trivial⟩ rfl
            · replace Z4 := if_f (of_decide_eq_false c12) Z4
              refine at_skip ?_
              refine at_nb ?_
              refine at_then ?_
              refine at_region [0, 1, 2] rfl ?_
              iterate 3 refine at_s T rfl ?_
              refine at_end ?_
              refine at_sub [(1, (.slice a_l (List.length l) n_l)), (2, (.pointer (some ⟨b1, 0, none⟩))), (6, (.int .i64 x4)), (7, (.int .i64 (w64 (x5 + 1))))] ⟨rfl, rfl, rfl, rfl, trivial⟩ ?_
              refine at_then ?_
              exact at_roundL (k6, x4, (w64 (x5 + 1))) [0, 0] Z4 (Nat.lt_succ_self _) ⟨rfl, rfl, rfl, rfl, trivial⟩ rfl
      · replace Z4 := if_f (of_decide_eq_false c5) Z4
        refine at_exit ?_
        refine at_xt ?_
        refine at_xt ?_
        refine at_xb ?_
        refine at_then ?_
        refine at_seq ?_
        refine at_region [0, 1, 2] rfl ?_
        iterate 3 refine at_s T rfl ?_
        refine at_end ?_
        refine at_to [(4, (.int .i64 x4)), (5, (.bool true))] [0] [F] ⟨rfl, rfl, trivial⟩ rfl ?_
        refine at_then ?_
        refine at_ret ?_
        obtain rfl := Option.some.inj Z4
        exact at_post (T := T) rfl (.tmp rfl (.tmp rfl .nil)) (fun w o => ⟨(), rfl, own_to [0] rfl o⟩)
end Go.Proofs.Yticdodeoljodiaa
