import Derived.Test.YticdodeoljodiaaT
import Derived.Test.YticdodeoljodiaaFref1
namespace Go.Proofs.Yticdodeoljodiaa
open Go.Hx
set_option maxRecDepth 100000
set_option linter.unusedVariables false
noncomputable section
/-! ### herdsman/herdsmanref11.open: function 54 -/
def ref11_open.f (m : api_Map) (c : Int) : Option Bool := (if c ≥ 0 then (if c < (List.length m.C : Int) then (if (0 ≤ c ∧ c < (List.length m.C : Int)) then (some ((rd m.C c) != 255)) else none) else (some false)) else (some false)).bind fun x1 => some x1
set_option maxHeartbeats 4000000 in
theorem ref11_open.c {a_m_C : Option Addr} {n_m_C : Nat} (m : api_Map) (c : Int) (r : Bool) (F : Hp) (H : ref11_open.f m c = some r) (h_m_C : SliceR (Fl.int .u8) m.C a_m_C F) (c_m_C : List.length m.C ≤ n_m_C) :
    CallsL Try.prog 54 [(.agg #[(.int .i64 m.W), (.int .i64 m.H), (.slice a_m_C (List.length m.C) n_m_C)]), (.int .i64 c)] [F] (fun _ : Unit => (.bool r)) (fun _ => [F]) := by
  unfold ref11_open.f at H
  refine calls_atL [(0, (.agg #[(.int .i64 m.W), (.int .i64 m.H), (.slice a_m_C (List.length m.C) n_m_C)])), (1, (.int .i64 c))] Try.func54 rfl rfl ⟨rfl, rfl, trivial⟩ (fun W => ?_)
  refine at_seq ?_
  refine at_region [0, 1] rfl ?_
  refine at_cons (at_bx T [(.int .i64 m.W), (.int .i64 m.H), (.slice a_m_C (List.length m.C) n_m_C)] rfl rfl rfl rfl (fun b1 => ?_))
  refine at_s T rfl ?_
  refine at_end ?_
  refine at_sub [(1, (.int .i64 c)), (2, (.pointer (some ⟨b1, 0, none⟩)))] ⟨rfl, rfl, trivial⟩ ?_
  refine at_then ?_
  obtain ⟨z2, Z1, H⟩ := bind_e H
  refine at_seq_mid (σ := Bool) (fun x1 => x1 = z2) (fun x1 => [(4, (.bool x1))]) (fun x1 => [F]) ?_ ?_
  · refine at_region [0, 1, 2, 3, 4, 5, 6, 7, 8, 9, 10, 11, 12, 13, 14, 15, 16, 17] rfl ?_
    iterate 3 refine at_s T rfl ?_
    refine at_case (s := 7) rfl (fun c2 => ?_) (fun c2 => ?_)
    · replace Z1 := if_t (of_decide_eq_true c2) Z1
      iterate 2 refine at_s T rfl ?_
      refine at_v rfl (g_load T rfl rfl rfl rfl (in_var (j := 1) rfl rfl)) ?_
      iterate 4 refine at_s T rfl ?_
      refine at_case (s := 14) rfl (fun c3 => ?_) (fun c3 => ?_)
      · replace Z1 := if_t (of_decide_eq_true c3) Z1
        refine at_s T rfl ?_
        refine at_v rfl (g_load T rfl rfl rfl rfl (in_var (j := 1) rfl rfl)) ?_
        refine at_s T rfl ?_
        obtain ⟨c4, Z1⟩ := chk_e Z1
        obtain ⟨q2, o2, e2⟩ := h_m_C.addr c4.1 c4.2
        refine at_v rfl (g_index T rfl rfl rfl rfl rfl e2 c4.1 c4.2) ?_
        refine at_v rfl (g_load T rfl rfl rfl rfl (in_elem1 (k := (Fl.int .u8)) (ro_of h_m_C (j := 0) rfl) e2 c4 0 rfl)) ?_
        iterate 3 refine at_s T rfl ?_
        refine at_end ?_
        refine at_to [(4, (.bool ((rd m.C c) != 255)))] [0] [F] ⟨rfl, trivial⟩ rfl ?_
        refine at_then ?_
        obtain rfl := Option.some.inj Z1
        exact at_mid ((rd m.C c) != 255) [0] rfl ⟨rfl, trivial⟩ rfl
      · replace Z1 := if_f (of_decide_eq_false c3) Z1
        iterate 8 refine at_s T rfl ?_
        refine at_end ?_
        refine at_to [(4, (.bool false))] [0] [F] ⟨rfl, trivial⟩ rfl ?_
        refine at_then ?_
        obtain rfl := Option.some.inj Z1
        exact at_mid false [0] rfl ⟨rfl, trivial⟩ rfl
    · replace Z1 := if_f (of_decide_eq_false c2) Z1
      iterate 15 refine at_s T rfl ?_
      refine at_end ?_
      refine at_to [(4, (.bool false))] [0] [F] ⟨rfl, trivial⟩ rfl ?_
      refine at_then ?_
      obtain rfl := Option.some.inj Z1
      exact at_mid false [0] rfl ⟨rfl, trivial⟩ rfl
  · rintro x1 rfl
    refine at_ret ?_
    obtain rfl := Option.some.inj H
    exact at_post (T := T) rfl (.tmp rfl .nil) (fun w o => ⟨(), rfl, own_to [0] rfl o⟩)

/-! ### herdsman/herdsmanref11.Flat: function 47 -/
def ref11_Flat.l3 : Nat → api_Map → Int → List Int → Bool → Int → Option ((List Int) × Bool)
  | 0, _, _, _, _, _ => none
  | k33 + 1, m, x25, x30, x31, x32 => (if x32 ≤ 3 then (if (0 ≤ x25 ∧ x25 < (List.length m.C : Int)) then (some ((rd m.C x25) != 255)) else none) else (some false)).bind fun x34 => if x34 = true then ((ref1_Step.f m.W m.H x25 x32).bind fun v36 => (if v36 ≥ 0 then (if (0 ≤ v36 ∧ v36 < (List.length m.C : Int)) then (if ((rd m.C v36) != 255) = true then (if (0 ≤ v36 ∧ v36 < (List.length x30 : Int)) then (if (rd x30 v36) < 1099511627776 then (if (0 ≤ x25 ∧ x25 < (List.length x30 : Int)) then (some (decide ((w64 ((rd x30 v36) + (w64 (rd m.C v36)))) < (rd x30 x25)))) else none) else (some false)) else none) else (some false)) else none) else (some false)).bind fun x37 => if x37 = true then (if (0 ≤ v36 ∧ v36 < (List.length x30 : Int)) then (if (0 ≤ v36 ∧ v36 < (List.length m.C : Int)) then (if (0 ≤ x25 ∧ x25 < (List.length x30 : Int)) then (ref11_Flat.l3 k33 m x25 (List.set x30 (Int.toNat x25) (w64 ((rd x30 v36) + (w64 (rd m.C v36))))) true (w64 (x32 + 1))) else none) else none) else none) else (ref11_Flat.l3 k33 m x25 x30 x31 (w64 (x32 + 1)))) else (some (x30, x31))
def ref11_Flat.l2 : Nat → api_Map → List Int → Bool → Int → Option ((List Int) × Bool)
  | 0, _, _, _, _ => none
  | k21 + 1, m, x18, x19, x20 => if x20 < (w64 (2 * (List.length m.C : Int))) then (((if x20 ≥ (List.length m.C : Int) then (some (w64 ((w64 ((w64 (2 * (List.length m.C : Int))) - 1)) - x20))) else (some x20)).bind fun x25 => ref11_Flat.l3 fuel m x25 x18 x19 0).bind fun (x22, x23) => ref11_Flat.l2 k21 m x22 x23 (w64 (x20 + 1))) else (some (x18, x19))
def ref11_Flat.l1 : Nat → api_Map → List Int → Bool → Option (List Int)
  | 0, _, _, _ => none
  | k11 + 1, m, x9, x10 => if x10 = true then ((ref11_Flat.l2 fuel m x9 false 0).bind fun (x12, x13) => ref11_Flat.l1 k11 m x12 x13) else (some x9)
def ref11_Flat.l0 : Nat → api_Map → Int → List Int → Int → Option (List Int)
  | 0, _, _, _, _ => none
  | k5 + 1, m, goal, x3, x4 => if x4 < (List.length m.C : Int) then (if (0 ≤ x4 ∧ x4 < (List.length x3 : Int)) then (ref11_Flat.l0 k5 m goal (List.set x3 (Int.toNat x4) 1099511627776) (w64 (x4 + 1))) else none) else ((ref11_open.f m goal).bind fun v6 => if (!v6) = true then (some x3) else (if (0 ≤ goal ∧ goal < (List.length x3 : Int)) then (ref11_Flat.l1 fuel m (List.set x3 (Int.toNat goal) 0) true) else none))
def ref11_Flat.f (m : api_Map) (goal : Int) : Option (List Int) := if (0 ≤ (List.length m.C : Int) ∧ (List.length m.C : Int) ≤ 1099511627776) then (ref11_Flat.l0 fuel m goal (List.replicate (Int.toNat (List.length m.C : Int)) (0 : Int)) 0) else none
def ref11_Flat.R (r : (List Int)) (u : Value) (G : List Hp) : Prop := ∃ (a0 : Option Addr) (n0 : Nat) (H0 : Hp), SliceO (Fl.int .i64) 3 r a0 n0 H0 ∧ u = (.slice a0 (List.length r) n0) ∧ G = [H0]
set_option maxHeartbeats 4000000 in
theorem ref11_Flat.c {a_m_C : Option Addr} {n_m_C : Nat} (m : api_Map) (goal : Int) (r : (List Int)) (F : Hp) (H : ref11_Flat.f m goal = some r) (h_m_C : SliceR (Fl.int .u8) m.C a_m_C F) (c_m_C : List.length m.C ≤ n_m_C) :
    CallsL Try.prog 47 [(.agg #[(.int .i64 m.W), (.int .i64 m.H), (.slice a_m_C (List.length m.C) n_m_C)]), (.int .i64 goal)] [F] (fun qp : { qp : Value × List Hp // ref11_Flat.R r qp.1 qp.2 } => qp.1.1) (fun qp => (qp.1.2 ++ []) ++ [F]) := by
  unfold ref11_Flat.f at H
  refine calls_atL [(0, (.agg #[(.int .i64 m.W), (.int .i64 m.H), (.slice a_m_C (List.length m.C) n_m_C)])), (1, (.int .i64 goal))] Try.func47 rfl rfl ⟨rfl, rfl, trivial⟩ (fun W => ?_)
  refine at_seq ?_
  refine at_region [0, 1] rfl ?_
  refine at_cons (at_bx T [(.int .i64 m.W), (.int .i64 m.H), (.slice a_m_C (List.length m.C) n_m_C)] rfl rfl rfl rfl (fun b1 => ?_))
  refine at_s T rfl ?_
  refine at_end ?_
  refine at_sub [(1, (.int .i64 goal)), (2, (.pointer (some ⟨b1, 0, none⟩)))] ⟨rfl, rfl, trivial⟩ ?_
  refine at_then ?_
  refine at_seq ?_
  refine at_region [0, 1, 2, 3] rfl ?_
  refine at_s T rfl ?_
  refine at_v rfl (g_load T rfl rfl rfl rfl (in_var (j := 1) rfl rfl)) ?_
  iterate 2 refine at_s T rfl ?_
  refine at_end ?_
  refine at_sub [(1, (.int .i64 goal)), (2, (.pointer (some ⟨b1, 0, none⟩))), (5, (.int .i64 (List.length m.C : Int)))] ⟨rfl, rfl, rfl, trivial⟩ ?_
  refine at_then ?_
  refine at_seq ?_
  refine at_region [0, 1, 2] rfl ?_
  refine at_s T rfl ?_
  obtain ⟨c1, H⟩ := chk_e H
  refine at_cons (at_mk (k := (Fl.int .i64)) T (0 : Int) rfl rfl rfl rfl rfl rfl rfl rfl c1 rfl (fun a2 n2 H2 s2 => ?_))
  refine at_s T rfl ?_
  refine at_end ?_
  refine at_sub [(1, (.int .i64 goal)), (2, (.pointer (some ⟨b1, 0, none⟩))), (5, (.int .i64 (List.length m.C : Int))), (6, (.slice a2 (List.length (List.replicate (Int.toNat (List.length m.C : Int)) (0 : Int))) n2))] ⟨rfl, rfl, rfl, rfl, trivial⟩ ?_
  refine at_then ?_
  refine at_seq ?_
  refine at_seq ?_
  refine at_region [0] rfl ?_
  refine at_s T rfl ?_
  refine at_end ?_
  refine at_sub [(1, (.int .i64 goal)), (2, (.pointer (some ⟨b1, 0, none⟩))), (5, (.int .i64 (List.length m.C : Int))), (6, (.slice a2 (List.length (List.replicate (Int.toNat (List.length m.C : Int)) (0 : Int))) n2)), (7, (.int .i64 0))] ⟨rfl, rfl, rfl, rfl, rfl, trivial⟩ ?_
  refine at_then ?_
  refine at_block ?_
  refine at_loopL (σ := Nat × List Int × Int × Option Addr × Nat × Hp) (fun ⟨k5, x3, x4, a4, n4, H4⟩ => ref11_Flat.l0 k5 m goal x3 x4 = some r ∧ SliceO (Fl.int .i64) 3 x3 a4 n4 H4) (fun ⟨k5, x3, x4, a4, n4, H4⟩ => [(1, (.int .i64 goal)), (2, (.pointer (some ⟨b1, 0, none⟩))), (5, (.int .i64 (List.length m.C : Int))), (6, (.slice a4 (List.length x3) n4)), (7, (.int .i64 x4))]) (fun ⟨k5, x3, x4, a4, n4, H4⟩ => [F, [(b1, Obj.cells #[(.int .i64 m.W), (.int .i64 m.H), (.slice a_m_C (List.length m.C) n_m_C)] 24 (0, 0))], H4]) (fun s => s.1) (fuel, (List.replicate (Int.toNat (List.length m.C : Int)) (0 : Int)), 0, a2, n2, H2) [0, 0, 0] ⟨H, s2⟩ ⟨rfl, rfl, rfl, rfl, rfl, trivial⟩ rfl ?_
  rintro ⟨k5, x3, x4, a4, n4, H4⟩ ⟨Z2, s4⟩
  replace Z2 : ref11_Flat.l0 k5 m goal x3 x4 = some r := Z2
  rcases k5 with _ | k5
  · rw [ref11_Flat.l0] at Z2; cases Z2
  · rw [ref11_Flat.l0] at Z2
    refine at_seq ?_
    refine at_seq ?_
    refine at_region [0, 1, 2] rfl ?_
    iterate 3 refine at_s T rfl ?_
    refine at_end ?_
    refine at_sub [(1, (.int .i64 goal)), (2, (.pointer (some ⟨b1, 0, none⟩))), (5, (.int .i64 (List.length m.C : Int))), (6, (.slice a4 (List.length x3) n4)), (7, (.int .i64 x4)), (20, (.bool (decide (x4 < (List.length m.C : Int)))))] ⟨rfl, rfl, rfl, rfl, rfl, rfl, trivial⟩ ?_
    refine at_then ?_
    refine at_cond rfl (fun c3 => ?_) (fun c3 => ?_)
    · replace Z2 := if_t (of_decide_eq_true c3) Z2
      refine at_skip ?_
      refine at_then ?_
      refine at_seq ?_
      refine at_block ?_
      refine at_region [0, 1, 2, 3] rfl ?_
      iterate 2 refine at_s T rfl ?_
      obtain ⟨c4, Z2⟩ := chk_e Z2
      obtain ⟨q5, o5, e5⟩ := s4.r.addr c4.1 c4.2
      refine at_v rfl (g_index T rfl rfl rfl rfl rfl e5 c4.1 c4.2) ?_
      refine at_cons (at_se (k := (Fl.int .i64)) T 2 0 1099511627776 rfl rfl rfl rfl rfl rfl s4 e5 c4 rfl rfl rfl (fun H6 s6 => ?_))
      refine at_to [(1, (.int .i64 goal)), (2, (.pointer (some ⟨b1, 0, none⟩))), (5, (.int .i64 (List.length m.C : Int))), (6, (.slice a4 (List.length (List.set x3 (Int.toNat x4) 1099511627776)) n4)), (7, (.int .i64 x4))] [0, 0, 0] [F, [(b1, Obj.cells #[(.int .i64 m.W), (.int .i64 m.H), (.slice a_m_C (List.length m.C) n_m_C)] 24 (0, 0))], H6] ⟨rfl, rfl, rfl, (by first | rfl | (simp only [List.length_set]; rfl)), rfl, trivial⟩ rfl ?_
      refine at_end ?_
      refine at_sub [(1, (.int .i64 goal)), (2, (.pointer (some ⟨b1, 0, none⟩))), (5, (.int .i64 (List.length m.C : Int))), (6, (.slice a4 (List.length (List.set x3 (Int.toNat x4) 1099511627776)) n4)), (7, (.int .i64 x4))] ⟨rfl, rfl, rfl, rfl, rfl, trivial⟩ ?_
      refine at_nb ?_
      refine at_then ?_
      refine at_region [0, 1, 2] rfl ?_
      iterate 3 refine at_s T rfl ?_
      refine at_end ?_
      refine at_sub [(1, (.int .i64 goal)), (2, (.pointer (some ⟨b1, 0, none⟩))), (5, (.int .i64 (List.length m.C : Int))), (6, (.slice a4 (List.length (List.set x3 (Int.toNat x4) 1099511627776)) n4)), (7, (.int .i64 (w64 (x4 + 1))))] ⟨rfl, rfl, rfl, rfl, rfl, trivial⟩ ?_
      refine at_then ?_
      exact at_roundL (k5, (List.set x3 (Int.toNat x4) 1099511627776), (w64 (x4 + 1)), a4, n4, H6) [0, 0, 0] ⟨Z2, s6⟩ (Nat.lt_succ_self _) ⟨rfl, rfl, rfl, rfl, rfl, trivial⟩ rfl
    · replace Z2 := if_f (of_decide_eq_false c3) Z2
      refine at_exit ?_
      refine at_xt ?_
      refine at_xt ?_
      refine at_xb ?_
      refine at_then ?_
      refine at_seq ?_
      refine at_seq ?_
      refine at_region [0, 1, 2, 3] rfl ?_
      refine at_v rfl (g_loadA T (cs := [(.int .i64 m.W), (.int .i64 m.H), (.slice a_m_C (List.length m.C) n_m_C)]) rfl rfl rfl rfl rfl rfl (in_varA (j := 1) rfl rfl)) ?_
      refine at_s T rfl ?_
      obtain ⟨v6, V5, Z2⟩ := bind_e Z2
      refine at_cons (at_c (B := fun _ => []) [] rfl rfl rfl rfl has54 rfl rfl (ref11_open.c m goal v6 _ V5 (ro_of h_m_C (j := 0) rfl) c_m_C) (fun _ => ?_))
      refine at_s T rfl ?_
      refine at_end ?_
      refine at_sub [(1, (.int .i64 goal)), (2, (.pointer (some ⟨b1, 0, none⟩))), (5, (.int .i64 (List.length m.C : Int))), (6, (.slice a4 (List.length x3) n4)), (29, (.bool (!v6)))] ⟨rfl, rfl, rfl, rfl, rfl, trivial⟩ ?_
      refine at_then ?_
      refine at_cond rfl (fun c6 => ?_) (fun c6 => ?_)
      · replace Z2 := if_t c6 Z2
        refine at_seq ?_
        refine at_region [0, 1] rfl ?_
        iterate 2 refine at_s T rfl ?_
        refine at_end ?_
        refine at_to [(4, (.slice a4 (List.length x3) n4))] [0, 1] [F, H4] ⟨rfl, trivial⟩ rfl ?_
        refine at_then ?_
        refine at_ret ?_
        refine at_rt ?_
        obtain rfl := Option.some.inj Z2
        exact at_post (T := T) rfl (.tmp rfl .nil) (fun w o => ⟨⟨(_, _), ⟨a4, n4, H4, s4, rfl, rfl⟩⟩, rfl, own_to [1, 0] rfl o⟩)
      · replace Z2 := if_f (bf c6) Z2
        refine at_skip ?_
        refine at_then ?_
        refine at_seq ?_
        refine at_region [0, 1, 2, 3] rfl ?_
        iterate 2 refine at_s T rfl ?_
        obtain ⟨c7, Z2⟩ := chk_e Z2
        obtain ⟨q7, o7, e7⟩ := s4.r.addr c7.1 c7.2
        refine at_v rfl (g_index T rfl rfl rfl rfl rfl e7 c7.1 c7.2) ?_
        refine at_cons (at_se (k := (Fl.int .i64)) T 2 0 0 rfl rfl rfl rfl rfl rfl s4 e7 c7 rfl rfl rfl (fun H8 s8 => ?_))
        refine at_to [(2, (.pointer (some ⟨b1, 0, none⟩))), (5, (.int .i64 (List.length m.C : Int))), (6, (.slice a4 (List.length (List.set x3 (Int.toNat goal) 0)) n4))] [0, 0, 0] [F, [(b1, Obj.cells #[(.int .i64 m.W), (.int .i64 m.H), (.slice a_m_C (List.length m.C) n_m_C)] 24 (0, 0))], H8] ⟨rfl, rfl, (by first | rfl | (simp only [List.length_set]; rfl)), trivial⟩ rfl ?_
        refine at_end ?_
        refine at_sub [(2, (.pointer (some ⟨b1, 0, none⟩))), (5, (.int .i64 (List.length m.C : Int))), (6, (.slice a4 (List.length (List.set x3 (Int.toNat goal) 0)) n4))] ⟨rfl, rfl, rfl, trivial⟩ ?_
        refine at_then ?_
        refine at_seq ?_
        refine at_seq ?_
        refine at_region [0] rfl ?_
        refine at_s T rfl ?_
        refine at_end ?_
        refine at_sub [(2, (.pointer (some ⟨b1, 0, none⟩))), (5, (.int .i64 (List.length m.C : Int))), (6, (.slice a4 (List.length (List.set x3 (Int.toNat goal) 0)) n4)), (8, (.bool true))] ⟨rfl, rfl, rfl, rfl, trivial⟩ ?_
        refine at_then ?_
        refine at_block ?_
        refine at_loopL (σ := Nat × List Int × Bool × Option Addr × Nat × Hp) (fun ⟨k11, x9, x10, a10, n10, H10⟩ => ref11_Flat.l1 k11 m x9 x10 = some r ∧ SliceO (Fl.int .i64) 3 x9 a10 n10 H10) (fun ⟨k11, x9, x10, a10, n10, H10⟩ => [(2, (.pointer (some ⟨b1, 0, none⟩))), (5, (.int .i64 (List.length m.C : Int))), (6, (.slice a10 (List.length x9) n10)), (8, (.bool x10))]) (fun ⟨k11, x9, x10, a10, n10, H10⟩ => [F, [(b1, Obj.cells #[(.int .i64 m.W), (.int .i64 m.H), (.slice a_m_C (List.length m.C) n_m_C)] 24 (0, 0))], H10]) (fun s => s.1) (fuel, (List.set x3 (Int.toNat goal) 0), true, a4, n4, H8) [0, 0, 0] ⟨Z2, s8⟩ ⟨rfl, rfl, rfl, rfl, trivial⟩ rfl ?_
        rintro ⟨k11, x9, x10, a10, n10, H10⟩ ⟨Z8, s10⟩
        replace Z8 : ref11_Flat.l1 k11 m x9 x10 = some r := Z8
        rcases k11 with _ | k11
        · rw [ref11_Flat.l1] at Z8; cases Z8
        · rw [ref11_Flat.l1] at Z8
          refine at_seq ?_
          refine at_seq ?_
          refine at_region [0] rfl ?_
          refine at_s T rfl ?_
          refine at_end ?_
          refine at_sub [(2, (.pointer (some ⟨b1, 0, none⟩))), (5, (.int .i64 (List.length m.C : Int))), (6, (.slice a10 (List.length x9) n10)), (34, (.bool x10))] ⟨rfl, rfl, rfl, rfl, trivial⟩ ?_
          refine at_then ?_
          refine at_cond rfl (fun c9 => ?_) (fun c9 => ?_)
          · replace Z8 := if_t c9 Z8
            refine at_skip ?_
            refine at_then ?_
            obtain ⟨z14, Z10, Z8⟩ := bind_e Z8
            refine at_any_mid (σ := List Int × Bool × Option Addr × Nat × Hp) (fun ⟨x12, x13, a11, n11, H11⟩ => (x12, x13) = z14 ∧ SliceO (Fl.int .i64) 3 x12 a11 n11 H11) (fun ⟨x12, x13, a11, n11, H11⟩ => [(2, (.pointer (some ⟨b1, 0, none⟩))), (5, (.int .i64 (List.length m.C : Int))), (6, (.slice a11 (List.length x12) n11)), (8, (.bool x13))]) (fun ⟨x12, x13, a11, n11, H11⟩ => [F, [(b1, Obj.cells #[(.int .i64 m.W), (.int .i64 m.H), (.slice a_m_C (List.length m.C) n_m_C)] 24 (0, 0))], H11]) ?_ ?_
            · refine at_block ?_
              refine at_seq ?_
              refine at_region [0] rfl ?_
              refine at_s T rfl ?_
              refine at_end ?_
              refine at_sub [(2, (.pointer (some ⟨b1, 0, none⟩))), (5, (.int .i64 (List.length m.C : Int))), (6, (.slice a10 (List.length x9) n10)), (8, (.bool false))] ⟨rfl, rfl, rfl, rfl, trivial⟩ ?_
              refine at_then ?_
              refine at_seq ?_
              refine at_region [0] rfl ?_
              refine at_s T rfl ?_
              refine at_end ?_
              refine at_sub [(2, (.pointer (some ⟨b1, 0, none⟩))), (5, (.int .i64 (List.length m.C : Int))), (6, (.slice a10 (List.length x9) n10)), (8, (.bool false)), (9, (.int .i64 0))] ⟨rfl, rfl, rfl, rfl, rfl, trivial⟩ ?_
              refine at_then ?_
              refine at_block ?_
              refine at_loopL (σ := Nat × List Int × Bool × Int × Option Addr × Nat × Hp) (fun ⟨k21, x18, x19, x20, a13, n13, H13⟩ => ref11_Flat.l2 k21 m x18 x19 x20 = some z14 ∧ SliceO (Fl.int .i64) 3 x18 a13 n13 H13) (fun ⟨k21, x18, x19, x20, a13, n13, H13⟩ => [(2, (.pointer (some ⟨b1, 0, none⟩))), (5, (.int .i64 (List.length m.C : Int))), (6, (.slice a13 (List.length x18) n13)), (8, (.bool x19)), (9, (.int .i64 x20))]) (fun ⟨k21, x18, x19, x20, a13, n13, H13⟩ => [F, [(b1, Obj.cells #[(.int .i64 m.W), (.int .i64 m.H), (.slice a_m_C (List.length m.C) n_m_C)] 24 (0, 0))], H13]) (fun s => s.1) (fuel, x9, false, 0, a10, n10, H10) [0, 0, 0] ⟨Z10, s10⟩ ⟨rfl, rfl, rfl, rfl, rfl, trivial⟩ rfl ?_
              rintro ⟨k21, x18, x19, x20, a13, n13, H13⟩ ⟨Z11, s13⟩
              replace Z11 : ref11_Flat.l2 k21 m x18 x19 x20 = some z14 := Z11
              rcases k21 with _ | k21
              · rw [ref11_Flat.l2] at Z11; cases Z11
              · rw [ref11_Flat.l2] at Z11
                refine at_seq ?_
                refine at_seq ?_
                refine at_region [0, 1, 2, 3] rfl ?_
                iterate 4 refine at_s T rfl ?_
                refine at_end ?_
                refine at_sub [(2, (.pointer (some ⟨b1, 0, none⟩))), (5, (.int .i64 (List.length m.C : Int))), (6, (.slice a13 (List.length x18) n13)), (8, (.bool x19)), (9, (.int .i64 x20)), (38, (.bool (decide (x20 < (w64 (2 * (List.length m.C : Int)))))))] ⟨rfl, rfl, rfl, rfl, rfl, rfl, trivial⟩ ?_
                refine at_then ?_
                refine at_cond rfl (fun c12 => ?_) (fun c12 => ?_)
                · replace Z11 := if_t (of_decide_eq_true c12) Z11
                  refine at_skip ?_
                  refine at_then ?_
                  obtain ⟨z24, Z13, Z11⟩ := bind_e Z11
                  refine at_seq_mid (σ := List Int × Bool × Option Addr × Nat × Hp) (fun ⟨x22, x23, a14, n14, H14⟩ => (x22, x23) = z24 ∧ SliceO (Fl.int .i64) 3 x22 a14 n14 H14) (fun ⟨x22, x23, a14, n14, H14⟩ => [(2, (.pointer (some ⟨b1, 0, none⟩))), (5, (.int .i64 (List.length m.C : Int))), (6, (.slice a14 (List.length x22) n14)), (8, (.bool x23)), (9, (.int .i64 x20))]) (fun ⟨x22, x23, a14, n14, H14⟩ => [F, [(b1, Obj.cells #[(.int .i64 m.W), (.int .i64 m.H), (.slice a_m_C (List.length m.C) n_m_C)] 24 (0, 0))], H14]) ?_ ?_
                  · refine at_block ?_
                    refine at_seq ?_
                    refine at_region [0, 1] rfl ?_
                    iterate 2 refine at_s T rfl ?_
                    refine at_end ?_
                    refine at_sub [(2, (.pointer (some ⟨b1, 0, none⟩))), (5, (.int .i64 (List.length m.C : Int))), (6, (.slice a13 (List.length x18) n13)), (8, (.bool x19)), (9, (.int .i64 x20)), (10, (.int .i64 x20))] ⟨rfl, rfl, rfl, rfl, rfl, rfl, trivial⟩ ?_
                    refine at_then ?_
                    obtain ⟨z26, Z14, Z13⟩ := bind_e Z13
                    refine at_seq_mid (σ := Int) (fun x25 => x25 = z26) (fun x25 => [(2, (.pointer (some ⟨b1, 0, none⟩))), (5, (.int .i64 (List.length m.C : Int))), (6, (.slice a13 (List.length x18) n13)), (8, (.bool x19)), (9, (.int .i64 x20)), (10, (.int .i64 x25))]) (fun x25 => [F, [(b1, Obj.cells #[(.int .i64 m.W), (.int .i64 m.H), (.slice a_m_C (List.length m.C) n_m_C)] 24 (0, 0))], H13]) ?_ ?_
                    · refine at_seq ?_
                      refine at_region [0, 1, 2] rfl ?_
                      iterate 3 refine at_s T rfl ?_
                      refine at_end ?_
                      refine at_sub [(2, (.pointer (some ⟨b1, 0, none⟩))), (5, (.int .i64 (List.length m.C : Int))), (6, (.slice a13 (List.length x18) n13)), (8, (.bool x19)), (9, (.int .i64 x20)), (10, (.int .i64 x20)), (44, (.bool (decide (x20 ≥ (List.length m.C : Int)))))] ⟨rfl, rfl, rfl, rfl, rfl, rfl, rfl, trivial⟩ ?_
                      refine at_then ?_
                      refine at_cond rfl (fun c15 => ?_) (fun c15 => ?_)
                      · replace Z14 := if_t (of_decide_eq_true c15) Z14
                        refine at_region [0, 1, 2, 3, 4, 5] rfl ?_
                        iterate 6 refine at_s T rfl ?_
                        refine at_end ?_
                        refine at_sub [(2, (.pointer (some ⟨b1, 0, none⟩))), (5, (.int .i64 (List.length m.C : Int))), (6, (.slice a13 (List.length x18) n13)), (8, (.bool x19)), (9, (.int .i64 x20)), (10, (.int .i64 (w64 ((w64 ((w64 (2 * (List.length m.C : Int))) - 1)) - x20))))] ⟨rfl, rfl, rfl, rfl, rfl, rfl, trivial⟩ ?_
                        refine at_then ?_
                        obtain rfl := Option.some.inj Z14
                        exact at_mid (w64 ((w64 ((w64 (2 * (List.length m.C : Int))) - 1)) - x20)) [0, 0, 0] rfl ⟨rfl, rfl, rfl, rfl, rfl, rfl, trivial⟩ rfl
                      · replace Z14 := if_f (of_decide_eq_false c15) Z14
                        refine at_skip ?_
                        refine at_then ?_
                        obtain rfl := Option.some.inj Z14
                        exact at_mid x20 [0, 0, 0] rfl ⟨rfl, rfl, rfl, rfl, rfl, rfl, trivial⟩ rfl
                    · rintro x25 rfl
                      refine at_seq ?_
                      refine at_region [0] rfl ?_
                      refine at_s T rfl ?_
                      refine at_end ?_
                      refine at_sub [(2, (.pointer (some ⟨b1, 0, none⟩))), (5, (.int .i64 (List.length m.C : Int))), (6, (.slice a13 (List.length x18) n13)), (8, (.bool x19)), (9, (.int .i64 x20)), (10, (.int .i64 x25)), (11, (.int .i64 0))] ⟨rfl, rfl, rfl, rfl, rfl, rfl, rfl, trivial⟩ ?_
                      refine at_then ?_
                      refine at_block ?_
                      refine at_loopL (σ := Nat × List Int × Bool × Int × Option Addr × Nat × Hp) (fun ⟨k33, x30, x31, x32, a16, n16, H16⟩ => ref11_Flat.l3 k33 m x25 x30 x31 x32 = some z24 ∧ SliceO (Fl.int .i64) 3 x30 a16 n16 H16) (fun ⟨k33, x30, x31, x32, a16, n16, H16⟩ => [(2, (.pointer (some ⟨b1, 0, none⟩))), (5, (.int .i64 (List.length m.C : Int))), (6, (.slice a16 (List.length x30) n16)), (8, (.bool x31)), (9, (.int .i64 x20)), (10, (.int .i64 x25)), (11, (.int .i64 x32))]) (fun ⟨k33, x30, x31, x32, a16, n16, H16⟩ => [F, [(b1, Obj.cells #[(.int .i64 m.W), (.int .i64 m.H), (.slice a_m_C (List.length m.C) n_m_C)] 24 (0, 0))], H16]) (fun s => s.1) (fuel, x18, x19, 0, a13, n13, H13) [0, 0, 0] ⟨Z13, s13⟩ ⟨rfl, rfl, rfl, rfl, rfl, rfl, rfl, trivial⟩ rfl ?_
                      rintro ⟨k33, x30, x31, x32, a16, n16, H16⟩ ⟨Z16, s16⟩
                      replace Z16 : ref11_Flat.l3 k33 m x25 x30 x31 x32 = some z24 := Z16
                      rcases k33 with _ | k33
                      · rw [ref11_Flat.l3] at Z16; cases Z16
                      · rw [ref11_Flat.l3] at Z16
                        refine at_seq ?_
                        obtain ⟨z35, Z17, Z16⟩ := bind_e Z16
                        refine at_seq_mid (σ := Bool) (fun x34 => x34 = z35) (fun x34 => [(2, (.pointer (some ⟨b1, 0, none⟩))), (5, (.int .i64 (List.length m.C : Int))), (6, (.slice a16 (List.length x30) n16)), (8, (.bool x31)), (9, (.int .i64 x20)), (10, (.int .i64 x25)), (11, (.int .i64 x32)), (59, (.bool x34))]) (fun x34 => [F, [(b1, Obj.cells #[(.int .i64 m.W), (.int .i64 m.H), (.slice a_m_C (List.length m.C) n_m_C)] 24 (0, 0))], H16]) ?_ ?_
                        · refine at_region [0, 1, 2, 3, 4, 5, 6, 7, 8, 9] rfl ?_
                          iterate 3 refine at_s T rfl ?_
                          refine at_case (s := 52) rfl (fun c18 => ?_) (fun c18 => ?_)
                          · replace Z17 := if_t (of_decide_eq_true c18) Z17
                            refine at_s T rfl ?_
                            refine at_v rfl (g_load T rfl rfl rfl rfl (in_var (j := 1) rfl rfl)) ?_
                            refine at_s T rfl ?_
                            obtain ⟨c19, Z17⟩ := chk_e Z17
                            obtain ⟨q17, o17, e17⟩ := h_m_C.addr c19.1 c19.2
                            refine at_v rfl (g_index T rfl rfl rfl rfl rfl e17 c19.1 c19.2) ?_
                            refine at_v rfl (g_load T rfl rfl rfl rfl (in_elem1 (k := (Fl.int .u8)) (ro_of h_m_C (j := 0) rfl) e17 c19 0 rfl)) ?_
                            iterate 2 refine at_s T rfl ?_
                            refine at_end ?_
                            refine at_sub [(2, (.pointer (some ⟨b1, 0, none⟩))), (5, (.int .i64 (List.length m.C : Int))), (6, (.slice a16 (List.length x30) n16)), (8, (.bool x31)), (9, (.int .i64 x20)), (10, (.int .i64 x25)), (11, (.int .i64 x32)), (59, (.bool ((rd m.C x25) != 255)))] ⟨rfl, rfl, rfl, rfl, rfl, rfl, rfl, rfl, trivial⟩ ?_
                            refine at_then ?_
                            obtain rfl := Option.some.inj Z17
                            exact at_mid ((rd m.C x25) != 255) [0, 0, 0] rfl ⟨rfl, rfl, rfl, rfl, rfl, rfl, rfl, rfl, trivial⟩ rfl
                          · replace Z17 := if_f (of_decide_eq_false c18) Z17
                            iterate 7 refine at_s T rfl ?_
                            refine at_end ?_
                            refine at_sub [(2, (.pointer (some ⟨b1, 0, none⟩))), (5, (.int .i64 (List.length m.C : Int))), (6, (.slice a16 (List.length x30) n16)), (8, (.bool x31)), (9, (.int .i64 x20)), (10, (.int .i64 x25)), (11, (.int .i64 x32)), (59, (.bool false))] ⟨rfl, rfl, rfl, rfl, rfl, rfl, rfl, rfl, trivial⟩ ?_
                            refine at_then ?_
                            obtain rfl := Option.some.inj Z17
                            exact at_mid false [0, 0, 0] rfl ⟨rfl, rfl, rfl, rfl, rfl, rfl, rfl, rfl, trivial⟩ rfl
                        · rintro x34 rfl
                          refine at_cond rfl (fun c20 => ?_) (fun c20 => ?_)
                          · replace Z16 := if_t c20 Z16
                            refine at_skip ?_
                            refine at_then ?_
                            refine at_seq ?_
                            refine at_block ?_
                            refine at_seq ?_
                            refine at_region [0, 1, 2, 3, 4, 5, 6, 7] rfl ?_
                            refine at_s T rfl ?_
                            refine at_v rfl (g_load T rfl rfl rfl rfl (in_var (j := 1) rfl rfl)) ?_
                            refine at_s T rfl ?_
                            refine at_v rfl (g_load T rfl rfl rfl rfl (in_var (j := 1) rfl rfl)) ?_
                            iterate 2 refine at_s T rfl ?_
                            obtain ⟨v36, V21, Z16⟩ := bind_e Z16
                            refine at_cons (at_c (B := fun _ => []) [] rfl rfl rfl rfl has36 rfl rfl (ref1_Step.c m.W m.H x25 x32 v36 _ V21) (fun _ => ?_))
                            refine at_s T rfl ?_
                            refine at_end ?_
                            refine at_sub [(2, (.pointer (some ⟨b1, 0, none⟩))), (5, (.int .i64 (List.length m.C : Int))), (6, (.slice a16 (List.length x30) n16)), (8, (.bool x31)), (9, (.int .i64 x20)), (10, (.int .i64 x25)), (11, (.int .i64 x32)), (12, (.int .i64 v36))] ⟨rfl, rfl, rfl, rfl, rfl, rfl, rfl, rfl, trivial⟩ ?_
                            refine at_then ?_
                            obtain ⟨z38, Z22, Z16⟩ := bind_e Z16
                            refine at_seq_mid (σ := Bool) (fun x37 => x37 = z38) (fun x37 => [(2, (.pointer (some ⟨b1, 0, none⟩))), (5, (.int .i64 (List.length m.C : Int))), (6, (.slice a16 (List.length x30) n16)), (8, (.bool x31)), (9, (.int .i64 x20)), (10, (.int .i64 x25)), (11, (.int .i64 x32)), (12, (.int .i64 v36)), (103, (.bool x37))]) (fun x37 => [F, [(b1, Obj.cells #[(.int .i64 m.W), (.int .i64 m.H), (.slice a_m_C (List.length m.C) n_m_C)] 24 (0, 0))], H16]) ?_ ?_
                            · refine at_region_q mix (by kernel_rfl) ?_
                              iterate 3 refine atq_s T rfl ?_
                              refine atq_case (s := 71) rfl (fun c23 => ?_) (fun c23 => ?_)
                              · replace Z22 := if_t (of_decide_eq_true c23) Z22
                                refine atq_s T rfl ?_
                                refine atq_v rfl rfl rfl (g_load T rfl rfl rfl rfl (in_var (j := 1) rfl rfl)) ?_
                                refine atq_s T rfl ?_
                                obtain ⟨c24, Z22⟩ := chk_e Z22
                                obtain ⟨q18, o18, e18⟩ := h_m_C.addr c24.1 c24.2
                                refine atq_v rfl rfl rfl (g_index T rfl rfl rfl rfl rfl e18 c24.1 c24.2) ?_
                                refine atq_v rfl rfl rfl (g_load T rfl rfl rfl rfl (in_elem1 (k := (Fl.int .u8)) (ro_of h_m_C (j := 0) rfl) e18 c24 0 rfl)) ?_
                                iterate 3 refine atq_s T rfl ?_
                                refine atq_case (s := 79) rfl (fun c25 => ?_) (fun c25 => ?_)
                                · replace Z22 := if_t c25 Z22
                                  iterate 2 refine atq_s T rfl ?_
                                  obtain ⟨c26, Z22⟩ := chk_e Z22
                                  obtain ⟨q19, o19, e19⟩ := s16.r.addr c26.1 c26.2
                                  refine atq_v rfl rfl rfl (g_index T rfl rfl rfl rfl rfl e19 c26.1 c26.2) ?_
                                  refine atq_v rfl rfl rfl (g_load T rfl rfl rfl rfl (in_elem1 (k := (Fl.int .i64)) (own_of s16 (j := 2) rfl) e19 c26 0 rfl)) ?_
                                  iterate 3 refine atq_s T rfl ?_
                                  refine atq_case (s := 86) rfl (fun c27 => ?_) (fun c27 => ?_)
                                  · replace Z22 := if_t (of_decide_eq_true c27) Z22
                                    iterate 2 refine atq_s T rfl ?_
                                    refine atq_v rfl rfl rfl (g_index T rfl rfl rfl rfl rfl e19 c26.1 c26.2) ?_
                                    refine atq_v rfl rfl rfl (g_load T rfl rfl rfl rfl (in_elem1 (k := (Fl.int .i64)) (own_of s16 (j := 2) rfl) e19 c26 0 rfl)) ?_
                                    refine atq_s T rfl ?_
                                    refine atq_v rfl rfl rfl (g_load T rfl rfl rfl rfl (in_var (j := 1) rfl rfl)) ?_
                                    refine atq_s T rfl ?_
                                    refine atq_v rfl rfl rfl (g_index T rfl rfl rfl rfl rfl e18 c24.1 c24.2) ?_
                                    refine atq_v rfl rfl rfl (g_load T rfl rfl rfl rfl (in_elem1 (k := (Fl.int .u8)) (ro_of h_m_C (j := 0) rfl) e18 c24 0 rfl)) ?_
                                    iterate 4 refine atq_s T rfl ?_
                                    obtain ⟨c28, Z22⟩ := chk_e Z22
                                    refine atq_v rfl rfl rfl (g_index T rfl rfl rfl rfl rfl e19 c28.1 c28.2) ?_
                                    refine atq_v rfl rfl rfl (g_load T rfl rfl rfl rfl (in_elem1 (k := (Fl.int .i64)) (own_of s16 (j := 2) rfl) e19 c28 0 rfl)) ?_
                                    iterate 2 refine atq_s T rfl ?_
                                    refine atq_end ?_
                                    refine at_sub [(2, (.pointer (some ⟨b1, 0, none⟩))), (5, (.int .i64 (List.length m.C : Int))), (6, (.slice a16 (List.length x30) n16)), (8, (.bool x31)), (9, (.int .i64 x20)), (10, (.int .i64 x25)), (11, (.int .i64 x32)), (12, (.int .i64 v36)), (103, (.bool (decide ((w64 ((rd x30 v36) + (w64 (rd m.C v36)))) < (rd x30 x25)))))] ⟨rfl, rfl, rfl, rfl, rfl, rfl, rfl, rfl, rfl, trivial⟩ ?_
                                    refine at_then ?_
                                    obtain rfl := Option.some.inj Z22
                                    exact at_mid (decide ((w64 ((rd x30 v36) + (w64 (rd m.C v36)))) < (rd x30 x25))) [0, 0, 0] rfl ⟨rfl, rfl, rfl, rfl, rfl, rfl, rfl, rfl, rfl, trivial⟩ rfl
                                  · replace Z22 := if_f (of_decide_eq_false c27) Z22
                                    iterate 17 refine atq_s T rfl ?_
                                    refine atq_end ?_
                                    refine at_sub [(2, (.pointer (some ⟨b1, 0, none⟩))), (5, (.int .i64 (List.length m.C : Int))), (6, (.slice a16 (List.length x30) n16)), (8, (.bool x31)), (9, (.int .i64 x20)), (10, (.int .i64 x25)), (11, (.int .i64 x32)), (12, (.int .i64 v36)), (103, (.bool false))] ⟨rfl, rfl, rfl, rfl, rfl, rfl, rfl, rfl, rfl, trivial⟩ ?_
                                    refine at_then ?_
                                    obtain rfl := Option.some.inj Z22
                                    exact at_mid false [0, 0, 0] rfl ⟨rfl, rfl, rfl, rfl, rfl, rfl, rfl, rfl, rfl, trivial⟩ rfl
                                · replace Z22 := if_f (bf c25) Z22
                                  iterate 24 refine atq_s T rfl ?_
                                  refine atq_end ?_
                                  refine at_sub [(2, (.pointer (some ⟨b1, 0, none⟩))), (5, (.int .i64 (List.length m.C : Int))), (6, (.slice a16 (List.length x30) n16)), (8, (.bool x31)), (9, (.int .i64 x20)), (10, (.int .i64 x25)), (11, (.int .i64 x32)), (12, (.int .i64 v36)), (103, (.bool false))] ⟨rfl, rfl, rfl, rfl, rfl, rfl, rfl, rfl, rfl, trivial⟩ ?_
                                  refine at_then ?_
                                  obtain rfl := Option.some.inj Z22
                                  exact at_mid false [0, 0, 0] rfl ⟨rfl, rfl, rfl, rfl, rfl, rfl, rfl, rfl, rfl, trivial⟩ rfl
                              · replace Z22 := if_f (of_decide_eq_false c23) Z22
                                iterate 32 refine atq_s T rfl ?_
                                refine atq_end ?_
                                refine at_sub [(2, (.pointer (some ⟨b1, 0, none⟩))), (5, (.int .i64 (List.length m.C : Int))), (6, (.slice a16 (List.length x30) n16)), (8, (.bool x31)), (9, (.int .i64 x20)), (10, (.int .i64 x25)), (11, (.int .i64 x32)), (12, (.int .i64 v36)), (103, (.bool false))] ⟨rfl, rfl, rfl, rfl, rfl, rfl, rfl, rfl, rfl, trivial⟩ ?_
                                refine at_then ?_
                                obtain rfl := Option.some.inj Z22
                                exact at_mid false [0, 0, 0] rfl ⟨rfl, rfl, rfl, rfl, rfl, rfl, rfl, rfl, rfl, trivial⟩ rfl
                            · rintro x37 rfl
                              refine at_cond rfl (fun c29 => ?_) (fun c29 => ?_)
                              · replace Z16 := if_t c29 Z16
                                refine at_seq ?_
                                refine at_region_m [[], [], [], [], [2, 3], [2, 3, 4], [], [6], [], [6, 7, 8], [6, 7, 8, 9], [6, 7, 8, 9, 10], [2, 3, 4, 5, 6, 7, 8, 9, 10, 11], [0, 1, 2, 3, 4, 5, 6, 7, 8, 9, 10, 11, 12], [0, 1, 2, 3, 4, 5, 6, 7, 8, 9, 10, 11, 12, 13]] [14] [F, [(b1, Obj.cells #[(.int .i64 m.W), (.int .i64 m.H), (.slice a_m_C (List.length m.C) n_m_C)] 24 (0, 0))], H16] mix (by kernel_rfl) (by repeat first | exact pf_body | refine pf_then ?_ | refine pf_block ?_) (fun hg pf => ?_)
                                refine atm_s T 0 hg pf (by kernel_rfl) (still_o [0, 0, 0] rfl) rfl ?_
                                refine atm_s T 1 hg pf (by kernel_rfl) (still_o [0, 0, 0] rfl) rfl ?_
                                refine atm_s T 2 hg pf (by kernel_rfl) (still_o [0, 0, 0] rfl) rfl ?_
                                refine atm_s T 3 hg pf (by kernel_rfl) (still_o [0, 0, 0] rfl) rfl ?_
                                obtain ⟨c30, Z16⟩ := chk_e Z16
                                obtain ⟨q20, o20, e20⟩ := s16.r.addr c30.1 c30.2
                                refine atm_v 4 hg pf (by kernel_rfl) (still_o [0, 0, 0] rfl) rfl rfl (g_index T rfl rfl rfl rfl rfl e20 c30.1 c30.2) ?_
                                refine atm_v 5 hg pf (by kernel_rfl) (still_o [0, 0, 0] rfl) rfl rfl (g_load T rfl rfl rfl rfl (in_elem1 (k := (Fl.int .i64)) (own_of s16 (j := 2) rfl) e20 c30 0 rfl)) ?_
                                refine atm_s T 6 hg pf (by kernel_rfl) (still_o [0, 0, 0] rfl) rfl ?_
                                refine atm_v 7 hg pf (by kernel_rfl) (still_o [0, 0, 0] rfl) rfl rfl (g_load T rfl rfl rfl rfl (in_var (j := 1) rfl rfl)) ?_
                                refine atm_s T 8 hg pf (by kernel_rfl) (still_o [0, 0, 0] rfl) rfl ?_
                                obtain ⟨c31, Z16⟩ := chk_e Z16
                                obtain ⟨q21, o21, e21⟩ := h_m_C.addr c31.1 c31.2
                                refine atm_v 9 hg pf (by kernel_rfl) (still_o [0, 0, 0] rfl) rfl rfl (g_index T rfl rfl rfl rfl rfl e21 c31.1 c31.2) ?_
                                refine atm_v 10 hg pf (by kernel_rfl) (still_o [0, 0, 0] rfl) rfl rfl (g_load T rfl rfl rfl rfl (in_elem1 (k := (Fl.int .u8)) (ro_of h_m_C (j := 0) rfl) e21 c31 0 rfl)) ?_
                                refine atm_s T 11 hg pf (by kernel_rfl) (still_o [0, 0, 0] rfl) rfl ?_
                                refine atm_s T 12 hg pf (by kernel_rfl) (still_o [0, 0, 0] rfl) rfl ?_
                                obtain ⟨c32, Z16⟩ := chk_e Z16
                                refine atm_v 13 hg pf (by kernel_rfl) (still_o [0, 0, 0] rfl) rfl rfl (g_index T rfl rfl rfl rfl rfl e20 c32.1 c32.2) ?_
                                refine atm_one 14 (by kernel_rfl) ?_
                                refine at_se (k := (Fl.int .i64)) T 2 0 (w64 ((rd x30 v36) + (w64 (rd m.C v36)))) rfl rfl rfl rfl rfl rfl s16 e20 c32 rfl rfl rfl (fun H22 s22 => ?_)
                                refine at_to [(2, (.pointer (some ⟨b1, 0, none⟩))), (5, (.int .i64 (List.length m.C : Int))), (6, (.slice a16 (List.length (List.set x30 (Int.toNat x25) (w64 ((rd x30 v36) + (w64 (rd m.C v36)))))) n16)), (8, (.bool x31)), (9, (.int .i64 x20)), (10, (.int .i64 x25)), (11, (.int .i64 x32)), (12, (.int .i64 v36)), (103, (.bool x37)), (104, (.slice a16 (List.length (List.set x30 (Int.toNat x25) (w64 ((rd x30 v36) + (w64 (rd m.C v36)))))) n16)), (105, (.int .i64 x25)), (106, (.slice a16 (List.length (List.set x30 (Int.toNat x25) (w64 ((rd x30 v36) + (w64 (rd m.C v36)))))) n16)), (107, (.int .i64 v36)), (108, (.pointer (some ⟨q20, o20 + Int.toNat v36 * 1, none⟩))), (109, (.int .i64 (rd x30 v36))), (110, (.pointer (some ⟨b1, 2, none⟩))), (111, (.slice a_m_C (List.length m.C) n_m_C)), (112, (.int .i64 v36)), (113, (.pointer (some ⟨q21, o21 + Int.toNat v36 * 1, none⟩))), (114, (.int .u8 (rd m.C v36))), (115, (.int .i64 (w64 (rd m.C v36)))), (116, (.int .i64 (w64 ((rd x30 v36) + (w64 (rd m.C v36)))))), (117, (.pointer (some ⟨q20, o20 + Int.toNat x25 * 1, none⟩)))] [0, 0, 0] [F, [(b1, Obj.cells #[(.int .i64 m.W), (.int .i64 m.H), (.slice a_m_C (List.length m.C) n_m_C)] 24 (0, 0))], H22] ⟨rfl, rfl, (by first | rfl | (simp only [List.length_set]; rfl)), rfl, rfl, rfl, rfl, rfl, rfl, (by first | rfl | (simp only [List.length_set]; rfl)), rfl, (by first | rfl | (simp only [List.length_set]; rfl)), rfl, rfl, rfl, rfl, rfl, rfl, rfl, rfl, rfl, rfl, rfl, trivial⟩ rfl ?_
                                refine atm_next (still_l (by kernel_rfl)) ?_
                                refine atm_end (by kernel_rfl) ?_
                                refine at_sub [(2, (.pointer (some ⟨b1, 0, none⟩))), (5, (.int .i64 (List.length m.C : Int))), (6, (.slice a16 (List.length (List.set x30 (Int.toNat x25) (w64 ((rd x30 v36) + (w64 (rd m.C v36)))))) n16)), (9, (.int .i64 x20)), (10, (.int .i64 x25)), (11, (.int .i64 x32))] ⟨rfl, rfl, rfl, rfl, rfl, rfl, trivial⟩ ?_
                                refine at_then ?_
                                refine at_region [0] rfl ?_
                                refine at_s T rfl ?_
                                refine at_end ?_
                                refine at_sub [(2, (.pointer (some ⟨b1, 0, none⟩))), (5, (.int .i64 (List.length m.C : Int))), (6, (.slice a16 (List.length (List.set x30 (Int.toNat x25) (w64 ((rd x30 v36) + (w64 (rd m.C v36)))))) n16)), (8, (.bool true)), (9, (.int .i64 x20)), (10, (.int .i64 x25)), (11, (.int .i64 x32))] ⟨rfl, rfl, rfl, rfl, rfl, rfl, rfl, trivial⟩ ?_
                                refine at_nb ?_
                                refine at_then ?_
                                refine at_region [0, 1, 2] rfl ?_
                                iterate 3 refine at_s T rfl ?_
                                refine at_end ?_
                                refine at_sub [(2, (.pointer (some ⟨b1, 0, none⟩))), (5, (.int .i64 (List.length m.C : Int))), (6, (.slice a16 (List.length (List.set x30 (Int.toNat x25) (w64 ((rd x30 v36) + (w64 (rd m.C v36)))))) n16)), (8, (.bool true)), (9, (.int .i64 x20)), (10, (.int .i64 x25)), (11, (.int .i64 (w64 (x32 + 1))))] ⟨rfl, rfl, rfl, rfl, rfl, rfl, rfl, trivial⟩ ?_
                                refine at_then ?_
                                exact at_roundL (k33, (List.set x30 (Int.toNat x25) (w64 ((rd x30 v36) + (w64 (rd m.C v36))))), true, (w64 (x32 + 1)), a16, n16, H22) [0, 0, 0] ⟨Z16, s22⟩ (Nat.lt_succ_self _) ⟨rfl, rfl, rfl, rfl, rfl, rfl, rfl, trivial⟩ rfl
                              · replace Z16 := if_f (bf c29) Z16
                                refine at_skip ?_
                                refine at_nb ?_
                                refine at_then ?_
                                refine at_region [0, 1, 2] rfl ?_
                                iterate 3 refine at_s T rfl ?_
                                refine at_end ?_
                                refine at_sub [(2, (.pointer (some ⟨b1, 0, none⟩))), (5, (.int .i64 (List.length m.C : Int))), (6, (.slice a16 (List.length x30) n16)), (8, (.bool x31)), (9, (.int .i64 x20)), (10, (.int .i64 x25)), (11, (.int .i64 (w64 (x32 + 1))))] ⟨rfl, rfl, rfl, rfl, rfl, rfl, rfl, trivial⟩ ?_
                                refine at_then ?_
                                exact at_roundL (k33, x30, x31, (w64 (x32 + 1)), a16, n16, H16) [0, 0, 0] ⟨Z16, s16⟩ (Nat.lt_succ_self _) ⟨rfl, rfl, rfl, rfl, rfl, rfl, rfl, trivial⟩ rfl
                          · replace Z16 := if_f (bf c20) Z16
                            refine at_exit ?_
                            refine at_xt ?_
                            refine at_xt ?_
                            refine at_xb ?_
                            refine at_nb ?_
                            refine at_then ?_
                            obtain rfl := Option.some.inj Z16
                            exact at_mid (x30, x31, a16, n16, H16) [0, 0, 0] ⟨rfl, s16⟩ ⟨rfl, rfl, rfl, rfl, rfl, trivial⟩ rfl
                  · rintro ⟨x22, x23, a14, n14, H14⟩ ⟨rfl, s14⟩
                    refine at_region [0, 1, 2] rfl ?_
                    iterate 3 refine at_s T rfl ?_
                    refine at_end ?_
                    refine at_sub [(2, (.pointer (some ⟨b1, 0, none⟩))), (5, (.int .i64 (List.length m.C : Int))), (6, (.slice a14 (List.length x22) n14)), (8, (.bool x23)), (9, (.int .i64 (w64 (x20 + 1))))] ⟨rfl, rfl, rfl, rfl, rfl, trivial⟩ ?_
                    refine at_then ?_
                    exact at_roundL (k21, x22, x23, (w64 (x20 + 1)), a14, n14, H14) [0, 0, 0] ⟨Z11, s14⟩ (Nat.lt_succ_self _) ⟨rfl, rfl, rfl, rfl, rfl, trivial⟩ rfl
                · replace Z11 := if_f (of_decide_eq_false c12) Z11
                  refine at_exit ?_
                  refine at_xt ?_
                  refine at_xt ?_
                  refine at_xb ?_
                  refine at_nb ?_
                  refine at_then ?_
                  obtain rfl := Option.some.inj Z11
                  exact at_mid (x18, x19, a13, n13, H13) [0, 0, 0] ⟨rfl, s13⟩ ⟨rfl, rfl, rfl, rfl, trivial⟩ rfl
            · rintro ⟨x12, x13, a11, n11, H11⟩ ⟨rfl, s11⟩
              refine at_then ?_
              exact at_roundL (k11, x12, x13, a11, n11, H11) [0, 0, 0] ⟨Z8, s11⟩ (Nat.lt_succ_self _) ⟨rfl, rfl, rfl, rfl, trivial⟩ rfl
          · replace Z8 := if_f (bf c9) Z8
            refine at_exit ?_
            refine at_xt ?_
            refine at_xt ?_
            refine at_xb ?_
            refine at_then ?_
            refine at_seq ?_
            refine at_region [0, 1] rfl ?_
            iterate 2 refine at_s T rfl ?_
            refine at_end ?_
            refine at_to [(4, (.slice a10 (List.length x9) n10))] [0, 1] [F, H10] ⟨rfl, trivial⟩ rfl ?_
            refine at_then ?_
            refine at_ret ?_
            obtain rfl := Option.some.inj Z8
            exact at_post (T := T) rfl (.tmp rfl .nil) (fun w o => ⟨⟨(_, _), ⟨a10, n10, H10, s10, rfl, rfl⟩⟩, rfl, own_to [1, 0] rfl o⟩)

/-! ### herdsman/herdsmanref11.Dir: function 71 -/
def ref11_Dir.l0 : Nat → api_Map → (List Int) → Int → Int → Option Int
  | 0, _, _, _, _ => none
  | k3 + 1, m, d, c, x2 => if x2 ≤ 3 then ((ref1_Step.f m.W m.H c x2).bind fun v4 => (if v4 ≥ 0 then (if (0 ≤ v4 ∧ v4 < (List.length m.C : Int)) then (if ((rd m.C v4) != 255) = true then (if (0 ≤ v4 ∧ v4 < (List.length d : Int)) then (if (0 ≤ c ∧ c < (List.length d : Int)) then (some ((w64 ((rd d v4) + (w64 (rd m.C v4)))) == (rd d c))) else none) else none) else (some false)) else none) else (some false)).bind fun x5 => if x5 = true then (some x2) else (ref11_Dir.l0 k3 m d c (w64 (x2 + 1)))) else (some 5)
def ref11_Dir.f (m : api_Map) (goal : Int) (d : (List Int)) (c : Int) : Option Int := if (0 ≤ c ∧ c < (List.length d : Int)) then (if (rd d c) ≥ 1099511627776 then (some 5) else (if (c == goal) = true then (some 4) else (ref11_Dir.l0 fuel m d c 0))) else none
set_option maxHeartbeats 4000000 in
theorem ref11_Dir.c {a_m_C : Option Addr} {n_m_C : Nat} {a_d : Option Addr} {n_d : Nat} (m : api_Map) (goal : Int) (d : (List Int)) (c : Int) (r : Int) (F : Hp) (H : ref11_Dir.f m goal d c = some r) (h_m_C : SliceR (Fl.int .u8) m.C a_m_C F) (c_m_C : List.length m.C ≤ n_m_C) (h_d : SliceR (Fl.int .i64) d a_d F) (c_d : List.length d ≤ n_d) :
    CallsL Try.prog 71 [(.agg #[(.int .i64 m.W), (.int .i64 m.H), (.slice a_m_C (List.length m.C) n_m_C)]), (.int .i64 goal), (.slice a_d (List.length d) n_d), (.int .i64 c)] [F] (fun _ : Unit => (.int .i64 r)) (fun _ => [F]) := by
  unfold ref11_Dir.f at H
  refine calls_atL [(0, (.agg #[(.int .i64 m.W), (.int .i64 m.H), (.slice a_m_C (List.length m.C) n_m_C)])), (1, (.int .i64 goal)), (2, (.slice a_d (List.length d) n_d)), (3, (.int .i64 c))] Try.func71 rfl rfl ⟨rfl, rfl, rfl, rfl, trivial⟩ (fun W => ?_)
  refine at_seq ?_
  refine at_region [0, 1] rfl ?_
  refine at_cons (at_bx T [(.int .i64 m.W), (.int .i64 m.H), (.slice a_m_C (List.length m.C) n_m_C)] rfl rfl rfl rfl (fun b1 => ?_))
  refine at_s T rfl ?_
  refine at_end ?_
  refine at_sub [(1, (.int .i64 goal)), (2, (.slice a_d (List.length d) n_d)), (3, (.int .i64 c)), (4, (.pointer (some ⟨b1, 0, none⟩)))] ⟨rfl, rfl, rfl, rfl, trivial⟩ ?_
  refine at_then ?_
  refine at_seq ?_
  refine at_seq ?_
  refine at_region [0, 1, 2, 3, 4] rfl ?_
  iterate 2 refine at_s T rfl ?_
  obtain ⟨c1, H⟩ := chk_e H
  obtain ⟨q2, o2, e2⟩ := h_d.addr c1.1 c1.2
  refine at_v rfl (g_index T rfl rfl rfl rfl rfl e2 c1.1 c1.2) ?_
  refine at_v rfl (g_load T rfl rfl rfl rfl (in_elem1 (k := (Fl.int .i64)) (ro_of h_d (j := 0) rfl) e2 c1 0 rfl)) ?_
  refine at_s T rfl ?_
  refine at_end ?_
  refine at_sub [(1, (.int .i64 goal)), (2, (.slice a_d (List.length d) n_d)), (3, (.int .i64 c)), (4, (.pointer (some ⟨b1, 0, none⟩))), (15, (.bool (decide ((rd d c) ≥ 1099511627776))))] ⟨rfl, rfl, rfl, rfl, rfl, trivial⟩ ?_
  refine at_then ?_
  refine at_cond rfl (fun c2 => ?_) (fun c2 => ?_)
  · replace H := if_t (of_decide_eq_true c2) H
    refine at_seq ?_
    refine at_region [0] rfl ?_
    refine at_s T rfl ?_
    refine at_end ?_
    refine at_to [(8, (.int .i64 5))] [0] [F] ⟨rfl, trivial⟩ rfl ?_
    refine at_then ?_
    refine at_ret ?_
    refine at_rt ?_
    obtain rfl := Option.some.inj H
    exact at_post (T := T) rfl (.tmp rfl .nil) (fun w o => ⟨(), rfl, own_to [0] rfl o⟩)
  · replace H := if_f (of_decide_eq_false c2) H
    refine at_skip ?_
    refine at_then ?_
    refine at_seq ?_
    refine at_seq ?_
    refine at_region [0, 1, 2] rfl ?_
    iterate 3 refine at_s T rfl ?_
    refine at_end ?_
    refine at_sub [(2, (.slice a_d (List.length d) n_d)), (3, (.int .i64 c)), (4, (.pointer (some ⟨b1, 0, none⟩))), (18, (.bool (c == goal)))] ⟨rfl, rfl, rfl, rfl, trivial⟩ ?_
    refine at_then ?_
    refine at_cond rfl (fun c3 => ?_) (fun c3 => ?_)
    · replace H := if_t c3 H
      refine at_seq ?_
      refine at_region [0] rfl ?_
      refine at_s T rfl ?_
      refine at_end ?_
      refine at_to [(8, (.int .i64 4))] [0] [F] ⟨rfl, trivial⟩ rfl ?_
      refine at_then ?_
      refine at_ret ?_
      refine at_rt ?_
      obtain rfl := Option.some.inj H
      exact at_post (T := T) rfl (.tmp rfl .nil) (fun w o => ⟨(), rfl, own_to [0] rfl o⟩)
    · replace H := if_f (bf c3) H
      refine at_skip ?_
      refine at_then ?_
      refine at_seq ?_
      refine at_seq ?_
      refine at_region [0] rfl ?_
      refine at_s T rfl ?_
      refine at_end ?_
      refine at_sub [(2, (.slice a_d (List.length d) n_d)), (3, (.int .i64 c)), (4, (.pointer (some ⟨b1, 0, none⟩))), (9, (.int .i64 0))] ⟨rfl, rfl, rfl, rfl, trivial⟩ ?_
      refine at_then ?_
      refine at_block ?_
      refine at_loopL (σ := Nat × Int) (fun ⟨k3, x2⟩ => ref11_Dir.l0 k3 m d c x2 = some r) (fun ⟨k3, x2⟩ => [(2, (.slice a_d (List.length d) n_d)), (3, (.int .i64 c)), (4, (.pointer (some ⟨b1, 0, none⟩))), (9, (.int .i64 x2))]) (fun ⟨k3, x2⟩ => [F, [(b1, Obj.cells #[(.int .i64 m.W), (.int .i64 m.H), (.slice a_m_C (List.length m.C) n_m_C)] 24 (0, 0))]]) (fun s => s.1) (fuel, 0) [0, 0] H ⟨rfl, rfl, rfl, rfl, trivial⟩ rfl ?_
      rintro ⟨k3, x2⟩ Z4
      replace Z4 : ref11_Dir.l0 k3 m d c x2 = some r := Z4
      rcases k3 with _ | k3
      · rw [ref11_Dir.l0] at Z4; cases Z4
      · rw [ref11_Dir.l0] at Z4
        refine at_seq ?_
        refine at_seq ?_
        refine at_region [0, 1] rfl ?_
        iterate 2 refine at_s T rfl ?_
        refine at_end ?_
        refine at_sub [(2, (.slice a_d (List.length d) n_d)), (3, (.int .i64 c)), (4, (.pointer (some ⟨b1, 0, none⟩))), (9, (.int .i64 x2)), (20, (.bool (decide (x2 ≤ 3))))] ⟨rfl, rfl, rfl, rfl, rfl, trivial⟩ ?_
        refine at_then ?_
        refine at_cond rfl (fun c5 => ?_) (fun c5 => ?_)
        · replace Z4 := if_t (of_decide_eq_true c5) Z4
          refine at_skip ?_
          refine at_then ?_
          refine at_seq ?_
          refine at_block ?_
          refine at_seq ?_
          refine at_region [0, 1, 2, 3, 4, 5, 6, 7] rfl ?_
          refine at_s T rfl ?_
          refine at_v rfl (g_load T rfl rfl rfl rfl (in_var (j := 1) rfl rfl)) ?_
          refine at_s T rfl ?_
          refine at_v rfl (g_load T rfl rfl rfl rfl (in_var (j := 1) rfl rfl)) ?_
          iterate 2 refine at_s T rfl ?_
          obtain ⟨v4, V6, Z4⟩ := bind_e Z4
          refine at_cons (at_c (B := fun _ => []) [] rfl rfl rfl rfl has36 rfl rfl (ref1_Step.c m.W m.H c x2 v4 _ V6) (fun _ => ?_))
          refine at_s T rfl ?_
          refine at_end ?_
          refine at_sub [(2, (.slice a_d (List.length d) n_d)), (3, (.int .i64 c)), (4, (.pointer (some ⟨b1, 0, none⟩))), (9, (.int .i64 x2)), (10, (.int .i64 v4))] ⟨rfl, rfl, rfl, rfl, rfl, trivial⟩ ?_
          refine at_then ?_
          obtain ⟨z6, Z7, Z4⟩ := bind_e Z4
          refine at_seq_mid (σ := Bool) (fun x5 => x5 = z6) (fun x5 => [(2, (.slice a_d (List.length d) n_d)), (3, (.int .i64 c)), (4, (.pointer (some ⟨b1, 0, none⟩))), (9, (.int .i64 x2)), (57, (.bool x5))]) (fun x5 => [F, [(b1, Obj.cells #[(.int .i64 m.W), (.int .i64 m.H), (.slice a_m_C (List.length m.C) n_m_C)] 24 (0, 0))]]) ?_ ?_
          · refine at_region_q mix (by kernel_rfl) ?_
            iterate 3 refine atq_s T rfl ?_
            refine atq_case (s := 32) rfl (fun c8 => ?_) (fun c8 => ?_)
            · replace Z7 := if_t (of_decide_eq_true c8) Z7
              refine atq_s T rfl ?_
              refine atq_v rfl rfl rfl (g_load T rfl rfl rfl rfl (in_var (j := 1) rfl rfl)) ?_
              refine atq_s T rfl ?_
              obtain ⟨c9, Z7⟩ := chk_e Z7
              obtain ⟨q3, o3, e3⟩ := h_m_C.addr c9.1 c9.2
              refine atq_v rfl rfl rfl (g_index T rfl rfl rfl rfl rfl e3 c9.1 c9.2) ?_
              refine atq_v rfl rfl rfl (g_load T rfl rfl rfl rfl (in_elem1 (k := (Fl.int .u8)) (ro_of h_m_C (j := 0) rfl) e3 c9 0 rfl)) ?_
              iterate 3 refine atq_s T rfl ?_
              refine atq_case (s := 40) rfl (fun c10 => ?_) (fun c10 => ?_)
              · replace Z7 := if_t c10 Z7
                iterate 2 refine atq_s T rfl ?_
                obtain ⟨c11, Z7⟩ := chk_e Z7
                obtain ⟨q4, o4, e4⟩ := h_d.addr c11.1 c11.2
                refine atq_v rfl rfl rfl (g_index T rfl rfl rfl rfl rfl e4 c11.1 c11.2) ?_
                refine atq_v rfl rfl rfl (g_load T rfl rfl rfl rfl (in_elem1 (k := (Fl.int .i64)) (ro_of h_d (j := 0) rfl) e4 c11 0 rfl)) ?_
                refine atq_s T rfl ?_
                refine atq_v rfl rfl rfl (g_load T rfl rfl rfl rfl (in_var (j := 1) rfl rfl)) ?_
                refine atq_s T rfl ?_
                refine atq_v rfl rfl rfl (g_index T rfl rfl rfl rfl rfl e3 c9.1 c9.2) ?_
                refine atq_v rfl rfl rfl (g_load T rfl rfl rfl rfl (in_elem1 (k := (Fl.int .u8)) (ro_of h_m_C (j := 0) rfl) e3 c9 0 rfl)) ?_
                iterate 4 refine atq_s T rfl ?_
                obtain ⟨c12, Z7⟩ := chk_e Z7
                refine atq_v rfl rfl rfl (g_index T rfl rfl rfl rfl rfl e4 c12.1 c12.2) ?_
                refine atq_v rfl rfl rfl (g_load T rfl rfl rfl rfl (in_elem1 (k := (Fl.int .i64)) (ro_of h_d (j := 0) rfl) e4 c12 0 rfl)) ?_
                iterate 2 refine atq_s T rfl ?_
                refine atq_end ?_
                refine at_sub [(2, (.slice a_d (List.length d) n_d)), (3, (.int .i64 c)), (4, (.pointer (some ⟨b1, 0, none⟩))), (9, (.int .i64 x2)), (57, (.bool ((w64 ((rd d v4) + (w64 (rd m.C v4)))) == (rd d c))))] ⟨rfl, rfl, rfl, rfl, rfl, trivial⟩ ?_
                refine at_then ?_
                obtain rfl := Option.some.inj Z7
                exact at_mid ((w64 ((rd d v4) + (w64 (rd m.C v4)))) == (rd d c)) [0, 0] rfl ⟨rfl, rfl, rfl, rfl, rfl, trivial⟩ rfl
              · replace Z7 := if_f (bf c10) Z7
                iterate 17 refine atq_s T rfl ?_
                refine atq_end ?_
                refine at_sub [(2, (.slice a_d (List.length d) n_d)), (3, (.int .i64 c)), (4, (.pointer (some ⟨b1, 0, none⟩))), (9, (.int .i64 x2)), (57, (.bool false))] ⟨rfl, rfl, rfl, rfl, rfl, trivial⟩ ?_
                refine at_then ?_
                obtain rfl := Option.some.inj Z7
                exact at_mid false [0, 0] rfl ⟨rfl, rfl, rfl, rfl, rfl, trivial⟩ rfl
            · replace Z7 := if_f (of_decide_eq_false c8) Z7
              iterate 25 refine atq_s T rfl ?_
              refine atq_end ?_
              refine at_sub [(2, (.slice a_d (List.length d) n_d)), (3, (.int .i64 c)), (4, (.pointer (some ⟨b1, 0, none⟩))), (9, (.int .i64 x2)), (57, (.bool false))] ⟨rfl, rfl, rfl, rfl, rfl, trivial⟩ ?_
              refine at_then ?_
              obtain rfl := Option.some.inj Z7
              exact at_mid false [0, 0] rfl ⟨rfl, rfl, rfl, rfl, rfl, trivial⟩ rfl
          · rintro x5 rfl
            refine at_cond rfl (fun c13 => ?_) (fun c13 => ?_)
            · replace Z4 := if_t c13 Z4
              refine at_seq ?_
              refine at_region [0, 1] rfl ?_
              iterate 2 refine at_s T rfl ?_
              refine at_end ?_
              refine at_to [(8, (.int .i64 x2))] [0] [F] ⟨rfl, trivial⟩ rfl ?_
              refine at_then ?_
              refine at_ret ?_
              refine at_rb ?_
              refine at_rt ?_
              refine at_rt ?_
              refine at_rb ?_
              refine at_rt ?_
              obtain rfl := Option.some.inj Z4
              exact at_post (T := T) rfl (.tmp rfl .nil) (fun w o => ⟨(), rfl, own_to [0] rfl o⟩)
            · replace Z4 := if_f (bf c13) Z4
              refine at_skip ?_
              refine at_nb ?_
              refine at_then ?_
              refine at_region [0, 1, 2] rfl ?_
              iterate 3 refine at_s T rfl ?_
              refine at_end ?_
              refine at_sub [(2, (.slice a_d (List.length d) n_d)), (3, (.int .i64 c)), (4, (.pointer (some ⟨b1, 0, none⟩))), (9, (.int .i64 (w64 (x2 + 1))))] ⟨rfl, rfl, rfl, rfl, trivial⟩ ?_
              refine at_then ?_
              exact at_roundL (k3, (w64 (x2 + 1))) [0, 0] Z4 (Nat.lt_succ_self _) ⟨rfl, rfl, rfl, rfl, trivial⟩ rfl
        · replace Z4 := if_f (of_decide_eq_false c5) Z4
          refine at_exit ?_
          refine at_xt ?_
          refine at_xt ?_
          refine at_xb ?_
          refine at_then ?_
          refine at_seq ?_
          refine at_region [0] rfl ?_
          refine at_s T rfl ?_
          refine at_end ?_
          refine at_to [(8, (.int .i64 5))] [0] [F] ⟨rfl, trivial⟩ rfl ?_
          refine at_then ?_
          refine at_ret ?_
          obtain rfl := Option.some.inj Z4
          exact at_post (T := T) rfl (.tmp rfl .nil) (fun w o => ⟨(), rfl, own_to [0] rfl o⟩)
end

end Go.Proofs.Yticdodeoljodiaa
