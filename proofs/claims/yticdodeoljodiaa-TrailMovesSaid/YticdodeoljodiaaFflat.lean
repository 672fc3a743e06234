import Derived.Test.YticdodeoljodiaaT
import Derived.Test.YticdodeoljodiaaFatlas
import Derived.Test.YticdodeoljodiaaFslices
import Derived.Test.YticdodeoljodiaaFwhere
namespace Go.Proofs.Yticdodeoljodiaa
open Go.Hx
set_option maxRecDepth 100000
set_option linter.unusedVariables false
noncomputable section
/-! ### (*herdsman/flat.plain).beside: function 89 -/
def flat_plain_beside.f (p : flat_plain) (cell : Int) (side : Int) : Option Int := if (side == 0) = true then (if cell ≥ p.Map.W then (some (w64 (cell - p.Map.W))) else (some (-1))) else (if (side == 2) = true then (if cell < (w64 ((List.length p.Map.C : Int) - p.Map.W)) then (some (w64 (cell + p.Map.W))) else (some (-1))) else (if (side == 1) = true then (if (¬ p.Map.W = 0) then (if (Int.tmod cell p.Map.W) < (w64 (p.Map.W - 1)) then (some (w64 (cell + 1))) else (some (-1))) else none) else (if (side == 3) = true then (if (¬ p.Map.W = 0) then (if (Int.tmod cell p.Map.W) > 0 then (some (w64 (cell - 1))) else (some (-1))) else none) else (some (-1)))))
set_option maxHeartbeats 4000000 in
theorem flat_plain_beside.c {b_p : Nat} {a_p_Map_C : Option Addr} {n_p_Map_C : Nat} {a_p_dist : Option Addr} {n_p_dist : Nat} (p : flat_plain) (cell : Int) (side : Int) (r : Int) (F : Hp) (H : flat_plain_beside.f p cell side = some r) (m_p : (b_p, Obj.cells #[(.int .i64 p.Map.W), (.int .i64 p.Map.H), (.slice a_p_Map_C (List.length p.Map.C) n_p_Map_C), (.slice a_p_dist (List.length p.dist) n_p_dist)] 96 (0, 0)) ∈ F) (h_p_Map_C : SliceR (Fl.int .u8) p.Map.C a_p_Map_C F) (c_p_Map_C : List.length p.Map.C ≤ n_p_Map_C) (h_p_dist : SliceR (Fl.int .i64) p.dist a_p_dist F) (c_p_dist : List.length p.dist ≤ n_p_dist) :
    CallsL Try.prog 89 [(.pointer (some ⟨b_p, 0, none⟩)), (.int .i64 cell), (.int .i64 side)] [F] (fun _ : Unit => (.int .i64 r)) (fun _ => [F]) := by
  unfold flat_plain_beside.f at H
  refine calls_atL [(0, (.pointer (some ⟨b_p, 0, none⟩))), (1, (.int .i64 cell)), (2, (.int .i64 side))] Try.func89 rfl rfl ⟨rfl, rfl, rfl, trivial⟩ (fun W => ?_)
  refine at_seq ?_
  refine at_region [0] rfl ?_
  refine at_s T rfl ?_
  refine at_end ?_
  refine at_sub [(0, (.pointer (some ⟨b_p, 0, none⟩))), (1, (.int .i64 cell)), (2, (.int .i64 side))] ⟨rfl, rfl, rfl, trivial⟩ ?_
  refine at_then ?_
  refine at_seq ?_
  refine at_seq ?_
  refine at_region [0] rfl ?_
  refine at_s T rfl ?_
  refine at_end ?_
  refine at_sub [(0, (.pointer (some ⟨b_p, 0, none⟩))), (1, (.int .i64 cell)), (7, (.int .i64 side))] ⟨rfl, rfl, rfl, trivial⟩ ?_
  refine at_then ?_
  refine at_block ?_
  refine at_seq ?_
  refine at_region [0, 1] rfl ?_
  iterate 2 refine at_s T rfl ?_
  refine at_end ?_
  refine at_sub [(0, (.pointer (some ⟨b_p, 0, none⟩))), (1, (.int .i64 cell)), (7, (.int .i64 side)), (8, (.bool (side == 0)))] ⟨rfl, rfl, rfl, rfl, trivial⟩ ?_
  refine at_then ?_
  refine at_cond rfl (fun c1 => ?_) (fun c1 => ?_)
  · replace H := if_t c1 H
    refine at_seq ?_
    refine at_region [0, 1, 2, 3, 4, 5, 6] rfl ?_
    iterate 5 refine at_s T rfl ?_
    refine at_v rfl (g_load T rfl rfl rfl rfl (in_ro (j := 0) m_p rfl rfl)) ?_
    refine at_s T rfl ?_
    refine at_end ?_
    refine at_sub [(0, (.pointer (some ⟨b_p, 0, none⟩))), (1, (.int .i64 cell)), (16, (.bool (decide (cell ≥ p.Map.W))))] ⟨rfl, rfl, rfl, trivial⟩ ?_
    refine at_then ?_
    refine at_cond rfl (fun c2 => ?_) (fun c2 => ?_)
    · replace H := if_t (of_decide_eq_true c2) H
      refine at_seq ?_
      refine at_region [0, 1, 2, 3, 4, 5, 6, 7] rfl ?_
      iterate 5 refine at_s T rfl ?_
      refine at_v rfl (g_load T rfl rfl rfl rfl (in_ro (j := 0) m_p rfl rfl)) ?_
      iterate 2 refine at_s T rfl ?_
      refine at_end ?_
      refine at_sub [(6, (.int .i64 (w64 (cell - p.Map.W))))] ⟨rfl, trivial⟩ ?_
      refine at_then ?_
      refine at_ret ?_
      refine at_rb ?_
      refine at_rt ?_
      obtain rfl := Option.some.inj H
      exact at_post (T := T) rfl (.tmp rfl .nil) (fun w o => ⟨(), rfl, own_to [0] rfl o⟩)
    · replace H := if_f (of_decide_eq_false c2) H
      refine at_skip ?_
      refine at_nb ?_
      refine at_then ?_
      refine at_seq ?_
      refine at_region [0] rfl ?_
      refine at_s T rfl ?_
      refine at_end ?_
      refine at_sub [(6, (.int .i64 (-1)))] ⟨rfl, trivial⟩ ?_
      refine at_then ?_
      refine at_ret ?_
      obtain rfl := Option.some.inj H
      exact at_post (T := T) rfl (.tmp rfl .nil) (fun w o => ⟨(), rfl, own_to [0] rfl o⟩)
  · replace H := if_f (bf c1) H
    refine at_seq ?_
    refine at_region [0, 1] rfl ?_
    iterate 2 refine at_s T rfl ?_
    refine at_end ?_
    refine at_sub [(0, (.pointer (some ⟨b_p, 0, none⟩))), (1, (.int .i64 cell)), (7, (.int .i64 side)), (24, (.bool (side == 2)))] ⟨rfl, rfl, rfl, rfl, trivial⟩ ?_
    refine at_then ?_
    refine at_cond rfl (fun c3 => ?_) (fun c3 => ?_)
    · replace H := if_t c3 H
      refine at_seq ?_
      refine at_region_q mix (by kernel_rfl) ?_
      iterate 5 refine atq_s T rfl ?_
      refine atq_v rfl rfl rfl (g_load T rfl rfl rfl rfl (in_ro (j := 0) m_p rfl rfl)) ?_
      iterate 5 refine atq_s T rfl ?_
      refine atq_v rfl rfl rfl (g_load T rfl rfl rfl rfl (in_ro (j := 0) m_p rfl rfl)) ?_
      iterate 2 refine atq_s T rfl ?_
      refine atq_end ?_
      refine at_sub [(0, (.pointer (some ⟨b_p, 0, none⟩))), (1, (.int .i64 cell)), (39, (.bool (decide (cell < (w64 ((List.length p.Map.C : Int) - p.Map.W))))))] ⟨rfl, rfl, rfl, trivial⟩ ?_
      refine at_then ?_
      refine at_cond rfl (fun c4 => ?_) (fun c4 => ?_)
      · replace H := if_t (of_decide_eq_true c4) H
        refine at_seq ?_
        refine at_region [0, 1, 2, 3, 4, 5, 6, 7] rfl ?_
        iterate 5 refine at_s T rfl ?_
        refine at_v rfl (g_load T rfl rfl rfl rfl (in_ro (j := 0) m_p rfl rfl)) ?_
        iterate 2 refine at_s T rfl ?_
        refine at_end ?_
        refine at_sub [(6, (.int .i64 (w64 (cell + p.Map.W))))] ⟨rfl, trivial⟩ ?_
        refine at_then ?_
        refine at_ret ?_
        refine at_rb ?_
        refine at_rt ?_
        obtain rfl := Option.some.inj H
        exact at_post (T := T) rfl (.tmp rfl .nil) (fun w o => ⟨(), rfl, own_to [0] rfl o⟩)
      · replace H := if_f (of_decide_eq_false c4) H
        refine at_skip ?_
        refine at_nb ?_
        refine at_then ?_
        refine at_seq ?_
        refine at_region [0] rfl ?_
        refine at_s T rfl ?_
        refine at_end ?_
        refine at_sub [(6, (.int .i64 (-1)))] ⟨rfl, trivial⟩ ?_
        refine at_then ?_
        refine at_ret ?_
        obtain rfl := Option.some.inj H
        exact at_post (T := T) rfl (.tmp rfl .nil) (fun w o => ⟨(), rfl, own_to [0] rfl o⟩)
    · replace H := if_f (bf c3) H
      refine at_seq ?_
      refine at_region [0, 1] rfl ?_
      iterate 2 refine at_s T rfl ?_
      refine at_end ?_
      refine at_sub [(0, (.pointer (some ⟨b_p, 0, none⟩))), (1, (.int .i64 cell)), (7, (.int .i64 side)), (47, (.bool (side == 1)))] ⟨rfl, rfl, rfl, rfl, trivial⟩ ?_
      refine at_then ?_
      refine at_cond rfl (fun c5 => ?_) (fun c5 => ?_)
      · replace H := if_t c5 H
        refine at_seq ?_
        refine at_region_q mix (by kernel_rfl) ?_
        iterate 5 refine atq_s T rfl ?_
        refine atq_v rfl rfl rfl (g_load T rfl rfl rfl rfl (in_ro (j := 0) m_p rfl rfl)) ?_
        obtain ⟨c6, H⟩ := chk_e H
        refine atq_v rfl rfl rfl (g_rem rfl rfl rfl c6) ?_
        iterate 4 refine atq_s T rfl ?_
        refine atq_v rfl rfl rfl (g_load T rfl rfl rfl rfl (in_ro (j := 0) m_p rfl rfl)) ?_
        iterate 2 refine atq_s T rfl ?_
        refine atq_end ?_
        refine at_sub [(1, (.int .i64 cell)), (62, (.bool (decide ((Int.tmod cell p.Map.W) < (w64 (p.Map.W - 1))))))] ⟨rfl, rfl, trivial⟩ ?_
        refine at_then ?_
        refine at_cond rfl (fun c7 => ?_) (fun c7 => ?_)
        · replace H := if_t (of_decide_eq_true c7) H
          refine at_seq ?_
          refine at_region [0, 1, 2] rfl ?_
          iterate 3 refine at_s T rfl ?_
          refine at_end ?_
          refine at_sub [(6, (.int .i64 (w64 (cell + 1))))] ⟨rfl, trivial⟩ ?_
          refine at_then ?_
          refine at_ret ?_
          refine at_rb ?_
          refine at_rt ?_
          obtain rfl := Option.some.inj H
          exact at_post (T := T) rfl (.tmp rfl .nil) (fun w o => ⟨(), rfl, own_to [0] rfl o⟩)
        · replace H := if_f (of_decide_eq_false c7) H
          refine at_skip ?_
          refine at_nb ?_
          refine at_then ?_
          refine at_seq ?_
          refine at_region [0] rfl ?_
          refine at_s T rfl ?_
          refine at_end ?_
          refine at_sub [(6, (.int .i64 (-1)))] ⟨rfl, trivial⟩ ?_
          refine at_then ?_
          refine at_ret ?_
          obtain rfl := Option.some.inj H
          exact at_post (T := T) rfl (.tmp rfl .nil) (fun w o => ⟨(), rfl, own_to [0] rfl o⟩)
      · replace H := if_f (bf c5) H
        refine at_seq ?_
        refine at_region [0, 1] rfl ?_
        iterate 2 refine at_s T rfl ?_
        refine at_end ?_
        refine at_sub [(0, (.pointer (some ⟨b_p, 0, none⟩))), (1, (.int .i64 cell)), (65, (.bool (side == 3)))] ⟨rfl, rfl, rfl, trivial⟩ ?_
        refine at_then ?_
        refine at_cond rfl (fun c8 => ?_) (fun c8 => ?_)
        · replace H := if_t c8 H
          refine at_seq ?_
          refine at_region [0, 1, 2, 3, 4, 5, 6, 7] rfl ?_
          iterate 5 refine at_s T rfl ?_
          refine at_v rfl (g_load T rfl rfl rfl rfl (in_ro (j := 0) m_p rfl rfl)) ?_
          obtain ⟨c9, H⟩ := chk_e H
          refine at_v rfl (g_rem rfl rfl rfl c9) ?_
          refine at_s T rfl ?_
          refine at_end ?_
          refine at_sub [(1, (.int .i64 cell)), (74, (.bool (decide ((Int.tmod cell p.Map.W) > 0))))] ⟨rfl, rfl, trivial⟩ ?_
          refine at_then ?_
          refine at_cond rfl (fun c10 => ?_) (fun c10 => ?_)
          · replace H := if_t (of_decide_eq_true c10) H
            refine at_seq ?_
            refine at_region [0, 1, 2] rfl ?_
            iterate 3 refine at_s T rfl ?_
            refine at_end ?_
            refine at_sub [(6, (.int .i64 (w64 (cell - 1))))] ⟨rfl, trivial⟩ ?_
            refine at_then ?_
            refine at_ret ?_
            refine at_rb ?_
            refine at_rt ?_
            obtain rfl := Option.some.inj H
            exact at_post (T := T) rfl (.tmp rfl .nil) (fun w o => ⟨(), rfl, own_to [0] rfl o⟩)
          · replace H := if_f (of_decide_eq_false c10) H
            refine at_skip ?_
            refine at_nb ?_
            refine at_then ?_
            refine at_seq ?_
            refine at_region [0] rfl ?_
            refine at_s T rfl ?_
            refine at_end ?_
            refine at_sub [(6, (.int .i64 (-1)))] ⟨rfl, trivial⟩ ?_
            refine at_then ?_
            refine at_ret ?_
            obtain rfl := Option.some.inj H
            exact at_post (T := T) rfl (.tmp rfl .nil) (fun w o => ⟨(), rfl, own_to [0] rfl o⟩)
        · replace H := if_f (bf c8) H
          refine at_skip ?_
          refine at_nb ?_
          refine at_then ?_
          refine at_seq ?_
          refine at_region [0] rfl ?_
          refine at_s T rfl ?_
          refine at_end ?_
          refine at_sub [(6, (.int .i64 (-1)))] ⟨rfl, trivial⟩ ?_
          refine at_then ?_
          refine at_ret ?_
          obtain rfl := Option.some.inj H
          exact at_post (T := T) rfl (.tmp rfl .nil) (fun w o => ⟨(), rfl, own_to [0] rfl o⟩)

/-! ### (*herdsman/flat.plain).spread: function 84 -/
def flat_plain_spread.l2 : Nat → flat_plain → List (List Int) → Int → List Int → Int → List (List Int) → Int → Int → Option ((List Int) × (List (List Int)) × Int)
  | 0, _, _, _, _, _, _, _, _ => none
  | k33 + 1, p, x6, x7, x18, x21, x30, x31, x32 => if x32 ≤ 3 then ((flat_plain_beside.f (flat_plain.mk p.Map (List.set x18 (Int.toNat (rd (rd x6 (Int.tmod x7 256)) x21)) x7)) (rd (rd x6 (Int.tmod x7 256)) x21) x32).bind fun v34 => (if v34 ≥ 0 then (if (0 ≤ v34 ∧ v34 < (List.length p.Map.C : Int)) then (if ((rd p.Map.C v34) != 255) = true then (if (0 ≤ v34 ∧ v34 < (List.length (List.set x18 (Int.toNat (rd (rd x6 (Int.tmod x7 256)) x21)) x7) : Int)) then (some ((rd (List.set x18 (Int.toNat (rd (rd x6 (Int.tmod x7 256)) x21)) x7) v34) == 1099511627776)) else none) else (some false)) else none) else (some false)).bind fun x35 => if x35 = true then (if (0 ≤ (rd (rd x6 (Int.tmod x7 256)) x21) ∧ (rd (rd x6 (Int.tmod x7 256)) x21) < (List.length p.Map.C : Int)) then (if (0 ≤ (Int.tmod (w64 (x7 + (w64 (rd p.Map.C (rd (rd x6 (Int.tmod x7 256)) x21))))) 256) ∧ (Int.tmod (w64 (x7 + (w64 (rd p.Map.C (rd (rd x6 (Int.tmod x7 256)) x21))))) 256) < 256) then (if (List.length (rd x30 (Int.tmod (w64 (x7 + (w64 (rd p.Map.C (rd (rd x6 (Int.tmod x7 256)) x21))))) 256)) + 1 ≤ 1099511627776) then (if (0 ≤ (Int.tmod (w64 (x7 + (w64 (rd p.Map.C (rd (rd x6 (Int.tmod x7 256)) x21))))) 256) ∧ (Int.tmod (w64 (x7 + (w64 (rd p.Map.C (rd (rd x6 (Int.tmod x7 256)) x21))))) 256) < 256) then (flat_plain_spread.l2 k33 p x6 x7 x18 x21 (List.set x30 (Int.toNat (Int.tmod (w64 (x7 + (w64 (rd p.Map.C (rd (rd x6 (Int.tmod x7 256)) x21))))) 256)) ((rd x30 (Int.tmod (w64 (x7 + (w64 (rd p.Map.C (rd (rd x6 (Int.tmod x7 256)) x21))))) 256)) ++ [v34])) (w64 (x31 + 1)) (w64 (x32 + 1))) else none) else none) else none) else none) else (flat_plain_spread.l2 k33 p x6 x7 x18 x21 x30 x31 (w64 (x32 + 1)))) else (some ((List.set x18 (Int.toNat (rd (rd x6 (Int.tmod x7 256)) x21)) x7), x30, x31))
def flat_plain_spread.l1 : Nat → flat_plain → List (List Int) → Int → List Int → List (List Int) → Int → Int → Option ((List Int) × (List (List Int)) × Int)
  | 0, _, _, _, _, _, _, _ => none
  | k22 + 1, p, x6, x7, x18, x19, x20, x21 => if x21 < (List.length (rd x6 (Int.tmod x7 256)) : Int) then ((if (0 ≤ x21 ∧ x21 < (List.length (rd x6 (Int.tmod x7 256)) : Int)) then (if (0 ≤ (rd (rd x6 (Int.tmod x7 256)) x21) ∧ (rd (rd x6 (Int.tmod x7 256)) x21) < (List.length x18 : Int)) then (if ((rd x18 (rd (rd x6 (Int.tmod x7 256)) x21)) != 1099511627776) = true then (some (x18, x19, x20)) else (flat_plain_spread.l2 fuel p x6 x7 x18 x21 x19 x20 0)) else none) else none).bind fun (x23, x24, x25) => flat_plain_spread.l1 k22 p x6 x7 x23 x24 x25 (w64 (x21 + 1))) else (some (x18, x19, x20))
def flat_plain_spread.l0 : Nat → flat_plain → List Int → List (List Int) → Int → Int → Option flat_plain
  | 0, _, _, _, _, _ => none
  | k9 + 1, p, x5, x6, x7, x8 => if x8 > 0 then ((if (0 ≤ (Int.tmod x7 256) ∧ (Int.tmod x7 256) < 256) then (if (0 ≤ (Int.tmod x7 256) ∧ (Int.tmod x7 256) < 256) then (flat_plain_spread.l1 fuel p x6 x7 x5 (List.set x6 (Int.toNat (Int.tmod x7 256)) ([] : List Int)) (w64 (x8 - (List.length (rd x6 (Int.tmod x7 256)) : Int))) 0) else none) else none).bind fun (x10, x11, x12) => flat_plain_spread.l0 k9 p x10 x11 (w64 (x7 + 1)) x12) else (some (flat_plain.mk p.Map x5))
def flat_plain_spread.f (p : flat_plain) (goal : Int) : Option flat_plain := if (0 ≤ (0 : Int) ∧ (0 : Int) < 256) then (flat_plain_spread.l0 fuel p p.dist (List.set (List.replicate 256 ([] : List Int)) (Int.toNat 0) [goal]) 0 1) else none
def flat_plain_spread.R (b_p : Nat) (y0 : Value) (r : flat_plain) (u : Value) (G : List Hp) : Prop := ∃ (a0 : Option Addr) (n0 : Nat) (H0 : Hp), SliceO (Fl.int .i64) 3 r.dist a0 n0 H0 ∧ u = (.tuple #[]) ∧ G = [[(b_p, Obj.cells #[(.int .i64 r.Map.W), (.int .i64 r.Map.H), y0, (.slice a0 (List.length r.dist) n0)] 96 (0, 0))], H0]
set_option maxHeartbeats 4000000 in
theorem flat_plain_spread.c {b_p : Nat} {a_p_Map_C : Option Addr} {n_p_Map_C : Nat} {a_p_dist : Option Addr} {n_p_dist : Nat} {H_p_dist : Hp} (p : flat_plain) (goal : Int) (r : flat_plain) (F : Hp) (H : flat_plain_spread.f p goal = some r) (h_p_Map_C : SliceR (Fl.int .u8) p.Map.C a_p_Map_C F) (c_p_Map_C : List.length p.Map.C ≤ n_p_Map_C) (s_p_dist : SliceO (Fl.int .i64) 3 p.dist a_p_dist n_p_dist H_p_dist) :
    CallsL Try.prog 84 [(.pointer (some ⟨b_p, 0, none⟩)), (.int .i64 goal)] [[(b_p, Obj.cells #[(.int .i64 p.Map.W), (.int .i64 p.Map.H), (.slice a_p_Map_C (List.length p.Map.C) n_p_Map_C), (.slice a_p_dist (List.length p.dist) n_p_dist)] 96 (0, 0))], H_p_dist, F] (fun qp : { qp : Value × List Hp // flat_plain_spread.R b_p (.slice a_p_Map_C (List.length p.Map.C) n_p_Map_C) r qp.1 qp.2 } => qp.1.1) (fun qp => (qp.1.2 ++ []) ++ [F]) := by
  unfold flat_plain_spread.f at H
  refine calls_atL [(0, (.pointer (some ⟨b_p, 0, none⟩))), (1, (.int .i64 goal))] Try.func84 rfl rfl ⟨rfl, rfl, trivial⟩ (fun W => ?_)
  refine at_seq ?_
  refine at_region [0] rfl ?_
  refine at_cons (at_al T (List.replicate 256 (.slice none 0 0)) rfl rfl rfl rfl (fun b3 => ?_))
  refine at_lsnew (Fl.int .i64) 3 256 (j := 3) rfl rfl (fun H3 s3 => ?_)
  refine at_end ?_
  refine at_sub [(0, (.pointer (some ⟨b_p, 0, none⟩))), (1, (.int .i64 goal)), (4, (.pointer (some ⟨b3, 0, none⟩)))] ⟨rfl, rfl, rfl, trivial⟩ ?_
  refine at_then ?_
  refine at_seq ?_
  refine at_region [0, 1, 2, 3] rfl ?_
  refine at_s T rfl ?_
  refine at_cons (at_bs (k := (Fl.int .i64)) T [goal] rfl rfl rfl rfl rfl rfl rfl rfl rfl (fun a4 H4 s4 => ?_))
  obtain ⟨c1, H⟩ := chk_e H
  refine at_v rfl (g_arrat T rfl rfl rfl rfl rfl c1) ?_
  refine at_lsopen (j := 3) rfl s3 c1 (fun a5 n5 H5 H6 s5 s6 => ?_)
  refine at_cons (at_lsst T (ys := [goal]) 3 rfl rfl rfl rfl rfl rfl s6 (q := 4) (by decide) rfl s4 (fun H7 s7 => ?_))
  refine at_end ?_
  refine at_to [(0, (.pointer (some ⟨b_p, 0, none⟩))), (4, (.pointer (some ⟨b3, 0, none⟩)))] [0, 0, 0, 0] [[(b_p, Obj.cells #[(.int .i64 p.Map.W), (.int .i64 p.Map.H), (.slice a_p_Map_C (List.length p.Map.C) n_p_Map_C), (.slice a_p_dist (List.length p.dist) n_p_dist)] 96 (0, 0))], H_p_dist, F, H7] ⟨rfl, rfl, trivial⟩ rfl ?_
  refine at_then ?_
  refine at_seq ?_
  refine at_region [0, 1] rfl ?_
  iterate 2 refine at_s T rfl ?_
  refine at_end ?_
  refine at_sub [(0, (.pointer (some ⟨b_p, 0, none⟩))), (4, (.pointer (some ⟨b3, 0, none⟩))), (5, (.int .i64 0)), (6, (.int .i64 1))] ⟨rfl, rfl, rfl, rfl, trivial⟩ ?_
  refine at_then ?_
  refine at_block ?_
  refine at_loopL (σ := Nat × List Int × List (List Int) × Int × Int × Option Addr × Nat × Hp × Hp) (fun ⟨k9, x5, x6, x7, x8, a10, n10, H10, H11⟩ => flat_plain_spread.l0 k9 p x5 x6 x7 x8 = some r ∧ SliceO (Fl.int .i64) 3 x5 a10 n10 H10 ∧ LsO (Fl.int .i64) 3 256 109 x6 b3 H11) (fun ⟨k9, x5, x6, x7, x8, a10, n10, H10, H11⟩ => [(0, (.pointer (some ⟨b_p, 0, none⟩))), (4, (.pointer (some ⟨b3, 0, none⟩))), (5, (.int .i64 x7)), (6, (.int .i64 x8))]) (fun ⟨k9, x5, x6, x7, x8, a10, n10, H10, H11⟩ => [F, [(b_p, Obj.cells #[(.int .i64 p.Map.W), (.int .i64 p.Map.H), (.slice a_p_Map_C (List.length p.Map.C) n_p_Map_C), (.slice a10 (List.length x5) n10)] 96 (0, 0))], H10, H11]) (fun s => s.1) (fuel, p.dist, (List.set (List.replicate 256 ([] : List Int)) (Int.toNat 0) [goal]), 0, 1, a_p_dist, n_p_dist, H_p_dist, H7) [2, 0, 0, 0] ⟨H, s_p_dist, s7⟩ ⟨rfl, rfl, rfl, rfl, trivial⟩ rfl ?_
  rintro ⟨k9, x5, x6, x7, x8, a10, n10, H10, H11⟩ ⟨Z2, s10, s11⟩
  replace Z2 : flat_plain_spread.l0 k9 p x5 x6 x7 x8 = some r := Z2
  rcases k9 with _ | k9
  · rw [flat_plain_spread.l0] at Z2; cases Z2
  · rw [flat_plain_spread.l0] at Z2
    refine at_seq ?_
    refine at_seq ?_
    refine at_region [0, 1] rfl ?_
    iterate 2 refine at_s T rfl ?_
    refine at_end ?_
    refine at_sub [(0, (.pointer (some ⟨b_p, 0, none⟩))), (4, (.pointer (some ⟨b3, 0, none⟩))), (5, (.int .i64 x7)), (6, (.int .i64 x8)), (17, (.bool (decide (x8 > 0))))] ⟨rfl, rfl, rfl, rfl, rfl, trivial⟩ ?_
    refine at_then ?_
    refine at_cond rfl (fun c3 => ?_) (fun c3 => ?_)
    · replace Z2 := if_t (of_decide_eq_true c3) Z2
      refine at_skip ?_
      refine at_then ?_
      obtain ⟨z13, Z4, Z2⟩ := bind_e Z2
      refine at_seq_mid (σ := List Int × List (List Int) × Int × Option Addr × Nat × Hp × Hp) (fun ⟨x10, x11, x12, a12, n12, H12, H13⟩ => (x10, x11, x12) = z13 ∧ SliceO (Fl.int .i64) 3 x10 a12 n12 H12 ∧ LsO (Fl.int .i64) 3 256 109 x11 b3 H13) (fun ⟨x10, x11, x12, a12, n12, H12, H13⟩ => [(0, (.pointer (some ⟨b_p, 0, none⟩))), (4, (.pointer (some ⟨b3, 0, none⟩))), (5, (.int .i64 x7)), (6, (.int .i64 x12))]) (fun ⟨x10, x11, x12, a12, n12, H12, H13⟩ => [F, [(b_p, Obj.cells #[(.int .i64 p.Map.W), (.int .i64 p.Map.H), (.slice a_p_Map_C (List.length p.Map.C) n_p_Map_C), (.slice a12 (List.length x10) n12)] 96 (0, 0))], H12, H13]) ?_ ?_
      · refine at_block ?_
        refine at_seq ?_
        refine at_region [0, 1, 2, 3, 4] rfl ?_
        iterate 2 refine at_s T rfl ?_
        obtain ⟨c5, Z4⟩ := chk_e Z4
        refine at_v rfl (g_arrat T rfl rfl rfl rfl rfl c5) ?_
        refine at_lsopen (j := 3) rfl s11 c5 (fun a14 n14 H14 H15 s14 s15 => ?_)
        refine at_v rfl (g_load T rfl rfl rfl rfl (in_ls (j := 3) rfl s15)) ?_
        refine at_s T rfl ?_
        refine at_end ?_
        refine at_sub [(0, (.pointer (some ⟨b_p, 0, none⟩))), (4, (.pointer (some ⟨b3, 0, none⟩))), (5, (.int .i64 x7)), (6, (.int .i64 x8)), (7, (.slice a14 (List.length (rd x6 (Int.tmod x7 256))) n14))] ⟨rfl, rfl, rfl, rfl, rfl, trivial⟩ ?_
        refine at_then ?_
        refine at_seq ?_
        refine at_region [0, 1, 2, 3] rfl ?_
        iterate 2 refine at_s T rfl ?_
        obtain ⟨c6, Z4⟩ := chk_e Z4
        refine at_v rfl (g_arrat T rfl rfl rfl rfl rfl c6) ?_
        refine at_addnil ?_
        refine at_cons (at_lsst T (ys := ([] : List Int)) 3 rfl rfl rfl rfl rfl rfl s15 (q := 5) (by decide) rfl (SliceO.nil (k := (Fl.int .i64)) (E := 3)) (fun H17 s17 => ?_))
        refine at_end ?_
        refine at_to [(0, (.pointer (some ⟨b_p, 0, none⟩))), (4, (.pointer (some ⟨b3, 0, none⟩))), (5, (.int .i64 x7)), (6, (.int .i64 x8)), (7, (.slice a14 (List.length (rd x6 (Int.tmod x7 256))) n14))] [0, 0, 0, 0, 0] [F, [(b_p, Obj.cells #[(.int .i64 p.Map.W), (.int .i64 p.Map.H), (.slice a_p_Map_C (List.length p.Map.C) n_p_Map_C), (.slice a10 (List.length x5) n10)] 96 (0, 0))], H10, H17, H14] ⟨rfl, rfl, rfl, rfl, rfl, trivial⟩ rfl ?_
        refine at_then ?_
        refine at_seq ?_
        refine at_region [0, 1, 2, 3, 4] rfl ?_
        iterate 5 refine at_s T rfl ?_
        refine at_end ?_
        refine at_sub [(0, (.pointer (some ⟨b_p, 0, none⟩))), (4, (.pointer (some ⟨b3, 0, none⟩))), (5, (.int .i64 x7)), (6, (.int .i64 (w64 (x8 - (List.length (rd x6 (Int.tmod x7 256)) : Int))))), (7, (.slice a14 (List.length (rd x6 (Int.tmod x7 256))) n14))] ⟨rfl, rfl, rfl, rfl, rfl, trivial⟩ ?_
        refine at_then ?_
        refine at_seq ?_
        refine at_region [0, 1, 2] rfl ?_
        iterate 3 refine at_s T rfl ?_
        refine at_end ?_
        refine at_sub [(0, (.pointer (some ⟨b_p, 0, none⟩))), (4, (.pointer (some ⟨b3, 0, none⟩))), (5, (.int .i64 x7)), (6, (.int .i64 (w64 (x8 - (List.length (rd x6 (Int.tmod x7 256)) : Int))))), (31, (.slice a14 (List.length (rd x6 (Int.tmod x7 256))) n14)), (32, (.int .i64 (List.length (rd x6 (Int.tmod x7 256)) : Int))), (33, (.int .i64 0))] ⟨rfl, rfl, rfl, rfl, rfl, rfl, rfl, trivial⟩ ?_
        refine at_then ?_
        refine at_block ?_
        refine at_loopL (σ := Nat × List Int × List (List Int) × Int × Int × Option Addr × Nat × Hp × Hp) (fun ⟨k22, x18, x19, x20, x21, a20, n20, H20, H21⟩ => flat_plain_spread.l1 k22 p x6 x7 x18 x19 x20 x21 = some z13 ∧ SliceO (Fl.int .i64) 3 x18 a20 n20 H20 ∧ LsO (Fl.int .i64) 3 256 109 x19 b3 H21) (fun ⟨k22, x18, x19, x20, x21, a20, n20, H20, H21⟩ => [(0, (.pointer (some ⟨b_p, 0, none⟩))), (4, (.pointer (some ⟨b3, 0, none⟩))), (5, (.int .i64 x7)), (6, (.int .i64 x20)), (31, (.slice a14 (List.length (rd x6 (Int.tmod x7 256))) n14)), (32, (.int .i64 (List.length (rd x6 (Int.tmod x7 256)) : Int))), (33, (.int .i64 x21))]) (fun ⟨k22, x18, x19, x20, x21, a20, n20, H20, H21⟩ => [F, [(b_p, Obj.cells #[(.int .i64 p.Map.W), (.int .i64 p.Map.H), (.slice a_p_Map_C (List.length p.Map.C) n_p_Map_C), (.slice a20 (List.length x18) n20)] 96 (0, 0))], H20, H21, H14]) (fun s => s.1) (fuel, x5, (List.set x6 (Int.toNat (Int.tmod x7 256)) ([] : List Int)), (w64 (x8 - (List.length (rd x6 (Int.tmod x7 256)) : Int))), 0, a10, n10, H10, H17) [0, 0, 0, 0, 0] ⟨Z4, s10, s17⟩ ⟨rfl, rfl, rfl, rfl, rfl, rfl, rfl, trivial⟩ rfl ?_
        rintro ⟨k22, x18, x19, x20, x21, a20, n20, H20, H21⟩ ⟨Z7, s20, s21⟩
        replace Z7 : flat_plain_spread.l1 k22 p x6 x7 x18 x19 x20 x21 = some z13 := Z7
        rcases k22 with _ | k22
        · rw [flat_plain_spread.l1] at Z7; cases Z7
        · rw [flat_plain_spread.l1] at Z7
          refine at_seq ?_
          refine at_region [0] rfl ?_
          refine at_s T rfl ?_
          refine at_end ?_
          refine at_sub [(0, (.pointer (some ⟨b_p, 0, none⟩))), (4, (.pointer (some ⟨b3, 0, none⟩))), (5, (.int .i64 x7)), (6, (.int .i64 x20)), (31, (.slice a14 (List.length (rd x6 (Int.tmod x7 256))) n14)), (32, (.int .i64 (List.length (rd x6 (Int.tmod x7 256)) : Int))), (33, (.int .i64 x21)), (34, (.bool (decide (x21 < (List.length (rd x6 (Int.tmod x7 256)) : Int)))))] ⟨rfl, rfl, rfl, rfl, rfl, rfl, rfl, rfl, trivial⟩ ?_
          refine at_then ?_
          refine at_seq ?_
          refine at_cond rfl (fun c8 => ?_) (fun c8 => ?_)
          · replace Z7 := if_t (of_decide_eq_true c8) Z7
            refine at_skip ?_
            refine at_then ?_
            obtain ⟨z26, Z9, Z7⟩ := bind_e Z7
            refine at_seq_mid (σ := List Int × List (List Int) × Int × Option Addr × Nat × Hp × Hp) (fun ⟨x23, x24, x25, a22, n22, H22, H23⟩ => (x23, x24, x25) = z26 ∧ SliceO (Fl.int .i64) 3 x23 a22 n22 H22 ∧ LsO (Fl.int .i64) 3 256 109 x24 b3 H23) (fun ⟨x23, x24, x25, a22, n22, H22, H23⟩ => [(0, (.pointer (some ⟨b_p, 0, none⟩))), (4, (.pointer (some ⟨b3, 0, none⟩))), (5, (.int .i64 x7)), (6, (.int .i64 x25)), (31, (.slice a14 (List.length (rd x6 (Int.tmod x7 256))) n14)), (32, (.int .i64 (List.length (rd x6 (Int.tmod x7 256)) : Int))), (33, (.int .i64 x21))]) (fun ⟨x23, x24, x25, a22, n22, H22, H23⟩ => [F, [(b_p, Obj.cells #[(.int .i64 p.Map.W), (.int .i64 p.Map.H), (.slice a_p_Map_C (List.length p.Map.C) n_p_Map_C), (.slice a22 (List.length x23) n22)] 96 (0, 0))], H22, H23, H14]) ?_ ?_
            · refine at_block ?_
              refine at_seq ?_
              refine at_region [0, 1, 2] rfl ?_
              obtain ⟨c10, Z9⟩ := chk_e Z9
              obtain ⟨q24, o24, e24⟩ := s14.r.addr c10.1 c10.2
              refine at_v rfl (g_index T rfl rfl rfl rfl rfl e24 c10.1 c10.2) ?_
              refine at_v rfl (g_load T rfl rfl rfl rfl (in_elem1 (k := (Fl.int .i64)) (own_of s14 (j := 4) rfl) e24 c10 0 rfl)) ?_
              refine at_s T rfl ?_
              refine at_end ?_
              refine at_sub [(0, (.pointer (some ⟨b_p, 0, none⟩))), (4, (.pointer (some ⟨b3, 0, none⟩))), (5, (.int .i64 x7)), (6, (.int .i64 x20)), (9, (.int .i64 (rd (rd x6 (Int.tmod x7 256)) x21))), (31, (.slice a14 (List.length (rd x6 (Int.tmod x7 256))) n14)), (32, (.int .i64 (List.length (rd x6 (Int.tmod x7 256)) : Int))), (33, (.int .i64 x21))] ⟨rfl, rfl, rfl, rfl, rfl, rfl, rfl, rfl, trivial⟩ ?_
              refine at_then ?_
              refine at_seq ?_
              refine at_seq ?_
              refine at_region [0, 1, 2, 3, 4, 5, 6, 7] rfl ?_
              iterate 3 refine at_s T rfl ?_
              refine at_v rfl (g_load T rfl rfl rfl rfl (in_var (j := 1) rfl rfl)) ?_
              refine at_s T rfl ?_
              obtain ⟨c11, Z9⟩ := chk_e Z9
              obtain ⟨q25, o25, e25⟩ := s20.r.addr c11.1 c11.2
              refine at_v rfl (g_index T rfl rfl rfl rfl rfl e25 c11.1 c11.2) ?_
              refine at_v rfl (g_load T rfl rfl rfl rfl (in_elem1 (k := (Fl.int .i64)) (own_of s20 (j := 2) rfl) e25 c11 0 rfl)) ?_
              refine at_s T rfl ?_
              refine at_end ?_
              refine at_sub [(0, (.pointer (some ⟨b_p, 0, none⟩))), (4, (.pointer (some ⟨b3, 0, none⟩))), (5, (.int .i64 x7)), (6, (.int .i64 x20)), (9, (.int .i64 (rd (rd x6 (Int.tmod x7 256)) x21))), (31, (.slice a14 (List.length (rd x6 (Int.tmod x7 256))) n14)), (32, (.int .i64 (List.length (rd x6 (Int.tmod x7 256)) : Int))), (33, (.int .i64 x21)), (44, (.bool ((rd x18 (rd (rd x6 (Int.tmod x7 256)) x21)) != 1099511627776)))] ⟨rfl, rfl, rfl, rfl, rfl, rfl, rfl, rfl, rfl, trivial⟩ ?_
              refine at_then ?_
              refine at_cond rfl (fun c12 => ?_) (fun c12 => ?_)
              · replace Z9 := if_t c12 Z9
                refine at_exit ?_
                refine at_xt ?_
                refine at_xb ?_
                refine at_then ?_
                obtain rfl := Option.some.inj Z9
                exact at_mid (x18, x19, x20, a20, n20, H20, H21) [0, 0, 0, 0, 0] ⟨rfl, s20, s21⟩ ⟨rfl, rfl, rfl, rfl, rfl, rfl, rfl, trivial⟩ rfl
              · replace Z9 := if_f (bf c12) Z9
                refine at_skip ?_
                refine at_then ?_
                refine at_seq ?_
                refine at_region [0, 1, 2, 3, 4, 5, 6, 7] rfl ?_
                iterate 3 refine at_s T rfl ?_
                refine at_v rfl (g_load T rfl rfl rfl rfl (in_var (j := 1) rfl rfl)) ?_
                iterate 2 refine at_s T rfl ?_
                refine at_v rfl (g_index T rfl rfl rfl rfl rfl e25 c11.1 c11.2) ?_
                refine at_cons (at_se (k := (Fl.int .i64)) T 2 0 x7 rfl rfl rfl rfl rfl rfl s20 e25 c11 rfl rfl rfl (fun H26 s26 => ?_))
                refine at_to [(0, (.pointer (some ⟨b_p, 0, none⟩))), (4, (.pointer (some ⟨b3, 0, none⟩))), (5, (.int .i64 x7)), (6, (.int .i64 x20)), (9, (.int .i64 (rd (rd x6 (Int.tmod x7 256)) x21))), (31, (.slice a14 (List.length (rd x6 (Int.tmod x7 256))) n14)), (32, (.int .i64 (List.length (rd x6 (Int.tmod x7 256)) : Int))), (33, (.int .i64 x21))] [0, 0, 0, 0, 0] [F, [(b_p, Obj.cells #[(.int .i64 p.Map.W), (.int .i64 p.Map.H), (.slice a_p_Map_C (List.length p.Map.C) n_p_Map_C), (.slice a20 (List.length (List.set x18 (Int.toNat (rd (rd x6 (Int.tmod x7 256)) x21)) x7)) n20)] 96 (0, 0))], H26, H21, H14] ⟨rfl, rfl, rfl, rfl, rfl, rfl, rfl, rfl, trivial⟩ (by first | rfl | (simp only [List.length_set]; rfl)) ?_
                refine at_end ?_
                refine at_sub [(0, (.pointer (some ⟨b_p, 0, none⟩))), (4, (.pointer (some ⟨b3, 0, none⟩))), (5, (.int .i64 x7)), (6, (.int .i64 x20)), (9, (.int .i64 (rd (rd x6 (Int.tmod x7 256)) x21))), (31, (.slice a14 (List.length (rd x6 (Int.tmod x7 256))) n14)), (32, (.int .i64 (List.length (rd x6 (Int.tmod x7 256)) : Int))), (33, (.int .i64 x21))] ⟨rfl, rfl, rfl, rfl, rfl, rfl, rfl, rfl, trivial⟩ ?_
                refine at_then ?_
                refine at_seq ?_
                refine at_region [0] rfl ?_
                refine at_s T rfl ?_
                refine at_end ?_
                refine at_sub [(0, (.pointer (some ⟨b_p, 0, none⟩))), (4, (.pointer (some ⟨b3, 0, none⟩))), (5, (.int .i64 x7)), (6, (.int .i64 x20)), (9, (.int .i64 (rd (rd x6 (Int.tmod x7 256)) x21))), (10, (.int .i64 0)), (31, (.slice a14 (List.length (rd x6 (Int.tmod x7 256))) n14)), (32, (.int .i64 (List.length (rd x6 (Int.tmod x7 256)) : Int))), (33, (.int .i64 x21))] ⟨rfl, rfl, rfl, rfl, rfl, rfl, rfl, rfl, rfl, trivial⟩ ?_
                refine at_then ?_
                refine at_block ?_
                refine at_loopL (σ := Nat × List (List Int) × Int × Int × Hp) (fun ⟨k33, x30, x31, x32, H28⟩ => flat_plain_spread.l2 k33 p x6 x7 x18 x21 x30 x31 x32 = some z26 ∧ LsO (Fl.int .i64) 3 256 109 x30 b3 H28) (fun ⟨k33, x30, x31, x32, H28⟩ => [(0, (.pointer (some ⟨b_p, 0, none⟩))), (4, (.pointer (some ⟨b3, 0, none⟩))), (5, (.int .i64 x7)), (6, (.int .i64 x31)), (9, (.int .i64 (rd (rd x6 (Int.tmod x7 256)) x21))), (10, (.int .i64 x32)), (31, (.slice a14 (List.length (rd x6 (Int.tmod x7 256))) n14)), (32, (.int .i64 (List.length (rd x6 (Int.tmod x7 256)) : Int))), (33, (.int .i64 x21))]) (fun ⟨k33, x30, x31, x32, H28⟩ => [F, [(b_p, Obj.cells #[(.int .i64 p.Map.W), (.int .i64 p.Map.H), (.slice a_p_Map_C (List.length p.Map.C) n_p_Map_C), (.slice a20 (List.length (List.set x18 (Int.toNat (rd (rd x6 (Int.tmod x7 256)) x21)) x7)) n20)] 96 (0, 0))], H26, H28, H14]) (fun s => s.1) (fuel, x19, x20, 0, H21) [0, 0, 0, 0, 0] ⟨Z9, s21⟩ ⟨rfl, rfl, rfl, rfl, rfl, rfl, rfl, rfl, rfl, trivial⟩ rfl ?_
                rintro ⟨k33, x30, x31, x32, H28⟩ ⟨Z13, s28⟩
                replace Z13 : flat_plain_spread.l2 k33 p x6 x7 x18 x21 x30 x31 x32 = some z26 := Z13
                rcases k33 with _ | k33
                · rw [flat_plain_spread.l2] at Z13; cases Z13
                · rw [flat_plain_spread.l2] at Z13
                  refine at_seq ?_
                  refine at_seq ?_
                  refine at_region [0, 1] rfl ?_
                  iterate 2 refine at_s T rfl ?_
                  refine at_end ?_
                  refine at_sub [(0, (.pointer (some ⟨b_p, 0, none⟩))), (4, (.pointer (some ⟨b3, 0, none⟩))), (5, (.int .i64 x7)), (6, (.int .i64 x31)), (9, (.int .i64 (rd (rd x6 (Int.tmod x7 256)) x21))), (10, (.int .i64 x32)), (31, (.slice a14 (List.length (rd x6 (Int.tmod x7 256))) n14)), (32, (.int .i64 (List.length (rd x6 (Int.tmod x7 256)) : Int))), (33, (.int .i64 x21)), (53, (.bool (decide (x32 ≤ 3))))] ⟨rfl, rfl, rfl, rfl, rfl, rfl, rfl, rfl, rfl, rfl, trivial⟩ ?_
                  refine at_then ?_
                  refine at_cond rfl (fun c14 => ?_) (fun c14 => ?_)
                  · replace Z13 := if_t (of_decide_eq_true c14) Z13
                    refine at_skip ?_
                    refine at_then ?_
                    refine at_seq ?_
                    refine at_block ?_
                    refine at_seq ?_
                    refine at_region [0, 1, 2, 3, 4] rfl ?_
                    iterate 3 refine at_s T rfl ?_
                    obtain ⟨v34, V15, Z13⟩ := bind_e Z13
                    refine at_cons (at_c (B := fun _ => []) [] rfl rfl rfl rfl has89 rfl rfl (flat_plain_beside.c (flat_plain.mk p.Map (List.set x18 (Int.toNat (rd (rd x6 (Int.tmod x7 256)) x21)) x7)) (rd (rd x6 (Int.tmod x7 256)) x21) x32 v34 _ V15 (mem_own (j := 1) rfl) (ro_of h_p_Map_C (j := 0) rfl) c_p_Map_C (own_of s26 (j := 2) rfl) s26.cap_le) (fun _ => ?_))
                    refine at_s T rfl ?_
                    refine at_end ?_
                    refine at_sub [(0, (.pointer (some ⟨b_p, 0, none⟩))), (4, (.pointer (some ⟨b3, 0, none⟩))), (5, (.int .i64 x7)), (6, (.int .i64 x31)), (9, (.int .i64 (rd (rd x6 (Int.tmod x7 256)) x21))), (10, (.int .i64 x32)), (11, (.int .i64 v34)), (31, (.slice a14 (List.length (rd x6 (Int.tmod x7 256))) n14)), (32, (.int .i64 (List.length (rd x6 (Int.tmod x7 256)) : Int))), (33, (.int .i64 x21))] ⟨rfl, rfl, rfl, rfl, rfl, rfl, rfl, rfl, rfl, rfl, trivial⟩ ?_
                    refine at_then ?_
                    obtain ⟨z36, Z16, Z13⟩ := bind_e Z13
                    refine at_seq_mid (σ := Bool) (fun x35 => x35 = z36) (fun x35 => [(0, (.pointer (some ⟨b_p, 0, none⟩))), (4, (.pointer (some ⟨b3, 0, none⟩))), (5, (.int .i64 x7)), (6, (.int .i64 x31)), (9, (.int .i64 (rd (rd x6 (Int.tmod x7 256)) x21))), (10, (.int .i64 x32)), (11, (.int .i64 v34)), (31, (.slice a14 (List.length (rd x6 (Int.tmod x7 256))) n14)), (32, (.int .i64 (List.length (rd x6 (Int.tmod x7 256)) : Int))), (33, (.int .i64 x21)), (82, (.bool x35))]) (fun x35 => [F, [(b_p, Obj.cells #[(.int .i64 p.Map.W), (.int .i64 p.Map.H), (.slice a_p_Map_C (List.length p.Map.C) n_p_Map_C), (.slice a20 (List.length (List.set x18 (Int.toNat (rd (rd x6 (Int.tmod x7 256)) x21)) x7)) n20)] 96 (0, 0))], H26, H28, H14]) ?_ ?_
                    · refine at_region [0, 1, 2, 3, 4, 5, 6, 7, 8, 9, 10, 11, 12, 13, 14, 15, 16, 17, 18, 19, 20, 21, 22] rfl ?_
                      iterate 3 refine at_s T rfl ?_
                      refine at_case (s := 62) rfl (fun c17 => ?_) (fun c17 => ?_)
                      · replace Z16 := if_t (of_decide_eq_true c17) Z16
                        iterate 4 refine at_s T rfl ?_
                        refine at_v rfl (g_load T rfl rfl rfl rfl (in_var (j := 1) rfl rfl)) ?_
                        refine at_s T rfl ?_
                        obtain ⟨c18, Z16⟩ := chk_e Z16
                        obtain ⟨q29, o29, e29⟩ := h_p_Map_C.addr c18.1 c18.2
                        refine at_v rfl (g_index T rfl rfl rfl rfl rfl e29 c18.1 c18.2) ?_
                        refine at_v rfl (g_load T rfl rfl rfl rfl (in_elem1 (k := (Fl.int .u8)) (ro_of h_p_Map_C (j := 0) rfl) e29 c18 0 rfl)) ?_
                        iterate 3 refine at_s T rfl ?_
                        refine at_case (s := 73) rfl (fun c19 => ?_) (fun c19 => ?_)
                        · replace Z16 := if_t c19 Z16
                          iterate 3 refine at_s T rfl ?_
                          refine at_v rfl (g_load T rfl rfl rfl rfl (in_var (j := 1) rfl rfl)) ?_
                          refine at_s T rfl ?_
                          obtain ⟨c20, Z16⟩ := chk_e Z16
                          obtain ⟨q30, o30, e30⟩ := s26.r.addr c20.1 c20.2
                          refine at_v rfl (g_index T rfl rfl rfl rfl rfl e30 c20.1 c20.2) ?_
                          refine at_v rfl (g_load T rfl rfl rfl rfl (in_elem1 (k := (Fl.int .i64)) (own_of s26 (j := 2) rfl) e30 c20 0 rfl)) ?_
                          iterate 2 refine at_s T rfl ?_
                          refine at_end ?_
                          refine at_sub [(0, (.pointer (some ⟨b_p, 0, none⟩))), (4, (.pointer (some ⟨b3, 0, none⟩))), (5, (.int .i64 x7)), (6, (.int .i64 x31)), (9, (.int .i64 (rd (rd x6 (Int.tmod x7 256)) x21))), (10, (.int .i64 x32)), (11, (.int .i64 v34)), (31, (.slice a14 (List.length (rd x6 (Int.tmod x7 256))) n14)), (32, (.int .i64 (List.length (rd x6 (Int.tmod x7 256)) : Int))), (33, (.int .i64 x21)), (82, (.bool ((rd (List.set x18 (Int.toNat (rd (rd x6 (Int.tmod x7 256)) x21)) x7) v34) == 1099511627776)))] ⟨rfl, rfl, rfl, rfl, rfl, rfl, rfl, rfl, rfl, rfl, rfl, trivial⟩ ?_
                          refine at_then ?_
                          obtain rfl := Option.some.inj Z16
                          exact at_mid ((rd (List.set x18 (Int.toNat (rd (rd x6 (Int.tmod x7 256)) x21)) x7) v34) == 1099511627776) [0, 0, 0, 0, 0] rfl ⟨rfl, rfl, rfl, rfl, rfl, rfl, rfl, rfl, rfl, rfl, rfl, trivial⟩ rfl
                        · replace Z16 := if_f (bf c19) Z16
                          iterate 9 refine at_s T rfl ?_
                          refine at_end ?_
                          refine at_sub [(0, (.pointer (some ⟨b_p, 0, none⟩))), (4, (.pointer (some ⟨b3, 0, none⟩))), (5, (.int .i64 x7)), (6, (.int .i64 x31)), (9, (.int .i64 (rd (rd x6 (Int.tmod x7 256)) x21))), (10, (.int .i64 x32)), (11, (.int .i64 v34)), (31, (.slice a14 (List.length (rd x6 (Int.tmod x7 256))) n14)), (32, (.int .i64 (List.length (rd x6 (Int.tmod x7 256)) : Int))), (33, (.int .i64 x21)), (82, (.bool false))] ⟨rfl, rfl, rfl, rfl, rfl, rfl, rfl, rfl, rfl, rfl, rfl, trivial⟩ ?_
                          refine at_then ?_
                          obtain rfl := Option.some.inj Z16
                          exact at_mid false [0, 0, 0, 0, 0] rfl ⟨rfl, rfl, rfl, rfl, rfl, rfl, rfl, rfl, rfl, rfl, rfl, trivial⟩ rfl
                      · replace Z16 := if_f (of_decide_eq_false c17) Z16
                        iterate 20 refine at_s T rfl ?_
                        refine at_end ?_
                        refine at_sub [(0, (.pointer (some ⟨b_p, 0, none⟩))), (4, (.pointer (some ⟨b3, 0, none⟩))), (5, (.int .i64 x7)), (6, (.int .i64 x31)), (9, (.int .i64 (rd (rd x6 (Int.tmod x7 256)) x21))), (10, (.int .i64 x32)), (11, (.int .i64 v34)), (31, (.slice a14 (List.length (rd x6 (Int.tmod x7 256))) n14)), (32, (.int .i64 (List.length (rd x6 (Int.tmod x7 256)) : Int))), (33, (.int .i64 x21)), (82, (.bool false))] ⟨rfl, rfl, rfl, rfl, rfl, rfl, rfl, rfl, rfl, rfl, rfl, trivial⟩ ?_
                        refine at_then ?_
                        obtain rfl := Option.some.inj Z16
                        exact at_mid false [0, 0, 0, 0, 0] rfl ⟨rfl, rfl, rfl, rfl, rfl, rfl, rfl, rfl, rfl, rfl, rfl, trivial⟩ rfl
                    · rintro x35 rfl
                      refine at_cond rfl (fun c21 => ?_) (fun c21 => ?_)
                      · replace Z13 := if_t c21 Z13
                        refine at_seq ?_
                        refine at_region [0, 1, 2, 3, 4, 5, 6, 7, 8, 9, 10, 11, 12] rfl ?_
                        iterate 5 refine at_s T rfl ?_
                        refine at_v rfl (g_load T rfl rfl rfl rfl (in_var (j := 1) rfl rfl)) ?_
                        refine at_s T rfl ?_
                        obtain ⟨c22, Z13⟩ := chk_e Z13
                        obtain ⟨q31, o31, e31⟩ := h_p_Map_C.addr c22.1 c22.2
                        refine at_v rfl (g_index T rfl rfl rfl rfl rfl e31 c22.1 c22.2) ?_
                        refine at_v rfl (g_load T rfl rfl rfl rfl (in_elem1 (k := (Fl.int .u8)) (ro_of h_p_Map_C (j := 0) rfl) e31 c22 0 rfl)) ?_
                        iterate 4 refine at_s T rfl ?_
                        refine at_end ?_
                        refine at_sub [(0, (.pointer (some ⟨b_p, 0, none⟩))), (4, (.pointer (some ⟨b3, 0, none⟩))), (5, (.int .i64 x7)), (6, (.int .i64 x31)), (9, (.int .i64 (rd (rd x6 (Int.tmod x7 256)) x21))), (10, (.int .i64 x32)), (11, (.int .i64 v34)), (12, (.int .i64 (Int.tmod (w64 (x7 + (w64 (rd p.Map.C (rd (rd x6 (Int.tmod x7 256)) x21))))) 256))), (31, (.slice a14 (List.length (rd x6 (Int.tmod x7 256))) n14)), (32, (.int .i64 (List.length (rd x6 (Int.tmod x7 256)) : Int))), (33, (.int .i64 x21))] ⟨rfl, rfl, rfl, rfl, rfl, rfl, rfl, rfl, rfl, rfl, rfl, trivial⟩ ?_
                        refine at_then ?_
                        refine at_seq ?_
                        refine at_region [0, 1, 2, 3, 4, 5, 6, 7, 8] rfl ?_
                        iterate 2 refine at_s T rfl ?_
                        obtain ⟨c23, Z13⟩ := chk_e Z13
                        refine at_v rfl (g_arrat T rfl rfl rfl rfl rfl c23) ?_
                        refine at_lsopen (j := 3) rfl s28 c23 (fun a32 n32 H32 H33 s32 s33 => ?_)
                        refine at_v rfl (g_load T rfl rfl rfl rfl (in_ls (j := 3) rfl s33)) ?_
                        refine at_s T rfl ?_
                        refine at_cons (at_bs (k := (Fl.int .i64)) T [v34] rfl rfl rfl rfl rfl rfl rfl rfl rfl (fun a34 H34 s34 => ?_))
                        obtain ⟨c24, Z13⟩ := chk_e Z13
                        refine at_cons (at_ap (k := (Fl.int .i64)) (xs := (rd x30 (Int.tmod (w64 (x7 + (w64 (rd p.Map.C (rd (rd x6 (Int.tmod x7 256)) x21))))) 256))) T (g := 5) rfl rfl rfl rfl rfl rfl rfl rfl rfl rfl s32 (own_of s34 (j := 6) rfl) c24 rfl (fun a35 n35 H35 s35 => ?_))
                        obtain ⟨c25, Z13⟩ := chk_e Z13
                        refine at_v rfl (g_arrat T rfl rfl rfl rfl rfl c25) ?_
                        refine at_cons (at_lsst T (ys := ((rd x30 (Int.tmod (w64 (x7 + (w64 (rd p.Map.C (rd (rd x6 (Int.tmod x7 256)) x21))))) 256)) ++ [v34])) 3 rfl rfl rfl rfl rfl rfl s33 (q := 5) (by decide) rfl s35 (fun H36 s36 => ?_))
                        refine at_end ?_
                        refine at_to [(0, (.pointer (some ⟨b_p, 0, none⟩))), (4, (.pointer (some ⟨b3, 0, none⟩))), (5, (.int .i64 x7)), (6, (.int .i64 x31)), (9, (.int .i64 (rd (rd x6 (Int.tmod x7 256)) x21))), (10, (.int .i64 x32)), (31, (.slice a14 (List.length (rd x6 (Int.tmod x7 256))) n14)), (32, (.int .i64 (List.length (rd x6 (Int.tmod x7 256)) : Int))), (33, (.int .i64 x21))] [0, 0, 0, 0, 0] [F, [(b_p, Obj.cells #[(.int .i64 p.Map.W), (.int .i64 p.Map.H), (.slice a_p_Map_C (List.length p.Map.C) n_p_Map_C), (.slice a20 (List.length (List.set x18 (Int.toNat (rd (rd x6 (Int.tmod x7 256)) x21)) x7)) n20)] 96 (0, 0))], H26, H36, H14] ⟨rfl, rfl, rfl, rfl, rfl, rfl, rfl, rfl, rfl, trivial⟩ rfl ?_
                        refine at_then ?_
                        refine at_region [0, 1, 2] rfl ?_
                        iterate 3 refine at_s T rfl ?_
                        refine at_end ?_
                        refine at_sub [(0, (.pointer (some ⟨b_p, 0, none⟩))), (4, (.pointer (some ⟨b3, 0, none⟩))), (5, (.int .i64 x7)), (6, (.int .i64 (w64 (x31 + 1)))), (9, (.int .i64 (rd (rd x6 (Int.tmod x7 256)) x21))), (10, (.int .i64 x32)), (31, (.slice a14 (List.length (rd x6 (Int.tmod x7 256))) n14)), (32, (.int .i64 (List.length (rd x6 (Int.tmod x7 256)) : Int))), (33, (.int .i64 x21))] ⟨rfl, rfl, rfl, rfl, rfl, rfl, rfl, rfl, rfl, trivial⟩ ?_
                        refine at_nb ?_
                        refine at_then ?_
                        refine at_region [0, 1, 2] rfl ?_
                        iterate 3 refine at_s T rfl ?_
                        refine at_end ?_
                        refine at_sub [(0, (.pointer (some ⟨b_p, 0, none⟩))), (4, (.pointer (some ⟨b3, 0, none⟩))), (5, (.int .i64 x7)), (6, (.int .i64 (w64 (x31 + 1)))), (9, (.int .i64 (rd (rd x6 (Int.tmod x7 256)) x21))), (10, (.int .i64 (w64 (x32 + 1)))), (31, (.slice a14 (List.length (rd x6 (Int.tmod x7 256))) n14)), (32, (.int .i64 (List.length (rd x6 (Int.tmod x7 256)) : Int))), (33, (.int .i64 x21))] ⟨rfl, rfl, rfl, rfl, rfl, rfl, rfl, rfl, rfl, trivial⟩ ?_
                        refine at_then ?_
                        exact at_roundL (k33, (List.set x30 (Int.toNat (Int.tmod (w64 (x7 + (w64 (rd p.Map.C (rd (rd x6 (Int.tmod x7 256)) x21))))) 256)) ((rd x30 (Int.tmod (w64 (x7 + (w64 (rd p.Map.C (rd (rd x6 (Int.tmod x7 256)) x21))))) 256)) ++ [v34])), (w64 (x31 + 1)), (w64 (x32 + 1)), H36) [0, 0, 0, 0, 0] ⟨Z13, s36⟩ (Nat.lt_succ_self _) ⟨rfl, rfl, rfl, rfl, rfl, rfl, rfl, rfl, rfl, trivial⟩ rfl
                      · replace Z13 := if_f (bf c21) Z13
                        refine at_skip ?_
                        refine at_nb ?_
                        refine at_then ?_
                        refine at_region [0, 1, 2] rfl ?_
                        iterate 3 refine at_s T rfl ?_
                        refine at_end ?_
                        refine at_sub [(0, (.pointer (some ⟨b_p, 0, none⟩))), (4, (.pointer (some ⟨b3, 0, none⟩))), (5, (.int .i64 x7)), (6, (.int .i64 x31)), (9, (.int .i64 (rd (rd x6 (Int.tmod x7 256)) x21))), (10, (.int .i64 (w64 (x32 + 1)))), (31, (.slice a14 (List.length (rd x6 (Int.tmod x7 256))) n14)), (32, (.int .i64 (List.length (rd x6 (Int.tmod x7 256)) : Int))), (33, (.int .i64 x21))] ⟨rfl, rfl, rfl, rfl, rfl, rfl, rfl, rfl, rfl, trivial⟩ ?_
                        refine at_then ?_
                        exact at_roundL (k33, x30, x31, (w64 (x32 + 1)), H28) [0, 0, 0, 0, 0] ⟨Z13, s28⟩ (Nat.lt_succ_self _) ⟨rfl, rfl, rfl, rfl, rfl, rfl, rfl, rfl, rfl, trivial⟩ rfl
                  · replace Z13 := if_f (of_decide_eq_false c14) Z13
                    refine at_exit ?_
                    refine at_xt ?_
                    refine at_xt ?_
                    refine at_xb ?_
                    refine at_nb ?_
                    refine at_then ?_
                    obtain rfl := Option.some.inj Z13
                    exact at_mid ((List.set x18 (Int.toNat (rd (rd x6 (Int.tmod x7 256)) x21)) x7), x30, x31, a20, n20, H26, H28) [0, 0, 0, 0, 0] ⟨rfl, s26, s28⟩ ⟨rfl, rfl, rfl, rfl, rfl, rfl, rfl, trivial⟩ rfl
            · rintro ⟨x23, x24, x25, a22, n22, H22, H23⟩ ⟨rfl, s22, s23⟩
              refine at_region [0, 1] rfl ?_
              iterate 2 refine at_s T rfl ?_
              refine at_end ?_
              refine at_sub [(0, (.pointer (some ⟨b_p, 0, none⟩))), (4, (.pointer (some ⟨b3, 0, none⟩))), (5, (.int .i64 x7)), (6, (.int .i64 x25)), (31, (.slice a14 (List.length (rd x6 (Int.tmod x7 256))) n14)), (32, (.int .i64 (List.length (rd x6 (Int.tmod x7 256)) : Int))), (33, (.int .i64 (w64 (x21 + 1))))] ⟨rfl, rfl, rfl, rfl, rfl, rfl, rfl, trivial⟩ ?_
              refine at_then ?_
              exact at_roundL (k22, x23, x24, x25, (w64 (x21 + 1)), a22, n22, H22, H23) [0, 0, 0, 0, 0] ⟨Z7, s22, s23⟩ (Nat.lt_succ_self _) ⟨rfl, rfl, rfl, rfl, rfl, rfl, rfl, trivial⟩ rfl
          · replace Z7 := if_f (of_decide_eq_false c8) Z7
            refine at_exit ?_
            refine at_xt ?_
            refine at_xt ?_
            refine at_xb ?_
            refine at_nb ?_
            refine at_then ?_
            obtain rfl := Option.some.inj Z7
            exact at_mid (x18, x19, x20, a20, n20, H20, H21) [0, 0, 0, 0] ⟨rfl, s20, s21⟩ ⟨rfl, rfl, rfl, rfl, trivial⟩ rfl
      · rintro ⟨x10, x11, x12, a12, n12, H12, H13⟩ ⟨rfl, s12, s13⟩
        refine at_region [0, 1, 2] rfl ?_
        iterate 3 refine at_s T rfl ?_
        refine at_end ?_
        refine at_sub [(0, (.pointer (some ⟨b_p, 0, none⟩))), (4, (.pointer (some ⟨b3, 0, none⟩))), (5, (.int .i64 (w64 (x7 + 1)))), (6, (.int .i64 x12))] ⟨rfl, rfl, rfl, rfl, trivial⟩ ?_
        refine at_then ?_
        exact at_roundL (k9, x10, x11, (w64 (x7 + 1)), x12, a12, n12, H12, H13) [0, 0, 0, 0] ⟨Z2, s12, s13⟩ (Nat.lt_succ_self _) ⟨rfl, rfl, rfl, rfl, trivial⟩ rfl
    · replace Z2 := if_f (of_decide_eq_false c3) Z2
      refine at_exit ?_
      refine at_xt ?_
      refine at_xt ?_
      refine at_xb ?_
      refine at_post_n ?_
      obtain rfl := Option.some.inj Z2
      exact at_post (T := T) rfl .nil (fun w o => ⟨⟨(_, _), ⟨a10, n10, H10, s10, rfl, rfl⟩⟩, rfl, own_to [1, 1, 0] rfl o⟩)

/-! ### herdsman/flat.look: function 73 -/
def flat_look.f (m : api_Map) (goal : Int) : Option ((Option flat_plain) × Int) := (atlas_May.f m).bind fun v1 => if (!v1) = true then (some (none, 1)) else ((where_Sector.f m.W m.H goal).bind fun v2 => if v2 < 0 then (some (none, 7)) else ((slices_Repeat_int_int.f [1099511627776] (List.length m.C : Int)).bind fun v3 => if (0 ≤ goal ∧ goal < (List.length m.C : Int)) then (if ((rd m.C goal) != 255) = true then ((flat_plain_spread.f (flat_plain.mk m v3) goal).bind fun v4 => some ((some (flat_plain.mk (api_Map.mk v4.Map.W v4.Map.H m.C) v4.dist)), 0)) else (some ((some (flat_plain.mk m v3)), 0))) else none))
def flat_look.R (w0 : Value) (r : ((Option flat_plain) × Int)) (u : Value) (G : List Hp) : Prop := ∃ (u0 : Value) (G0 : List Hp), O_flat_plain_b10 w0 r.1 u0 G0 ∧ u = (.tuple #[u0, (.int .i64 r.2)]) ∧ G = G0
set_option maxHeartbeats 4000000 in
theorem flat_look.c {a_m_C : Option Addr} {n_m_C : Nat} (m : api_Map) (goal : Int) (r : ((Option flat_plain) × Int)) (F : Hp) (H : flat_look.f m goal = some r) (h_m_C : SliceR (Fl.int .u8) m.C a_m_C F) (c_m_C : List.length m.C ≤ n_m_C) :
    CallsL Try.prog 73 [(.agg #[(.int .i64 m.W), (.int .i64 m.H), (.slice a_m_C (List.length m.C) n_m_C)]), (.int .i64 goal)] [F] (fun qp : { qp : Value × List Hp // flat_look.R (.slice a_m_C (List.length m.C) n_m_C) r qp.1 qp.2 } => qp.1.1) (fun qp => (qp.1.2 ++ []) ++ [F]) := by
  unfold flat_look.f at H
  refine calls_atL [(0, (.agg #[(.int .i64 m.W), (.int .i64 m.H), (.slice a_m_C (List.length m.C) n_m_C)])), (1, (.int .i64 goal))] Try.func73 rfl rfl ⟨rfl, rfl, trivial⟩ (fun W => ?_)
  refine at_seq ?_
  refine at_region [0, 1, 2] rfl ?_
  refine at_cons (at_bx T [(.int .i64 m.W), (.int .i64 m.H), (.slice a_m_C (List.length m.C) n_m_C)] rfl rfl rfl rfl (fun b1 => ?_))
  iterate 2 refine at_s T rfl ?_
  refine at_end ?_
  refine at_sub [(1, (.int .i64 goal)), (2, (.pointer (some ⟨b1, 0, none⟩)))] ⟨rfl, rfl, trivial⟩ ?_
  refine at_then ?_
  refine at_seq ?_
  refine at_block ?_
  refine at_seq ?_
  refine at_region [0, 1, 2, 3] rfl ?_
  refine at_v rfl (g_loadA T (cs := [(.int .i64 m.W), (.int .i64 m.H), (.slice a_m_C (List.length m.C) n_m_C)]) rfl rfl rfl rfl rfl rfl (in_varA (j := 1) rfl rfl)) ?_
  obtain ⟨v1, V1, H⟩ := bind_e H
  refine at_cons (at_c (B := fun _ => []) [] rfl rfl rfl rfl has49 rfl rfl (atlas_May.c m v1 _ V1 (ro_of h_m_C (j := 0) rfl) c_m_C) (fun _ => ?_))
  iterate 2 refine at_s T rfl ?_
  refine at_end ?_
  refine at_sub [(1, (.int .i64 goal)), (2, (.pointer (some ⟨b1, 0, none⟩))), (7, (.bool (!v1)))] ⟨rfl, rfl, rfl, trivial⟩ ?_
  refine at_then ?_
  refine at_cond rfl (fun c2 => ?_) (fun c2 => ?_)
  · replace H := if_t c2 H
    refine at_seq ?_
    refine at_region [0, 1] rfl ?_
    iterate 2 refine at_s T rfl ?_
    refine at_end ?_
    refine at_to [(4, (.pointer none)), (5, (.int .i64 1))] [0] [F] ⟨rfl, rfl, trivial⟩ rfl ?_
    refine at_then ?_
    refine at_ret ?_
    refine at_rb ?_
    refine at_rt ?_
    obtain rfl := Option.some.inj H
    exact at_post (T := T) rfl (.tmp rfl (.tmp rfl .nil)) (fun w o => ⟨⟨(_, _), ⟨_, _, ⟨rfl, rfl⟩, rfl, rfl⟩⟩, rfl, own_to [0] rfl o⟩)
  · replace H := if_f (bf c2) H
    refine at_seq ?_
    refine at_region [0, 1, 2, 3, 4, 5, 6, 7] rfl ?_
    refine at_s T rfl ?_
    refine at_v rfl (g_load T rfl rfl rfl rfl (in_var (j := 1) rfl rfl)) ?_
    refine at_s T rfl ?_
    refine at_v rfl (g_load T rfl rfl rfl rfl (in_var (j := 1) rfl rfl)) ?_
    refine at_s T rfl ?_
    obtain ⟨v2, V3, H⟩ := bind_e H
    refine at_cons (at_c (B := fun _ => []) [] rfl rfl rfl rfl has31 rfl rfl (where_Sector.c m.W m.H goal v2 _ V3) (fun _ => ?_))
    iterate 2 refine at_s T rfl ?_
    refine at_end ?_
    refine at_sub [(1, (.int .i64 goal)), (2, (.pointer (some ⟨b1, 0, none⟩))), (11, (.bool (decide (v2 < 0))))] ⟨rfl, rfl, rfl, trivial⟩ ?_
    refine at_then ?_
    refine at_cond rfl (fun c4 => ?_) (fun c4 => ?_)
    · replace H := if_t (of_decide_eq_true c4) H
      refine at_seq ?_
      refine at_region [0, 1] rfl ?_
      iterate 2 refine at_s T rfl ?_
      refine at_end ?_
      refine at_to [(4, (.pointer none)), (5, (.int .i64 7))] [0] [F] ⟨rfl, rfl, trivial⟩ rfl ?_
      refine at_then ?_
      refine at_ret ?_
      refine at_rb ?_
      refine at_rt ?_
      obtain rfl := Option.some.inj H
      exact at_post (T := T) rfl (.tmp rfl (.tmp rfl .nil)) (fun w o => ⟨⟨(_, _), ⟨_, _, ⟨rfl, rfl⟩, rfl, rfl⟩⟩, rfl, own_to [0] rfl o⟩)
    · replace H := if_f (of_decide_eq_false c4) H
      refine at_skip ?_
      refine at_nb ?_
      refine at_then ?_
      refine at_seq ?_
      refine at_region_m [[], [], [], [2], [2, 3], [1, 2, 3, 4], [0, 1, 2, 3, 4, 5], [0, 1, 2, 3, 4, 5, 6], [0, 1, 2, 3, 4, 5, 6, 7]] [] [F, [(b1, Obj.cells #[(.int .i64 m.W), (.int .i64 m.H), (.slice a_m_C (List.length m.C) n_m_C)] 24 (0, 0))]] mix (by kernel_rfl) (by repeat first | exact pf_body | refine pf_then ?_ | refine pf_block ?_) (fun hg pf => ?_)
      refine atm_v 0 hg pf (by kernel_rfl) (still_o [0, 0] rfl) rfl rfl (g_loadA T (cs := [(.int .i64 m.W), (.int .i64 m.H), (.slice a_m_C (List.length m.C) n_m_C)]) rfl rfl rfl rfl rfl rfl (in_varA (j := 1) rfl rfl)) ?_
      refine atm_s T 2 hg pf (by kernel_rfl) (still_o [0, 0] rfl) rfl ?_
      refine atm_v 3 hg pf (by kernel_rfl) (still_o [0, 0] rfl) rfl rfl (g_load T rfl rfl rfl rfl (in_var (j := 1) rfl rfl)) ?_
      refine atm_s T 4 hg pf (by kernel_rfl) (still_o [0, 0] rfl) rfl ?_
      refine atm_one 1 (by kernel_rfl) ?_
      refine at_bs (k := (Fl.int .i64)) T [1099511627776] rfl rfl rfl rfl rfl rfl rfl rfl rfl (fun a2 H2 s2 => ?_)
      refine atm_next (still_o [0, 0] rfl) ?_
      refine atm_one 5 (by kernel_rfl) ?_
      obtain ⟨v3, V5, H⟩ := bind_e H
      refine at_cR (slices_Repeat_int_int.R v3) [] [] rfl rfl rfl rfl has83 rfl rfl (slices_Repeat_int_int.c [1099511627776] (List.length m.C : Int) v3 _ V5 (own_of s2 (j := 2) rfl) s2.cap_le) ?_
      rintro _ _ ⟨a3, n3, H3, s3, rfl, rfl⟩
      refine atm_next (still_o [0, 0] rfl) ?_
      refine atm_s T 6 hg pf (by kernel_rfl) (still_o [0, 0] rfl) rfl ?_
      refine atm_one 7 (by kernel_rfl) ?_
      refine at_bx T [(.int .i64 m.W), (.int .i64 m.H), (.slice a_m_C (List.length m.C) n_m_C), (.slice a3 (List.length v3) n3)] rfl rfl rfl rfl (fun b4 => ?_)
      refine atm_next (still_o [0, 0] rfl) ?_
      refine atm_s T 8 hg pf (by kernel_rfl) (still_o [0, 0] rfl) rfl ?_
      refine atm_end (by kernel_rfl) ?_
      refine at_to [(1, (.int .i64 goal)), (2, (.pointer (some ⟨b1, 0, none⟩))), (6, (.pointer (some ⟨b4, 0, none⟩)))] [0, 0, 1, 1] [F, [(b1, Obj.cells #[(.int .i64 m.W), (.int .i64 m.H), (.slice a_m_C (List.length m.C) n_m_C)] 24 (0, 0))], H3, [(b4, Obj.cells #[(.int .i64 m.W), (.int .i64 m.H), (.slice a_m_C (List.length m.C) n_m_C), (.slice a3 (List.length v3) n3)] 96 (0, 0))]] ⟨rfl, rfl, rfl, trivial⟩ rfl ?_
      refine at_then ?_
      refine at_seq ?_
      refine at_seq ?_
      refine at_region [0, 1, 2, 3, 4, 5] rfl ?_
      refine at_s T rfl ?_
      refine at_v rfl (g_load T rfl rfl rfl rfl (in_var (j := 1) rfl rfl)) ?_
      refine at_s T rfl ?_
      obtain ⟨c6, H⟩ := chk_e H
      obtain ⟨q5, o5, e5⟩ := h_m_C.addr c6.1 c6.2
      refine at_v rfl (g_index T rfl rfl rfl rfl rfl e5 c6.1 c6.2) ?_
      refine at_v rfl (g_load T rfl rfl rfl rfl (in_elem1 (k := (Fl.int .u8)) (ro_of h_m_C (j := 0) rfl) e5 c6 0 rfl)) ?_
      refine at_s T rfl ?_
      refine at_end ?_
      refine at_to [(1, (.int .i64 goal)), (6, (.pointer (some ⟨b4, 0, none⟩))), (32, (.bool ((rd m.C goal) != 255)))] [0, 1, 1] [F, H3, [(b4, Obj.cells #[(.int .i64 m.W), (.int .i64 m.H), (.slice a_m_C (List.length m.C) n_m_C), (.slice a3 (List.length v3) n3)] 96 (0, 0))]] ⟨rfl, rfl, rfl, trivial⟩ rfl ?_
      refine at_then ?_
      refine at_cond rfl (fun c7 => ?_) (fun c7 => ?_)
      · replace H := if_t c7 H
        refine at_region [0, 1, 2] rfl ?_
        iterate 2 refine at_s T rfl ?_
        obtain ⟨v4, V8, H⟩ := bind_e H
        refine at_cons (at_cR (As := [[(b4, Obj.cells #[(.int .i64 m.W), (.int .i64 m.H), (.slice a_m_C (List.length m.C) n_m_C), (.slice a3 (List.length v3) n3)] 96 (0, 0))], H3]) (R := [F]) (flat_plain_spread.R b4 (.slice a_m_C (List.length m.C) n_m_C) v4) [] [2, 1] rfl rfl rfl rfl has84 rfl rfl (flat_plain_spread.c (flat_plain.mk m v3) goal v4 _ V8 (ro_of h_m_C (j := 0) rfl) c_m_C s3) ?_)
        rintro _ _ ⟨a6, n6, H6, s6, rfl, rfl⟩
        refine at_end ?_
        refine at_sub [(6, (.pointer (some ⟨b4, 0, none⟩)))] ⟨rfl, trivial⟩ ?_
        refine at_then ?_
        refine at_seq ?_
        refine at_region [0, 1, 2] rfl ?_
        iterate 3 refine at_s T rfl ?_
        refine at_end ?_
        refine at_sub [(4, (.pointer (some ⟨b4, 0, none⟩))), (5, (.int .i64 0))] ⟨rfl, rfl, trivial⟩ ?_
        refine at_then ?_
        refine at_ret ?_
        obtain rfl := Option.some.inj H
        exact at_post (T := T) rfl (.tmp rfl (.tmp rfl .nil)) (fun w o => ⟨⟨(_, _), ⟨_, _, ⟨b4, a6, n6, H6, s6, rfl, rfl⟩, rfl, rfl⟩⟩, rfl, own_to [1, 1, 0] rfl o⟩)
      · replace H := if_f (bf c7) H
        refine at_skip ?_
        refine at_then ?_
        refine at_seq ?_
        refine at_region [0, 1, 2] rfl ?_
        iterate 3 refine at_s T rfl ?_
        refine at_end ?_
        refine at_sub [(4, (.pointer (some ⟨b4, 0, none⟩))), (5, (.int .i64 0))] ⟨rfl, rfl, trivial⟩ ?_
        refine at_then ?_
        refine at_ret ?_
        obtain rfl := Option.some.inj H
        exact at_post (T := T) rfl (.tmp rfl (.tmp rfl .nil)) (fun w o => ⟨⟨(_, _), ⟨_, _, ⟨b4, a3, n3, H3, s3, rfl, rfl⟩, rfl, rfl⟩⟩, rfl, own_to [2, 1, 0] rfl o⟩)

/-! ### (*herdsman/flat.plain).by: function 85 -/
def flat_plain_by.f (p : flat_plain) (cell : Int) (side : Int) : Option Bool := (flat_plain_beside.f p cell side).bind fun v1 => (if v1 ≥ 0 then (if (0 ≤ v1 ∧ v1 < (List.length p.Map.C : Int)) then (if ((rd p.Map.C v1) != 255) = true then (if (0 ≤ v1 ∧ v1 < (List.length p.dist : Int)) then (if (0 ≤ cell ∧ cell < (List.length p.dist : Int)) then (some ((w64 ((w64 (rd p.Map.C v1)) + (rd p.dist v1))) == (rd p.dist cell))) else none) else none) else (some false)) else none) else (some false)).bind fun x2 => some x2
set_option maxHeartbeats 4000000 in
theorem flat_plain_by.c {b_p : Nat} {a_p_Map_C : Option Addr} {n_p_Map_C : Nat} {a_p_dist : Option Addr} {n_p_dist : Nat} (p : flat_plain) (cell : Int) (side : Int) (r : Bool) (F : Hp) (H : flat_plain_by.f p cell side = some r) (m_p : (b_p, Obj.cells #[(.int .i64 p.Map.W), (.int .i64 p.Map.H), (.slice a_p_Map_C (List.length p.Map.C) n_p_Map_C), (.slice a_p_dist (List.length p.dist) n_p_dist)] 96 (0, 0)) ∈ F) (h_p_Map_C : SliceR (Fl.int .u8) p.Map.C a_p_Map_C F) (c_p_Map_C : List.length p.Map.C ≤ n_p_Map_C) (h_p_dist : SliceR (Fl.int .i64) p.dist a_p_dist F) (c_p_dist : List.length p.dist ≤ n_p_dist) :
    CallsL Try.prog 85 [(.pointer (some ⟨b_p, 0, none⟩)), (.int .i64 cell), (.int .i64 side)] [F] (fun _ : Unit => (.bool r)) (fun _ => [F]) := by
  unfold flat_plain_by.f at H
  refine calls_atL [(0, (.pointer (some ⟨b_p, 0, none⟩))), (1, (.int .i64 cell)), (2, (.int .i64 side))] Try.func85 rfl rfl ⟨rfl, rfl, rfl, trivial⟩ (fun W => ?_)
  refine at_seq ?_
  refine at_region [0] rfl ?_
  refine at_s T rfl ?_
  refine at_end ?_
  refine at_sub [(0, (.pointer (some ⟨b_p, 0, none⟩))), (1, (.int .i64 cell)), (2, (.int .i64 side))] ⟨rfl, rfl, rfl, trivial⟩ ?_
  refine at_then ?_
  refine at_seq ?_
  refine at_region [0, 1, 2, 3, 4] rfl ?_
  iterate 3 refine at_s T rfl ?_
  obtain ⟨v1, V1, H⟩ := bind_e H
  refine at_cons (at_c (B := fun _ => []) [] rfl rfl rfl rfl has89 rfl rfl (flat_plain_beside.c p cell side v1 _ V1 (mem_ro m_p (j := 0) rfl) (ro_of h_p_Map_C (j := 0) rfl) c_p_Map_C (ro_of h_p_dist (j := 0) rfl) c_p_dist) (fun _ => ?_))
  refine at_s T rfl ?_
  refine at_end ?_
  refine at_sub [(0, (.pointer (some ⟨b_p, 0, none⟩))), (1, (.int .i64 cell)), (7, (.int .i64 v1))] ⟨rfl, rfl, rfl, trivial⟩ ?_
  refine at_then ?_
  obtain ⟨z3, Z2, H⟩ := bind_e H
  refine at_seq_mid (σ := Bool) (fun x2 => x2 = z3) (fun x2 => [(6, (.bool x2))]) (fun x2 => [F]) ?_ ?_
  · refine at_region_q mix (by kernel_rfl) ?_
    iterate 3 refine atq_s T rfl ?_
    refine atq_case (s := 14) rfl (fun c3 => ?_) (fun c3 => ?_)
    · replace Z2 := if_t (of_decide_eq_true c3) Z2
      iterate 4 refine atq_s T rfl ?_
      refine atq_v rfl rfl rfl (g_load T rfl rfl rfl rfl (in_ro (j := 0) m_p rfl rfl)) ?_
      refine atq_s T rfl ?_
      obtain ⟨c4, Z2⟩ := chk_e Z2
      obtain ⟨q1, o1, e1⟩ := h_p_Map_C.addr c4.1 c4.2
      refine atq_v rfl rfl rfl (g_index T rfl rfl rfl rfl rfl e1 c4.1 c4.2) ?_
      refine atq_v rfl rfl rfl (g_load T rfl rfl rfl rfl (in_elem1 (k := (Fl.int .u8)) (ro_of h_p_Map_C (j := 0) rfl) e1 c4 0 rfl)) ?_
      iterate 3 refine atq_s T rfl ?_
      refine atq_case (s := 25) rfl (fun c5 => ?_) (fun c5 => ?_)
      · replace Z2 := if_t c5 Z2
        iterate 4 refine atq_s T rfl ?_
        refine atq_v rfl rfl rfl (g_load T rfl rfl rfl rfl (in_ro (j := 0) m_p rfl rfl)) ?_
        refine atq_s T rfl ?_
        refine atq_v rfl rfl rfl (g_index T rfl rfl rfl rfl rfl e1 c4.1 c4.2) ?_
        refine atq_v rfl rfl rfl (g_load T rfl rfl rfl rfl (in_elem1 (k := (Fl.int .u8)) (ro_of h_p_Map_C (j := 0) rfl) e1 c4 0 rfl)) ?_
        iterate 4 refine atq_s T rfl ?_
        refine atq_v rfl rfl rfl (g_load T rfl rfl rfl rfl (in_ro (j := 0) m_p rfl rfl)) ?_
        refine atq_s T rfl ?_
        obtain ⟨c6, Z2⟩ := chk_e Z2
        obtain ⟨q2, o2, e2⟩ := h_p_dist.addr c6.1 c6.2
        refine atq_v rfl rfl rfl (g_index T rfl rfl rfl rfl rfl e2 c6.1 c6.2) ?_
        refine atq_v rfl rfl rfl (g_load T rfl rfl rfl rfl (in_elem1 (k := (Fl.int .i64)) (ro_of h_p_dist (j := 0) rfl) e2 c6 0 rfl)) ?_
        iterate 4 refine atq_s T rfl ?_
        refine atq_v rfl rfl rfl (g_load T rfl rfl rfl rfl (in_ro (j := 0) m_p rfl rfl)) ?_
        refine atq_s T rfl ?_
        obtain ⟨c7, Z2⟩ := chk_e Z2
        refine atq_v rfl rfl rfl (g_index T rfl rfl rfl rfl rfl e2 c7.1 c7.2) ?_
        refine atq_v rfl rfl rfl (g_load T rfl rfl rfl rfl (in_elem1 (k := (Fl.int .i64)) (ro_of h_p_dist (j := 0) rfl) e2 c7 0 rfl)) ?_
        iterate 3 refine atq_s T rfl ?_
        refine atq_end ?_
        refine at_sub [(6, (.bool ((w64 ((w64 (rd p.Map.C v1)) + (rd p.dist v1))) == (rd p.dist cell))))] ⟨rfl, trivial⟩ ?_
        refine at_then ?_
        obtain rfl := Option.some.inj Z2
        exact at_mid ((w64 ((w64 (rd p.Map.C v1)) + (rd p.dist v1))) == (rd p.dist cell)) [0] rfl ⟨rfl, trivial⟩ rfl
      · replace Z2 := if_f (bf c5) Z2
        iterate 27 refine atq_s T rfl ?_
        refine atq_end ?_
        refine at_sub [(6, (.bool false))] ⟨rfl, trivial⟩ ?_
        refine at_then ?_
        obtain rfl := Option.some.inj Z2
        exact at_mid false [0] rfl ⟨rfl, trivial⟩ rfl
    · replace Z2 := if_f (of_decide_eq_false c3) Z2
      iterate 38 refine atq_s T rfl ?_
      refine atq_end ?_
      refine at_sub [(6, (.bool false))] ⟨rfl, trivial⟩ ?_
      refine at_then ?_
      obtain rfl := Option.some.inj Z2
      exact at_mid false [0] rfl ⟨rfl, trivial⟩ rfl
  · rintro x2 rfl
    refine at_ret ?_
    obtain rfl := Option.some.inj H
    exact at_post (T := T) rfl (.tmp rfl .nil) (fun w o => ⟨(), rfl, own_to [0] rfl o⟩)

/-! ### (*herdsman/flat.plain).dir: function 74 -/
def flat_plain_dir.f (p : flat_plain) (cell : Int) : Option Int := if (0 ≤ cell ∧ cell < (List.length p.dist : Int)) then (if ((rd p.dist cell) == 1099511627776) = true then (some 5) else (if ((rd p.dist cell) == 0) = true then (some 4) else (if ((0 : Int) == 0) = true then ((flat_plain_by.f p cell 0).bind fun v1 => if v1 = true then (some 0) else ((flat_plain_by.f p cell 1).bind fun v2 => if v2 = true then (some 1) else ((flat_plain_by.f p cell 2).bind fun v3 => if v3 = true then (some 2) else (some 3)))) else (if ((0 : Int) == 1) = true then ((flat_plain_by.f p cell 1).bind fun v4 => if v4 = true then (some 1) else ((flat_plain_by.f p cell 2).bind fun v5 => if v5 = true then (some 2) else (some 3))) else (if ((0 : Int) == 2) = true then ((flat_plain_by.f p cell 2).bind fun v6 => if v6 = true then (some 2) else (some 3)) else (some 3)))))) else none
set_option maxHeartbeats 4000000 in
theorem flat_plain_dir.c {b_p : Nat} {a_p_Map_C : Option Addr} {n_p_Map_C : Nat} {a_p_dist : Option Addr} {n_p_dist : Nat} (p : flat_plain) (cell : Int) (r : Int) (F : Hp) (H : flat_plain_dir.f p cell = some r) (m_p : (b_p, Obj.cells #[(.int .i64 p.Map.W), (.int .i64 p.Map.H), (.slice a_p_Map_C (List.length p.Map.C) n_p_Map_C), (.slice a_p_dist (List.length p.dist) n_p_dist)] 96 (0, 0)) ∈ F) (h_p_Map_C : SliceR (Fl.int .u8) p.Map.C a_p_Map_C F) (c_p_Map_C : List.length p.Map.C ≤ n_p_Map_C) (h_p_dist : SliceR (Fl.int .i64) p.dist a_p_dist F) (c_p_dist : List.length p.dist ≤ n_p_dist) :
    CallsL Try.prog 74 [(.pointer (some ⟨b_p, 0, none⟩)), (.int .i64 cell)] [F] (fun _ : Unit => (.int .i64 r)) (fun _ => [F]) := by
  unfold flat_plain_dir.f at H
  refine calls_atL [(0, (.pointer (some ⟨b_p, 0, none⟩))), (1, (.int .i64 cell))] Try.func74 rfl rfl ⟨rfl, rfl, trivial⟩ (fun W => ?_)
  refine at_seq ?_
  refine at_region [0] rfl ?_
  refine at_s T rfl ?_
  refine at_end ?_
  refine at_sub [(0, (.pointer (some ⟨b_p, 0, none⟩))), (1, (.int .i64 cell))] ⟨rfl, rfl, trivial⟩ ?_
  refine at_then ?_
  refine at_seq ?_
  refine at_seq ?_
  refine at_region [0, 1, 2, 3, 4, 5, 6] rfl ?_
  iterate 3 refine at_s T rfl ?_
  refine at_v rfl (g_load T rfl rfl rfl rfl (in_ro (j := 0) m_p rfl rfl)) ?_
  refine at_s T rfl ?_
  obtain ⟨c1, H⟩ := chk_e H
  obtain ⟨q1, o1, e1⟩ := h_p_dist.addr c1.1 c1.2
  refine at_v rfl (g_index T rfl rfl rfl rfl rfl e1 c1.1 c1.2) ?_
  refine at_v rfl (g_load T rfl rfl rfl rfl (in_elem1 (k := (Fl.int .i64)) (ro_of h_p_dist (j := 0) rfl) e1 c1 0 rfl)) ?_
  refine at_end ?_
  refine at_sub [(0, (.pointer (some ⟨b_p, 0, none⟩))), (1, (.int .i64 cell)), (11, (.int .i64 (rd p.dist cell)))] ⟨rfl, rfl, rfl, trivial⟩ ?_
  refine at_then ?_
  refine at_block ?_
  refine at_seq ?_
  refine at_region [0, 1] rfl ?_
  iterate 2 refine at_s T rfl ?_
  refine at_end ?_
  refine at_sub [(0, (.pointer (some ⟨b_p, 0, none⟩))), (1, (.int .i64 cell)), (11, (.int .i64 (rd p.dist cell))), (12, (.bool ((rd p.dist cell) == 1099511627776)))] ⟨rfl, rfl, rfl, rfl, trivial⟩ ?_
  refine at_then ?_
  refine at_cond rfl (fun c2 => ?_) (fun c2 => ?_)
  · replace H := if_t c2 H
    refine at_seq ?_
    refine at_region [0] rfl ?_
    refine at_s T rfl ?_
    refine at_end ?_
    refine at_sub [(4, (.int .i64 5))] ⟨rfl, trivial⟩ ?_
    refine at_then ?_
    refine at_ret ?_
    refine at_rb ?_
    refine at_rt ?_
    obtain rfl := Option.some.inj H
    exact at_post (T := T) rfl (.tmp rfl .nil) (fun w o => ⟨(), rfl, own_to [0] rfl o⟩)
  · replace H := if_f (bf c2) H
    refine at_seq ?_
    refine at_region [0, 1] rfl ?_
    iterate 2 refine at_s T rfl ?_
    refine at_end ?_
    refine at_sub [(0, (.pointer (some ⟨b_p, 0, none⟩))), (1, (.int .i64 cell)), (14, (.bool ((rd p.dist cell) == 0)))] ⟨rfl, rfl, rfl, trivial⟩ ?_
    refine at_then ?_
    refine at_cond rfl (fun c3 => ?_) (fun c3 => ?_)
    · replace H := if_t c3 H
      refine at_seq ?_
      refine at_region [0] rfl ?_
      refine at_s T rfl ?_
      refine at_end ?_
      refine at_sub [(4, (.int .i64 4))] ⟨rfl, trivial⟩ ?_
      refine at_then ?_
      refine at_ret ?_
      refine at_rb ?_
      refine at_rt ?_
      obtain rfl := Option.some.inj H
      exact at_post (T := T) rfl (.tmp rfl .nil) (fun w o => ⟨(), rfl, own_to [0] rfl o⟩)
    · replace H := if_f (bf c3) H
      refine at_skip ?_
      refine at_nb ?_
      refine at_then ?_
      refine at_seq ?_
      refine at_block ?_
      refine at_seq ?_
      refine at_block ?_
      refine at_seq ?_
      refine at_block ?_
      refine at_seq ?_
      refine at_block ?_
      refine at_seq ?_
      refine at_seq ?_
      refine at_seq ?_
      refine at_region [0, 1] rfl ?_
      iterate 2 refine at_s T rfl ?_
      refine at_end ?_
      refine at_sub [(0, (.pointer (some ⟨b_p, 0, none⟩))), (1, (.int .i64 cell)), (16, (.bool ((0 : Int) == 0)))] ⟨rfl, rfl, rfl, trivial⟩ ?_
      refine at_then ?_
      refine at_cond rfl (fun c4 => ?_) (fun c4 => ?_)
      · replace H := if_t c4 H
        refine at_exit ?_
        refine at_xt ?_
        refine at_xt ?_
        refine at_xb ?_
        refine at_then ?_
        refine at_seq ?_
        refine at_region [0, 1, 2] rfl ?_
        iterate 2 refine at_s T rfl ?_
        obtain ⟨v1, V5, H⟩ := bind_e H
        refine at_cons (at_c (B := fun _ => []) [] rfl rfl rfl rfl has85 rfl rfl (flat_plain_by.c p cell 0 v1 _ V5 (mem_ro m_p (j := 0) rfl) (ro_of h_p_Map_C (j := 0) rfl) c_p_Map_C (ro_of h_p_dist (j := 0) rfl) c_p_dist) (fun _ => ?_))
        refine at_end ?_
        refine at_sub [(0, (.pointer (some ⟨b_p, 0, none⟩))), (1, (.int .i64 cell)), (24, (.bool v1))] ⟨rfl, rfl, rfl, trivial⟩ ?_
        refine at_then ?_
        refine at_cond rfl (fun c6 => ?_) (fun c6 => ?_)
        · replace H := if_t c6 H
          refine at_seq ?_
          refine at_region [0] rfl ?_
          refine at_s T rfl ?_
          refine at_end ?_
          refine at_sub [(4, (.int .i64 0))] ⟨rfl, trivial⟩ ?_
          refine at_then ?_
          refine at_ret ?_
          refine at_rb ?_
          refine at_rt ?_
          refine at_rb ?_
          refine at_rt ?_
          refine at_rb ?_
          refine at_rt ?_
          obtain rfl := Option.some.inj H
          exact at_post (T := T) rfl (.tmp rfl .nil) (fun w o => ⟨(), rfl, own_to [0] rfl o⟩)
        · replace H := if_f (bf c6) H
          refine at_skip ?_
          refine at_nb ?_
          refine at_then ?_
          refine at_seq ?_
          refine at_region [0, 1, 2] rfl ?_
          iterate 2 refine at_s T rfl ?_
          obtain ⟨v2, V7, H⟩ := bind_e H
          refine at_cons (at_c (B := fun _ => []) [] rfl rfl rfl rfl has85 rfl rfl (flat_plain_by.c p cell 1 v2 _ V7 (mem_ro m_p (j := 0) rfl) (ro_of h_p_Map_C (j := 0) rfl) c_p_Map_C (ro_of h_p_dist (j := 0) rfl) c_p_dist) (fun _ => ?_))
          refine at_end ?_
          refine at_sub [(0, (.pointer (some ⟨b_p, 0, none⟩))), (1, (.int .i64 cell)), (27, (.bool v2))] ⟨rfl, rfl, rfl, trivial⟩ ?_
          refine at_then ?_
          refine at_cond rfl (fun c8 => ?_) (fun c8 => ?_)
          · replace H := if_t c8 H
            refine at_seq ?_
            refine at_region [0] rfl ?_
            refine at_s T rfl ?_
            refine at_end ?_
            refine at_sub [(4, (.int .i64 1))] ⟨rfl, trivial⟩ ?_
            refine at_then ?_
            refine at_ret ?_
            refine at_rb ?_
            refine at_rt ?_
            refine at_rb ?_
            refine at_rt ?_
            obtain rfl := Option.some.inj H
            exact at_post (T := T) rfl (.tmp rfl .nil) (fun w o => ⟨(), rfl, own_to [0] rfl o⟩)
          · replace H := if_f (bf c8) H
            refine at_skip ?_
            refine at_nb ?_
            refine at_then ?_
            refine at_seq ?_
            refine at_seq ?_
            refine at_region [0, 1, 2] rfl ?_
            iterate 2 refine at_s T rfl ?_
            obtain ⟨v3, V9, H⟩ := bind_e H
            refine at_cons (at_c (B := fun _ => []) [] rfl rfl rfl rfl has85 rfl rfl (flat_plain_by.c p cell 2 v3 _ V9 (mem_ro m_p (j := 0) rfl) (ro_of h_p_Map_C (j := 0) rfl) c_p_Map_C (ro_of h_p_dist (j := 0) rfl) c_p_dist) (fun _ => ?_))
            refine at_end ?_
            refine at_sub [(30, (.bool v3))] ⟨rfl, trivial⟩ ?_
            refine at_then ?_
            refine at_cond rfl (fun c10 => ?_) (fun c10 => ?_)
            · replace H := if_t c10 H
              refine at_seq ?_
              refine at_region [0] rfl ?_
              refine at_s T rfl ?_
              refine at_end ?_
              refine at_sub [(4, (.int .i64 2))] ⟨rfl, trivial⟩ ?_
              refine at_then ?_
              refine at_ret ?_
              refine at_rt ?_
              refine at_rb ?_
              refine at_rt ?_
              obtain rfl := Option.some.inj H
              exact at_post (T := T) rfl (.tmp rfl .nil) (fun w o => ⟨(), rfl, own_to [0] rfl o⟩)
            · replace H := if_f (bf c10) H
              refine at_skip ?_
              refine at_then ?_
              refine at_exit ?_
              refine at_xb ?_
              refine at_then ?_
              refine at_seq ?_
              refine at_region [0] rfl ?_
              refine at_s T rfl ?_
              refine at_end ?_
              refine at_sub [(4, (.int .i64 3))] ⟨rfl, trivial⟩ ?_
              refine at_then ?_
              refine at_ret ?_
              obtain rfl := Option.some.inj H
              exact at_post (T := T) rfl (.tmp rfl .nil) (fun w o => ⟨(), rfl, own_to [0] rfl o⟩)
      · replace H := if_f (bf c4) H
        refine at_skip ?_
        refine at_then ?_
        refine at_seq ?_
        refine at_seq ?_
        refine at_region [0, 1] rfl ?_
        iterate 2 refine at_s T rfl ?_
        refine at_end ?_
        refine at_sub [(0, (.pointer (some ⟨b_p, 0, none⟩))), (1, (.int .i64 cell)), (18, (.bool ((0 : Int) == 1)))] ⟨rfl, rfl, rfl, trivial⟩ ?_
        refine at_then ?_
        refine at_cond rfl (fun c11 => ?_) (fun c11 => ?_)
        · replace H := if_t c11 H
          refine at_exit ?_
          refine at_xt ?_
          refine at_xt ?_
          refine at_xn rfl ?_
          refine at_xt ?_
          refine at_xb ?_
          refine at_then ?_
          refine at_seq ?_
          refine at_region [0, 1, 2] rfl ?_
          iterate 2 refine at_s T rfl ?_
          obtain ⟨v4, V12, H⟩ := bind_e H
          refine at_cons (at_c (B := fun _ => []) [] rfl rfl rfl rfl has85 rfl rfl (flat_plain_by.c p cell 1 v4 _ V12 (mem_ro m_p (j := 0) rfl) (ro_of h_p_Map_C (j := 0) rfl) c_p_Map_C (ro_of h_p_dist (j := 0) rfl) c_p_dist) (fun _ => ?_))
          refine at_end ?_
          refine at_sub [(0, (.pointer (some ⟨b_p, 0, none⟩))), (1, (.int .i64 cell)), (27, (.bool v4))] ⟨rfl, rfl, rfl, trivial⟩ ?_
          refine at_then ?_
          refine at_cond rfl (fun c13 => ?_) (fun c13 => ?_)
          · replace H := if_t c13 H
            refine at_seq ?_
            refine at_region [0] rfl ?_
            refine at_s T rfl ?_
            refine at_end ?_
            refine at_sub [(4, (.int .i64 1))] ⟨rfl, trivial⟩ ?_
            refine at_then ?_
            refine at_ret ?_
            refine at_rb ?_
            refine at_rt ?_
            refine at_rb ?_
            refine at_rt ?_
            obtain rfl := Option.some.inj H
            exact at_post (T := T) rfl (.tmp rfl .nil) (fun w o => ⟨(), rfl, own_to [0] rfl o⟩)
          · replace H := if_f (bf c13) H
            refine at_skip ?_
            refine at_nb ?_
            refine at_then ?_
            refine at_seq ?_
            refine at_seq ?_
            refine at_region [0, 1, 2] rfl ?_
            iterate 2 refine at_s T rfl ?_
            obtain ⟨v5, V14, H⟩ := bind_e H
            refine at_cons (at_c (B := fun _ => []) [] rfl rfl rfl rfl has85 rfl rfl (flat_plain_by.c p cell 2 v5 _ V14 (mem_ro m_p (j := 0) rfl) (ro_of h_p_Map_C (j := 0) rfl) c_p_Map_C (ro_of h_p_dist (j := 0) rfl) c_p_dist) (fun _ => ?_))
            refine at_end ?_
            refine at_sub [(30, (.bool v5))] ⟨rfl, trivial⟩ ?_
            refine at_then ?_
            refine at_cond rfl (fun c15 => ?_) (fun c15 => ?_)
            · replace H := if_t c15 H
              refine at_seq ?_
              refine at_region [0] rfl ?_
              refine at_s T rfl ?_
              refine at_end ?_
              refine at_sub [(4, (.int .i64 2))] ⟨rfl, trivial⟩ ?_
              refine at_then ?_
              refine at_ret ?_
              refine at_rt ?_
              refine at_rb ?_
              refine at_rt ?_
              obtain rfl := Option.some.inj H
              exact at_post (T := T) rfl (.tmp rfl .nil) (fun w o => ⟨(), rfl, own_to [0] rfl o⟩)
            · replace H := if_f (bf c15) H
              refine at_skip ?_
              refine at_then ?_
              refine at_exit ?_
              refine at_xb ?_
              refine at_then ?_
              refine at_seq ?_
              refine at_region [0] rfl ?_
              refine at_s T rfl ?_
              refine at_end ?_
              refine at_sub [(4, (.int .i64 3))] ⟨rfl, trivial⟩ ?_
              refine at_then ?_
              refine at_ret ?_
              obtain rfl := Option.some.inj H
              exact at_post (T := T) rfl (.tmp rfl .nil) (fun w o => ⟨(), rfl, own_to [0] rfl o⟩)
        · replace H := if_f (bf c11) H
          refine at_skip ?_
          refine at_then ?_
          refine at_seq ?_
          refine at_region [0, 1] rfl ?_
          iterate 2 refine at_s T rfl ?_
          refine at_end ?_
          refine at_sub [(0, (.pointer (some ⟨b_p, 0, none⟩))), (1, (.int .i64 cell)), (20, (.bool ((0 : Int) == 2)))] ⟨rfl, rfl, rfl, trivial⟩ ?_
          refine at_then ?_
          refine at_cond rfl (fun c16 => ?_) (fun c16 => ?_)
          · replace H := if_t c16 H
            refine at_exit ?_
            refine at_xt ?_
            refine at_xn rfl ?_
            refine at_xt ?_
            refine at_xn rfl ?_
            refine at_xt ?_
            refine at_xb ?_
            refine at_then ?_
            refine at_seq ?_
            refine at_seq ?_
            refine at_region [0, 1, 2] rfl ?_
            iterate 2 refine at_s T rfl ?_
            obtain ⟨v6, V17, H⟩ := bind_e H
            refine at_cons (at_c (B := fun _ => []) [] rfl rfl rfl rfl has85 rfl rfl (flat_plain_by.c p cell 2 v6 _ V17 (mem_ro m_p (j := 0) rfl) (ro_of h_p_Map_C (j := 0) rfl) c_p_Map_C (ro_of h_p_dist (j := 0) rfl) c_p_dist) (fun _ => ?_))
            refine at_end ?_
            refine at_sub [(30, (.bool v6))] ⟨rfl, trivial⟩ ?_
            refine at_then ?_
            refine at_cond rfl (fun c18 => ?_) (fun c18 => ?_)
            · replace H := if_t c18 H
              refine at_seq ?_
              refine at_region [0] rfl ?_
              refine at_s T rfl ?_
              refine at_end ?_
              refine at_sub [(4, (.int .i64 2))] ⟨rfl, trivial⟩ ?_
              refine at_then ?_
              refine at_ret ?_
              refine at_rt ?_
              refine at_rb ?_
              refine at_rt ?_
              obtain rfl := Option.some.inj H
              exact at_post (T := T) rfl (.tmp rfl .nil) (fun w o => ⟨(), rfl, own_to [0] rfl o⟩)
            · replace H := if_f (bf c18) H
              refine at_skip ?_
              refine at_then ?_
              refine at_exit ?_
              refine at_xb ?_
              refine at_then ?_
              refine at_seq ?_
              refine at_region [0] rfl ?_
              refine at_s T rfl ?_
              refine at_end ?_
              refine at_sub [(4, (.int .i64 3))] ⟨rfl, trivial⟩ ?_
              refine at_then ?_
              refine at_ret ?_
              obtain rfl := Option.some.inj H
              exact at_post (T := T) rfl (.tmp rfl .nil) (fun w o => ⟨(), rfl, own_to [0] rfl o⟩)
          · replace H := if_f (bf c16) H
            refine at_skip ?_
            refine at_then ?_
            refine at_exit ?_
            refine at_xn rfl ?_
            refine at_xt ?_
            refine at_xn rfl ?_
            refine at_xt ?_
            refine at_xn rfl ?_
            refine at_xt ?_
            refine at_xb ?_
            refine at_then ?_
            refine at_seq ?_
            refine at_region [0] rfl ?_
            refine at_s T rfl ?_
            refine at_end ?_
            refine at_sub [(4, (.int .i64 3))] ⟨rfl, trivial⟩ ?_
            refine at_then ?_
            refine at_ret ?_
            obtain rfl := Option.some.inj H
            exact at_post (T := T) rfl (.tmp rfl .nil) (fun w o => ⟨(), rfl, own_to [0] rfl o⟩)

/-! ### herdsman/flat.Query: function 41 -/
def flat_Query.f (m : api_Map) (goal : Int) (cell : Int) : Option (Int × Int × Int) := (flat_look.f m goal).bind fun v1 => optm v1.1 (if (v1.2 != 0) = true then (some (0, 0, v1.2)) else ((where_Sector.f m.W m.H cell).bind fun v2 => if v2 < 0 then (some (0, 0, 7)) else (none))) (fun yv1 => if (v1.2 != 0) = true then (some (0, 0, v1.2)) else ((where_Sector.f m.W m.H cell).bind fun v3 => if v3 < 0 then (some (0, 0, 7)) else (if (0 ≤ cell ∧ cell < (List.length yv1.dist : Int)) then ((flat_plain_dir.f (flat_plain.mk (api_Map.mk yv1.Map.W yv1.Map.H m.C) yv1.dist) cell).bind fun v4 => some ((rd yv1.dist cell), v4, 0)) else none)))
set_option maxHeartbeats 4000000 in
theorem flat_Query.c {a_m_C : Option Addr} {n_m_C : Nat} (m : api_Map) (goal : Int) (cell : Int) (r : (Int × Int × Int)) (F : Hp) (H : flat_Query.f m goal cell = some r) (h_m_C : SliceR (Fl.int .u8) m.C a_m_C F) (c_m_C : List.length m.C ≤ n_m_C) :
    CallsL Try.prog 41 [(.agg #[(.int .i64 m.W), (.int .i64 m.H), (.slice a_m_C (List.length m.C) n_m_C)]), (.int .i64 goal), (.int .i64 cell)] [F] (fun _ : Unit => (.tuple #[(.int .i64 r.1), (.int .i64 r.2.1), (.int .i64 r.2.2)])) (fun _ => [F]) := by
  unfold flat_Query.f at H
  refine calls_atL [(0, (.agg #[(.int .i64 m.W), (.int .i64 m.H), (.slice a_m_C (List.length m.C) n_m_C)])), (1, (.int .i64 goal)), (2, (.int .i64 cell))] Try.func41 rfl rfl ⟨rfl, rfl, rfl, trivial⟩ (fun W => ?_)
  refine at_seq ?_
  refine at_region [0, 1, 2, 3] rfl ?_
  refine at_cons (at_bx T [(.int .i64 m.W), (.int .i64 m.H), (.slice a_m_C (List.length m.C) n_m_C)] rfl rfl rfl rfl (fun b1 => ?_))
  iterate 3 refine at_s T rfl ?_
  refine at_end ?_
  refine at_sub [(1, (.int .i64 goal)), (2, (.int .i64 cell)), (3, (.pointer (some ⟨b1, 0, none⟩)))] ⟨rfl, rfl, rfl, trivial⟩ ?_
  refine at_then ?_
  refine at_seq ?_
  refine at_region [0, 1, 2, 3, 4, 5, 6, 7] rfl ?_
  refine at_v rfl (g_loadA T (cs := [(.int .i64 m.W), (.int .i64 m.H), (.slice a_m_C (List.length m.C) n_m_C)]) rfl rfl rfl rfl rfl rfl (in_varA (j := 1) rfl rfl)) ?_
  refine at_s T rfl ?_
  obtain ⟨v1, V1, H⟩ := bind_e H
  refine at_cons (at_cR (flat_look.R (.slice a_m_C (List.length m.C) n_m_C) v1) [] [] rfl rfl rfl rfl has73 rfl rfl (flat_look.c m goal v1 _ V1 (ro_of h_m_C (j := 0) rfl) c_m_C) ?_)
  rintro _ _ ⟨_, _, O2, rfl, rfl⟩
  rcases hxv1 : v1.1 with _ | yv1
  · replace H := optm_n hxv1 H
    rw [hxv1] at O2; obtain ⟨rfl, rfl⟩ := O2
    iterate 5 refine at_s T rfl ?_
    refine at_end ?_
    refine at_sub [(2, (.int .i64 cell)), (3, (.pointer (some ⟨b1, 0, none⟩))), (8, (.int .i64 v1.2)), (9, (.pointer none))] ⟨rfl, rfl, rfl, rfl, trivial⟩ ?_
    refine at_then ?_
    refine at_seq ?_
    refine at_block ?_
    refine at_seq ?_
    refine at_region [0, 1, 2] rfl ?_
    iterate 3 refine at_s T rfl ?_
    refine at_end ?_
    refine at_sub [(2, (.int .i64 cell)), (3, (.pointer (some ⟨b1, 0, none⟩))), (8, (.int .i64 v1.2)), (9, (.pointer none)), (16, (.bool (v1.2 != 0)))] ⟨rfl, rfl, rfl, rfl, rfl, trivial⟩ ?_
    refine at_then ?_
    refine at_cond rfl (fun c3 => ?_) (fun c3 => ?_)
    · replace H := if_t c3 H
      refine at_seq ?_
      refine at_region [0, 1, 2, 3] rfl ?_
      iterate 4 refine at_s T rfl ?_
      refine at_end ?_
      refine at_to [(6, (.int .i64 0)), (7, (.int .i64 0)), (8, (.int .i64 v1.2))] [0] [F] ⟨rfl, rfl, rfl, trivial⟩ rfl ?_
      refine at_then ?_
      refine at_ret ?_
      refine at_rb ?_
      refine at_rt ?_
      obtain rfl := Option.some.inj H
      exact at_post (T := T) rfl (.tmp rfl (.tmp rfl (.tmp rfl .nil))) (fun w o => ⟨(), rfl, own_to [0] rfl o⟩)
    · replace H := if_f (bf c3) H
      refine at_seq ?_
      refine at_region [0, 1, 2, 3, 4, 5, 6, 7] rfl ?_
      refine at_s T rfl ?_
      refine at_v rfl (g_load T rfl rfl rfl rfl (in_var (j := 1) rfl rfl)) ?_
      refine at_s T rfl ?_
      refine at_v rfl (g_load T rfl rfl rfl rfl (in_var (j := 1) rfl rfl)) ?_
      refine at_s T rfl ?_
      obtain ⟨v2, V4, H⟩ := bind_e H
      refine at_cons (at_c (B := fun _ => []) [] rfl rfl rfl rfl has31 rfl rfl (where_Sector.c m.W m.H cell v2 _ V4) (fun _ => ?_))
      iterate 2 refine at_s T rfl ?_
      refine at_end ?_
      refine at_to [(2, (.int .i64 cell)), (9, (.pointer none)), (20, (.bool (decide (v2 < 0))))] [0] [F] ⟨rfl, rfl, rfl, trivial⟩ rfl ?_
      refine at_then ?_
      refine at_cond rfl (fun c5 => ?_) (fun c5 => ?_)
      · replace H := if_t (of_decide_eq_true c5) H
        refine at_seq ?_
        refine at_region [0, 1, 2] rfl ?_
        iterate 3 refine at_s T rfl ?_
        refine at_end ?_
        refine at_sub [(6, (.int .i64 0)), (7, (.int .i64 0)), (8, (.int .i64 7))] ⟨rfl, rfl, rfl, trivial⟩ ?_
        refine at_then ?_
        refine at_ret ?_
        refine at_rb ?_
        refine at_rt ?_
        obtain rfl := Option.some.inj H
        exact at_post (T := T) rfl (.tmp rfl (.tmp rfl (.tmp rfl .nil))) (fun w o => ⟨(), rfl, own_to [0] rfl o⟩)
      · replace H := if_f (of_decide_eq_false c5) H
        refine at_skip ?_
        refine at_nb ?_
        refine at_then ?_
        refine at_seq ?_
        refine at_region_q mix (by kernel_rfl) ?_
        refine atq_s T rfl ?_
        cases H
  · replace H := optm_s hxv1 H
    rw [hxv1] at O2; obtain ⟨b2, a3, n3, H3, s3, rfl, rfl⟩ := O2
    iterate 5 refine at_s T rfl ?_
    refine at_end ?_
    refine at_sub [(2, (.int .i64 cell)), (3, (.pointer (some ⟨b1, 0, none⟩))), (8, (.int .i64 v1.2)), (9, (.pointer (some ⟨b2, 0, none⟩)))] ⟨rfl, rfl, rfl, rfl, trivial⟩ ?_
    refine at_then ?_
    refine at_seq ?_
    refine at_block ?_
    refine at_seq ?_
    refine at_region [0, 1, 2] rfl ?_
    iterate 3 refine at_s T rfl ?_
    refine at_end ?_
    refine at_sub [(2, (.int .i64 cell)), (3, (.pointer (some ⟨b1, 0, none⟩))), (8, (.int .i64 v1.2)), (9, (.pointer (some ⟨b2, 0, none⟩))), (16, (.bool (v1.2 != 0)))] ⟨rfl, rfl, rfl, rfl, rfl, trivial⟩ ?_
    refine at_then ?_
    refine at_cond rfl (fun c6 => ?_) (fun c6 => ?_)
    · replace H := if_t c6 H
      refine at_seq ?_
      refine at_region [0, 1, 2, 3] rfl ?_
      iterate 4 refine at_s T rfl ?_
      refine at_end ?_
      refine at_to [(6, (.int .i64 0)), (7, (.int .i64 0)), (8, (.int .i64 v1.2))] [0] [F] ⟨rfl, rfl, rfl, trivial⟩ rfl ?_
      refine at_then ?_
      refine at_ret ?_
      refine at_rb ?_
      refine at_rt ?_
      obtain rfl := Option.some.inj H
      exact at_post (T := T) rfl (.tmp rfl (.tmp rfl (.tmp rfl .nil))) (fun w o => ⟨(), rfl, own_to [0] rfl o⟩)
    · replace H := if_f (bf c6) H
      refine at_seq ?_
      refine at_region [0, 1, 2, 3, 4, 5, 6, 7] rfl ?_
      refine at_s T rfl ?_
      refine at_v rfl (g_load T rfl rfl rfl rfl (in_var (j := 1) rfl rfl)) ?_
      refine at_s T rfl ?_
      refine at_v rfl (g_load T rfl rfl rfl rfl (in_var (j := 1) rfl rfl)) ?_
      refine at_s T rfl ?_
      obtain ⟨v3, V7, H⟩ := bind_e H
      refine at_cons (at_c (B := fun _ => []) [] rfl rfl rfl rfl has31 rfl rfl (where_Sector.c m.W m.H cell v3 _ V7) (fun _ => ?_))
      iterate 2 refine at_s T rfl ?_
      refine at_end ?_
      refine at_to [(2, (.int .i64 cell)), (9, (.pointer (some ⟨b2, 0, none⟩))), (20, (.bool (decide (v3 < 0))))] [0, 1, 1] [F, [(b2, Obj.cells #[(.int .i64 yv1.Map.W), (.int .i64 yv1.Map.H), (.slice a_m_C (List.length m.C) n_m_C), (.slice a3 (List.length yv1.dist) n3)] 96 (0, 0))], H3] ⟨rfl, rfl, rfl, trivial⟩ rfl ?_
      refine at_then ?_
      refine at_cond rfl (fun c8 => ?_) (fun c8 => ?_)
      · replace H := if_t (of_decide_eq_true c8) H
        refine at_seq ?_
        refine at_region [0, 1, 2] rfl ?_
        iterate 3 refine at_s T rfl ?_
        refine at_end ?_
        refine at_to [(6, (.int .i64 0)), (7, (.int .i64 0)), (8, (.int .i64 7))] [0] [F] ⟨rfl, rfl, rfl, trivial⟩ rfl ?_
        refine at_then ?_
        refine at_ret ?_
        refine at_rb ?_
        refine at_rt ?_
        obtain rfl := Option.some.inj H
        exact at_post (T := T) rfl (.tmp rfl (.tmp rfl (.tmp rfl .nil))) (fun w o => ⟨(), rfl, own_to [0] rfl o⟩)
      · replace H := if_f (of_decide_eq_false c8) H
        refine at_skip ?_
        refine at_nb ?_
        refine at_then ?_
        refine at_seq ?_
        refine at_region_q mix (by kernel_rfl) ?_
        iterate 3 refine atq_s T rfl ?_
        refine atq_v rfl rfl rfl (g_load T rfl rfl rfl rfl (in_var (j := 1) rfl rfl)) ?_
        refine atq_s T rfl ?_
        obtain ⟨c9, H⟩ := chk_e H
        obtain ⟨q4, o4, e4⟩ := s3.r.addr c9.1 c9.2
        refine atq_v rfl rfl rfl (g_index T rfl rfl rfl rfl rfl e4 c9.1 c9.2) ?_
        refine atq_v rfl rfl rfl (g_load T rfl rfl rfl rfl (in_elem1 (k := (Fl.int .i64)) (own_of s3 (j := 2) rfl) e4 c9 0 rfl)) ?_
        iterate 2 refine atq_s T rfl ?_
        obtain ⟨v4, V10, H⟩ := bind_e H
        refine atq_c rfl rfl rfl rfl rfl rfl has74 rfl (flat_plain_dir.c (flat_plain.mk (api_Map.mk yv1.Map.W yv1.Map.H m.C) yv1.dist) cell v4 _ V10 (mem_own (j := 1) rfl) (ro_of h_m_C (j := 0) rfl) c_m_C (own_of s3 (j := 2) rfl) s3.cap_le) ?_
        iterate 3 refine atq_s T rfl ?_
        refine atq_end ?_
        refine at_to [(6, (.int .i64 (rd yv1.dist cell))), (7, (.int .i64 v4)), (8, (.int .i64 0))] [0] [F] ⟨rfl, rfl, rfl, trivial⟩ rfl ?_
        refine at_then ?_
        refine at_ret ?_
        obtain rfl := Option.some.inj H
        exact at_post (T := T) rfl (.tmp rfl (.tmp rfl (.tmp rfl .nil))) (fun w o => ⟨(), rfl, own_to [0] rfl o⟩)

/-! ### herdsman/flat.Dirs: function 69 -/
def flat_Dirs.l0 : Nat → api_Map → flat_plain → List Int → Int → Option ((List Int) × Int)
  | 0, _, _, _, _ => none
  | k6 + 1, m, yv1, x4, x5 => if x5 < (List.length (List.replicate (Int.toNat (List.length yv1.dist : Int)) (0 : Int)) : Int) then ((flat_plain_dir.f (flat_plain.mk (api_Map.mk yv1.Map.W yv1.Map.H m.C) yv1.dist) x5).bind fun v7 => if (0 ≤ x5 ∧ x5 < (List.length x4 : Int)) then (flat_Dirs.l0 k6 m yv1 (List.set x4 (Int.toNat x5) v7) (w64 (x5 + 1))) else none) else (some (x4, 0))
def flat_Dirs.f (m : api_Map) (goal : Int) : Option ((List Int) × Int) := (flat_look.f m goal).bind fun v1 => optm v1.1 (if (v1.2 != 0) = true then (some ([], v1.2)) else (none)) (fun yv1 => if (v1.2 != 0) = true then (some ([], v1.2)) else (if (0 ≤ (List.length yv1.dist : Int) ∧ (List.length yv1.dist : Int) ≤ 1099511627776) then (flat_Dirs.l0 fuel m yv1 (List.replicate (Int.toNat (List.length yv1.dist : Int)) (0 : Int)) 0) else none))
def flat_Dirs.R (r : ((List Int) × Int)) (u : Value) (G : List Hp) : Prop := ∃ (a0 : Option Addr) (n0 : Nat) (H0 : Hp), SliceO (Fl.int .i64) 3 r.1 a0 n0 H0 ∧ u = (.tuple #[(.slice a0 (List.length r.1) n0), (.int .i64 r.2)]) ∧ G = [H0]
set_option maxHeartbeats 4000000 in
theorem flat_Dirs.c {a_m_C : Option Addr} {n_m_C : Nat} (m : api_Map) (goal : Int) (r : ((List Int) × Int)) (F : Hp) (H : flat_Dirs.f m goal = some r) (h_m_C : SliceR (Fl.int .u8) m.C a_m_C F) (c_m_C : List.length m.C ≤ n_m_C) :
    CallsL Try.prog 69 [(.agg #[(.int .i64 m.W), (.int .i64 m.H), (.slice a_m_C (List.length m.C) n_m_C)]), (.int .i64 goal)] [F] (fun qp : { qp : Value × List Hp // flat_Dirs.R r qp.1 qp.2 } => qp.1.1) (fun qp => (qp.1.2 ++ []) ++ [F]) := by
  unfold flat_Dirs.f at H
  refine calls_atL [(0, (.agg #[(.int .i64 m.W), (.int .i64 m.H), (.slice a_m_C (List.length m.C) n_m_C)])), (1, (.int .i64 goal))] Try.func69 rfl rfl ⟨rfl, rfl, trivial⟩ (fun W => ?_)
  refine at_seq ?_
  refine at_region [0, 1, 2] rfl ?_
  refine at_cons (at_bx T [(.int .i64 m.W), (.int .i64 m.H), (.slice a_m_C (List.length m.C) n_m_C)] rfl rfl rfl rfl (fun b1 => ?_))
  iterate 2 refine at_s T rfl ?_
  refine at_end ?_
  refine at_sub [(1, (.int .i64 goal)), (2, (.pointer (some ⟨b1, 0, none⟩)))] ⟨rfl, rfl, trivial⟩ ?_
  refine at_then ?_
  refine at_seq ?_
  refine at_region [0, 1, 2, 3, 4, 5, 6, 7] rfl ?_
  refine at_v rfl (g_loadA T (cs := [(.int .i64 m.W), (.int .i64 m.H), (.slice a_m_C (List.length m.C) n_m_C)]) rfl rfl rfl rfl rfl rfl (in_varA (j := 1) rfl rfl)) ?_
  refine at_s T rfl ?_
  obtain ⟨v1, V1, H⟩ := bind_e H
  refine at_cons (at_cR (flat_look.R (.slice a_m_C (List.length m.C) n_m_C) v1) [] [] rfl rfl rfl rfl has73 rfl rfl (flat_look.c m goal v1 _ V1 (ro_of h_m_C (j := 0) rfl) c_m_C) ?_)
  rintro _ _ ⟨_, _, O2, rfl, rfl⟩
  rcases hxv1 : v1.1 with _ | yv1
  · replace H := optm_n hxv1 H
    rw [hxv1] at O2; obtain ⟨rfl, rfl⟩ := O2
    iterate 5 refine at_s T rfl ?_
    refine at_end ?_
    refine at_to [(6, (.pointer none)), (7, (.int .i64 v1.2))] [0] [F] ⟨rfl, rfl, trivial⟩ rfl ?_
    refine at_then ?_
    refine at_seq ?_
    refine at_seq ?_
    refine at_region [0, 1] rfl ?_
    iterate 2 refine at_s T rfl ?_
    refine at_end ?_
    refine at_sub [(6, (.pointer none)), (7, (.int .i64 v1.2)), (17, (.bool (v1.2 != 0)))] ⟨rfl, rfl, rfl, trivial⟩ ?_
    refine at_then ?_
    refine at_cond rfl (fun c3 => ?_) (fun c3 => ?_)
    · replace H := if_t c3 H
      refine at_seq ?_
      refine at_region [0, 1, 2] rfl ?_
      iterate 3 refine at_s T rfl ?_
      refine at_end ?_
      refine at_sub [(4, (.slice none 0 0)), (5, (.int .i64 v1.2))] ⟨rfl, rfl, trivial⟩ ?_
      refine at_then ?_
      refine at_ret ?_
      refine at_rt ?_
      obtain rfl := Option.some.inj H
      refine at_addnil ?_
      exact at_post (T := T) rfl (.tmp rfl (.tmp rfl .nil)) (fun w o => ⟨⟨(_, _), ⟨none, 0, [], SliceO.nil, rfl, rfl⟩⟩, rfl, own_to [1, 0] rfl o⟩)
    · replace H := if_f (bf c3) H
      refine at_skip ?_
      refine at_then ?_
      refine at_seq ?_
      refine at_region [0, 1, 2, 3, 4, 5, 6] rfl ?_
      refine at_s T rfl ?_
      cases H
  · replace H := optm_s hxv1 H
    rw [hxv1] at O2; obtain ⟨b2, a3, n3, H3, s3, rfl, rfl⟩ := O2
    iterate 5 refine at_s T rfl ?_
    refine at_end ?_
    refine at_to [(6, (.pointer (some ⟨b2, 0, none⟩))), (7, (.int .i64 v1.2))] [0, 1, 1] [F, [(b2, Obj.cells #[(.int .i64 yv1.Map.W), (.int .i64 yv1.Map.H), (.slice a_m_C (List.length m.C) n_m_C), (.slice a3 (List.length yv1.dist) n3)] 96 (0, 0))], H3] ⟨rfl, rfl, trivial⟩ rfl ?_
    refine at_then ?_
    refine at_seq ?_
    refine at_seq ?_
    refine at_region [0, 1] rfl ?_
    iterate 2 refine at_s T rfl ?_
    refine at_end ?_
    refine at_sub [(6, (.pointer (some ⟨b2, 0, none⟩))), (7, (.int .i64 v1.2)), (17, (.bool (v1.2 != 0)))] ⟨rfl, rfl, rfl, trivial⟩ ?_
    refine at_then ?_
    refine at_cond rfl (fun c4 => ?_) (fun c4 => ?_)
    · replace H := if_t c4 H
      refine at_seq ?_
      refine at_region [0, 1, 2] rfl ?_
      iterate 3 refine at_s T rfl ?_
      refine at_end ?_
      refine at_to [(4, (.slice none 0 0)), (5, (.int .i64 v1.2))] [0] [F] ⟨rfl, rfl, trivial⟩ rfl ?_
      refine at_then ?_
      refine at_ret ?_
      refine at_rt ?_
      obtain rfl := Option.some.inj H
      refine at_addnil ?_
      exact at_post (T := T) rfl (.tmp rfl (.tmp rfl .nil)) (fun w o => ⟨⟨(_, _), ⟨none, 0, [], SliceO.nil, rfl, rfl⟩⟩, rfl, own_to [1, 0] rfl o⟩)
    · replace H := if_f (bf c4) H
      refine at_skip ?_
      refine at_then ?_
      refine at_seq ?_
      refine at_region [0, 1, 2, 3, 4, 5, 6] rfl ?_
      iterate 3 refine at_s T rfl ?_
      refine at_v rfl (g_load T rfl rfl rfl rfl (in_var (j := 1) rfl rfl)) ?_
      refine at_s T rfl ?_
      obtain ⟨c5, H⟩ := chk_e H
      refine at_cons (at_mk (k := (Fl.int .i64)) T (0 : Int) rfl rfl rfl rfl rfl rfl rfl rfl c5 rfl (fun a6 n6 H6 s6 => ?_))
      refine at_s T rfl ?_
      refine at_end ?_
      refine at_sub [(6, (.pointer (some ⟨b2, 0, none⟩))), (8, (.slice a6 (List.length (List.replicate (Int.toNat (List.length yv1.dist : Int)) (0 : Int))) n6))] ⟨rfl, rfl, trivial⟩ ?_
      refine at_then ?_
      refine at_seq ?_
      refine at_seq ?_
      refine at_region [0, 1, 2] rfl ?_
      iterate 3 refine at_s T rfl ?_
      refine at_end ?_
      refine at_sub [(6, (.pointer (some ⟨b2, 0, none⟩))), (8, (.slice a6 (List.length (List.replicate (Int.toNat (List.length yv1.dist : Int)) (0 : Int))) n6)), (26, (.int .i64 (List.length (List.replicate (Int.toNat (List.length yv1.dist : Int)) (0 : Int)) : Int))), (27, (.int .i64 0))] ⟨rfl, rfl, rfl, rfl, trivial⟩ ?_
      refine at_then ?_
      refine at_block ?_
      refine at_loopL (σ := Nat × List Int × Int × Option Addr × Nat × Hp) (fun ⟨k6, x4, x5, a8, n8, H8⟩ => flat_Dirs.l0 k6 m yv1 x4 x5 = some r ∧ SliceO (Fl.int .i64) 3 x4 a8 n8 H8) (fun ⟨k6, x4, x5, a8, n8, H8⟩ => [(6, (.pointer (some ⟨b2, 0, none⟩))), (8, (.slice a8 (List.length x4) n8)), (26, (.int .i64 (List.length (List.replicate (Int.toNat (List.length yv1.dist : Int)) (0 : Int)) : Int))), (27, (.int .i64 x5))]) (fun ⟨k6, x4, x5, a8, n8, H8⟩ => [F, [(b2, Obj.cells #[(.int .i64 yv1.Map.W), (.int .i64 yv1.Map.H), (.slice a_m_C (List.length m.C) n_m_C), (.slice a3 (List.length yv1.dist) n3)] 96 (0, 0))], H3, H8]) (fun s => s.1) (fuel, (List.replicate (Int.toNat (List.length yv1.dist : Int)) (0 : Int)), 0, a6, n6, H6) [0, 0, 0, 0] ⟨H, s6⟩ ⟨rfl, rfl, rfl, rfl, trivial⟩ rfl ?_
      rintro ⟨k6, x4, x5, a8, n8, H8⟩ ⟨Z6, s8⟩
      replace Z6 : flat_Dirs.l0 k6 m yv1 x4 x5 = some r := Z6
      rcases k6 with _ | k6
      · rw [flat_Dirs.l0] at Z6; cases Z6
      · rw [flat_Dirs.l0] at Z6
        refine at_seq ?_
        refine at_region [0] rfl ?_
        refine at_s T rfl ?_
        refine at_end ?_
        refine at_sub [(6, (.pointer (some ⟨b2, 0, none⟩))), (8, (.slice a8 (List.length x4) n8)), (26, (.int .i64 (List.length (List.replicate (Int.toNat (List.length yv1.dist : Int)) (0 : Int)) : Int))), (27, (.int .i64 x5)), (28, (.bool (decide (x5 < (List.length (List.replicate (Int.toNat (List.length yv1.dist : Int)) (0 : Int)) : Int)))))] ⟨rfl, rfl, rfl, rfl, rfl, trivial⟩ ?_
        refine at_then ?_
        refine at_seq ?_
        refine at_cond rfl (fun c7 => ?_) (fun c7 => ?_)
        · replace Z6 := if_t (of_decide_eq_true c7) Z6
          refine at_skip ?_
          refine at_then ?_
          refine at_seq ?_
          refine at_block ?_
          refine at_seq ?_
          refine at_region [0, 1] rfl ?_
          iterate 2 refine at_s T rfl ?_
          refine at_end ?_
          refine at_sub [(6, (.pointer (some ⟨b2, 0, none⟩))), (8, (.slice a8 (List.length x4) n8)), (9, (.int .i64 x5)), (26, (.int .i64 (List.length (List.replicate (Int.toNat (List.length yv1.dist : Int)) (0 : Int)) : Int))), (27, (.int .i64 x5))] ⟨rfl, rfl, rfl, rfl, rfl, trivial⟩ ?_
          refine at_then ?_
          refine at_region [0, 1, 2, 3, 4, 5, 6] rfl ?_
          iterate 4 refine at_s T rfl ?_
          obtain ⟨v7, V8, Z6⟩ := bind_e Z6
          refine at_cons (at_c (B := fun _ => []) [] rfl rfl rfl rfl has74 rfl rfl (flat_plain_dir.c (flat_plain.mk (api_Map.mk yv1.Map.W yv1.Map.H m.C) yv1.dist) x5 v7 _ V8 (mem_own (j := 1) rfl) (ro_of h_m_C (j := 0) rfl) c_m_C (own_of s3 (j := 2) rfl) s3.cap_le) (fun _ => ?_))
          obtain ⟨c9, Z6⟩ := chk_e Z6
          obtain ⟨q9, o9, e9⟩ := s8.r.addr c9.1 c9.2
          refine at_v rfl (g_index T rfl rfl rfl rfl rfl e9 c9.1 c9.2) ?_
          refine at_cons (at_se (k := (Fl.int .i64)) T 3 0 v7 rfl rfl rfl rfl rfl rfl s8 e9 c9 rfl rfl rfl (fun H10 s10 => ?_))
          refine at_to [(6, (.pointer (some ⟨b2, 0, none⟩))), (8, (.slice a8 (List.length (List.set x4 (Int.toNat x5) v7)) n8)), (26, (.int .i64 (List.length (List.replicate (Int.toNat (List.length yv1.dist : Int)) (0 : Int)) : Int))), (27, (.int .i64 x5))] [0, 0, 0, 0] [F, [(b2, Obj.cells #[(.int .i64 yv1.Map.W), (.int .i64 yv1.Map.H), (.slice a_m_C (List.length m.C) n_m_C), (.slice a3 (List.length yv1.dist) n3)] 96 (0, 0))], H3, H10] ⟨rfl, (by first | rfl | (simp only [List.length_set]; rfl)), rfl, rfl, trivial⟩ rfl ?_
          refine at_end ?_
          refine at_sub [(6, (.pointer (some ⟨b2, 0, none⟩))), (8, (.slice a8 (List.length (List.set x4 (Int.toNat x5) v7)) n8)), (26, (.int .i64 (List.length (List.replicate (Int.toNat (List.length yv1.dist : Int)) (0 : Int)) : Int))), (27, (.int .i64 x5))] ⟨rfl, rfl, rfl, rfl, trivial⟩ ?_
          refine at_nb ?_
          refine at_then ?_
          refine at_region [0, 1] rfl ?_
          iterate 2 refine at_s T rfl ?_
          refine at_end ?_
          refine at_sub [(6, (.pointer (some ⟨b2, 0, none⟩))), (8, (.slice a8 (List.length (List.set x4 (Int.toNat x5) v7)) n8)), (26, (.int .i64 (List.length (List.replicate (Int.toNat (List.length yv1.dist : Int)) (0 : Int)) : Int))), (27, (.int .i64 (w64 (x5 + 1))))] ⟨rfl, rfl, rfl, rfl, trivial⟩ ?_
          refine at_then ?_
          exact at_roundL (k6, (List.set x4 (Int.toNat x5) v7), (w64 (x5 + 1)), a8, n8, H10) [0, 0, 0, 0] ⟨Z6, s10⟩ (Nat.lt_succ_self _) ⟨rfl, rfl, rfl, rfl, trivial⟩ rfl
        · replace Z6 := if_f (of_decide_eq_false c7) Z6
          refine at_exit ?_
          refine at_xt ?_
          refine at_xt ?_
          refine at_xb ?_
          refine at_then ?_
          refine at_seq ?_
          refine at_region [0, 1, 2] rfl ?_
          iterate 3 refine at_s T rfl ?_
          refine at_end ?_
          refine at_to [(4, (.slice a8 (List.length x4) n8)), (5, (.int .i64 0))] [0, 2] [F, H8] ⟨rfl, rfl, trivial⟩ rfl ?_
          refine at_then ?_
          refine at_ret ?_
          obtain rfl := Option.some.inj Z6
          exact at_post (T := T) rfl (.tmp rfl (.tmp rfl .nil)) (fun w o => ⟨⟨(_, _), ⟨a8, n8, H8, s8, rfl, rfl⟩⟩, rfl, own_to [1, 0] rfl o⟩)

/-! ### herdsman/flat.Dist: function 86 -/
def flat_Dist.f (m : api_Map) (goal : Int) : Option ((List Int) × Int) := (flat_look.f m goal).bind fun v1 => optm v1.1 (if (v1.2 != 0) = true then (some ([], v1.2)) else (none)) (fun yv1 => if (v1.2 != 0) = true then (some ([], v1.2)) else (some (yv1.dist, 0)))
def flat_Dist.R (r : ((List Int) × Int)) (u : Value) (G : List Hp) : Prop := ∃ (a0 : Option Addr) (n0 : Nat) (H0 : Hp), SliceO (Fl.int .i64) 3 r.1 a0 n0 H0 ∧ u = (.tuple #[(.slice a0 (List.length r.1) n0), (.int .i64 r.2)]) ∧ G = [H0]
set_option maxHeartbeats 4000000 in
theorem flat_Dist.c {a_m_C : Option Addr} {n_m_C : Nat} (m : api_Map) (goal : Int) (r : ((List Int) × Int)) (F : Hp) (H : flat_Dist.f m goal = some r) (h_m_C : SliceR (Fl.int .u8) m.C a_m_C F) (c_m_C : List.length m.C ≤ n_m_C) :
    CallsL Try.prog 86 [(.agg #[(.int .i64 m.W), (.int .i64 m.H), (.slice a_m_C (List.length m.C) n_m_C)]), (.int .i64 goal)] [F] (fun qp : { qp : Value × List Hp // flat_Dist.R r qp.1 qp.2 } => qp.1.1) (fun qp => (qp.1.2 ++ []) ++ [F]) := by
  unfold flat_Dist.f at H
  refine calls_atL [(0, (.agg #[(.int .i64 m.W), (.int .i64 m.H), (.slice a_m_C (List.length m.C) n_m_C)])), (1, (.int .i64 goal))] Try.func86 rfl rfl ⟨rfl, rfl, trivial⟩ (fun W => ?_)
  refine at_seq ?_
  refine at_region [0, 1, 2] rfl ?_
  refine at_cons (at_bx T [(.int .i64 m.W), (.int .i64 m.H), (.slice a_m_C (List.length m.C) n_m_C)] rfl rfl rfl rfl (fun b1 => ?_))
  iterate 2 refine at_s T rfl ?_
  refine at_end ?_
  refine at_sub [(1, (.int .i64 goal)), (2, (.pointer (some ⟨b1, 0, none⟩)))] ⟨rfl, rfl, trivial⟩ ?_
  refine at_then ?_
  refine at_seq ?_
  refine at_region [0, 1, 2, 3, 4, 5, 6, 7] rfl ?_
  refine at_v rfl (g_loadA T (cs := [(.int .i64 m.W), (.int .i64 m.H), (.slice a_m_C (List.length m.C) n_m_C)]) rfl rfl rfl rfl rfl rfl (in_varA (j := 1) rfl rfl)) ?_
  refine at_s T rfl ?_
  obtain ⟨v1, V1, H⟩ := bind_e H
  refine at_cons (at_cR (flat_look.R (.slice a_m_C (List.length m.C) n_m_C) v1) [] [] rfl rfl rfl rfl has73 rfl rfl (flat_look.c m goal v1 _ V1 (ro_of h_m_C (j := 0) rfl) c_m_C) ?_)
  rintro _ _ ⟨_, _, O2, rfl, rfl⟩
  rcases hxv1 : v1.1 with _ | yv1
  · replace H := optm_n hxv1 H
    rw [hxv1] at O2; obtain ⟨rfl, rfl⟩ := O2
    iterate 5 refine at_s T rfl ?_
    refine at_end ?_
    refine at_to [(6, (.pointer none)), (7, (.int .i64 v1.2))] [0] [F] ⟨rfl, rfl, trivial⟩ rfl ?_
    refine at_then ?_
    refine at_seq ?_
    refine at_seq ?_
    refine at_region [0, 1] rfl ?_
    iterate 2 refine at_s T rfl ?_
    refine at_end ?_
    refine at_sub [(6, (.pointer none)), (7, (.int .i64 v1.2)), (15, (.bool (v1.2 != 0)))] ⟨rfl, rfl, rfl, trivial⟩ ?_
    refine at_then ?_
    refine at_cond rfl (fun c3 => ?_) (fun c3 => ?_)
    · replace H := if_t c3 H
      refine at_seq ?_
      refine at_region [0, 1, 2] rfl ?_
      iterate 3 refine at_s T rfl ?_
      refine at_end ?_
      refine at_sub [(4, (.slice none 0 0)), (5, (.int .i64 v1.2))] ⟨rfl, rfl, trivial⟩ ?_
      refine at_then ?_
      refine at_ret ?_
      refine at_rt ?_
      obtain rfl := Option.some.inj H
      refine at_addnil ?_
      exact at_post (T := T) rfl (.tmp rfl (.tmp rfl .nil)) (fun w o => ⟨⟨(_, _), ⟨none, 0, [], SliceO.nil, rfl, rfl⟩⟩, rfl, own_to [1, 0] rfl o⟩)
    · replace H := if_f (bf c3) H
      refine at_skip ?_
      refine at_then ?_
      refine at_seq ?_
      refine at_region [0, 1, 2, 3, 4, 5] rfl ?_
      refine at_s T rfl ?_
      cases H
  · replace H := optm_s hxv1 H
    rw [hxv1] at O2; obtain ⟨b2, a3, n3, H3, s3, rfl, rfl⟩ := O2
    iterate 5 refine at_s T rfl ?_
    refine at_end ?_
    refine at_to [(6, (.pointer (some ⟨b2, 0, none⟩))), (7, (.int .i64 v1.2))] [0, 1, 1] [F, [(b2, Obj.cells #[(.int .i64 yv1.Map.W), (.int .i64 yv1.Map.H), (.slice a_m_C (List.length m.C) n_m_C), (.slice a3 (List.length yv1.dist) n3)] 96 (0, 0))], H3] ⟨rfl, rfl, trivial⟩ rfl ?_
    refine at_then ?_
    refine at_seq ?_
    refine at_seq ?_
    refine at_region [0, 1] rfl ?_
    iterate 2 refine at_s T rfl ?_
    refine at_end ?_
    refine at_sub [(6, (.pointer (some ⟨b2, 0, none⟩))), (7, (.int .i64 v1.2)), (15, (.bool (v1.2 != 0)))] ⟨rfl, rfl, rfl, trivial⟩ ?_
    refine at_then ?_
    refine at_cond rfl (fun c4 => ?_) (fun c4 => ?_)
    · replace H := if_t c4 H
      refine at_seq ?_
      refine at_region [0, 1, 2] rfl ?_
      iterate 3 refine at_s T rfl ?_
      refine at_end ?_
      refine at_to [(4, (.slice none 0 0)), (5, (.int .i64 v1.2))] [0] [F] ⟨rfl, rfl, trivial⟩ rfl ?_
      refine at_then ?_
      refine at_ret ?_
      refine at_rt ?_
      obtain rfl := Option.some.inj H
      refine at_addnil ?_
      exact at_post (T := T) rfl (.tmp rfl (.tmp rfl .nil)) (fun w o => ⟨⟨(_, _), ⟨none, 0, [], SliceO.nil, rfl, rfl⟩⟩, rfl, own_to [1, 0] rfl o⟩)
    · replace H := if_f (bf c4) H
      refine at_skip ?_
      refine at_then ?_
      refine at_seq ?_
      refine at_region [0, 1, 2, 3, 4, 5] rfl ?_
      iterate 3 refine at_s T rfl ?_
      refine at_v rfl (g_load T rfl rfl rfl rfl (in_var (j := 1) rfl rfl)) ?_
      iterate 2 refine at_s T rfl ?_
      refine at_end ?_
      refine at_to [(4, (.slice a3 (List.length yv1.dist) n3)), (5, (.int .i64 0))] [0, 1] [F, H3] ⟨rfl, rfl, trivial⟩ rfl ?_
      refine at_then ?_
      refine at_ret ?_
      obtain rfl := Option.some.inj H
      exact at_post (T := T) rfl (.tmp rfl (.tmp rfl .nil)) (fun w o => ⟨⟨(_, _), ⟨a3, n3, H3, s3, rfl, rfl⟩⟩, rfl, own_to [1, 0] rfl o⟩)
end

end Go.Proofs.Yticdodeoljodiaa
