import Derived.Test.YtnkdnecilkafhaaDoorT
namespace Go.Proofs.YtnkdnecilkafhaaDoor
open Go.Hx
set_option maxRecDepth 100000
set_option linter.unusedVariables false
noncomputable section
/-! ### slices.Index[[]byte,byte]: function 59 -/
def slices_Index_byte_byte.l0 : Nat → (List Int) → Int → Int → Option Int
  | 0, _, _, _ => none
  | k3 + 1, s, v, x2 => if x2 < (List.length s : Int) then (if (0 ≤ x2 ∧ x2 < (List.length s : Int)) then (if (v == (rd s x2)) = true then (some x2) else (slices_Index_byte_byte.l0 k3 s v (w64 (x2 + 1)))) else none) else (some (-1))
def slices_Index_byte_byte.f (s : (List Int)) (v : Int) : Option Int := slices_Index_byte_byte.l0 fuel s v 0
set_option maxHeartbeats 4000000 in
theorem slices_Index_byte_byte.c {a_s : Option Addr} {n_s : Nat} (s : (List Int)) (v : Int) (r : Int) (F : Hp) (H : slices_Index_byte_byte.f s v = some r) (h_s : SliceR (Fl.int .u8) s a_s F) (c_s : List.length s ≤ n_s) :
    CallsL Tryd.prog 59 [(.slice a_s (List.length s) n_s), (.int .u8 v)] [F] (fun _ : Unit => (.int .i64 r)) (fun _ => [F]) := by
  unfold slices_Index_byte_byte.f at H
  refine calls_atL [(0, (.slice a_s (List.length s) n_s)), (1, (.int .u8 v))] Tryd.func59 rfl rfl ⟨rfl, rfl, trivial⟩ (fun W => ?_)
  refine at_seq ?_
  refine at_region [0] rfl ?_
  refine at_s T rfl ?_
  refine at_end ?_
  refine at_sub [(0, (.slice a_s (List.length s) n_s)), (1, (.int .u8 v))] ⟨rfl, rfl, trivial⟩ ?_
  refine at_then ?_
  refine at_seq ?_
  refine at_seq ?_
  refine at_region [0, 1, 2] rfl ?_
  iterate 3 refine at_s T rfl ?_
  refine at_end ?_
  refine at_sub [(0, (.slice a_s (List.length s) n_s)), (1, (.int .u8 v)), (7, (.int .i64 (List.length s : Int))), (8, (.int .i64 0))] ⟨rfl, rfl, rfl, rfl, trivial⟩ ?_
  refine at_then ?_
  refine at_block ?_
  refine at_loopL (σ := Nat × Int) (fun ⟨k3, x2⟩ => slices_Index_byte_byte.l0 k3 s v x2 = some r) (fun ⟨k3, x2⟩ => [(0, (.slice a_s (List.length s) n_s)), (1, (.int .u8 v)), (7, (.int .i64 (List.length s : Int))), (8, (.int .i64 x2))]) (fun ⟨k3, x2⟩ => [F]) (fun s => s.1) (fuel, 0) [0] H ⟨rfl, rfl, rfl, rfl, trivial⟩ rfl ?_
  rintro ⟨k3, x2⟩ Z1
  replace Z1 : slices_Index_byte_byte.l0 k3 s v x2 = some r := Z1
  rcases k3 with _ | k3
  · rw [slices_Index_byte_byte.l0] at Z1; cases Z1
  · rw [slices_Index_byte_byte.l0] at Z1
    refine at_seq ?_
    refine at_region [0] rfl ?_
    refine at_s T rfl ?_
    refine at_end ?_
    refine at_sub [(0, (.slice a_s (List.length s) n_s)), (1, (.int .u8 v)), (7, (.int .i64 (List.length s : Int))), (8, (.int .i64 x2)), (9, (.bool (decide (x2 < (List.length s : Int)))))] ⟨rfl, rfl, rfl, rfl, rfl, trivial⟩ ?_
    refine at_then ?_
    refine at_seq ?_
    refine at_cond rfl (fun c2 => ?_) (fun c2 => ?_)
    · replace Z1 := if_t (of_decide_eq_true c2) Z1
      refine at_skip ?_
      refine at_then ?_
      refine at_seq ?_
      refine at_block ?_
      refine at_seq ?_
      refine at_region [0, 1] rfl ?_
      iterate 2 refine at_s T rfl ?_
      refine at_end ?_
      refine at_sub [(0, (.slice a_s (List.length s) n_s)), (1, (.int .u8 v)), (5, (.int .i64 x2)), (7, (.int .i64 (List.length s : Int))), (8, (.int .i64 x2))] ⟨rfl, rfl, rfl, rfl, rfl, trivial⟩ ?_
      refine at_then ?_
      refine at_seq ?_
      refine at_region [0, 1, 2, 3, 4, 5] rfl ?_
      iterate 3 refine at_s T rfl ?_
      obtain ⟨c3, Z1⟩ := chk_e Z1
      obtain ⟨q1, o1, e1⟩ := h_s.addr c3.1 c3.2
      refine at_v rfl (g_index T rfl rfl rfl rfl rfl e1 c3.1 c3.2) ?_
      refine at_v rfl (g_load T rfl rfl rfl rfl (in_elem1 (k := (Fl.int .u8)) (ro_of h_s (j := 0) rfl) e1 c3 0 rfl)) ?_
      refine at_s T rfl ?_
      refine at_end ?_
      refine at_sub [(0, (.slice a_s (List.length s) n_s)), (1, (.int .u8 v)), (5, (.int .i64 x2)), (7, (.int .i64 (List.length s : Int))), (8, (.int .i64 x2)), (16, (.bool (v == (rd s x2))))] ⟨rfl, rfl, rfl, rfl, rfl, rfl, trivial⟩ ?_
      refine at_then ?_
      refine at_cond rfl (fun c4 => ?_) (fun c4 => ?_)
      · replace Z1 := if_t c4 Z1
        refine at_seq ?_
        refine at_region [0, 1] rfl ?_
        iterate 2 refine at_s T rfl ?_
        refine at_end ?_
        refine at_sub [(4, (.int .i64 x2))] ⟨rfl, trivial⟩ ?_
        refine at_then ?_
        refine at_ret ?_
        refine at_rb ?_
        refine at_rt ?_
        refine at_rt ?_
        refine at_rb ?_
        refine at_rt ?_
        obtain rfl := Option.some.inj Z1
        exact at_post (T := T) rfl (.tmp rfl .nil) (fun w o => ⟨(), rfl, own_to [0] rfl o⟩)
      · replace Z1 := if_f (bf c4) Z1
        refine at_skip ?_
        refine at_nb ?_
        refine at_then ?_
        refine at_region [0, 1] rfl ?_
        iterate 2 refine at_s T rfl ?_
        refine at_end ?_
        refine at_sub [(0, (.slice a_s (List.length s) n_s)), (1, (.int .u8 v)), (7, (.int .i64 (List.length s : Int))), (8, (.int .i64 (w64 (x2 + 1))))] ⟨rfl, rfl, rfl, rfl, trivial⟩ ?_
        refine at_then ?_
        exact at_roundL (k3, (w64 (x2 + 1))) [0] Z1 (Nat.lt_succ_self _) ⟨rfl, rfl, rfl, rfl, trivial⟩ rfl
    · replace Z1 := if_f (of_decide_eq_false c2) Z1
      refine at_exit ?_
      refine at_xt ?_
      refine at_xt ?_
      refine at_xb ?_
      refine at_then ?_
      refine at_seq ?_
      refine at_region [0] rfl ?_
      refine at_s T rfl ?_
      refine at_end ?_
      refine at_sub [(4, (.int .i64 (-1)))] ⟨rfl, trivial⟩ ?_
      refine at_then ?_
      refine at_ret ?_
      obtain rfl := Option.some.inj Z1
      exact at_post (T := T) rfl (.tmp rfl .nil) (fun w o => ⟨(), rfl, own_to [0] rfl o⟩)

/-! ### slices.Contains[[]byte,byte]: function 45 -/
def slices_Contains_byte_byte.f (s : (List Int)) (v : Int) : Option Bool := (slices_Index_byte_byte.f s v).bind fun v1 => some (decide (v1 ≥ 0))
set_option maxHeartbeats 4000000 in
theorem slices_Contains_byte_byte.c {a_s : Option Addr} {n_s : Nat} (s : (List Int)) (v : Int) (r : Bool) (F : Hp) (H : slices_Contains_byte_byte.f s v = some r) (h_s : SliceR (Fl.int .u8) s a_s F) (c_s : List.length s ≤ n_s) :
    CallsL Tryd.prog 45 [(.slice a_s (List.length s) n_s), (.int .u8 v)] [F] (fun _ : Unit => (.bool r)) (fun _ => [F]) := by
  unfold slices_Contains_byte_byte.f at H
  refine calls_atL [(0, (.slice a_s (List.length s) n_s)), (1, (.int .u8 v))] Tryd.func45 rfl rfl ⟨rfl, rfl, trivial⟩ (fun W => ?_)
  refine at_seq ?_
  refine at_region [0] rfl ?_
  refine at_s T rfl ?_
  refine at_end ?_
  refine at_sub [(0, (.slice a_s (List.length s) n_s)), (1, (.int .u8 v))] ⟨rfl, rfl, trivial⟩ ?_
  refine at_then ?_
  refine at_seq ?_
  refine at_region [0, 1, 2, 3, 4] rfl ?_
  iterate 2 refine at_s T rfl ?_
  obtain ⟨v1, V1, H⟩ := bind_e H
  refine at_cons (at_c (B := fun _ => []) [] rfl rfl rfl rfl has59 rfl rfl (slices_Index_byte_byte.c s v v1 _ V1 (ro_of h_s (j := 0) rfl) c_s) (fun _ => ?_))
  iterate 2 refine at_s T rfl ?_
  refine at_end ?_
  refine at_sub [(4, (.bool (decide (v1 ≥ 0))))] ⟨rfl, trivial⟩ ?_
  refine at_then ?_
  refine at_ret ?_
  obtain rfl := Option.some.inj H
  exact at_post (T := T) rfl (.tmp rfl .nil) (fun w o => ⟨(), rfl, own_to [0] rfl o⟩)

/-! ### slices.Clone[[]byte,byte]: function 69 -/
def slices_Clone_byte_byte.f (s : (List Int)) : Option (List Int) := if (List.length ([] : List Int) + List.length s ≤ 1099511627776) then (some (([] : List Int) ++ s)) else none
def slices_Clone_byte_byte.R (r : (List Int)) (u : Value) (G : List Hp) : Prop := ∃ (a0 : Option Addr) (n0 : Nat) (H0 : Hp), SliceO (Fl.int .u8) 5 r a0 n0 H0 ∧ u = (.slice a0 (List.length r) n0) ∧ G = [H0]
set_option maxHeartbeats 4000000 in
theorem slices_Clone_byte_byte.c {a_s : Option Addr} {n_s : Nat} (s : (List Int)) (r : (List Int)) (F : Hp) (H : slices_Clone_byte_byte.f s = some r) (h_s : SliceR (Fl.int .u8) s a_s F) (c_s : List.length s ≤ n_s) :
    CallsL Tryd.prog 69 [(.slice a_s (List.length s) n_s)] [F] (fun qp : { qp : Value × List Hp // slices_Clone_byte_byte.R r qp.1 qp.2 } => qp.1.1) (fun qp => (qp.1.2 ++ []) ++ [F]) := by
  unfold slices_Clone_byte_byte.f at H
  refine calls_atL [(0, (.slice a_s (List.length s) n_s))] Tryd.func69 rfl rfl ⟨rfl, trivial⟩ (fun W => ?_)
  refine at_seq ?_
  refine at_region [0] rfl ?_
  refine at_s T rfl ?_
  refine at_end ?_
  refine at_sub [(0, (.slice a_s (List.length s) n_s))] ⟨rfl, trivial⟩ ?_
  refine at_then ?_
  refine at_seq ?_
  refine at_seq ?_
  refine at_region [0, 1] rfl ?_
  iterate 2 refine at_s T rfl ?_
  refine at_end ?_
  refine at_sub [(0, (.slice a_s (List.length s) n_s)), (4, (.bool (Option.isNone a_s)))] ⟨rfl, rfl, trivial⟩ ?_
  refine at_then ?_
  refine at_cond rfl (fun c1 => ?_) (fun c1 => ?_)
  · have hx : s = [] := nil_of h_s c1
    replace H : some [] = some r := by simpa [hx] using H
    refine at_seq ?_
    refine at_region [0] rfl ?_
    refine at_s T rfl ?_
    refine at_end ?_
    refine at_sub [(2, (.slice none 0 0))] ⟨rfl, trivial⟩ ?_
    refine at_then ?_
    refine at_ret ?_
    refine at_rt ?_
    obtain rfl := Option.some.inj H
    refine at_addnil ?_
    exact at_post (T := T) rfl (.tmp rfl .nil) (fun w o => ⟨⟨(_, _), ⟨none, 0, [], SliceO.nil, rfl, rfl⟩⟩, rfl, own_to [1, 0] rfl o⟩)
  · refine at_skip ?_
    refine at_then ?_
    refine at_seq ?_
    refine at_region [0, 1, 2, 3] rfl ?_
    refine at_cons (at_bs (k := (Fl.int .u8)) T ([] : List Int) rfl rfl rfl rfl rfl rfl rfl rfl rfl (fun a2 H2 s2 => ?_))
    refine at_s T rfl ?_
    obtain ⟨c2, H⟩ := chk_e H
    refine at_cons (at_ap (k := (Fl.int .u8)) (xs := ([] : List Int)) T (g := 1) rfl rfl rfl rfl rfl rfl rfl rfl rfl rfl s2 (ro_of h_s (j := 0) rfl) c2 rfl (fun a3 n3 H3 s3 => ?_))
    refine at_s T rfl ?_
    refine at_end ?_
    refine at_sub [(2, (.slice a3 (List.length (([] : List Int) ++ s)) n3))] ⟨rfl, trivial⟩ ?_
    refine at_then ?_
    refine at_ret ?_
    obtain rfl := Option.some.inj H
    exact at_post (T := T) rfl (.tmp rfl .nil) (fun w o => ⟨⟨(_, _), ⟨a3, n3, H3, s3, rfl, rfl⟩⟩, rfl, own_to [1, 0] rfl o⟩)
end

end Go.Proofs.YtnkdnecilkafhaaDoor
