import Derived.Test.YtmfonhkkkfmpdaaT
namespace Go.Proofs.Ytmfonhkkkfmpdaa
open Go.Hx
set_option maxRecDepth 100000
set_option linter.unusedVariables false
/-! ### herdsman/herdsmanref21.SameWords: function 24 -/
def ref21_SameWords.l0 : Nat → (List Int) → (List Int) → Int → Option Bool
  | 0, _, _, _ => none
  | k3 + 1, a, b, x2 => if x2 < (List.length a : Int) then (if (0 ≤ x2 ∧ x2 < (List.length a : Int)) then (if (0 ≤ x2 ∧ x2 < (List.length b : Int)) then (if ((rd a x2) != (rd b x2)) = true then (some false) else (ref21_SameWords.l0 k3 a b (w64 (x2 + 1)))) else none) else none) else (some true)
def ref21_SameWords.f (a : (List Int)) (b : (List Int)) : Option Bool := if ((List.length a : Int) != (List.length b : Int)) = true then (some false) else (ref21_SameWords.l0 fuel a b 0)
set_option maxHeartbeats 4000000 in
theorem ref21_SameWords.c {a_a : Option Addr} {n_a : Nat} {a_b : Option Addr} {n_b : Nat} (a : (List Int)) (b : (List Int)) (r : Bool) (F : Hp) (H : ref21_SameWords.f a b = some r) (h_a : SliceR (Fl.int .u32) a a_a F) (c_a : List.length a ≤ n_a) (h_b : SliceR (Fl.int .u32) b a_b F) (c_b : List.length b ≤ n_b) :
    CallsL Try.prog 24 [(.slice a_a (List.length a) n_a), (.slice a_b (List.length b) n_b)] [F] (fun _ : Unit => (.bool r)) (fun _ => [F]) := by
  unfold ref21_SameWords.f at H
  refine calls_atL [(0, (.slice a_a (List.length a) n_a)), (1, (.slice a_b (List.length b) n_b))] Try.func24 rfl rfl ⟨rfl, rfl, trivial⟩ (fun W => ?_)
  refine at_seq ?_
  refine at_region [0] rfl ?_
  refine at_s T rfl ?_
  refine at_end ?_
  refine at_sub [(0, (.slice a_a (List.length a) n_a)), (1, (.slice a_b (List.length b) n_b))] ⟨rfl, rfl, trivial⟩ ?_
  refine at_then ?_
  refine at_seq ?_
  refine at_seq ?_
  refine at_region [0, 1, 2, 3, 4] rfl ?_
  iterate 5 refine at_s T rfl ?_
  refine at_end ?_
  refine at_sub [(0, (.slice a_a (List.length a) n_a)), (1, (.slice a_b (List.length b) n_b)), (10, (.bool ((List.length a : Int) != (List.length b : Int))))] ⟨rfl, rfl, rfl, trivial⟩ ?_
  refine at_then ?_
  refine at_cond rfl (fun c1 => ?_) (fun c1 => ?_)
  · replace H := if_t c1 H
    refine at_seq ?_
    refine at_region [0] rfl ?_
    refine at_s T rfl ?_
    refine at_end ?_
    refine at_sub [(4, (.bool false))] ⟨rfl, trivial⟩ ?_
    refine at_then ?_
    refine at_ret ?_
    refine at_rt ?_
    obtain rfl := Option.some.inj H
    exact at_post (T := T) rfl (.tmp rfl .nil) (fun w o => ⟨(), rfl, own_to [0] rfl o⟩)
  · replace H := if_f (bf c1) H
    refine at_skip ?_
    refine at_then ?_
    refine at_seq ?_
    refine at_seq ?_
    refine at_region [0] rfl ?_
    refine at_s T rfl ?_
    refine at_end ?_
    refine at_sub [(0, (.slice a_a (List.length a) n_a)), (1, (.slice a_b (List.length b) n_b)), (5, (.int .i64 0))] ⟨rfl, rfl, rfl, trivial⟩ ?_
    refine at_then ?_
    refine at_block ?_
    refine at_loopL (σ := Nat × Int) (fun ⟨k3, x2⟩ => ref21_SameWords.l0 k3 a b x2 = some r) (fun ⟨k3, x2⟩ => [(0, (.slice a_a (List.length a) n_a)), (1, (.slice a_b (List.length b) n_b)), (5, (.int .i64 x2))]) (fun ⟨k3, x2⟩ => [F]) (fun s => s.1) (fuel, 0) [0] H ⟨rfl, rfl, rfl, trivial⟩ rfl ?_
    rintro ⟨k3, x2⟩ Z2
    replace Z2 : ref21_SameWords.l0 k3 a b x2 = some r := Z2
    rcases k3 with _ | k3
    · rw [ref21_SameWords.l0] at Z2; cases Z2
    · rw [ref21_SameWords.l0] at Z2
      refine at_seq ?_
      refine at_seq ?_
      refine at_region [0, 1, 2, 3] rfl ?_
      iterate 4 refine at_s T rfl ?_
      refine at_end ?_
      refine at_sub [(0, (.slice a_a (List.length a) n_a)), (1, (.slice a_b (List.length b) n_b)), (5, (.int .i64 x2)), (14, (.bool (decide (x2 < (List.length a : Int)))))] ⟨rfl, rfl, rfl, rfl, trivial⟩ ?_
      refine at_then ?_
      refine at_cond rfl (fun c3 => ?_) (fun c3 => ?_)
      · replace Z2 := if_t (of_decide_eq_true c3) Z2
        refine at_skip ?_
        refine at_then ?_
        refine at_seq ?_
        refine at_block ?_
        refine at_seq ?_
        refine at_region_q mix (by kernel_rfl) ?_
        iterate 2 refine atq_s T rfl ?_
        obtain ⟨c4, Z2⟩ := chk_e Z2
        obtain ⟨q1, o1, e1⟩ := h_a.addr c4.1 c4.2
        refine atq_v rfl rfl rfl (g_index T rfl rfl rfl rfl rfl e1 c4.1 c4.2) ?_
        refine atq_v rfl rfl rfl (g_load T rfl rfl rfl rfl (in_elem1 (k := (Fl.int .u32)) (ro_of h_a (j := 0) rfl) e1 c4 0 rfl)) ?_
        iterate 2 refine atq_s T rfl ?_
        obtain ⟨c5, Z2⟩ := chk_e Z2
        obtain ⟨q2, o2, e2⟩ := h_b.addr c5.1 c5.2
        refine atq_v rfl rfl rfl (g_index T rfl rfl rfl rfl rfl e2 c5.1 c5.2) ?_
        refine atq_v rfl rfl rfl (g_load T rfl rfl rfl rfl (in_elem1 (k := (Fl.int .u32)) (ro_of h_b (j := 0) rfl) e2 c5 0 rfl)) ?_
        refine atq_s T rfl ?_
        refine atq_end ?_
        refine at_sub [(0, (.slice a_a (List.length a) n_a)), (1, (.slice a_b (List.length b) n_b)), (5, (.int .i64 x2)), (25, (.bool ((rd a x2) != (rd b x2))))] ⟨rfl, rfl, rfl, rfl, trivial⟩ ?_
        refine at_then ?_
        refine at_cond rfl (fun c6 => ?_) (fun c6 => ?_)
        · replace Z2 := if_t c6 Z2
          refine at_seq ?_
          refine at_region [0] rfl ?_
          refine at_s T rfl ?_
          refine at_end ?_
          refine at_sub [(4, (.bool false))] ⟨rfl, trivial⟩ ?_
          refine at_then ?_
          refine at_ret ?_
          refine at_rb ?_
          refine at_rt ?_
          refine at_rt ?_
          refine at_rb ?_
          refine at_rt ?_
          obtain rfl := Option.some.inj Z2
          exact at_post (T := T) rfl (.tmp rfl .nil) (fun w o => ⟨(), rfl, own_to [0] rfl o⟩)
        · replace Z2 := if_f (bf c6) Z2
          refine at_skip ?_
          refine at_nb ?_
          refine at_then ?_
          refine at_region [0, 1, 2] rfl ?_
          iterate 3 refine at_s T rfl ?_
          refine at_end ?_
          refine at_sub [(0, (.slice a_a (List.length a) n_a)), (1, (.slice a_b (List.length b) n_b)), (5, (.int .i64 (w64 (x2 + 1))))] ⟨rfl, rfl, rfl, trivial⟩ ?_
          refine at_then ?_
          exact at_roundL (k3, (w64 (x2 + 1))) [0] Z2 (Nat.lt_succ_self _) ⟨rfl, rfl, rfl, trivial⟩ rfl
      · replace Z2 := if_f (of_decide_eq_false c3) Z2
        refine at_exit ?_
        refine at_xt ?_
        refine at_xt ?_
        refine at_xb ?_
        refine at_then ?_
        refine at_seq ?_
        refine at_region [0] rfl ?_
        refine at_s T rfl ?_
        refine at_end ?_
        refine at_sub [(4, (.bool true))] ⟨rfl, trivial⟩ ?_
        refine at_then ?_
        refine at_ret ?_
        obtain rfl := Option.some.inj Z2
        exact at_post (T := T) rfl (.tmp rfl .nil) (fun w o => ⟨(), rfl, own_to [0] rfl o⟩)
end Go.Proofs.Ytmfonhkkkfmpdaa
