import Derived.Test.YtkidcebfpengmaaT
namespace Go.Proofs.Ytkidcebfpengmaa
open Go.Hx
set_option maxRecDepth 100000
set_option linter.unusedVariables false
/-! ### slices.Clone[[]uint32,uint32]: function 84 -/
def slices_Clone_uint32_uint32.f (s : (List Int)) : Option (List Int) := if (List.length ([] : List Int) + List.length s ≤ 1099511627776) then (some (([] : List Int) ++ s)) else none
def slices_Clone_uint32_uint32.R (r : (List Int)) (u : Value) (G : List Hp) : Prop := ∃ (a0 : Option Addr) (n0 : Nat) (H0 : Hp), SliceO (Fl.int .u32) 74 r a0 n0 H0 ∧ u = (.slice a0 (List.length r) n0) ∧ G = [H0]
set_option maxHeartbeats 4000000 in
theorem slices_Clone_uint32_uint32.c {a_s : Option Addr} {n_s : Nat} (s : (List Int)) (r : (List Int)) (F : Hp) (H : slices_Clone_uint32_uint32.f s = some r) (h_s : SliceR (Fl.int .u32) s a_s F) (c_s : List.length s ≤ n_s) :
    CallsL Try.prog 84 [(.slice a_s (List.length s) n_s)] [F] (fun p : { p : Value × List Hp // slices_Clone_uint32_uint32.R r p.1 p.2 } => p.1.1) (fun p => (p.1.2 ++ []) ++ [F]) := by
  unfold slices_Clone_uint32_uint32.f at H
  refine calls_atL [(0, (.slice a_s (List.length s) n_s))] Try.func84 rfl rfl ⟨rfl, trivial⟩ (fun W => ?_)
  refine at_seq ?_
  refine at_region [0] rfl ?_
  refine at_s T rfl ?_
  refine at_end ?_
  refine at_sub [(0, (.slice a_s (List.length s) n_s))] ⟨rfl, trivial⟩ ?_
  refine at_then ?_
  refine at_seq ?_
  refine at_seq ?_
  refine at_region [0, 1] rfl ?_
  iterate 2 refine at_s T rfl ?_
  refine at_end ?_
  refine at_sub [(0, (.slice a_s (List.length s) n_s)), (4, (.bool (Option.isNone a_s)))] ⟨rfl, rfl, trivial⟩ ?_
  refine at_then ?_
  refine at_cond rfl (fun c1 => ?_) (fun c1 => ?_)
  · have hx : s = [] := nil_of h_s c1
    replace H : some [] = some r := by simpa [hx] using H
    refine at_seq ?_
    refine at_region [0] rfl ?_
    refine at_s T rfl ?_
    refine at_end ?_
    refine at_sub [(2, (.slice none 0 0))] ⟨rfl, trivial⟩ ?_
    refine at_then ?_
    refine at_ret ?_
    refine at_rt ?_
    obtain rfl := Option.some.inj H
    refine at_addnil ?_
    exact at_post (T := T) rfl (.tmp rfl .nil) (fun w o => ⟨⟨(_, _), ⟨none, 0, [], SliceO.nil, rfl, rfl⟩⟩, rfl, own_to [1, 0] rfl o⟩)
  · refine at_skip ?_
    refine at_then ?_
    refine at_seq ?_
    refine at_region [0, 1, 2, 3] rfl ?_
    refine at_cons (at_bs (k := (Fl.int .u32)) T ([] : List Int) rfl rfl rfl rfl rfl rfl rfl rfl rfl (fun a2 H2 s2 => ?_))
    refine at_s T rfl ?_
    obtain ⟨c2, H⟩ := chk_e H
    refine at_cons (at_ap (k := (Fl.int .u32)) (xs := ([] : List Int)) T (g := 1) rfl rfl rfl rfl rfl rfl rfl rfl rfl rfl s2 (ro_of h_s (j := 0) rfl) c2 rfl (fun a3 n3 H3 s3 => ?_))
    refine at_s T rfl ?_
    refine at_end ?_
    refine at_sub [(2, (.slice a3 (List.length (([] : List Int) ++ s)) n3))] ⟨rfl, trivial⟩ ?_
    refine at_then ?_
    refine at_ret ?_
    obtain rfl := Option.some.inj H
    exact at_post (T := T) rfl (.tmp rfl .nil) (fun w o => ⟨⟨(_, _), ⟨a3, n3, H3, s3, rfl, rfl⟩⟩, rfl, own_to [1, 0] rfl o⟩)
end Go.Proofs.Ytkidcebfpengmaa
