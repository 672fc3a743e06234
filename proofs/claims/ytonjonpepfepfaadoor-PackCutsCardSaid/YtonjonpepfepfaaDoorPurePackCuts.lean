import Derived.Test.YtonjonpepfepfaaDoorFLPackCuts
import Derived.Test.YtonjonpepfepfaaDoorPurePackBack
namespace Go.Proofs.YtonjonpepfepfaaDoor
open Go.Hx

theorem PackCuts_pure : law3_PackCuts.Pure := by
  intro c w h few cut hc _ _ _ _ hcl
  unfold law3_PackCuts.f
  obtain ⟨v, e, hv, hu⟩ := near_u ⟨0, 0, c⟩ w h few (fun y hy => by have := hc y hy; unfold inU8 at this; omega)
  obtain ⟨L, f, out, e2, hL⟩ := put_ok hv
  have ol := out_len hv hL
  have g := within_in (n := cut) (lo := 0) (hi := (out.length : Int) - 1) (by omega)
  rw [e, Option.bind_some, e2, Option.bind_some, if_neg (by simp; intro q; rw [q] at ol; simp at ol), w64_id (x := (out.length : Int) - 1) (by omega) (by omega), within_f (by omega) (by omega) (by omega) (by omega), Option.bind_some]
  generalize 0 + cut % ((out.length : Int) - 1 - 0 + 1) = p at g ⊢
  have hl1 := sub_len (L := out) (lo := 0) (hi := p) (by omega) (by omega) (by omega)
  simp only
  rw [if_pos (show 0 ≤ (0 : Int) ∧ (0 : Int) ≤ p ∧ p ≤ (out.length : Int) by omega), get_put hv hu e2 hL (by omega) (fun j j0 j1 j2 => by rw [rd_sub (by omega) j0 (by omega), Int.zero_add]), if_neg (show ¬ out.length ≤ (sub' out 0 p).length by omega), told3]
  rfl
end Go.Proofs.YtonjonpepfepfaaDoor
