import Derived.Test.YtonjonpepfepfaaFlaw1
import Derived.Test.YtonjonpepfepfaaPwhere
namespace Go.Proofs.Ytonjonpepfepfaa
open Go.Hx

theorem told1 : law1_told.f = some true := by rfl

theorem near1 (w h : Int) : ∃ a b, law1_near.f w h = some (a, b) ∧ MayS a b := by
  unfold law1_near.f
  split
  · rw [within_f (by omega) (by omega) (by omega) (by omega), within_f (by omega) (by omega) (by omega) (by omega)]
    refine ⟨_, _, rfl, ?_⟩
    have h1 := within_in (n := w) (lo := 1) (hi := 1024) (by omega)
    have h2 := within_in (n := h) (lo := 1) (hi := 1024) (by omega)
    exact ⟨h1.1, h1.2, h2.1, h2.2⟩
  · rw [within_f (by omega) (by omega) (by omega) (by omega), within_f (by omega) (by omega) (by omega) (by omega)]
    refine ⟨_, _, rfl, ?_⟩
    have h1 := within_in (n := w) (lo := 1) (hi := 50) (by omega)
    have h2 := within_in (n := h) (lo := 1) (hi := 50) (by omega)
    exact ⟨h1.1, by omega, h2.1, by omega⟩
end Go.Proofs.Ytonjonpepfepfaa
