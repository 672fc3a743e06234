import Derived.Test.YtkidcebfpengmaaFref21
namespace Go.Proofs.Ytkidcebfpengmaa
open Go.Hx
set_option linter.unusedVariables false
set_option linter.unusedSimpArgs false

theorem moves_l {a : List api_Move} (hb : a.length ≤ 4611686018427387904) : ∀ (n k : Nat) (i : Int), i + n = a.length → 0 ≤ i → n < k → ref21_Moves.l0 k a a i = some true := by
  intro n
  induction n with
  | zero =>
    intro k i hi h0 hk
    obtain ⟨k, rfl⟩ := kpos hk
    rw [ref21_Moves.l0, if_neg (by omega)]
  | succ n ih =>
    intro k i hi h0 hk
    obtain ⟨k, rfl⟩ := kpos hk
    rw [ref21_Moves.l0, if_pos (by omega), if_pos (by omega), if_pos (by omega), if_neg (by simp), wi (by omega) (by omega)]
    exact ih k (i + 1) (by omega) (by omega) (by omega)
theorem moves_self {a : List api_Move} (hb : a.length < 4611686018427387904) : ref21_Moves.f a a = some true := by
  unfold ref21_Moves.f
  rw [if_neg (by simp)]
  exact moves_l (by omega) a.length fuel 0 (by omega) (by omega) (by rw [fuelv]; omega)
end Go.Proofs.Ytkidcebfpengmaa
