/- Which cells are at a border is what the document says for any size: any size up to 90 by 90, or raw, any sector. No condition. -/
import Derived.Test.YticdodeoljodiaaFLBorderSizes
import Derived.Test.YticdodeoljodiaaPlaw11
namespace Go.Proofs.Yticdodeoljodiaa
open Go.Hx
set_option linter.unusedVariables false
set_option linter.unusedSimpArgs false

theorem BorderSizes_pure : law11_BorderSizes.Pure := by
  intro w h sector raw _ _ _
  unfold law11_BorderSizes.f
  have hk : ∃ x1 x2 x3, (if (!raw) = true then ((ref1_Within.f w 1 90).bind fun v5 => (ref1_Within.f h 1 90).bind fun v6 => (ref1_Count.f v5 v6).bind fun v7 => (ref1_Within.f sector (-1) v7).bind fun v8 => some (v5, v6, v8)) else (some (w, h, sector))) = some (x1, x2, x3) := by
    split
    · rw [within_f (by omega) (by omega) (by omega) (by omega), Option.bind_some, within_f (by omega) (by omega) (by omega) (by omega), Option.bind_some, rcount_f, Option.bind_some]
      have hcn := count_in (1 + w % (90 - 1 + 1)) (1 + h % (90 - 1 + 1))
      rw [within_f (by omega) (by omega) (by omega) (by omega)]
      exact ⟨_, _, _, rfl⟩
    · exact ⟨_, _, _, rfl⟩
  obtain ⟨x1, x2, x3, ek⟩ := hk
  have h1 := cells_len x1 x2 x3
  rw [ek]
  simp only [Option.bind_some, cells_f, rcells_f, rmay_f, told11]
  rw [ints_self (by omega)]
  by_cases hm : raw = true ∧ ¬ MayS x1 x2
  · rw [if_pos hm.1]
    simp only [Option.bind_some, decide_eq_false hm.2]
    have hns : ¬ SecS x1 x2 x3 := fun q => hm.2 (sec_may q)
    have : sCells x1 x2 x3 = [] := by
      unfold sCells
      have : sSize x1 x2 x3 = (0, 0) := by unfold sSize; rw [if_neg hns]
      rw [this]; rfl
    simp [this]
  · have : (if raw = true then (some (!decide (MayS x1 x2))) else (some false)) = some false := by
      by_cases hr : raw = true
      · rw [if_pos hr]
        have : MayS x1 x2 := by
          by_cases q : MayS x1 x2
          · exact q
          · exact absurd ⟨hr, q⟩ hm
        rw [decide_eq_true this]; rfl
      · rw [if_neg hr]
    rw [this]; rfl
end Go.Proofs.Yticdodeoljodiaa
