/- Which sizes and numbers make a crowd; none does nothing: any numbers. No condition. -/
import Derived.Test.YtkidcebfpengmaaFLCrowdNone
import Derived.Test.YtkidcebfpengmaaPlaw25
namespace Go.Proofs.Ytkidcebfpengmaa
open Go.Hx
set_option linter.unusedVariables false
set_option linter.unusedSimpArgs false

theorem CrowdNone_pure : law25_CrowdNone.Pure := by
  intro w h most a b _ _ _ _ _
  unfold law25_CrowdNone.f
  simp only [crowd_Crowd_Spawn_2.f, crowd_Crowd_Tick_2.f, crowd_Crowd_Retarget_2.f, crowd_Crowd_Despawn_2.f, crowd_Crowd_Who_2.f, crowd_Crowd_Units_2.f, crowd_Crowd_Words_2.f, Option.bind_some, told25, may_f]
  rw [if_neg (by simp), if_neg (by simp), if_neg (by simp), if_neg (by simp), if_neg (by simp)]
  simp only [Option.bind_some, List.length_nil, Int.natCast_zero, bne_self_eq_false, Bool.false_eq_true, if_false]
  split
  · rfl
  · rw [if_pos trivial]
    obtain ⟨r, r1, r2, _⟩ := cnew_f w h most
    rw [r1, Option.bind_some]
    have hd : ((decide (MayS w h) && decide (most ≥ 1)) && decide (most ≤ 65536)) = r.isSome := by
      rw [Bool.eq_iff_iff, r2]
      simp only [Bool.and_eq_true, decide_eq_true_eq]
      constructor
      · rintro ⟨⟨x, y⟩, z⟩; exact ⟨x, y, z⟩
      · rintro ⟨x, y, z⟩; exact ⟨⟨x, y⟩, z⟩
    rw [hd]
    cases r with
    | none => rfl
    | some c => rfl
end Go.Proofs.Ytkidcebfpengmaa
