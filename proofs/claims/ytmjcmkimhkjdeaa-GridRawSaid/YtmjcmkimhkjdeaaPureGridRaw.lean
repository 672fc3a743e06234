/- Which maps and epochs make a grid is what the document says: any map of at most 2,500 costs, near or raw, any epoch. No condition. -/
import Derived.Test.YtmjcmkimhkjdeaaFLGridRaw
import Derived.Test.YtmjcmkimhkjdeaaPlaw5
import Derived.Test.YtmjcmkimhkjdeaaPmade
namespace Go.Proofs.Ytmjcmkimhkjdeaa
open Go.Hx
set_option linter.unusedVariables false
set_option linter.unusedSimpArgs false

theorem GridRaw_pure : law5_GridRaw.Pure := by
  intro m epoch raw hm he _
  unfold law5_GridRaw.f
  by_cases hbig : (List.length m.C : Int) > 2500
  · rw [if_pos hbig]; simp [told5]
  · rw [if_neg hbig]
    have hown : ref1_Own.f m = some m := by
      unfold ref1_Own.f
      rw [if_pos (by simp; omega)]; simp
    have hk : ∃ x3 x4 x5, (if (!raw) = true then ((ref1_Made.f m.W m.H m.C).bind fun v7 => some (v7.W, v7.H, v7.C)) else (some (m.W, m.H, m.C))) = some (x3, x4, x5) ∧ x5.length ≤ 2500 := by
      split
      · obtain ⟨q, e, ⟨h1, h2, _⟩, h3, h4, _⟩ := made_f m.W m.H (c := m.C) (fun y hy => hm.2.2 y hy)
        rw [e]
        have : q.W * q.H ≤ 40 * 40 := mul_le (by omega) (by omega) h3 h4
        exact ⟨_, _, _, rfl, by omega⟩
      · exact ⟨_, _, _, rfl, by omega⟩
    obtain ⟨x3, x4, x5, e, hl⟩ := hk
    rw [hown, Option.bind_some, e]
    simp only [Option.bind_some, gnew_f (api_Map.mk x3 x4 x5) epoch (by simp only; omega), ref_may_f (api_Map.mk x3 x4 x5) (by simp only; omega), told5]
    unfold gNew
    by_cases h : MapOk (api_Map.mk x3 x4 x5) ∧ 0 ≤ epoch ∧ epoch ≤ 4611686018427387904
    · rw [if_pos h]
      simp only [optm, decide_eq_true h.1, Bool.not_true, Bool.false_or]
      rw [if_neg (by simp; omega)]
      have e1 : grid_Grid_Epoch.f (grid_Grid.mk (api_Map.mk x3 x4 x5) (epoch + 1) (List.replicate (sCount x3 x4).toNat (epoch + 1))) = some (epoch + 1) := rfl
      have e2 : grid_Grid_Map.f (grid_Grid.mk (api_Map.mk x3 x4 x5) (epoch + 1) (List.replicate (sCount x3 x4).toNat (epoch + 1))) = some (api_Map.mk x3 x4 x5) := by
        unfold grid_Grid_Map.f; simp only; rw [clone_f _ (by omega)]; rfl
      have e3 : ref1_SameMap.f (api_Map.mk x3 x4 x5) (api_Map.mk x3 x4 x5) = some true := by
        unfold ref1_SameMap.f ref1_Bytes.f; simp [strEq_self]
      rw [w64_id (x := epoch + 1) (by omega) (by omega)]
      simp [e1, e2, e3]
    · rw [if_neg h]
      simp only [optm]
      rw [if_pos]
      · rfl
      · by_cases h1 : MapOk (api_Map.mk x3 x4 x5)
        · have : ¬ (0 ≤ epoch ∧ epoch ≤ 4611686018427387904) := fun q => h ⟨h1, q⟩
          rw [decide_eq_true h1]; simp; omega
        · rw [decide_eq_false h1]; simp
end Go.Proofs.Ytmjcmkimhkjdeaa
