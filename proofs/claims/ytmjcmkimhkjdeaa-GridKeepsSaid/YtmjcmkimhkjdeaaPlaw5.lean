import Derived.Test.YtmjcmkimhkjdeaaPgrid2
namespace Go.Proofs.Ytmjcmkimhkjdeaa
open Go.Hx
set_option linter.unusedVariables false
set_option linter.unusedSimpArgs false

theorem told5 : law5_told.f = some true := by
  unfold law5_told.f
  have hm : MapOk (api_Map.mk 2 1 [5, 6]) := ⟨⟨by decide, by decide, by decide, by decide⟩, by decide, by decide⟩
  have e1 : gNew (api_Map.mk 2 1 [5, 6]) 0 = some (grid_Grid.mk (api_Map.mk 2 1 [5, 6]) 1 [1]) := by
    unfold gNew; rw [if_pos ⟨hm, by decide, by decide⟩]
    have : sCount 2 1 = 1 := by decide
    rw [this]; rfl
  have hg : GridS (grid_Grid.mk (api_Map.mk 2 1 [5, 6]) 1 [1]) 1 := by
    refine ⟨hm, fun c c0 c1 => ?_, by decide, by decide⟩
    have h2 : c = 0 ∨ c = 1 := by simp at c1; omega
    rcases h2 with rfl | rfl
    · exact ⟨by decide, by decide⟩
    · exact ⟨by decide, by decide⟩
  have e2 : gEdit (grid_Grid.mk (api_Map.mk 2 1 [5, 6]) 1 [1]) 1 9 = (0, grid_Grid.mk (api_Map.mk 2 1 [5, 9]) 2 [2]) := by rfl
  rw [gnew_f _ _ (by decide), e1, Option.bind_some]
  simp only [optm, edit_f hg, e2, Option.bind_some]
  have e3 : grid_Grid_Cost.f (grid_Grid.mk (api_Map.mk 2 1 [5, 9]) 2 [2]) 1 = some 9 := by rfl
  have e4 : grid_Grid_Version.f (grid_Grid.mk (api_Map.mk 2 1 [5, 9]) 2 [2]) 0 = some 2 := by rfl
  have e5 : grid_Grid_Epoch.f (grid_Grid.mk (api_Map.mk 2 1 [5, 9]) 2 [2]) = some 2 := by rfl
  have e6 : grid_Grid_Epoch.f (grid_Grid.mk (api_Map.mk 2 1 [5, 6]) 1 [1]) = some 1 := by rfl
  simp [e3, e4, e5, e6]
end Go.Proofs.Ytmjcmkimhkjdeaa
