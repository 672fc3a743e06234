/- What is none does nothing: no grid, any numbers. No condition. -/
import Derived.Test.YtmjcmkimhkjdeaaFLGridNone
import Derived.Test.YtmjcmkimhkjdeaaPlaw5
namespace Go.Proofs.Ytmjcmkimhkjdeaa
open Go.Hx

theorem GridNone_pure : law5_GridNone.Pure := by
  intro cell cost sector _ _ _
  unfold law5_GridNone.f
  have q1 : grid_Grid_Size_2.f = some (0, 0) := by rfl
  have q2 : grid_Grid_Tile_2.f sector = some (api_Map.mk 0 0 [], false) := by
    unfold grid_Grid_Tile_2.f
    have : sSize 0 0 sector = (0, 0) := by
      unfold sSize
      rw [if_neg (fun h => by have := sec_may h; obtain ⟨h1, _⟩ := this; omega)]
    rw [q1, Option.bind_some, size_f, this]; rfl
  have q3 : grid_Grid_Map_2.f = some (api_Map.mk 0 0 []) := by rfl
  have q4 : grid_Grid_Cost_2.f cell = some 0 := by rfl
  have q5 : grid_Grid_Edit_2.f cell cost = some 4 := by rfl
  have q6 : grid_Grid_Epoch_2.f = some 0 := by rfl
  have q7 : grid_Grid_Version_2.f sector = some 0 := by rfl
  simp [q1, q2, q3, q4, q5, q6, q7, told5]
end Go.Proofs.Ytmjcmkimhkjdeaa
