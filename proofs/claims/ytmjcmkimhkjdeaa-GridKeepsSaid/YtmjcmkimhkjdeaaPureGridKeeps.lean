/- What was handed in, or was answered, may be changed by who has it, the grid's is not: any map of numbers, any cell, any cost. No condition. -/
import Derived.Test.YtmjcmkimhkjdeaaFLGridKeeps
import Derived.Test.YtmjcmkimhkjdeaaPlaw5
import Derived.Test.YtmjcmkimhkjdeaaPtile
import Derived.Test.YtmjcmkimhkjdeaaPmade
namespace Go.Proofs.Ytmjcmkimhkjdeaa
open Go.Hx
set_option linter.unusedVariables false
set_option linter.unusedSimpArgs false

theorem keeps_l0 {m : api_Map} {g : grid_Grid} {cell : Int} (x : Int) (hg : GridS g 0) (hm : g.m = m) (he : g.epoch = 1) (hc : inMap m cell) : ∀ (n k : Nat) (i : Int) (t : List Int), i + n = t.length → (t.length : Int) ≤ 1000 → 0 ≤ i → n < k →
    law5_GridKeeps.l0 k x m g cell t i = some true := by
  intro n
  induction n with
  | zero =>
    intro k i t hi ht h0 hk
    obtain ⟨k, rfl⟩ : ∃ q, k = q + 1 := ⟨k - 1, by omega⟩
    have hl := hg.ok.2.1
    have hp := may_prod hg.ok.1
    have hb := hg.by_ cell hc.1 (by rw [hm]; exact hc.2)
    have h5 := hc.2
    have hcost : gCost g cell = rd m.C cell := by unfold gCost; rw [if_pos (by rw [hm]; exact hc), hm]
    have e0 : grid_Grid_Epoch.f g = some g.epoch := rfl
    subst hm
    rw [law5_GridKeeps.l0, if_neg (by omega), told5, gmap_f g (by omega)]
    simp only [Option.bind_some, same_f, cost_f hg, hcost, e0, he]
    rw [if_pos True.intro, if_pos True.intro, if_pos ⟨hc.1, by omega⟩, w64_id (x := rd g.m.C cell) (by omega) (by omega)]
    simp
  | succ n ih =>
    intro k i t hi ht h0 hk
    obtain ⟨k, rfl⟩ : ∃ q, k = q + 1 := ⟨k - 1, by omega⟩
    rw [law5_GridKeeps.l0, if_pos (by omega), if_pos (by omega), w64_id (by omega) (by omega)]
    exact ih k (i + 1) _ (by rw [List.length_set]; omega) (by rw [List.length_set]; omega) (by omega) (by omega)

theorem GridKeeps_pure : law5_GridKeeps.Pure := by
  intro w h c cell x _ _ hc _ _ _
  unfold law5_GridKeeps.f
  obtain ⟨m, e, hm, hw, hh, hb⟩ := made_f w h (c := c) (fun y hy => hc y hy)
  have hlen : m.C.length ≤ 1600 ∧ (m.C.length : Int) = m.W * m.H ∧ 1 ≤ m.W * m.H := by
    have hp := may_prod hm.1
    obtain ⟨⟨a1, a2, a3, a4⟩, a5, _⟩ := hm
    have : m.W * m.H ≤ 40 * 40 := mul_le (by omega) (by omega) hw hh
    omega
  have hg : GridS (grid_Grid.mk m (0 + 1) (List.replicate (sCount m.W m.H).toNat (0 + 1))) 0 := by
    have hc := count_in m.W m.H
    refine ⟨hm, fun c c0 c1 => hb _ (rd_mem c0 (by rw [hm.2.1]; exact c1)), by simp; omega, by simp⟩
  have en : gNew m 0 = some (grid_Grid.mk m (0 + 1) (List.replicate (sCount m.W m.H).toNat (0 + 1))) := by unfold gNew; rw [if_pos ⟨hm, by omega, by omega⟩]
  rw [e, Option.bind_some, own_f m (by omega), Option.bind_some, gnew_f m 0 (by omega), en]
  simp only [Option.bind_some, optm]
  rw [w64_id (x := (m.C.length : Int) - 1) (by omega) (by omega), within_f (by omega) (by omega) (by omega) (by omega), Option.bind_some]
  have hin := within_in (n := cell) (lo := 0) (hi := (m.C.length : Int) - 1) (by omega)
  generalize hcc : 0 + cell % ((m.C.length : Int) - 1 - 0 + 1) = cc at *
  have hcell : CellS m.W m.H cc := ⟨hm.1, by omega, by omega⟩
  have hsec : SecS m.W m.H (sSector m.W m.H cc) := by unfold sSector; rw [if_pos hcell]; exact sector_in hcell
  rw [if_pos (by omega), gmap_f _ (by simp only; omega), Option.bind_some, rsector_f, Option.bind_some, tile_f hg, Option.bind_some]
  have hz := size_in hsec
  have hpr : (sSize m.W m.H (sSector m.W m.H cc)).1 * (sSize m.W m.H (sSector m.W m.H cc)).2 ≤ 16 * 16 := mul_le (by omega) (by omega) hz.2.1 hz.2.2.2
  have et : gTile (grid_Grid.mk m (0 + 1) (List.replicate (sCount m.W m.H).toNat (0 + 1))) (sSector m.W m.H cc) = (api_Map.mk (sSize m.W m.H (sSector m.W m.H cc)).1 (sSize m.W m.H (sSector m.W m.H cc)).2 (tileL m (sSector m.W m.H cc) ((sSize m.W m.H (sSector m.W m.H cc)).1 * (sSize m.W m.H (sSector m.W m.H cc)).2).toNat), true) := by unfold gTile; exact if_pos hsec
  rw [et, same_f]
  simp only [Bool.not_true, Bool.false_eq_true, if_false, bne_self_eq_false, Option.bind_some]
  rw [if_pos (by omega)]
  exact keeps_l0 x hg rfl (by simp) (m := m) ⟨by omega, by omega⟩ (tileL m (sSector m.W m.H cc) ((sSize m.W m.H (sSector m.W m.H cc)).1 * (sSize m.W m.H (sSector m.W m.H cc)).2).toNat).length fuel 0 _ (by omega) (by rw [tileL_length]; omega) (by omega) (by rw [fuel_eq, tileL_length]; omega)
end Go.Proofs.Ytmjcmkimhkjdeaa
