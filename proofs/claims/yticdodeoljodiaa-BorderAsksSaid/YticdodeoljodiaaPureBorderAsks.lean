/- Which cells are at a sector's border, which of them are open, where runs are, who crosses, is what the document says: any map of numbers, any sector, side, cell, near or raw. No condition. -/
import Derived.Test.YticdodeoljodiaaFLBorderAsks
import Derived.Test.YticdodeoljodiaaPlaw11
namespace Go.Proofs.Yticdodeoljodiaa
open Go.Hx
set_option linter.unusedVariables false
set_option linter.unusedSimpArgs false

theorem nodes_len (m : api_Map) (s : Int) : (sNodes m s).length ≤ 256 := by
  have := cells_len m.W m.H s
  have := List.length_filter_le (sOpen m) (sCells m.W m.H s)
  unfold sNodes; omega
theorem BorderAsks_pure : law11_BorderAsks.Pure := by
  intro w h c sector side cell raw _ _ hc _ _ _ _
  unfold law11_BorderAsks.f
  obtain ⟨m, e, en, hm, hw, hh, hl, hp, hb, hg⟩ := made_g w h (c := c) (fun y hy => hc y hy)
  have hcn := count_in m.W m.H
  rw [e, Option.bind_some, en]
  simp only [Option.bind_some, optm]
  have hk : ∃ x3 x4 x5, (if (!raw) = true then ((ref1_Count.f m.W m.H).bind fun v7 => (ref1_Within.f sector (-1) v7).bind fun v8 => (ref1_Within.f side (-1) 5).bind fun v9 => (ref1_Within.f cell (-1) (List.length m.C : Int)).bind fun v10 => some (v8, v9, v10)) else (some (sector, side, cell))) = some (x3, x4, x5) := by
    split
    · rw [rcount_f, Option.bind_some, within_f (by omega) (by omega) (by omega) (by omega), Option.bind_some, within_f (by omega) (by omega) (by omega) (by omega), Option.bind_some, within_f (by omega) (by omega) (by omega) (by omega)]
      exact ⟨_, _, _, rfl⟩
    · exact ⟨_, _, _, rfl⟩
  obtain ⟨x3, x4, x5, ek⟩ := hk
  rw [ek]
  simp only [Option.bind_some]
  have hx : (((ref1_IsCell.f m.W m.H x5).bind fun v13 => if v13 = true then ((ref11_Cross.f m x5).bind fun v14 => some v14) else (some [])) : Option (List api_Edge)) = some (sCross m x5) := by
    rw [riscell_f, Option.bind_some]
    by_cases hcell : CellS m.W m.H x5
    · rw [decide_eq_true hcell, if_pos rfl, rcross_f hm (fun c hc => by have := hb c hc; omega)]; rfl
    · rw [decide_eq_false hcell, if_neg (by simp)]
      have : sOpen m x5 = false := by
        unfold sOpen
        rw [decide_eq_false (fun q => hcell ⟨hm.1, q.1, q.2⟩)]; rfl
      unfold sCross; rw [if_neg (by simp [this])]
  have h1 := cells_len m.W m.H x3
  have h2 := nodes_len m x3
  have h3 := runs_len m x3 x4
  have h4 := cross_len m x5
  rw [hx, told11]
  simp only [Option.bind_some, cells_f, rcells_f, nodes_f hg, rnodes_f hm, runs_f hg, rruns_f hm, cross_f hg]
  rw [ints_self (by omega), ints_self (by omega), runs_self _ (by omega), edges_self _ (by omega)]
  rfl
end Go.Proofs.Yticdodeoljodiaa
