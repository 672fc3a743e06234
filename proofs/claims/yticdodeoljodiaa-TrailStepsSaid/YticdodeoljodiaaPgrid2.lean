import Derived.Test.YticdodeoljodiaaPgrid
namespace Go.Proofs.Yticdodeoljodiaa
open Go.Hx
set_option linter.unusedVariables false
set_option linter.unusedSimpArgs false

/-- a grid that stands: its map may be, its costs are bytes, each sector has a version; so many edits more may come -/
structure GridS (g : grid_Grid) (more : Int) : Prop where
  ok : MapOk g.m
  by_ : ∀ c : Int, 0 ≤ c → c < g.m.W * g.m.H → 1 ≤ rd g.m.C c ∧ rd g.m.C c ≤ 255
  vs : (g.versions.length : Int) = sCount g.m.W g.m.H
  ep : 1 ≤ g.epoch ∧ g.epoch + more ≤ 4611686018427387905 + 1000 ∧ 0 ≤ more

def inMap (m : api_Map) (c : Int) : Prop := 0 ≤ c ∧ c < m.W * m.H
instance (m : api_Map) (c : Int) : Decidable (inMap m c) := by unfold inMap; infer_instance
def gCost (g : grid_Grid) (c : Int) : Int := if inMap g.m c then rd g.m.C c else 0
def gVersion (g : grid_Grid) (s : Int) : Int := if 0 ≤ s ∧ s < sCount g.m.W g.m.H then rd g.versions s else 0
def gLay (g : grid_Grid) (c v : Int) : grid_Grid := grid_Grid.mk (api_Map.mk g.m.W g.m.H (List.set g.m.C c.toNat v)) (g.epoch + 1) (List.set g.versions (sSector g.m.W g.m.H c).toNat (g.epoch + 1))
def gEdit (g : grid_Grid) (c v : Int) : Int × grid_Grid := if ¬ inMap g.m c then (7, g) else if v < 1 ∨ 255 < v then (8, g) else (0, gLay g c v)

variable {g : grid_Grid} {more : Int}
theorem out_f (h : GridS g more) (c : Int) : (if c < 0 then (some true) else (some (decide (c ≥ (List.length g.m.C : Int))))) = some (decide (¬ inMap g.m c)) := by
  have hl := h.ok.2.1
  unfold inMap
  by_cases h0 : c < 0
  · rw [if_pos h0, decide_eq_true (by omega)]
  · rw [if_neg h0, hl]; congr 1; rw [Bool.eq_iff_iff]; simp; omega
theorem cost_f (h : GridS g more) (c : Int) : grid_Grid_Cost.f g c = some (gCost g c) := by
  unfold grid_Grid_Cost.f gCost
  rw [out_f h]
  have hl := h.ok.2.1
  by_cases hc : inMap g.m c
  · obtain ⟨c0, c1⟩ := hc
    have hb := h.by_ c c0 c1
    have hc : inMap g.m c := ⟨c0, c1⟩
    rw [Option.bind_some, if_neg (by simpa using hc), if_pos (by omega), if_pos hc, w64_id (by omega) (by omega)]
  · rw [Option.bind_some, if_pos (by simpa using hc), if_neg hc]
theorem edit_f (h : GridS g more) (c v : Int) : grid_Grid_Edit.f g c v = some (gEdit g c v) := by
  unfold grid_Grid_Edit.f gEdit
  rw [out_f h]
  have hl := h.ok.2.1
  have hv := h.vs
  by_cases hc : inMap g.m c
  · obtain ⟨c0, c1⟩ := hc
    have hc : inMap g.m c := ⟨c0, c1⟩
    rw [Option.bind_some, if_neg (by simpa using hc), if_neg (c := ¬ inMap g.m c) (fun q => q hc)]
    by_cases hq : v < 1 ∨ 255 < v
    · rw [if_pos (by simp; omega), if_pos hq]
    · have hcell : CellS g.m.W g.m.H c := ⟨h.ok.1, c0, c1⟩
      have hsec : SecS g.m.W g.m.H (sSector g.m.W g.m.H c) := by unfold sSector; rw [if_pos hcell]; exact sector_in hcell
      have hep := h.ep
      rw [if_neg (by simp; omega), if_neg hq, if_pos (by omega), sector_f, Option.bind_some, if_pos (by rw [hv]; exact ⟨hsec.1, hsec.2⟩), wu8_id (by omega) (by omega), w64_id (by omega) (by omega)]
      rfl
  · rw [Option.bind_some, if_pos (by simpa using hc), if_pos (c := ¬ inMap g.m c) hc]
theorem lay_s (h : GridS g more) (h1 : 1 ≤ more) {c v : Int} (hc : inMap g.m c) (v0 : 1 ≤ v) (v1 : v ≤ 255) : GridS (gLay g c v) (more - 1) := by
  obtain ⟨c0, c1⟩ := hc
  have hl := h.ok.2.1
  have hep := h.ep
  have hby : ∀ d : Int, 0 ≤ d → d < g.m.W * g.m.H → 1 ≤ rd (List.set g.m.C c.toNat v) d ∧ rd (List.set g.m.C c.toNat v) d ≤ 255 := fun d d0 d1 => by
    rw [rd_set c0 (by omega) d0]
    split
    · exact ⟨v0, v1⟩
    · exact h.by_ d d0 d1
  refine ⟨⟨h.ok.1, by simp [gLay, hl], fun hm => ?_⟩, hby, by simp [gLay, h.vs], ⟨by simp [gLay]; omega, by simp [gLay]; omega, by omega⟩⟩
  obtain ⟨i, hi, he⟩ := List.getElem_of_mem hm
  have hi2 : i < (List.set g.m.C c.toNat v).length := hi
  rw [List.length_set] at hi2
  have := hby i (by omega) (by omega)
  rw [rd_eq (show (i : Int).toNat < (List.set g.m.C c.toNat v).length by rw [List.length_set]; omega)] at this
  have he : (List.set g.m.C c.toNat v)[i] = 0 := he
  simp only [Int.toNat_natCast] at this
  omega
end Go.Proofs.Yticdodeoljodiaa
