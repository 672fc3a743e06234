import Derived.Test.YtnkdnecilkafhaaDoorPone
import Derived.Test.YtnkdnecilkafhaaDoorFatlas
namespace Go.Proofs.YtnkdnecilkafhaaDoor
open Go.Hx

/-- there may be such a map -/
abbrev MapOk (m : api_Map) : Prop := MayS m.W m.H ∧ (m.C.length : Int) = m.W * m.H ∧ 0 ∉ m.C

theorem atlas_may_f (m : api_Map) (hb : m.C.length < 4611686018427387904) : atlas_May.f m = some (decide (MapOk m)) := by
  unfold atlas_May.f
  rw [may_f]
  by_cases hm : MayS m.W m.H
  · have hp := may_prod hm
    rw [w64_id (x := m.W * m.H) (by omega) (by omega), contains_f _ _ hb]
    by_cases hl : (m.C.length : Int) = m.W * m.H
    · simp [hm, hl]
    · simp [hl]
  · simp [hm]
theorem ref_may_f (m : api_Map) (hb : m.C.length < 4611686018427387904) : ref1_MayMap.f m = some (decide (MapOk m)) := by
  unfold ref1_MayMap.f
  rw [rmay_f]
  by_cases hm : MayS m.W m.H
  · have hp := may_prod hm
    rw [w64_id (x := m.W * m.H) (by omega) (by omega), full_f _ hb]
    by_cases hl : (m.C.length : Int) = m.W * m.H
    · simp [hm, hl]
    · simp [hl]
  · simp [hm]

theorem all_rep {x : List Int} {v : Int} (h : ∀ c : Int, 0 ≤ c → c < x.length → rd x c = v) : x = List.replicate x.length v := by
  rw [List.eq_replicate_iff]
  refine ⟨rfl, fun b hb => ?_⟩
  obtain ⟨i, hi, rfl⟩ := List.getElem_of_mem hb
  have := h i (by omega) (by omega)
  rw [rd_eq (by simpa using hi)] at this
  simpa using this

end Go.Proofs.YtnkdnecilkafhaaDoor
