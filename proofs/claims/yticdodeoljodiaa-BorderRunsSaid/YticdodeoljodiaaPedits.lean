import Derived.Test.YticdodeoljodiaaPnodes
namespace Go.Proofs.Yticdodeoljodiaa
open Go.Hx
set_option linter.unusedVariables false
set_option linter.unusedSimpArgs false

/-- a sector's cells rise -/
theorem global_lt {w h s l k : Int} (hs : SecS w h s) (h0 : 0 ≤ l) (h1 : l < k) (h2 : k < (sSize w h s).1 * (sSize w h s).2) : sGlobal w h s l < sGlobal w h s k := by
  obtain ⟨a1, a2, a3, a4, a5, a6⟩ := global_parts hs h0 (by omega : l < _)
  obtain ⟨b1, b2, b3, b4, b5, b6⟩ := global_parts (l := k) hs (by omega) h2
  have e1 : sGlobal w h s l = (16 * (s / (sSectors w h).1) + l / (sSize w h s).1) * w + (16 * (s % (sSectors w h).1) + l % (sSize w h s).1) := by unfold sGlobal; rw [if_pos ⟨hs, h0, by omega⟩]
  have e2 : sGlobal w h s k = (16 * (s / (sSectors w h).1) + k / (sSize w h s).1) * w + (16 * (s % (sSectors w h).1) + k % (sSize w h s).1) := by unfold sGlobal; rw [if_pos ⟨hs, by omega, h2⟩]
  have p := sec_parts hs
  have hz := size_in hs
  have m1 := Int.mul_ediv_add_emod l (sSize w h s).1
  have m2 := Int.mul_ediv_add_emod k (sSize w h s).1
  rw [e1, e2]
  have hle : l / (sSize w h s).1 ≤ k / (sSize w h s).1 := Int.ediv_le_ediv (by omega) (by omega)
  by_cases hq : l / (sSize w h s).1 = k / (sSize w h s).1
  · rw [← hq] at m2 ⊢; omega
  · have := Int.mul_le_mul_of_nonneg_right (show 16 * (s / (sSectors w h).1) + l / (sSize w h s).1 + 1 ≤ 16 * (s / (sSectors w h).1) + k / (sSize w h s).1 by omega) (show 0 ≤ w by omega)
    rw [Int.add_mul (16 * (s / (sSectors w h).1) + l / (sSize w h s).1), Int.one_mul] at this
    omega
theorem cells_rise (w h s : Int) : (sCells w h s).Pairwise (· < ·) := by
  unfold sCells sCellsTo
  have hz := size_prod w h s
  rw [List.pairwise_map]
  have h1 : ((List.range ((sSize w h s).1 * (sSize w h s).2).toNat).filter (fun l : Nat => sAtB w h s (l : Int))).Pairwise (· < ·) := List.Pairwise.sublist List.filter_sublist List.pairwise_lt_range
  refine List.Pairwise.imp_of_mem ?_ h1
  intro a b ha hb hab
  have kb := List.mem_range.mp (List.mem_filter.mp hb).1
  exact global_lt (size_sec (w := w) (h := h) (s := s) (l := (b : Int)) (by omega) (by omega)) (by omega) (by omega) (by omega)
theorem nodes_rise (m : api_Map) (s : Int) : (sNodes m s).Pairwise (· < ·) := (cells_rise m.W m.H s).sublist List.filter_sublist
theorem nodes_mem {m : api_Map} {s c : Int} (h : c ∈ sNodes m s) : sOpen m c = true ∧ inMap m c ∧ SecS m.W m.H s ∧ sSector m.W m.H c = s := by
  obtain ⟨h1, h2⟩ := List.mem_filter.mp h
  unfold sCells sCellsTo at h1
  obtain ⟨l, hl, rfl⟩ := List.mem_map.mp h1
  have hz := size_prod m.W m.H s
  have kl := List.mem_range.mp (List.mem_filter.mp hl).1
  have hs := size_sec (w := m.W) (h := m.H) (s := s) (l := (l : Int)) (by omega) (by omega)
  exact ⟨h2, (sopen_iff.mp h2).1, hs, sec_global hs (by omega) (by omega)⟩
theorem nodes_len (m : api_Map) (s : Int) : (sNodes m s).length ≤ 256 := by
  have := cells_len m.W m.H s
  have := List.length_filter_le (sOpen m) (sCells m.W m.H s)
  unfold sNodes; omega
end Go.Proofs.Yticdodeoljodiaa
