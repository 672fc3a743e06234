import Derived.Test.YticdodeoljodiaaPnodes
namespace Go.Proofs.Yticdodeoljodiaa
open Go.Hx
set_option linter.unusedVariables false
set_option linter.unusedSimpArgs false

theorem step_back {w h c s t : Int} (hc : CellS w h c) (s0 : 0 ≤ s) (s4 : s ≤ 4) (t0 : 0 ≤ t) (t4 : t ≤ 4) (hs : CellS w h (sStep w h c s)) (hx : dX t = - dX s) (hy : dY t = - dY s) : sStep w h (sStep w h c s) t = c := by
  rcases step_cases hc s0 s4 with ⟨h1, _⟩ | ⟨_, b1, b2, _⟩
  · rw [h1] at hs; obtain ⟨_, h2, _⟩ := hs; omega
  · have e : sStep w h (sStep w h c s) t = sCell w h (sStep w h c s % w + dX t) (sStep w h c s / w + dY t) := by unfold sStep; rw [if_pos (c := CellS w h _ ∧ 0 ≤ t ∧ _) ⟨by unfold sStep at hs; exact hs, t0, t4⟩]
    rw [e, b1, b2, hx, hy]
    have e1 : c % w + dX s + -dX s = c % w := by omega
    have e2 : c / w + dY s + -dY s = c / w := by omega
    rw [e1, e2, cell_xy hc]
/-- who is over the border is over it from there -/
theorem over_back {w h c j : Int} (h0 : 0 ≤ sOver w h c j) : ∃ t, 0 ≤ t ∧ t ≤ 3 ∧ sOver w h (sOver w h c j) t = c := by
  obtain ⟨hc, j0, j3, h1, h2, h3⟩ := over_cell h0
  have hbk : ∃ t, 0 ≤ t ∧ t ≤ 3 ∧ dX t = - dX j ∧ dY t = - dY j := by
    have hs : j = 0 ∨ j = 1 ∨ j = 2 ∨ j = 3 := by omega
    rcases hs with rfl | rfl | rfl | rfl
    · exact ⟨2, by omega, by omega, rfl, rfl⟩
    · exact ⟨3, by omega, by omega, rfl, rfl⟩
    · exact ⟨0, by omega, by omega, rfl, rfl⟩
    · exact ⟨1, by omega, by omega, rfl, rfl⟩
  obtain ⟨t, t0, t3, tx, ty⟩ := hbk
  refine ⟨t, t0, t3, ?_⟩
  rw [h2] at h1 h3 ⊢
  have hb := step_back hc j0 (by omega : j ≤ 4) t0 (by omega : t ≤ 4) h1 tx ty
  have : ¬ (sStep w h (sStep w h c j) t < 0 ∨ sSector w h (sStep w h (sStep w h c j) t) = sSector w h (sStep w h c j)) := by
    rw [hb]
    rintro (q | q)
    · have := hc.2; omega
    · exact h3 q.symm
  unfold sOver
  rw [if_neg this, hb]
/-- over the border only from its rim -/
theorem over_rim {w h c j : Int} (h0 : 0 ≤ sOver w h c j) : (j = 0 → c / w % 16 = 0) ∧ (j = 1 → c % w % 16 = 15) ∧ (j = 2 → c / w % 16 = 15) ∧ (j = 3 → c % w % 16 = 0) := by
  obtain ⟨hc, j0, j3, h1, h2, h3⟩ := over_cell h0
  rw [h2] at h1 h3
  have hp := place_in hc
  rcases step_cases hc j0 (by omega : j ≤ 4) with ⟨b1, _⟩ | ⟨b1, b2, b3, _⟩
  · rw [b1] at h1; have := h1.2; omega
  · have : ¬ ((c / w + dY j) / 16 = c / w / 16 ∧ (c % w + dX j) / 16 = c % w / 16) := fun q => h3 (by
      unfold sSector
      rw [if_pos h1, if_pos hc, b2, b3, q.1, q.2])
    unfold dX dY at this
    refine ⟨?_, ?_, ?_, ?_⟩ <;> rintro rfl <;> simp at this <;> omega
/-- what is known of one who crosses -/
theorem cross_mem {m : api_Map} {c : Int} {e : api_Edge} (he : e ∈ sCross m c) : sOpen m c = true ∧ ∃ j : Int, 0 ≤ j ∧ j ≤ 3 ∧ e.To = sOver m.W m.H c j ∧ sOpen m e.To = true ∧ e.Cost = rd m.C e.To ∧ 0 ≤ sOver m.W m.H c j := by
  unfold sCross at he
  by_cases ho : sOpen m c = true
  · rw [if_pos ho] at he
    unfold sCrossTo at he
    obtain ⟨j, hj, rfl⟩ := List.mem_map.mp he
    obtain ⟨hj1, hj2⟩ := List.mem_filter.mp hj
    have := List.mem_range.mp hj1
    refine ⟨ho, (j : Int), by omega, by omega, rfl, hj2, rfl, (sopen_iff.mp hj2).1.1⟩
  · rw [if_neg ho] at he; cases he
theorem mem_cross {m : api_Map} {c j : Int} (ho : sOpen m c = true) (j0 : 0 ≤ j) (j3 : j ≤ 3) (h : sOpen m (sOver m.W m.H c j) = true) : api_Edge.mk (sOver m.W m.H c j) (rd m.C (sOver m.W m.H c j)) ∈ sCross m c := by
  unfold sCross sCrossTo
  rw [if_pos ho]
  refine List.mem_map.mpr ⟨j.toNat, List.mem_filter.mpr ⟨List.mem_range.mpr (by omega), ?_⟩, ?_⟩
  · simp only [show ((j.toNat : Nat) : Int) = j by omega]; exact h
  · simp only [show ((j.toNat : Nat) : Int) = j by omega]
theorem cross_side {m : api_Map} {c : Int} : (sCross m c).Pairwise (fun e f => sSide m.W m.H c e.To < sSide m.W m.H c f.To) := by
  unfold sCross
  split
  · unfold sCrossTo
    rw [List.pairwise_map]
    have h1 : ((List.range 4).filter (fun j : Nat => sOpen m (sOver m.W m.H c (j : Int)))).Pairwise (· < ·) := List.Pairwise.sublist List.filter_sublist List.pairwise_lt_range
    refine List.Pairwise.imp_of_mem ?_ h1
    intro a b ha hb hab
    have ka := (sopen_iff.mp (List.mem_filter.mp ha).2).1.1
    have kb := (sopen_iff.mp (List.mem_filter.mp hb).2).1.1
    obtain ⟨hc, a0, a3, a1, a2, _⟩ := over_cell ka
    obtain ⟨_, b0, b3, b1, b2, _⟩ := over_cell kb
    simp only
    rw [a2, b2]
    rw [a2] at a1
    rw [b2] at b1
    rw [side_of hc a0 (by omega) a1, side_of hc b0 (by omega) b1]
    omega
  · exact List.Pairwise.nil
theorem cross_two (m : api_Map) (c : Int) : (sCross m c).length ≤ 2 := by
  unfold sCross
  split
  · have hno : ∀ i j : Int, sOpen m (sOver m.W m.H c i) = true → sOpen m (sOver m.W m.H c j) = true → ¬ (i = 0 ∧ j = 2) ∧ ¬ (i = 1 ∧ j = 3) := by
      intro i j hi hj
      have ki := over_rim (sopen_iff.mp hi).1.1
      have kj := over_rim (sopen_iff.mp hj).1.1
      constructor
      · rintro ⟨q1, q2⟩
        have := ki.1 q1; have := kj.2.2.1 q2; omega
      · rintro ⟨q1, q2⟩
        have := ki.2.1 q1; have := kj.2.2.2 q2; omega
    have n02 := hno 0 2
    have n13 := hno 1 3
    have l0 : (sCrossTo m c 0).length = 0 := rfl
    have hs := fun n => crossTo_succ m c n
    have e1 : (sCrossTo m c 1).length = if sOpen m (sOver m.W m.H c 0) = true then 1 else 0 := by
      rw [hs 0]; split
      · rename_i q; rw [if_pos (show sOpen m (sOver m.W m.H c 0) = true from q)]; simp [l0]
      · rename_i q; rw [if_neg (show ¬ sOpen m (sOver m.W m.H c 0) = true from q)]; exact l0
    have e2 : (sCrossTo m c 2).length = (sCrossTo m c 1).length + if sOpen m (sOver m.W m.H c 1) = true then 1 else 0 := by
      rw [hs 1]; split
      · rename_i q; rw [if_pos (show sOpen m (sOver m.W m.H c 1) = true from q)]; simp
      · rename_i q; rw [if_neg (show ¬ sOpen m (sOver m.W m.H c 1) = true from q)]; rfl
    have e3 : (sCrossTo m c 3).length = (sCrossTo m c 2).length + if sOpen m (sOver m.W m.H c 2) = true then 1 else 0 := by
      rw [hs 2]; split
      · rename_i q; rw [if_pos (show sOpen m (sOver m.W m.H c 2) = true from q)]; simp
      · rename_i q; rw [if_neg (show ¬ sOpen m (sOver m.W m.H c 2) = true from q)]; rfl
    have e4 : (sCrossTo m c 4).length = (sCrossTo m c 3).length + if sOpen m (sOver m.W m.H c 3) = true then 1 else 0 := by
      rw [hs 3]; split
      · rename_i q; rw [if_pos (show sOpen m (sOver m.W m.H c 3) = true from q)]; simp
      · rename_i q; rw [if_neg (show ¬ sOpen m (sOver m.W m.H c 3) = true from q)]; rfl
    rw [e4, e3, e2, e1]
    by_cases q0 : sOpen m (sOver m.W m.H c 0) = true <;> by_cases q1 : sOpen m (sOver m.W m.H c 1) = true <;> by_cases q2 : sOpen m (sOver m.W m.H c 2) = true <;> by_cases q3 : sOpen m (sOver m.W m.H c 3) = true <;> simp only [q0, q1, q2, q3, if_true, if_false, Bool.false_eq_true] <;> first | omega | (exfalso; first | exact (n02 q0 q2).1 ⟨rfl, rfl⟩ | exact (n13 q1 q3).2 ⟨rfl, rfl⟩)
  · simp
end Go.Proofs.Yticdodeoljodiaa
