import Derived.Test.YticdodeoljodiaaPwhere
namespace Go.Proofs.Yticdodeoljodiaa
open Go.Hx
set_option linter.unusedVariables false
set_option linter.unusedSimpArgs false

/-- how far a side leads, east and south -/
def dX (side : Int) : Int := if side = 1 then 1 else if side = 3 then -1 else 0
def dY (side : Int) : Int := if side = 0 then -1 else if side = 2 then 1 else 0
def sStep (w h c side : Int) : Int :=
  if CellS w h c ∧ 0 ≤ side ∧ side ≤ 4 then sCell w h (c % w + dX side) (c / w + dY side) else -1

theorem step_f (w h c side : Int) : where_Step.f w h c side = some (sStep w h c side) := by
  unfold where_Step.f sStep
  simp only [place_f, Option.bind_some]
  by_cases hc : CellS w h c
  · rw [if_neg (by rw [place_neg]; simp [hc])]
    have hp := place_in hc
    obtain ⟨q1, q2, q3, q4⟩ := hc.1
    have e : sPlace w h c = (c % w, c / w) := by unfold sPlace; rw [if_pos hc]
    simp only [e, cell_f, Option.bind_some]
    have e1 : w64 (c / w + -1) = c / w + -1 := w64_id (by omega) (by omega)
    have e2 : w64 (c / w + 1) = c / w + 1 := w64_id (by omega) (by omega)
    have e3 : w64 (c % w + -1) = c % w + -1 := w64_id (by omega) (by omega)
    have e4 : w64 (c % w + 1) = c % w + 1 := w64_id (by omega) (by omega)
    by_cases h0 : side = 0
    · subst h0; simp [e1, dX, dY, hc]
    by_cases h2 : side = 2
    · subst h2; simp [e2, dX, dY, hc]
    by_cases h3 : side = 3
    · subst h3; simp [e3, dX, dY, hc]
    by_cases h1 : side = 1
    · subst h1; simp [e4, dX, dY, hc]
    by_cases h4 : side = 4
    · subst h4; simp [dX, dY, hc]
    · rw [if_neg (c := CellS w h c ∧ _) (by omega)]
      simp [h0, h1, h2, h3, h4]
  · rw [if_pos (by rw [place_neg]; exact hc), if_neg (fun h => hc h.1)]
theorem rstep_f (w h c side : Int) : ref1_Step.f w h c side = some (sStep w h c side) := by
  unfold ref1_Step.f sStep
  simp only [riscell_f, in_f, Option.bind_some]
  by_cases hc : CellS w h c
  · have hp := place_in hc
    obtain ⟨q1, q2, q3, q4⟩ := hc.1
    have hne : ¬ w = 0 := by omega
    by_cases hs : 0 ≤ side ∧ side ≤ 4
    · have e1 : w64 (c / w - 1) = c / w - 1 := w64_id (by omega) (by omega)
      have e2 : w64 (c / w + 1) = c / w + 1 := w64_id (by omega) (by omega)
      have e3 : w64 (c % w - 1) = c % w - 1 := w64_id (by omega) (by omega)
      have e4 : w64 (c % w + 1) = c % w + 1 := w64_id (by omega) (by omega)
      have e5 : w64 (c / w) = c / w := w64_id (by omega) (by omega)
      have e6 : w64 (w - 1) = w - 1 := w64_id (by omega) (by omega)
      have e7 : w64 (h - 1) = h - 1 := w64_id (by omega) (by omega)
      have fin : ∀ x y : Int, -1 ≤ x → x ≤ w → -1 ≤ y → y ≤ h →
          (if x < 0 ∨ w - 1 < x then some true else some (!decide (0 ≤ y) || !decide (y ≤ h - 1))).bind (fun x13 => if x13 = true then (some (-1)) else (some (w64 ((w64 (y * w)) + x)))) = some (sCell w h x y) := by
        intro x y h1 h2 h3 h4
        unfold sCell
        by_cases hx : 0 ≤ x ∧ x ≤ w - 1
        · by_cases hy : 0 ≤ y ∧ y ≤ h - 1
          · have hl := cell_lt (w := w) (h := h) hx.1 (by omega) hy.1 (by omega)
            have hpr := may_prod hc.1
            have h5 : 0 ≤ y * w := mul_nn hy.1 (by omega)
            rw [if_pos (c := MayS w h ∧ _) ⟨hc.1, hx.1, by omega, hy.1, by omega⟩]
            rw [if_neg (by omega), decide_eq_true hy.1, decide_eq_true hy.2]
            simp only [Option.bind_some, Bool.not_true, Bool.or_self, Bool.false_eq_true, if_false]
            rw [w64_id (x := y * w) (by omega) (by omega), w64_id (by omega) (by omega)]
          · rw [if_neg (c := MayS w h ∧ _) (by omega), if_neg (by omega)]
            have : (!decide (0 ≤ y) || !decide (y ≤ h - 1)) = true := by rw [← Bool.not_and, ← Bool.decide_and]; simp [hy]
            rw [this]; rfl
        · rw [if_neg (c := MayS w h ∧ _) (by omega), if_pos (by omega)]; rfl
      have e8 : c / w - 1 = c / w + -1 := by omega
      have e9 : c % w - 1 = c % w + -1 := by omega
      rw [if_pos (c := CellS w h c ∧ _) ⟨hc, hs⟩]
      simp only [decide_eq_true hc, decide_eq_true hs, Bool.not_true, Bool.false_eq_true, if_false, Option.bind_some, tdiv_pos hc.2.1, tmod_pos hc.2.1, e5, e6, e7, e1, e4]
      have hsc : side = 0 ∨ side = 1 ∨ side = 2 ∨ side = 3 ∨ side = 4 := by omega
      rcases hsc with rfl | rfl | rfl | rfl | rfl
      · have := fin (c % w) (c / w - 1) (by omega) (by omega) (by omega) (by omega)
        simp only [e8] at this
        simpa [hne, dX, dY, e8] using this
      · have := fin (c % w + 1) (c / w) (by omega) (by omega) (by omega) (by omega)
        simpa [hne, dX, dY] using this
      · have := fin (c % w) (c / w + 1) (by omega) (by omega) (by omega) (by omega)
        simpa [hne, dX, dY, e2] using this
      · have := fin (c % w - 1) (c / w) (by omega) (by omega) (by omega) (by omega)
        simp only [e9] at this
        simpa [hne, dX, dY, e3, e9, show w64 (c % w + -1) = c % w + -1 by rw [← e9]; exact e3] using this
      · have := fin (c % w) (c / w) (by omega) (by omega) (by omega) (by omega)
        simpa [hne, dX, dY] using this
    · rw [if_neg (c := CellS w h c ∧ _) (fun h => hs h.2)]
      simp [hc, hs]
  · rw [if_neg (c := CellS w h c ∧ _) (fun h => hc h.1)]
    simp [hc]

/-- the first side, from one on, by which a cell is beside another one -/
def sideFrom (w h a b : Int) : Nat → Int → Int
  | 0, _ => 5
  | n + 1, s => if sStep w h a s = b then s else sideFrom w h a b n (s + 1)
def sSide (w h a b : Int) : Int := if CellS w h a ∧ CellS w h b then sideFrom w h a b 5 0 else 5
theorem fuel_succ (n : Nat) (h : n < 4611686018427387904) : ∃ m, fuel = m + (n + 1) := ⟨fuel - (n + 1), by rw [fuelv]; omega⟩
theorem side_l (w h a b : Int) : ∀ (n k : Nat) (s : Int), s + n = 5 → 0 ≤ s → n < k → where_Side.l0 k w h a b s = some (sideFrom w h a b n s) := by
  intro n
  induction n with
  | zero =>
    intro k s hs h0 hk
    obtain ⟨k, rfl⟩ : ∃ m, k = m + 1 := ⟨k - 1, by omega⟩
    rw [where_Side.l0, if_neg (by omega)]; rfl
  | succ n ih =>
    intro k s hs h0 hk
    obtain ⟨k, rfl⟩ : ∃ m, k = m + 1 := ⟨k - 1, by omega⟩
    rw [where_Side.l0, if_pos (by omega), step_f]
    simp only [Option.bind_some, sideFrom]
    by_cases he : sStep w h a s = b
    · simp [he]
    · rw [if_neg (by simpa using he), if_neg he, w64_id (by omega) (by omega)]
      exact ih k (s + 1) (by omega) (by omega) (by omega)
theorem rside_l (w h a b : Int) : ∀ (n k : Nat) (s : Int), s + n = 5 → 0 ≤ s → n < k → ref1_Side.l0 k w h a b s = some (sideFrom w h a b n s) := by
  intro n
  induction n with
  | zero =>
    intro k s hs h0 hk
    obtain ⟨k, rfl⟩ : ∃ m, k = m + 1 := ⟨k - 1, by omega⟩
    rw [ref1_Side.l0, if_neg (by omega)]; rfl
  | succ n ih =>
    intro k s hs h0 hk
    obtain ⟨k, rfl⟩ : ∃ m, k = m + 1 := ⟨k - 1, by omega⟩
    rw [ref1_Side.l0, if_pos (by omega), rstep_f]
    simp only [Option.bind_some, sideFrom]
    by_cases he : sStep w h a s = b
    · simp [he]
    · rw [if_neg (by simpa using he), if_neg he, w64_id (by omega) (by omega)]
      exact ih k (s + 1) (by omega) (by omega) (by omega)
theorem side_f (w h a b : Int) : where_Side.f w h a b = some (sSide w h a b) := by
  unfold where_Side.f sSide
  simp only [is_f, Option.bind_some]
  by_cases ha : CellS w h a
  · by_cases hb : CellS w h b
    · rw [if_pos (c := CellS w h a ∧ _) ⟨ha, hb⟩]
      simp only [decide_eq_true ha, decide_eq_true hb, Bool.not_true, Bool.false_eq_true, if_false, Option.bind_some]
      exact side_l w h a b 5 fuel 0 (by omega) (by omega) (by rw [fuelv]; omega)
    · rw [if_neg (c := CellS w h a ∧ _) (fun h => hb h.2)]; simp [ha, hb]
  · rw [if_neg (c := CellS w h a ∧ _) (fun h => ha h.1)]; simp [ha]
theorem rside_f (w h a b : Int) : ref1_Side.f w h a b = some (sSide w h a b) := by
  unfold ref1_Side.f sSide
  simp only [riscell_f, Option.bind_some]
  by_cases ha : CellS w h a
  · by_cases hb : CellS w h b
    · rw [if_pos (c := CellS w h a ∧ _) ⟨ha, hb⟩]
      simp only [decide_eq_true ha, decide_eq_true hb, Bool.not_true, Bool.false_eq_true, if_false, Option.bind_some]
      exact rside_l w h a b 5 fuel 0 (by omega) (by omega) (by rw [fuelv]; omega)
    · rw [if_neg (c := CellS w h a ∧ _) (fun h => hb h.2)]; simp [ha, hb]
  · rw [if_neg (c := CellS w h a ∧ _) (fun h => ha h.1)]; simp [ha]

/-- a cell, by how far it is -/
theorem cell_xy {w h c : Int} (hc : CellS w h c) : sCell w h (c % w) (c / w) = c := by
  have hp := place_in hc
  unfold sCell
  rw [if_pos ⟨hc.1, hp⟩]
  have h1 := Int.mul_ediv_add_emod c w
  rw [Int.mul_comm] at h1; omega
theorem sCell_cell {w h x y : Int} (hm : MayS w h) (h1 : 0 ≤ x) (h2 : x < w) (h3 : 0 ≤ y) (h4 : y < h) : CellS w h (sCell w h x y) ∧ sCell w h x y % w = x ∧ sCell w h x y / w = y := by
  unfold sCell
  rw [if_pos ⟨hm, h1, h2, h3, h4⟩]
  have := cell_lt h1 h2 h3 h4
  exact ⟨⟨hm, this⟩, num_parts h1 h2⟩
/-- what is beside a cell -/
theorem step_cases {w h c side : Int} (hc : CellS w h c) (h0 : 0 ≤ side) (h4 : side ≤ 4) :
    (sStep w h c side = -1 ∧ ¬ (0 ≤ c % w + dX side ∧ c % w + dX side < w ∧ 0 ≤ c / w + dY side ∧ c / w + dY side < h)) ∨
    (CellS w h (sStep w h c side) ∧ sStep w h c side % w = c % w + dX side ∧ sStep w h c side / w = c / w + dY side ∧
      0 ≤ c % w + dX side ∧ c % w + dX side < w ∧ 0 ≤ c / w + dY side ∧ c / w + dY side < h) := by
  have e : sStep w h c side = sCell w h (c % w + dX side) (c / w + dY side) := by unfold sStep; rw [if_pos ⟨hc, h0, h4⟩]
  rw [e]
  by_cases hx : 0 ≤ c % w + dX side ∧ c % w + dX side < w ∧ 0 ≤ c / w + dY side ∧ c / w + dY side < h
  · obtain ⟨a, b, d, f⟩ := hx
    have := sCell_cell hc.1 a b d f
    exact .inr ⟨this.1, this.2.1, this.2.2, a, b, d, f⟩
  · refine .inl ⟨?_, hx⟩
    unfold sCell
    rw [if_neg (fun h => hx h.2)]
theorem sideFrom_spec (w h a b : Int) : ∀ (n : Nat) (s t : Int), s + n = 5 → s ≤ t → t < 5 → sStep w h a t = b → (∀ u, s ≤ u → u < t → sStep w h a u ≠ b) → sideFrom w h a b n s = t := by
  intro n
  induction n with
  | zero => intro s t h1 h2 h3; omega
  | succ n ih =>
    intro s t h1 h2 h3 h4 h5
    simp only [sideFrom]
    by_cases he : s = t
    · subst he; rw [if_pos h4]
    · rw [if_neg (h5 s (by omega) (by omega))]
      exact ih (s + 1) t (by omega) (by omega) h3 h4 (fun u hu => h5 u (by omega))
/-- two sides lead to two cells -/
theorem step_inj {w h c s t : Int} (hc : CellS w h c) (s0 : 0 ≤ s) (s4 : s ≤ 4) (t0 : 0 ≤ t) (t4 : t ≤ 4) (hs : CellS w h (sStep w h c s)) (he : sStep w h c t = sStep w h c s) : s = t := by
  have hsc : s = 0 ∨ s = 1 ∨ s = 2 ∨ s = 3 ∨ s = 4 := by omega
  have htc : t = 0 ∨ t = 1 ∨ t = 2 ∨ t = 3 ∨ t = 4 := by omega
  rcases step_cases hc s0 s4 with ⟨h1, _⟩ | ⟨_, b1, b2, _⟩
  · rw [h1] at hs; obtain ⟨_, h2, _⟩ := hs; omega
  · rcases step_cases hc t0 t4 with ⟨h1, _⟩ | ⟨_, d1, d2, _⟩
    · rw [he] at h1; rw [h1] at hs; obtain ⟨_, h2, _⟩ := hs; omega
    · rw [he, b1] at d1
      rw [he, b2] at d2
      unfold dX at d1
      unfold dY at d2
      rcases hsc with rfl | rfl | rfl | rfl | rfl <;> rcases htc with rfl | rfl | rfl | rfl | rfl <;> simp at d1 d2 ⊢ <;> omega
theorem side_of {w h c s : Int} (hc : CellS w h c) (s0 : 0 ≤ s) (s4 : s ≤ 4) (hs : CellS w h (sStep w h c s)) : sSide w h c (sStep w h c s) = s := by
  unfold sSide
  rw [if_pos ⟨hc, hs⟩]
  exact sideFrom_spec w h c _ 5 0 s (by omega) s0 (by omega) rfl (fun u h1 h2 he => by
    have := step_inj hc s0 s4 h1 (by omega) hs he
    omega)
theorem step_here {w h c : Int} (hc : CellS w h c) : sStep w h c 4 = c := by
  unfold sStep
  rw [if_pos ⟨hc, by omega, by omega⟩]
  simpa [dX, dY] using cell_xy hc
end Go.Proofs.Yticdodeoljodiaa
