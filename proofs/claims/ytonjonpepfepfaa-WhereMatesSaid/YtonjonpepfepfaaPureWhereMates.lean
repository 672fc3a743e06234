/- Who is beside a cell has it beside itself, at the other side, and no two sides lead to one cell: at any size that may be, any cell, any two sides. No condition. -/
import Derived.Test.YtonjonpepfepfaaFLWhereMates
import Derived.Test.YtonjonpepfepfaaPlaw1
import Derived.Test.YtonjonpepfepfaaPback
namespace Go.Proofs.Ytonjonpepfepfaa
open Go.Hx

theorem step_back {w h c s t : Int} (hc : CellS w h c) (s0 : 0 ≤ s) (s4 : s ≤ 4) (t0 : 0 ≤ t) (t4 : t ≤ 4) (hs : CellS w h (sStep w h c s)) (hx : dX t = - dX s) (hy : dY t = - dY s) : sStep w h (sStep w h c s) t = c := by
  rcases step_cases hc s0 s4 with ⟨h1, _⟩ | ⟨_, b1, b2, _⟩
  · rw [h1] at hs; obtain ⟨_, h2, _⟩ := hs; omega
  · have e : sStep w h (sStep w h c s) t = sCell w h (sStep w h c s % w + dX t) (sStep w h c s / w + dY t) := by unfold sStep; rw [if_pos (c := CellS w h _ ∧ 0 ≤ t ∧ _) ⟨by unfold sStep at hs; exact hs, t0, t4⟩]
    rw [e, b1, b2, hx, hy]
    have e1 : c % w + dX s + -dX s = c % w := by omega
    have e2 : c / w + dY s + -dY s = c / w := by omega
    rw [e1, e2, cell_xy hc]

/-- what the law asks behind its guards, side by side -/
theorem mates_neg {a b d s x : Int} (hc : CellS a b d) (s0 : 0 ≤ s) (s3 : s ≤ 3) (h : x = sStep a b d s) (hn : x < 0) : x = -1 ∧ ((s = 0 ∧ d / a = 0) ∨ (s = 2 ∧ d / a = b - 1) ∨ (s = 3 ∧ d % a = 0) ∨ (s = 1 ∧ d % a = a - 1)) := by
  have hp := place_in hc
  rcases step_cases hc s0 (by omega : s ≤ 4) with ⟨h1, h2⟩ | ⟨⟨_, h1, _⟩, _⟩
  · refine ⟨by omega, ?_⟩
    have hs : s = 0 ∨ s = 1 ∨ s = 2 ∨ s = 3 := by omega
    unfold dX dY at h2
    rcases hs with rfl | rfl | rfl | rfl <;> simp at h2 <;> omega
  · omega

theorem WhereMates_pure : law1_WhereMates.Pure := by
  intro w h c side other _ _ _ _ _
  unfold law1_WhereMates.f
  obtain ⟨a, b, hn, hm⟩ := near1 w h
  rw [hn]
  have hp := may_prod hm
  have hm' := hm
  obtain ⟨m1, m2, m3, m4⟩ := hm
  have h1 := within_in (n := c) (lo := 0) (hi := a * b - 1) (by omega)
  have h2 := within_in (n := side) (lo := 0) (hi := 3) (by omega)
  have h3 := within_in (n := other) (lo := 0) (hi := 3) (by omega)
  simp only [Option.bind_some, w64_id (x := a * b) (by omega) (by omega), w64_id (x := a * b - 1) (by omega) (by omega),
    within_f (n := c) (lo := 0) (hi := a * b - 1) (by omega) (by omega) (by omega) (by omega),
    within_f (n := side) (lo := 0) (hi := 3) (by omega) (by omega) (by omega) (by omega),
    within_f (n := other) (lo := 0) (hi := 3) (by omega) (by omega) (by omega) (by omega), told1, step_f, side_f, place_f]
  generalize 0 + c % (a * b - 1 - 0 + 1) = d at h1
  generalize 0 + side % (3 - 0 + 1) = s at h2
  generalize 0 + other % (3 - 0 + 1) = o at h3
  have hc : CellS a b d := ⟨hm', by omega, by omega⟩
  have e1 : sPlace a b d = (d % a, d / a) := by unfold sPlace; rw [if_pos hc]
  have hh : sStep a b d 4 = d := step_here hc
  have h4 : sSide a b d d = 4 := by
    have := side_of hc (s := 4) (by omega) (by omega) (by rw [hh]; exact hc)
    rw [hh] at this; exact this
  have b4 : where_Back.f 4 = some 4 := rfl
  have b5 : where_Back.f 5 = some 5 := rfl
  have hbk : ∃ t, where_Back.f s = some t ∧ where_Back.f t = some s ∧ t ≠ s ∧ 0 ≤ t ∧ t ≤ 3 ∧ dX t = - dX s ∧ dY t = - dY s := by
    have hs : s = 0 ∨ s = 1 ∨ s = 2 ∨ s = 3 := by omega
    rcases hs with rfl | rfl | rfl | rfl
    · exact ⟨2, rfl, rfl, by omega, by omega, by omega, rfl, rfl⟩
    · exact ⟨3, rfl, rfl, by omega, by omega, by omega, rfl, rfl⟩
    · exact ⟨0, rfl, rfl, by omega, by omega, by omega, rfl, rfl⟩
    · exact ⟨1, rfl, rfl, by omega, by omega, by omega, rfl, rfl⟩
  obtain ⟨t, t1, t2, t3, t4, t5, t6, t7⟩ := hbk
  simp only [t1, t2, b4, b5, Option.bind_some, hh, h4, e1]
  have q1 : (t == s) = false := by simpa using t3
  simp only [bne_self_eq_false, Bool.false_eq_true, if_false, q1, Option.bind_some]
  by_cases hneg : sStep a b d s < 0
  · rw [if_pos hneg]
    obtain ⟨g1, g2⟩ := mates_neg hc h2.1 h2.2 rfl hneg
    rw [w64_id (x := b - 1) (by omega) (by omega), w64_id (x := a - 1) (by omega) (by omega)]
    rcases g2 with ⟨rfl, g⟩ | ⟨rfl, g⟩ | ⟨rfl, g⟩ | ⟨rfl, g⟩ <;> simp [g1, g]
  · rw [if_neg hneg]
    rcases step_cases hc h2.1 (by omega : s ≤ 4) with ⟨g1, _⟩ | ⟨g1, g2, g3, g4⟩
    · omega
    · have k1 : sStep a b (sStep a b d s) t = d := step_back hc h2.1 (by omega) t4 (by omega) g1 t6 t7
      have k2 : sSide a b d (sStep a b d s) = s := side_of hc h2.1 (by omega) g1
      have k3 : sStep a b d s ≠ d := by
        intro he
        have := step_inj hc h2.1 (by omega) (t := 4) (by omega) (by omega) g1 (by rw [hh, he])
        omega
      rw [k1, k2]
      simp only [Bool.true_and, bne_iff_ne, ne_eq, k3, not_false_eq_true, if_true, beq_self_eq_true]
      by_cases hso : s = o
      · simp [hso]
      · have k4 : sStep a b d o ≠ sStep a b d s := fun he => hso (step_inj hc h2.1 (by omega) h3.1 (by omega) g1 he)
        simp [hso, k4]
end Go.Proofs.Ytonjonpepfepfaa
