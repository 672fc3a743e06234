/- Cells, neighbours, sectors of any size are what the document says, for any numbers, near ones or raw. No condition. -/
import Derived.Test.YtonjonpepfepfaaFLWhereAsks
import Derived.Test.YtonjonpepfepfaaPlaw1
import Derived.Test.YtonjonpepfepfaaPstep
namespace Go.Proofs.Ytonjonpepfepfaa
open Go.Hx

theorem WhereAsks_pure : law1_WhereAsks.Pure := by
  intro w h x y c side raw iw ih ix iy ic _
  unfold law1_WhereAsks.f
  have key : ∃ x1 x2 x3 x4 x5 x6, inI64 x3 ∧ inI64 x4 ∧ (if (!raw) = true then ((law1_near.f w h).bind fun v8 => (ref1_Within.f x (-1) v8.1).bind fun v9 => (ref1_Within.f y (-1) v8.2).bind fun v10 => (ref1_Within.f c (-1) (w64 (v8.1 * v8.2))).bind fun v11 => (ref1_Within.f side (-1) 6).bind fun v12 => some (v8.1, v8.2, v9, v10, v11, v12)) else (some (w, h, x, y, c, side))) = some (x1, x2, x3, x4, x5, x6) := by
    obtain ⟨a, b, hn, hm⟩ := near1 w h
    split
    · have hp := may_prod hm
      obtain ⟨m1, m2, m3, m4⟩ := hm
      have h1 := within_in (n := x) (lo := -1) (hi := a) (by omega)
      have h2 := within_in (n := y) (lo := -1) (hi := b) (by omega)
      rw [hn]
      simp only [Option.bind_some, w64_id (x := a * b) (by omega) (by omega),
        within_f (n := x) (lo := -1) (hi := a) (by omega) (by omega) (by omega) (by omega),
        within_f (n := y) (lo := -1) (hi := b) (by omega) (by omega) (by omega) (by omega),
        within_f (n := c) (lo := -1) (hi := a * b) (by omega) (by omega) (by omega) (by omega),
        within_f (n := side) (lo := -1) (hi := 6) (by omega) (by omega) (by omega) (by omega)]
      exact ⟨_, _, _, _, _, _, ⟨by omega, by omega⟩, ⟨by omega, by omega⟩, rfl⟩
    · exact ⟨_, _, _, _, _, _, ix, iy, rfl⟩
  obtain ⟨x1, x2, x3, x4, x5, x6, i3, i4, hk⟩ := key
  rw [hk]
  simp only [Option.bind_some, rmay_f, may_f, in_f, riscell_f, place_f, sectors_f, rsectors_f, cell_f, step_f, rstep_f, side_f, rside_f, sector_f, rsector_f, local_f, rlocal_f, told1]
  have hcell : (if decide (MayS x1 x2) = true then (if decide (0 ≤ x3 ∧ x3 ≤ w64 (x1 - 1)) = true then (some (decide (0 ≤ x4 ∧ x4 ≤ w64 (x2 - 1)))) else (some false)) else (some false)).bind (fun x15 => if x15 = true then (some (w64 ((w64 (x4 * x1)) + x3))) else (some (-1))) = some (sCell x1 x2 x3 x4) := by
    unfold sCell
    by_cases hm : MayS x1 x2
    · have hp := may_prod hm
      have hm' := hm
      obtain ⟨m1, m2, m3, m4⟩ := hm
      rw [w64_id (x := x1 - 1) (by omega) (by omega), w64_id (x := x2 - 1) (by omega) (by omega), if_pos (by simpa using hm')]
      by_cases hx : 0 ≤ x3 ∧ x3 ≤ x1 - 1
      · rw [if_pos (by simpa using hx)]
        by_cases hy : 0 ≤ x4 ∧ x4 ≤ x2 - 1
        · have hl := cell_lt (w := x1) (h := x2) hx.1 (by omega) hy.1 (by omega)
          have h5 : 0 ≤ x4 * x1 := mul_nn hy.1 (by omega)
          rw [if_pos (c := MayS x1 x2 ∧ _) ⟨hm', hx.1, by omega, hy.1, by omega⟩, w64_id (x := x4 * x1) (by omega) (by omega), w64_id (by omega) (by omega)]
          simp [hy]
        · rw [if_neg (c := MayS x1 x2 ∧ _) (by omega)]
          rw [decide_eq_false hy]; rfl
      · rw [if_neg (by simpa using hx), if_neg (c := MayS x1 x2 ∧ _) (by omega)]; rfl
    · rw [if_neg (by simpa using hm), if_neg (fun h => hm h.1)]; rfl
  rw [hcell]
  simp only [Option.bind_some]
  have hplace : (if decide (CellS x1 x2 x5) = true then (if (¬ x1 = 0) then (if (¬ x1 = 0) then (some ((Int.tmod x5 x1), (w64 (Int.tdiv x5 x1)))) else none) else none) else (some ((-1), (-1)))) = some (sPlace x1 x2 x5) := by
    unfold sPlace
    by_cases hc : CellS x1 x2 x5
    · have hp := place_in hc
      obtain ⟨q1, q2, q3, q4⟩ := hc.1
      have hne : ¬ x1 = 0 := by omega
      rw [if_pos (by simpa using hc), if_pos hc, if_pos hne, if_pos hne, tdiv_pos hc.2.1, tmod_pos hc.2.1, w64_id (by omega) (by omega)]
    · rw [if_neg (by simpa using hc), if_neg hc]
  rw [hplace]
  simp
end Go.Proofs.Ytonjonpepfepfaa
