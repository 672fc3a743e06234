import Derived.Test.YticdodeoljodiaaPflat
namespace Go.Proofs.Yticdodeoljodiaa
open Go.Hx
set_option linter.unusedVariables false
set_option linter.unusedSimpArgs false

def tM : api_Map := api_Map.mk 3 1 [5, 2, 9]
theorem t_ok : MapOk tM := ⟨by decide, by decide, by decide⟩
theorem t_cost : CostOk tM := cost_ok t_ok (by intro y hy; simp [tM] at hy; unfold inU8; omega)
theorem t_steps : ∀ n ∈ ([0, 1, 2] : List Int), ∀ s ∈ ([0, 1, 2, 3] : List Int), sStep 3 1 n s < 0 ∨ rd ([11, 9, 0] : List Int) n ≤ rd ([11, 9, 0] : List Int) (sStep 3 1 n s) + rd ([5, 2, 9] : List Int) (sStep 3 1 n s) := by decide +kernel
theorem t_three {c : Int} (h : inMap tM c) : c = 0 ∨ c = 1 ∨ c = 2 := by
  obtain ⟨a, b⟩ := h
  have : tM.W * tM.H = 3 := rfl
  omega
theorem t_far : Far tM 2 [11, 9, 0] := by
  have o2 : Opn tM 2 := by decide
  have o1 : Opn tM 1 := by decide
  have o0 : Opn tM 0 := by decide
  have w2 : Way tM 2 2 0 := Way.here o2
  have w1 : Way tM 2 1 9 := Way.go (n := 1) 1 w2 (by omega) (by omega) (by decide +kernel) o1
  have w0 : Way tM 2 0 11 := Way.go (n := 0) 1 w1 (by omega) (by omega) (by decide +kernel) o0
  refine ⟨rfl, fun c hi _ => ?_, fun c k hw => ?_, fun c hi => ?_⟩
  · rcases t_three hi with rfl | rfl | rfl
    · exact w0
    · exact w1
    · exact w2
  · induction hw with
    | here _ => exact Int.le_refl _
    | @go c' k' n s h1 s0 s3 hs ho ih =>
      have hn : n ∈ ([0, 1, 2] : List Int) := by rcases t_three ho.1 with rfl | rfl | rfl <;> simp
      have hss : s ∈ ([0, 1, 2, 3] : List Int) := by
        have : s = 0 ∨ s = 1 ∨ s = 2 ∨ s = 3 := by omega
        rcases this with rfl | rfl | rfl | rfl <;> simp
      have hs : sStep 3 1 n s = c' := hs
      have hc0 := (way_open h1).1.1
      rcases t_steps n hn s hss with q | q
      · omega
      · rw [hs] at q
        have e : rd tM.C c' = rd ([5, 2, 9] : List Int) c' := rfl
        omega
  · rcases t_three hi with rfl | rfl | rfl <;> decide
theorem t_dirs : dirsP tM [11, 9, 0] 3 = [1, 1, 4] := by decide +kernel
/-- the map that the numbers make -/
theorem made17 (w h : Int) {c : List Int} (hc : ∀ y ∈ c, 0 ≤ y ∧ y ≤ 255) : ∃ m, ref1_Made.f w h c = some m ∧ MapOk m ∧ CostOk m ∧ (m.C.length : Int) = m.W * m.H ∧ 1 ≤ m.W * m.H ∧ m.W * m.H ≤ 1600 ∧ m.W ≤ 40 ∧ m.H ≤ 40 := by
  obtain ⟨m, e, hm, hw, hh, hb⟩ := made_f w h (c := c) hc
  have hl := hm.2.1
  have hpp := may_prod hm.1
  have hp : m.W * m.H ≤ 40 * 40 := by
    obtain ⟨⟨a1, a2, a3, a4⟩, _⟩ := hm
    exact mul_le (by omega) (by omega) hw hh
  exact ⟨m, e, hm, cost_ok hm (fun y hy => by have := hb y hy; unfold inU8; omega), hl, hpp.1, by omega, hw, hh⟩
end Go.Proofs.Yticdodeoljodiaa
