/- No distance is more than 254 times the cells less one, nor less than the steps that there are at least: any map of numbers, any goal, any cell. No condition. -/
import Derived.Test.YtmjcmkimhkjdeaaFLFlatBound
import Derived.Test.YtmjcmkimhkjdeaaPfar
namespace Go.Proofs.Ytmjcmkimhkjdeaa
open Go.Hx
set_option linter.unusedVariables false
set_option linter.unusedSimpArgs false

def dd (a b : Int) : Int := if a - b > b - a then a - b else b - a
theorem dd_tri (a b c : Int) : dd a c ≤ dd a b + dd b c := by unfold dd; split <;> split <;> split <;> omega
/-- a way is no shorter than its steps -/
theorem way_steps {m : api_Map} (hm : MapOk m) (hc : CostOk m) {t c k : Int} (hw : Way m t c k) : dd (c % m.W) (t % m.W) + dd (c / m.W) (t / m.W) ≤ k := by
  induction hw with
  | here ho => unfold dd; rw [if_neg (by omega), if_neg (by omega)]; omega
  | @go c' k' n s h1 s0 s3 hs ho ih =>
    have hcc := hc c' (way_open h1).1
    have h1' := dd_tri (n % m.W) (c' % m.W) (t % m.W)
    have h2' := dd_tri (n / m.W) (c' / m.W) (t / m.W)
    have : dd (n % m.W) (c' % m.W) + dd (n / m.W) (c' / m.W) ≤ 1 := by
      rcases step_cases (in_cell hm ho.1) s0 (by omega : s ≤ 4) with ⟨q, _⟩ | ⟨_, q1, q2, _⟩
      · have := (way_open h1).1.1; omega
      · rw [hs] at q1 q2
        rw [q1, q2]
        have hsc : s = 0 ∨ s = 1 ∨ s = 2 ∨ s = 3 := by omega
        unfold dd dX dY
        rcases hsc with rfl | rfl | rfl | rfl <;> simp <;> split <;> omega
    omega
theorem FlatBound_pure : law17_FlatBound.Pure := by
  intro w h c goal cell _ _ hc _ _ _
  unfold law17_FlatBound.f
  obtain ⟨m, e, hm, hco, hl, h1, h2, hw, hh⟩ := made17 w h (c := c) (fun y hy => hc y hy)
  rw [e, Option.bind_some, w64_id (x := (m.C.length : Int) - 1) (by omega) (by omega)]
  have i1 := within_in (n := goal) (lo := 0) (hi := (m.C.length : Int) - 1) (by omega)
  have i2 := within_in (n := cell) (lo := 0) (hi := (m.C.length : Int) - 1) (by omega)
  rw [within_f (by omega) (by omega) (by omega) (by omega), Option.bind_some, within_f (by omega) (by omega) (by omega) (by omega), Option.bind_some]
  generalize 0 + goal % ((m.C.length : Int) - 1 - 0 + 1) = t at *
  generalize 0 + cell % ((m.C.length : Int) - 1 - 0 + 1) = x at *
  have hx : inMap m x := ⟨i2.1, by omega⟩
  have ht : inMap m t := ⟨i1.1, by omega⟩
  obtain ⟨D, l1, hD⟩ := look_f hm hco ht
  have hne : ¬ m.W = 0 := by have := hm.1; omega
  have px := place_in (in_cell hm hx)
  have pt := place_in (in_cell hm ht)
  have hW := hm.1
  rw [query_of hm hco hD l1, if_pos (in_cell hm hx), Option.bind_some]
  simp only [if_pos hne]
  rw [tmod_pos hx.1, tmod_pos ht.1, tdiv_pos hx.1, tdiv_pos ht.1, w64_id (x := x / m.W) (by omega) (by omega), w64_id (x := t / m.W) (by omega) (by omega), w64_id (x := x % m.W - t % m.W) (by omega) (by omega), w64_id (x := t % m.W - x % m.W) (by omega) (by omega), w64_id (x := x / m.W - t / m.W) (by omega) (by omega), w64_id (x := t / m.W - x / m.W) (by omega) (by omega)]
  have e1 : (if x % m.W - t % m.W > t % m.W - x % m.W then x % m.W - t % m.W else t % m.W - x % m.W) = dd (x % m.W) (t % m.W) := rfl
  have e2 : (if x / m.W - t / m.W > t / m.W - x / m.W then x / m.W - t / m.W else t / m.W - x / m.W) = dd (x / m.W) (t / m.W) := rfl
  have b1 : 0 ≤ dd (x % m.W) (t % m.W) ∧ dd (x % m.W) (t % m.W) ≤ 40 := by unfold dd; split <;> omega
  have b2 : 0 ≤ dd (x / m.W) (t / m.W) ∧ dd (x / m.W) (t / m.W) ≤ 40 := by unfold dd; split <;> omega
  have hst : dd (x % m.W) (t % m.W) + dd (x / m.W) (t / m.W) ≤ rd D x := by
    by_cases hq : rd D x < (1099511627776 : Int)
    · exact way_steps hm hco (hD.way x hx hq)
    · omega
  obtain ⟨d1, d2, d3, d4, d5⟩ := dir_spec hm hco hD hx
  rw [e1, e2, w64_id (x := _ + _) (by omega) (by omega), told17, Option.bind_some, if_pos (by simp; exact hst), w64_id (x := 254 * _) (by omega) (by omega)]
  by_cases hq : rd D x = (1099511627776 : Int)
  · rw [if_pos (by simpa using hq), if_pos (by simpa using d3.mpr hq)]; rfl
  · have hlt : rd D x < (1099511627776 : Int) := by have := hD.top x hx; omega
    have hb := far_bound hm hco hD hx hlt
    rw [if_neg (by simpa using hq), if_pos hb]
    have : dirP m D x ≠ 5 := fun q => hq (d3.mp q)
    simp [this]
end Go.Proofs.Ytmjcmkimhkjdeaa
