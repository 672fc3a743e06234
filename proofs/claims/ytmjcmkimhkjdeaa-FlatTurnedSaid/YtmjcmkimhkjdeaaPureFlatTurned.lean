/- There and back differ by just what the two ends cost: any map of numbers, any two cells. No condition. -/
import Derived.Test.YtmjcmkimhkjdeaaFLFlatTurned
import Derived.Test.YtmjcmkimhkjdeaaPfar
namespace Go.Proofs.Ytmjcmkimhkjdeaa
open Go.Hx
set_option linter.unusedVariables false
set_option linter.unusedSimpArgs false

/-- a way to t, one cell more behind -/
theorem way_more {m : api_Map} {t u c k s : Int} (hw : Way m t c k) (s0 : 0 ≤ s) (s3 : s ≤ 3) (hs : sStep m.W m.H t s = u) (hu : Opn m u) : Way m u c (k + rd m.C u) := by
  induction hw with
  | here ho =>
    have := Way.go s (Way.here hu) s0 s3 hs ho
    exact this
  | @go c' k' n s' h1 a0 a3 hst ho ih =>
    have := Way.go s' ih a0 a3 hst ho
    have e : k' + rd m.C u + rd m.C c' = k' + rd m.C c' + rd m.C u := by omega
    rw [e] at this; exact this
/-- a way turned about -/
theorem way_turn {m : api_Map} (hm : MapOk m) {t c k : Int} (hw : Way m t c k) : Way m c t (k + rd m.C c - rd m.C t) := by
  induction hw with
  | here ho =>
    have e : 0 + rd m.C t - rd m.C t = 0 := by omega
    rw [e]; exact Way.here ho
  | @go c' k' n s' h1 a0 a3 hst ho ih =>
    obtain ⟨s, s0, s3, e⟩ := beside_back hm ho.1 (way_open h1).1 a0 a3 hst
    have := way_more ih s0 s3 e ho
    have e : k' + rd m.C c' - rd m.C t + rd m.C n = k' + rd m.C c' + rd m.C n - rd m.C t := by omega
    rw [e] at this; exact this
theorem far_turn {m : api_Map} (hm : MapOk m) {x y : Int} {D E : List Int} (hD : Far m y D) (hE : Far m x E) (hx : inMap m x) (hy : inMap m y) (h : rd D x < (1099511627776 : Int)) (h2 : rd E y < (1099511627776 : Int)) : rd D x + rd m.C x = rd E y + rd m.C y := by
  have a := hE.le y _ (way_turn hm (hD.way x hx h))
  have b := hD.le x _ (way_turn hm (hE.way y hy h2))
  omega
theorem far_both {m : api_Map} (hm : MapOk m) (hc : CostOk m) {x y : Int} {D E : List Int} (hD : Far m y D) (hE : Far m x E) (hx : inMap m x) (hy : inMap m y) (h : rd D x < (1099511627776 : Int)) : rd E y < (1099511627776 : Int) := by
  have hw := hD.way x hx h
  -- a cell that can be reached is told at less than (1099511627776 : Int): else a wall, or none; the way turned about is one, and the least is told
  have a := hE.le y _ (way_turn hm hw)
  by_cases hq : rd E y < (1099511627776 : Int)
  · exact hq
  · exfalso
    have hto := hE.top y hy
    have hcx := hc x hx
    have hcy := hc y hy
    have e : rd E y = (1099511627776 : Int) := by omega
    -- then D x is near (1099511627776 : Int); but what is told is below
    have := far_small hm hc hD hx h
    omega
theorem FlatTurned_pure : law17_FlatTurned.Pure := by
  intro w h c a b _ _ hc _ _ _
  unfold law17_FlatTurned.f
  obtain ⟨m, e, hm, hco, hl, h1, h2, hw, hh⟩ := made17 w h (c := c) (fun y hy => hc y hy)
  rw [e, Option.bind_some, w64_id (x := (m.C.length : Int) - 1) (by omega) (by omega)]
  have i1 := within_in (n := a) (lo := 0) (hi := (m.C.length : Int) - 1) (by omega)
  have i2 := within_in (n := b) (lo := 0) (hi := (m.C.length : Int) - 1) (by omega)
  rw [within_f (by omega) (by omega) (by omega) (by omega), Option.bind_some, within_f (by omega) (by omega) (by omega) (by omega), Option.bind_some]
  generalize 0 + a % ((m.C.length : Int) - 1 - 0 + 1) = x at *
  generalize 0 + b % ((m.C.length : Int) - 1 - 0 + 1) = y at *
  have hx : inMap m x := ⟨i1.1, by omega⟩
  have hy : inMap m y := ⟨i2.1, by omega⟩
  obtain ⟨D, l1, hD⟩ := look_f hm hco hy
  obtain ⟨E, l2, hE⟩ := look_f hm hco hx
  rw [query_of hm hco hD l1, query_of hm hco hE l2, if_pos (in_cell hm hx), if_pos (in_cell hm hy), Option.bind_some, Option.bind_some]
  simp only
  have hcx := hco x hx
  have hcy := hco y hy
  have tD := hD.top x hx
  have tE := hE.top y hy
  have nD := far_nn hco hD hx
  have nE := far_nn hco hE hy
  by_cases hq : rd D x < (1099511627776 : Int)
  · have hq2 := far_both hm hco hD hE hx hy hq
    have := far_turn hm hD hE hx hy hq hq2
    rw [if_neg (by simp; omega), told17, Option.bind_some, if_pos rfl, if_neg (by omega), if_pos ⟨hx.1, by omega⟩, if_pos ⟨hy.1, by omega⟩, w64_id (x := rd m.C x) (by omega) (by omega), w64_id (x := rd m.C y) (by omega) (by omega), w64_id (by omega) (by omega), w64_id (by omega) (by omega)]
    simp; omega
  · have hq2 : ¬ rd E y < (1099511627776 : Int) := fun q => hq (far_both hm hco hE hD hy hx q)
    rw [if_neg (by simp; omega), told17, Option.bind_some, if_pos rfl, if_pos (by omega)]
    rfl
end Go.Proofs.Ytmjcmkimhkjdeaa
