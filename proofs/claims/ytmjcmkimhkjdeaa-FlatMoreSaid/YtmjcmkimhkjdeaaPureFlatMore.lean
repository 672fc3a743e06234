/- A cost that is raised makes no distance less, and none more than by so much for each time that it is entered, once: any map of numbers, any goal, any cell, any two costs. No condition. -/
import Derived.Test.YtmjcmkimhkjdeaaFLFlatMore
import Derived.Test.YtmjcmkimhkjdeaaPfar
namespace Go.Proofs.Ytmjcmkimhkjdeaa
open Go.Hx
set_option linter.unusedVariables false
set_option linter.unusedSimpArgs false

def laid (m : api_Map) (c v : Int) : api_Map := api_Map.mk m.W m.H (List.set m.C c.toNat v)
theorem laid_rd {m : api_Map} (hm : MapOk m) {c : Int} (hc : inMap m c) (v : Int) {d : Int} (d0 : 0 ≤ d) : rd (laid m c v).C d = if d = c then v else rd m.C d := by
  have hl := hm.2.1
  have := hc.2
  exact rds hc.1 (by omega) d0
theorem laid_ok {m : api_Map} (hm : MapOk m) (hco : CostOk m) {c : Int} (hc : inMap m c) {v : Int} (v1 : 1 ≤ v) (v2 : v ≤ 255) : MapOk (laid m c v) ∧ CostOk (laid m c v) := by
  have hl := hm.2.1
  have hcost : CostOk (laid m c v) := fun d hd => by
    have hd' : inMap m d := hd
    rw [laid_rd hm hc v hd'.1]
    split
    · exact ⟨v1, v2⟩
    · exact hco d hd'
  refine ⟨⟨hm.1, by simp [laid]; exact hl, fun q => ?_⟩, hcost⟩
  obtain ⟨j, j0, j1, j2⟩ := memrd q
  have := hcost j ⟨j0, by simp [laid] at j1 ⊢; omega⟩
  omega
theorem laid_open {m : api_Map} (hm : MapOk m) {c : Int} (hc : inMap m c) (v : Int) (d : Int) : Opn (laid m c v) d ↔ inMap m d ∧ (if d = c then v else rd m.C d) ≠ 255 := by
  unfold Opn
  constructor
  · rintro ⟨a, b⟩
    have a' : inMap m d := a
    rw [laid_rd hm hc v a'.1] at b; exact ⟨a', b⟩
  · rintro ⟨a, b⟩
    refine ⟨a, ?_⟩
    rw [laid_rd hm hc v a.1]; exact b
/-- what is raised makes no way cheaper -/
theorem more_low {m : api_Map} (hm : MapOk m) {c t lo hi : Int} (hc : inMap m c) (hlh : lo ≤ hi) (hlo : lo ≤ 254) {n k : Int} (hw : Way (laid m c hi) t n k) : ∃ k', k' ≤ k ∧ Way (laid m c lo) t n k' := by
  have hop : ∀ d, Opn (laid m c hi) d → Opn (laid m c lo) d := fun d hd => by
    rw [laid_open hm hc] at hd ⊢
    refine ⟨hd.1, ?_⟩
    split
    · omega
    · rename_i q; rw [if_neg q] at hd; exact hd.2
  induction hw with
  | here ho => exact ⟨0, by omega, Way.here (hop _ ho)⟩
  | @go c' k' n s h1 s0 s3 hs ho ih =>
    obtain ⟨k2, q1, q2⟩ := ih
    have hc' := (way_open h1).1.1
    refine ⟨k2 + rd (laid m c lo).C c', ?_, Way.go s q2 s0 s3 hs (hop _ ho)⟩
    rw [laid_rd hm hc lo hc', laid_rd hm hc hi hc']
    split <;> omega
/-- and none dearer than by as much -/
theorem more_high {m : api_Map} (hm : MapOk m) (hco : CostOk m) {c t lo hi : Int} (hc : inMap m c) (l1 : 1 ≤ lo) (hlh : lo ≤ hi) (hhi : hi ≤ 254) {D : List Int} (hD : Far (laid m c lo) t D) : ∀ (n : Nat) (x : Int), inMap m x → rd D x < (1099511627776 : Int) → rd D x ≤ n →
    ∃ k, Way (laid m c hi) t x k ∧ k ≤ rd D x + (hi - lo) ∧ (rd D x ≤ rd D c → k ≤ rd D x) := by
  obtain ⟨hm1, hc1⟩ := laid_ok hm hco hc l1 (by omega : lo ≤ 255)
  have hop : ∀ d, Opn (laid m c lo) d → Opn (laid m c hi) d := fun d hd => by
    rw [laid_open hm hc] at hd ⊢
    refine ⟨hd.1, ?_⟩
    split
    · omega
    · rename_i q; rw [if_neg q] at hd; exact hd.2
  have base : ∀ x, inMap m x → rd D x < (1099511627776 : Int) → x = t → ∃ k, Way (laid m c hi) t x k ∧ k ≤ rd D x + (hi - lo) ∧ (rd D x ≤ rd D c → k ≤ rd D x) := by
    intro x hx hlt e
    subst e
    have h0 := far_nn hc1 hD (c := x) hx
    exact ⟨0, Way.here (hop _ (way_open (hD.way x hx hlt))), by omega, fun _ => by omega⟩
  intro n
  induction n with
  | zero =>
    intro x hx hlt hn
    by_cases hxt : x = t
    · exact base x hx hlt hxt
    · have h0 := far_nn hc1 hD (c := x) hx
      obtain ⟨y, s, s0, s3, hs, ho, e, hl2, hn2⟩ := far_step hm1 hc1 hD (c := x) hx hlt hxt
      omega
  | succ n ih =>
    intro x hx hlt hn
    by_cases hxt : x = t
    · exact base x hx hlt hxt
    · obtain ⟨y, s, s0, s3, hs, ho, e, hl2, hn2⟩ := far_step hm1 hc1 hD (c := x) hx hlt hxt
      have hyi : inMap m y := ho.1
      have hcy := hc1 y ho.1
      obtain ⟨k, w1, w2, w3⟩ := ih y hyi (by omega) (by omega)
      have hox := hop x (way_open (hD.way x hx hlt))
      refine ⟨k + rd (laid m c hi).C y, Way.go s w1 s0 s3 hs hox, ?_, fun hle => ?_⟩
      · rw [laid_rd hm hc hi hyi.1]
        rw [laid_rd hm hc lo hyi.1] at e
        by_cases hyc : y = c
        · rw [if_pos hyc] at e ⊢
          have := w3 (by rw [hyc]; omega)
          omega
        · rw [if_neg hyc] at e ⊢; omega
      · rw [laid_rd hm hc hi hyi.1]
        rw [laid_rd hm hc lo hyi.1] at e
        have hyc : y ≠ c := by rintro rfl; omega
        rw [if_neg hyc] at e ⊢
        have := w3 (by omega)
        omega
theorem edited_f (m : api_Map) (hb : m.C.length ≤ 1099511627776) (c v : Int) (h0 : 0 ≤ c) (h1 : c < m.C.length) : ref11_Edited.f m c v = some (laid m c v) := by
  unfold ref11_Edited.f ref1_Own.f
  rw [if_pos (by simp; omega)]
  simp only [List.nil_append, Option.bind_some]
  rw [if_pos ⟨h0, h1⟩]
  rfl
def lowC (x y : Int) : Int := if 254 < (if (if 1 > y then 1 else y) < (if 1 > x then 1 else x) then (if 1 > y then 1 else y) else (if 1 > x then 1 else x)) then 254 else (if (if 1 > y then 1 else y) < (if 1 > x then 1 else x) then (if 1 > y then 1 else y) else (if 1 > x then 1 else x))
def highC (x y : Int) : Int := if (if 1 > y then 1 else y) > (if 1 > x then 1 else x) then (if 1 > y then 1 else y) else (if 1 > x then 1 else x)
theorem lh {x y : Int} (hx : 0 ≤ x ∧ x ≤ 255) (hy : 0 ≤ y ∧ y ≤ 255) : 1 ≤ lowC x y ∧ lowC x y ≤ 254 ∧ lowC x y ≤ highC x y ∧ highC x y ≤ 255 := by
  unfold lowC highC
  split <;> split <;> split <;> split <;> omega
theorem more_l0 {x y : Int} (hx : 0 ≤ x ∧ x ≤ 255) (hy : 0 ≤ y ∧ y ≤ 255) {D E : List Int} (hl : E.length = D.length) (hn : D.length ≤ 100000) (h1 : ∀ i : Int, 0 ≤ i → i < D.length → rd D i ≤ rd E i) (h2 : ∀ i : Int, 0 ≤ i → i < D.length → highC x y ≠ 255 → rd D i < (1099511627776 : Int) → rd E i ≤ rd D i + highC x y - lowC x y) (h3 : ∀ i : Int, 0 ≤ i → i < D.length → 0 ≤ rd D i ∧ rd D i ≤ (1099511627776 : Int)) : ∀ (n k : Nat) (i : Int), i + n = D.length → 0 ≤ i → n < k →
    law17_FlatMore.l0 k x y (D, 0) (E, 0) i = some true := by
  obtain ⟨q1, q2, q3, q4⟩ := lh hx hy
  intro n
  induction n with
  | zero =>
    intro k i hi h0 hk
    obtain ⟨k, rfl⟩ := kpos hk
    rw [law17_FlatMore.l0, if_neg (by simp only; omega), told17]; rfl
  | succ n ih =>
    intro k i hi h0 hk
    obtain ⟨k, rfl⟩ := kpos hk
    have hcond : (if (0 ≤ i ∧ i < (List.length E : Int)) then (if (0 ≤ i ∧ i < (List.length D : Int)) then (if (rd E i) < (rd D i) then (some true) else (if ((highC x y) != 255) = true then (if (rd D i) < (1099511627776 : Int) then (some (decide ((rd E i) > (w64 ((w64 ((rd D i) + (w64 (highC x y)))) - (w64 (lowC x y))))))) else (some false)) else (some false))) else none) else none) = some false := by
      have a1 := h1 i h0 (by omega)
      obtain ⟨a2, a3⟩ := h3 i h0 (by omega)
      rw [if_pos ⟨h0, by omega⟩, if_pos ⟨h0, by omega⟩, if_neg (by omega)]
      by_cases hh : highC x y = 255
      · rw [if_neg (by simpa using hh)]
      · rw [if_pos (by simpa using hh)]
        by_cases hd : rd D i < (1099511627776 : Int)
        · have := h2 i h0 (by omega) hh hd
          rw [if_pos hd, w64_id (x := highC x y) (by omega) (by omega), w64_id (x := lowC x y) (by omega) (by omega), w64_id (x := rd D i + _) (by omega) (by omega), w64_id (by omega) (by omega), decide_eq_false (by omega)]
        · rw [if_neg hd]
    unfold highC lowC at hcond
    rw [law17_FlatMore.l0, if_pos (by simp only; omega)]
    simp only
    rw [hcond, Option.bind_some, if_neg (by simp), w64_id (by omega) (by omega)]
    exact ih k (i + 1) (by omega) (by omega) (by omega)
theorem FlatMore_pure : law17_FlatMore.Pure := by
  intro w h c goal cell x y _ _ hc _ _ hx hy _
  have hx' : 0 ≤ x ∧ x ≤ 255 := hx
  have hy' : 0 ≤ y ∧ y ≤ 255 := hy
  unfold law17_FlatMore.f
  obtain ⟨m, e, hm, hco, hl, h1, h2, hw, hh⟩ := made17 w h (c := c) (fun y hy => hc y hy)
  rw [e, Option.bind_some, w64_id (x := (m.C.length : Int) - 1) (by omega) (by omega)]
  have i1 := within_in (n := goal) (lo := 0) (hi := (m.C.length : Int) - 1) (by omega)
  have i2 := within_in (n := cell) (lo := 0) (hi := (m.C.length : Int) - 1) (by omega)
  rw [within_f (by omega) (by omega) (by omega) (by omega), Option.bind_some, within_f (by omega) (by omega) (by omega) (by omega), Option.bind_some]
  generalize 0 + goal % ((m.C.length : Int) - 1 - 0 + 1) = t at *
  generalize 0 + cell % ((m.C.length : Int) - 1 - 0 + 1) = z at *
  have hz : inMap m z := ⟨i2.1, by omega⟩
  have ht : inMap m t := ⟨i1.1, by omega⟩
  obtain ⟨q1, q2, q3, q4⟩ := lh hx' hy'
  have e1 := edited_f m (by omega) z (lowC x y) hz.1 (by omega)
  have e2 := edited_f m (by omega) z (highC x y) hz.1 (by omega)
  unfold lowC at e1
  unfold highC at e2
  rw [e1, Option.bind_some, e2]
  simp only [Option.bind_some]
  have f1 : laid m z (lowC x y) = laid m z (if 254 < (if (if 1 > y then 1 else y) < (if 1 > x then 1 else x) then (if 1 > y then 1 else y) else (if 1 > x then 1 else x)) then 254 else (if (if 1 > y then 1 else y) < (if 1 > x then 1 else x) then (if 1 > y then 1 else y) else (if 1 > x then 1 else x))) := rfl
  have f2 : laid m z (highC x y) = laid m z (if (if 1 > y then 1 else y) > (if 1 > x then 1 else x) then (if 1 > y then 1 else y) else (if 1 > x then 1 else x)) := rfl
  rw [← f1, ← f2]
  obtain ⟨hm1, hc1⟩ := laid_ok hm hco hz q1 (by omega : lowC x y ≤ 255)
  obtain ⟨hm2, hc2⟩ := laid_ok hm hco hz (by omega : 1 ≤ highC x y) q4
  obtain ⟨D, l1, hD⟩ := look_f hm1 hc1 (t := t) ht
  obtain ⟨E, l2, hE⟩ := look_f hm2 hc2 (t := t) ht
  have dl1 : D.length = m.C.length := by rw [hD.len]; simp [laid]
  have dl2 : E.length = m.C.length := by rw [hE.len]; simp [laid]
  have g1 : flat_Dist.f (api_Map.mk (laid m z (lowC x y)).W (laid m z (lowC x y)).H (laid m z (lowC x y)).C) t = some (D, 0) := dist_of l1
  have g2 : flat_Dist.f (api_Map.mk (laid m z (highC x y)).W (laid m z (highC x y)).H (laid m z (highC x y)).C) t = some (E, 0) := dist_of l2
  rw [g1, Option.bind_some, g2, Option.bind_some, if_neg (by simp), if_neg (by simp [dl1]), Option.bind_some, if_neg (by simp [dl2])]
  refine more_l0 hx' hy' (by omega) (by omega) (fun i i0 j1 => ?_) (fun i i0 j1 hne hlt => ?_) (fun i i0 j1 => ?_) D.length fuel 0 (by omega) (by omega) (by rw [fuelv]; omega)
  · have hi : inMap m i := ⟨i0, by omega⟩
    by_cases hq : rd E i < (1099511627776 : Int)
    · obtain ⟨k', k1, k2⟩ := more_low hm hz q3 q2 (hE.way i hi hq)
      have := hD.le i k' k2; omega
    · have := hD.top i hi; omega
  · have hi : inMap m i := ⟨i0, by omega⟩
    have h0 := far_nn hc1 hD (c := i) hi
    obtain ⟨k, w1, w2, _⟩ := more_high hm hco hz q1 q3 (by omega) hD (rd D i).toNat i hi hlt (by omega)
    have := hE.le i k w1; omega
  · exact ⟨far_nn hc1 hD (c := i) ⟨i0, by show i < m.W * m.H; omega⟩, hD.top i ⟨i0, by show i < m.W * m.H; omega⟩⟩
end Go.Proofs.Ytmjcmkimhkjdeaa
