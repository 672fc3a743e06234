/- Who stays, though it has a direction to a cell, found a unit there at that moment: any units of numbers, any directions, any size up to 8 by 8. No condition. -/
import Derived.Test.YtkidcebfpengmaaFLMarchStays
import Derived.Test.YtkidcebfpengmaaPparts
namespace Go.Proofs.Ytkidcebfpengmaa
open Go.Hx
set_option linter.unusedVariables false
set_option linter.unusedSimpArgs false

/-- the law's own list of places: as the document's, but -2 for who is gone -/
def AtOk (w h : Int) (l : List api_Unit) (now : List api_Unit) (xs : List Int) : Prop := xs.length = l.length ∧ ∀ j : Int, 0 ≤ j → j < l.length → rd xs j = if (rd now j).Cell = -1 then -2 else (rd now j).Cell

theorem stays_l2 {l : List api_Unit} {v5 : List api_Unit × List api_Move × List Int × Int} {xs : List Int} (hx : xs.length = l.length) (hb : l.length ≤ 12) {n i to : Int} : ∀ (m k : Nat) (j : Int) (b : Bool), j + m = l.length → 0 ≤ j → m < k →
    (b = true ↔ ∃ q : Int, 0 ≤ q ∧ q < j ∧ rd xs q = to) → ∃ c : Bool, law24_MarchStays.l2 k l v5 xs n i to b j = law24_MarchStays.l2 1 l v5 xs n i to c (l.length : Int) ∧ (c = true ↔ ∃ q : Int, 0 ≤ q ∧ q < l.length ∧ rd xs q = to) := by
  intro m
  induction m with
  | zero =>
    intro k j b hj h0 hk hb'
    obtain ⟨k, rfl⟩ := kpos hk
    have : j = l.length := by omega
    subst this
    refine ⟨b, ?_, hb'⟩
    conv => lhs; rw [law24_MarchStays.l2, if_neg (by omega)]
    conv => rhs; rw [law24_MarchStays.l2, if_neg (by omega)]
  | succ m ih =>
    intro k j b hj h0 hk hb'
    obtain ⟨k, rfl⟩ := kpos hk
    rw [law24_MarchStays.l2, if_pos (by omega), wi (by omega) (by omega)]
    cases b with
    | true =>
      rw [if_pos rfl]
      obtain ⟨q, q0, q1, q2⟩ := hb'.1 rfl
      exact ih k (j + 1) true (by omega) (by omega) (by omega) ⟨fun _ => ⟨q, q0, by omega, q2⟩, fun _ => rfl⟩
    | false =>
      rw [if_neg (by simp), if_pos (by omega)]
      refine ih k (j + 1) _ (by omega) (by omega) (by omega) ?_
      rw [beq_iff_eq]
      constructor
      · intro e; exact ⟨j, h0, by omega, e⟩
      · rintro ⟨q, q0, q1, q2⟩
        by_cases z : q = j
        · subst z; exact q2
        · have := hb'.2 ⟨q, q0, by omega, q2⟩
          cases this

theorem stays_l1 {w h : Int} {l : List api_Unit} {dirs : List Int} (hm : MayU w h l) (hb : l.length ≤ 12) (hd : DirsOk dirs l.length) : ∀ (m k n : Nat) (xs : List Int), n + m = l.length → m < k → AtOk w h l (gFold w h l dirs n).1 xs →
    law24_MarchStays.l1 k w h l dirs ((gGo w h l dirs).1, (gGo w h l dirs).2.1, (gGo w h l dirs).2.2, 0) xs ((gFold w h l dirs n).2.1.length : Int) (n : Int) = some true := by
  intro m
  induction m with
  | zero =>
    intro k n xs hn hk hx
    obtain ⟨k, rfl⟩ := kpos hk
    have : n = l.length := by omega
    subst this
    rw [law24_MarchStays.l1, if_neg (by omega), told24]
    simp [gGo]
  | succ m ih =>
    intro k n xs hn hk hx
    obtain ⟨k, rfl⟩ := kpos hk
    have hi := gInv hm dirs n (by omega)
    have hml := hi.mlen
    have hdl := hd.1
    have hdn := hd.2 (rd dirs (n : Int)) (rdmem (by omega) (by omega))
    obtain ⟨hx1, hx2⟩ := hx
    rw [law24_MarchStays.l1, if_pos (by omega), if_pos (by omega)]
    have hto : ((if rd dirs (n : Int) ≤ 3 then (if (0 ≤ (n : Int) ∧ (n : Int) < (List.length l : Int)) then ((where_Step.f w h ((rd l (n : Int)).Cell) (rd dirs (n : Int))).bind fun v23 => some v23) else none) else (some (-1))) : Option Int) = some (nTo w h l dirs n) := by
      unfold nTo gTo
      by_cases q : rd dirs (n : Int) ≤ 3
      · rw [if_pos q, if_pos (by omega), step_f, if_pos (by omega)]; rfl
      · rw [if_neg q, if_neg (by omega)]
    rw [hto]
    simp only [Option.bind_some]
    obtain ⟨c, c1, c2⟩ := stays_l2 (l := l) (v5 := ((gGo w h l dirs).1, (gGo w h l dirs).2.1, (gGo w h l dirs).2.2, 0)) hx1 hb (n := ((gFold w h l dirs n).2.1.length : Int)) (i := (n : Int)) (to := nTo w h l dirs n) l.length fuel 0 false (by omega) (by omega) (by rw [fuelv]; omega)
      ⟨fun q => (by cases q), fun ⟨q, q0, q1, _⟩ => by omega⟩
    rw [c1, law24_MarchStays.l2, if_neg (by omega)]
    obtain ⟨m1, m2⟩ := move_is (dirs := dirs) hm (n := n) (by omega)
    have hmv : ((if ((gFold w h l dirs n).2.1.length : Int) < (List.length (gGo w h l dirs).2.1 : Int) then (if (0 ≤ ((gFold w h l dirs n).2.1.length : Int) ∧ ((gFold w h l dirs n).2.1.length : Int) < (List.length (gGo w h l dirs).2.1 : Int)) then (if (0 ≤ (n : Int) ∧ (n : Int) < (List.length l : Int)) then (some ((rd (gGo w h l dirs).2.1 ((gFold w h l dirs n).2.1.length : Int)).Id == (rd l (n : Int)).Id)) else none) else none) else (some false)) : Option Bool) = some (decide (nCan w h l dirs n)) := by
      by_cases q : (gFold w h l dirs n).2.1.length < (gGo w h l dirs).2.1.length
      · rw [if_pos (by omega), if_pos (by omega), if_pos (by omega)]
        congr 1
        by_cases z : nCan w h l dirs n
        · rw [decide_eq_true z, beq_iff_eq]; exact (m1.2 z).2
        · rw [decide_eq_false z, beq_eq_false_iff_ne]; exact fun y => z (m1.1 ⟨q, y⟩)
      · rw [if_neg (by omega), decide_eq_false (fun z => q (m1.2 z).1)]
    rw [hmv]
    simp only [Option.bind_some]
    have hcc : c = true ∨ nTo w h l dirs n < 0 ↔ ¬ nCan w h l dirs n := by
      rw [c2]
      unfold nCan gCan
      have hex : 0 ≤ nTo w h l dirs n → ((∃ q : Int, 0 ≤ q ∧ q < (l.length : Int) ∧ rd xs q = nTo w h l dirs n) ↔ ∃ x ∈ (gFold w h l dirs n).1, x.Cell = nTo w h l dirs n) := by
        intro h0
        constructor
        · rintro ⟨q, q0, q1, e⟩
          rw [hx2 q q0 q1] at e
          split at e
          · omega
          · exact ⟨_, rdmem q0 (by rw [hi.len]; exact q1), e⟩
        · rintro ⟨x, hxm, e⟩
          obtain ⟨q, q0, q1, rfl⟩ := memrd hxm
          rw [hi.len] at q1
          exact ⟨q, q0, q1, by rw [hx2 q q0 q1, if_neg (by omega)]; exact e⟩
      constructor
      · rintro (q | q) ⟨z1, z2⟩
        · obtain ⟨x, hxm, e⟩ := (hex z1).1 q
          exact z2 x hxm e
        · exact absurd z1 (by unfold nTo at q; omega)
      · intro q
        refine Classical.byContradiction fun z => q ⟨?_, fun x hxm e => z (.inl ((hex ?_).2 ⟨x, hxm, e⟩))⟩
        · exact Int.not_lt.1 (fun y => z (.inr y))
        · exact Int.not_lt.1 (fun y => z (.inr y))
    have hnb : (decide (nCan w h l dirs n) == (decide (nTo w h l dirs n < 0) || c)) = false := by
      rw [beq_eq_false_iff_ne]
      intro e
      by_cases z : nCan w h l dirs n
      · rw [decide_eq_true z] at e
        have := e.symm
        rw [Bool.or_eq_true, decide_eq_true_iff] at this
        exact hcc.1 this.symm z
      · rw [decide_eq_false z] at e
        have := hcc.2 z
        have e' := e.symm
        rw [Bool.or_eq_false_iff, decide_eq_false_iff_not] at e'
        rcases this with q | q
        · rw [q] at e'; cases e'.2
        · exact e'.1 q
    rw [hnb]
    simp only [Bool.false_eq_true, if_false]
    have hmvs := mv_step (w := w) (h := h) (l := l) (dirs := dirs) n
    have hat := at_step (dirs := dirs) hm (n := n) (by omega)
    have hkeep : ∀ j : Int, 0 ≤ j → j ≠ n → rd (gFold w h l dirs (n + 1)).1 j = rd (gFold w h l dirs n).1 j := by
      intro j j0 jn
      show rd (gStep w h (gFold w h l dirs n) n (rd l (n : Int)) (rd dirs (n : Int))).1 j = _
      unfold gStep
      split
      · simp only; rw [rds (by omega) (by rw [hi.len]; omega) j0, if_neg jn]
      · rfl
    by_cases z : nCan w h l dirs n
    · rw [if_pos (by simpa using z), if_pos (by omega), if_pos (by omega)]
      rw [if_pos z] at hmvs
      have hlen' : ((gFold w h l dirs (n + 1)).2.1.length : Int) = ((gFold w h l dirs n).2.1.length : Int) + 1 := by rw [hmvs]; simp
      by_cases g : nTo w h l dirs n = (rd l (n : Int)).Goal
      · rw [if_pos (by simpa using g), if_pos (by rw [List.length_set]; omega)]
        simp only [Option.bind_some]
        rw [wi (by omega) (by omega), wi (by omega) (by omega), ← hlen', show (n : Int) + 1 = ((n + 1 : Nat) : Int) by omega, List.set_set]
        refine ih k (n + 1) _ (by omega) (by omega) ⟨by simpa using hx1, fun j j0 j1 => ?_⟩
        rw [rds (by omega) (by omega) j0]
        by_cases y : j = n
        · rw [if_pos y, y, hat]; simp only
          unfold nAt; rw [if_pos z, if_pos g]; rfl
        · rw [if_neg y, hkeep j j0 y]; exact hx2 j j0 j1
      · rw [if_neg (by simpa using g)]
        simp only [Option.bind_some]
        rw [wi (by omega) (by omega), wi (by omega) (by omega), ← hlen', show (n : Int) + 1 = ((n + 1 : Nat) : Int) by omega]
        refine ih k (n + 1) _ (by omega) (by omega) ⟨by simpa using hx1, fun j j0 j1 => ?_⟩
        rw [rds (by omega) (by omega) j0]
        by_cases y : j = n
        · rw [if_pos y, y, hat]; simp only
          unfold nAt; rw [if_pos z, if_neg g]
          have := z.1
          rw [if_neg (by unfold nTo; omega)]
        · rw [if_neg y, hkeep j j0 y]; exact hx2 j j0 j1
    · rw [if_neg (by simpa using z)]
      rw [if_neg z, List.append_nil] at hmvs
      simp only [Option.bind_some]
      rw [wi (by omega) (by omega), ← hmvs, show (n : Int) + 1 = ((n + 1 : Nat) : Int) by omega]
      refine ih k (n + 1) _ (by omega) (by omega) ⟨hx1, fun j j0 j1 => ?_⟩
      by_cases y : j = n
      · have h3 := hx2 j j0 j1
        rw [y] at h3 ⊢
        rw [h3, hat]; simp only
        rw [hi.rest n (by omega) (by omega)]
        unfold nAt; rw [if_neg z]
      · rw [hkeep j j0 y]; exact hx2 j j0 j1

theorem stays_l0 {w h : Int} {l : List api_Unit} {dirs : List Int} (hm : MayU w h l) (hb : l.length ≤ 12) (hd : DirsOk dirs l.length) : ∀ (m k : Nat) (i : Int) (xs : List Int), i + m = l.length → 0 ≤ i → m < k → xs.length = l.length → (∀ j, 0 ≤ j → j < i → rd xs j = (rd l j).Cell) →
    law24_MarchStays.l0 k w h l dirs ((gGo w h l dirs).1, (gGo w h l dirs).2.1, (gGo w h l dirs).2.2, 0) xs i = some true := by
  intro m
  induction m with
  | zero =>
    intro k i xs hi h0 hk hx hj
    obtain ⟨k, rfl⟩ := kpos hk
    rw [law24_MarchStays.l0, if_neg (by omega)]
    refine stays_l1 hm hb hd l.length fuel 0 xs (by omega) (by rw [fuelv]; omega) ⟨hx, fun j j0 j1 => ?_⟩
    have := (hm.cell j0 j1).2.1
    show _ = if (rd l j).Cell = -1 then -2 else (rd l j).Cell
    rw [if_neg (by omega)]; exact hj j j0 (by omega)
  | succ m ih =>
    intro k i xs hi h0 hk hx hj
    obtain ⟨k, rfl⟩ := kpos hk
    rw [law24_MarchStays.l0, if_pos (by omega), if_pos (by omega), if_pos (by omega), wi (by omega) (by omega)]
    refine ih k (i + 1) _ (by omega) (by omega) (by omega) (by simpa using hx) (fun j j0 j1 => ?_)
    rw [rds h0 (by omega) j0]
    split
    · rename_i y; rw [y]
    · exact hj j j0 (by omega)

theorem MarchStays_pure : law24_MarchStays.Pure := by
  intro w h k _ _ _ hk
  unfold law24_MarchStays.f
  obtain ⟨v1, e1, a1, a2⟩ := within_y (n := w) (lo := 1) (hi := 8) (by omega) (by omega) (by omega) (by omega)
  obtain ⟨v2, e2, b1, b2⟩ := within_y (n := h) (lo := 1) (hi := 8) (by omega) (by omega) (by omega) (by omega)
  have hm0 : MayS v1 v2 := ⟨by omega, by omega, by omega, by omega⟩
  obtain ⟨m, m1, m2, m3⟩ := made_f (w := v1) (h := v2) hm0 hk
  obtain ⟨q, q1, q2⟩ := dirs24_f (l := m) (ks := k) (by omega) hk
  simp only [e1, e2, m1, q1, Option.bind_some, go_ok (m3.may hm0) (by omega : m.length ≤ 1000000) q2]
  rw [if_neg (by simp), if_pos (by omega)]
  exact stays_l0 (m3.may hm0) m2 q2 m.length fuel 0 _ (by omega) (by omega) (by rw [fuelv]; omega) (by simp) (fun j j0 j1 => by omega)
end Go.Proofs.Ytkidcebfpengmaa
