/- One alone goes just where it is led; all that are led nowhere stay, and nothing is told: at any size up to 8 by 8, any cell, goal, direction, any other units. No condition. -/
import Derived.Test.YtkidcebfpengmaaFLMarchAlone
import Derived.Test.YtkidcebfpengmaaPparts
namespace Go.Proofs.Ytkidcebfpengmaa
open Go.Hx
set_option linter.unusedVariables false
set_option linter.unusedSimpArgs false

theorem alone_l {v1 v2 v3 v4 v5 : Int} {v6 : List api_Unit × List api_Move × List Int × Int} {v7 : List api_Unit} (h7 : v7.length ≤ 12) : ∀ (m k : Nat) (i : Int) (xs : List Int), i + m = v7.length → 0 ≤ i → m < k → xs.length = v7.length → (∀ j, 0 ≤ j → j < i → 4 ≤ rd xs j ∧ rd xs j ≤ 5) →
    ∃ ys : List Int, law24_MarchAlone.l0 k v1 v2 v3 v4 v5 v6 v7 xs i = law24_MarchAlone.l0 1 v1 v2 v3 v4 v5 v6 v7 ys (v7.length : Int) ∧ ys.length = v7.length ∧ ∀ d ∈ ys, 4 ≤ d ∧ d ≤ 5 := by
  intro m
  induction m with
  | zero =>
    intro k i xs hi h0 hk hx hd
    obtain ⟨k, rfl⟩ := kpos hk
    refine ⟨xs, ?_, hx, fun d hdm => ?_⟩
    · conv => lhs; rw [law24_MarchAlone.l0, if_neg (by omega)]
      conv => rhs; rw [law24_MarchAlone.l0, if_neg (by omega)]
    · obtain ⟨j, j0, j1, rfl⟩ := memrd hdm
      exact hd j j0 (by omega)
  | succ m ih =>
    intro k i xs hi h0 hk hx hd
    obtain ⟨k, rfl⟩ := kpos hk
    obtain ⟨a1, a2⟩ := and1 i
    rw [law24_MarchAlone.l0, if_pos (by omega), if_pos (by omega), wi (x := i + 1) (by omega) (by omega), wi (x := ((BitVec.toNat _ : Nat) : Int)) (by omega) (by omega), wi (x := 4 + _) (by omega) (by omega)]
    refine ih k (i + 1) _ (by omega) (by omega) (by omega) (by simpa using hx) (fun j j0 j1 => ?_)
    rw [rds h0 (by omega) j0]
    split
    · omega
    · exact hd j j0 (by omega)

theorem still_f {w h : Int} {l : List api_Unit} {dirs : List Int} (hm : MayU w h l) (hl : dirs.length = l.length) (hd : ∀ d ∈ dirs, 4 ≤ d ∧ d ≤ 5) : gGo w h l dirs = (l, [], []) := by
  have key : ∀ n : Nat, n ≤ l.length → gFold w h l dirs n = (l, [], []) := by
    intro n
    induction n with
    | zero => intro _; rfl
    | succ n ih =>
      intro hn
      show gStep w h (gFold w h l dirs n) n (rd l (n : Int)) (rd dirs (n : Int)) = _
      rw [ih (by omega)]
      unfold gStep
      rw [if_neg]
      unfold gCan gTo
      have := hd (rd dirs (n : Int)) (rdmem (by omega) (by omega))
      rw [if_neg (by omega)]
      intro z; omega
  unfold gGo
  rw [key l.length (Nat.le_refl _)]
  congr 1
  rw [List.filter_eq_self]
  intro x hx
  obtain ⟨j, j0, j1, rfl⟩ := memrd hx
  simpa using (hm.cell j0 j1).2.1

theorem MarchAlone_pure : law24_MarchAlone.Pure := by
  intro w h cell goal dir k _ _ _ _ _ _ hk
  unfold law24_MarchAlone.f
  obtain ⟨v1, e1, a1, a2⟩ := within_y (n := w) (lo := 1) (hi := 8) (by omega) (by omega) (by omega) (by omega)
  obtain ⟨v2, e2, b1, b2⟩ := within_y (n := h) (lo := 1) (hi := 8) (by omega) (by omega) (by omega) (by omega)
  have hm0 : MayS v1 v2 := ⟨by omega, by omega, by omega, by omega⟩
  have hp := may_prod hm0
  obtain ⟨v3, e3, c1, c2⟩ := within_y (n := cell) (lo := 0) (hi := v1 * v2 - 1) (by omega) (by omega) (by omega) (by omega)
  obtain ⟨v4, e4, d1, d2⟩ := within_y (n := goal) (lo := 0) (hi := v1 * v2 - 1) (by omega) (by omega) (by omega) (by omega)
  obtain ⟨v5, e5, f1, f2⟩ := within_y (n := dir) (lo := 0) (hi := 5) (by omega) (by omega) (by omega) (by omega)
  obtain ⟨m, m1, m2, m3⟩ := made_f (w := v1) (h := v2) hm0 hk
  have hmm := m3.may hm0
  have hc3 : CellS v1 v2 v3 := ⟨hm0, c1, by omega⟩
  have hmu : MayU v1 v2 [⟨3, v3, v4⟩] := by
    refine ⟨hm0, fun j j0 j1 => ?_⟩
    have : j = 0 := by simp at j1; omega
    subst this
    exact ⟨by show (-1 : Int) < 3; omega, hc3, ⟨hm0, d1, by show v4 < _; omega⟩, fun q q0 q1 => by omega⟩
  have hdo : DirsOk [v5] [api_Unit.mk 3 v3 v4].length := ⟨rfl, fun d hd => by simp at hd; omega⟩
  simp only [e1, e2, Option.bind_some]
  rw [wi (x := v1 * v2) (by omega) (by omega), wi (x := v1 * v2 - 1) (by omega) (by omega)]
  simp only [e3, e4, e5, go_ok hmu (by simp : [api_Unit.mk 3 v3 v4].length ≤ 1000000) hdo, m1, Option.bind_some]
  rw [if_pos (by omega)]
  obtain ⟨ys, y1, y2, y3⟩ := alone_l (v1 := v1) (v2 := v2) (v3 := v3) (v4 := v4) (v5 := v5) (v6 := ((gGo v1 v2 [⟨3, v3, v4⟩] [v5]).1, (gGo v1 v2 [⟨3, v3, v4⟩] [v5]).2.1, (gGo v1 v2 [⟨3, v3, v4⟩] [v5]).2.2, 0)) m2 m.length fuel 0 (List.replicate (Int.toNat (m.length : Int)) 0) (by omega) (by omega) (by rw [fuelv]; omega) (by simp) (fun j j0 j1 => by omega)
  rw [y1, law24_MarchAlone.l0, if_neg (by omega)]
  have hdy : DirsOk ys m.length := ⟨y2, fun d hd => by have := y3 d hd; omega⟩
  rw [go_ok hmm (by omega) hdy, still_f hmm y2 y3]
  have es := same_self (a := m) (by omega)
  simp only [Option.bind_some, es]
  rw [if_neg (by simp)]
  simp only [Option.bind_some, Bool.not_true, Bool.false_or, List.length_nil, Int.natCast_zero, bne_self_eq_false, Bool.or_self, Bool.false_eq_true, if_false, step_f, told24, if_true]
  have hto : ((if v5 ≤ 3 then (some (sStep v1 v2 v3 v5)) else (some (-1))) : Option Int) = some (gTo v1 v2 ⟨3, v3, v4⟩ v5) := by
    unfold gTo
    by_cases q : v5 ≤ 3
    · rw [if_pos q, if_pos ⟨f1, q⟩]
    · rw [if_neg q, if_neg (fun z => q z.2)]
  rw [hto]
  have hcan : gCan v1 v2 [⟨3, v3, v4⟩] ⟨3, v3, v4⟩ v5 ↔ 0 ≤ gTo v1 v2 ⟨3, v3, v4⟩ v5 := by
    unfold gCan
    refine ⟨fun q => q.1, fun q => ⟨q, fun x hx => ?_⟩⟩
    simp at hx; subst hx
    exact fun e => gto_ne (u := ⟨3, v3, v4⟩) hc3 v5 e.symm
  have hgo : gGo v1 v2 [⟨3, v3, v4⟩] [v5] = if 0 ≤ gTo v1 v2 ⟨3, v3, v4⟩ v5 then (if gTo v1 v2 ⟨3, v3, v4⟩ v5 = v4 then ([], [⟨3, v4⟩], [3]) else ([⟨3, gTo v1 v2 ⟨3, v3, v4⟩ v5, v4⟩], [⟨3, gTo v1 v2 ⟨3, v3, v4⟩ v5⟩], [])) else ([⟨3, v3, v4⟩], [], []) := by
    have ef : gFold v1 v2 [⟨3, v3, v4⟩] [v5] 1 = gStep v1 v2 ([⟨3, v3, v4⟩], [], []) 0 ⟨3, v3, v4⟩ v5 := rfl
    unfold gGo
    show ((gFold v1 v2 [⟨3, v3, v4⟩] [v5] 1).1.filter _, _, _) = _
    rw [show [api_Unit.mk 3 v3 v4].length = 1 from rfl, ef]
    unfold gStep
    by_cases q : 0 ≤ gTo v1 v2 ⟨3, v3, v4⟩ v5
    · rw [if_pos (hcan.2 q), if_pos q]
      by_cases g : gTo v1 v2 ⟨3, v3, v4⟩ v5 = v4
      · simp [g]
      · simp [g, q]
    · rw [if_neg (fun z => q (hcan.1 z)), if_neg q]
      have := c1
      simp [this]
  rw [hgo]
  simp only [Option.bind_some]
  generalize gTo v1 v2 ⟨3, v3, v4⟩ v5 = to
  by_cases q : 0 ≤ to
  · rw [if_neg (by omega), if_pos q]
    by_cases g : to = v4
    · have ei := ints_self (a := [3]) (by decide)
      subst g
      simp [rd, ei]
    · simp [rd, g]
  · rw [if_pos (by omega), if_neg q]
    simp [rd]
end Go.Proofs.Ytkidcebfpengmaa
