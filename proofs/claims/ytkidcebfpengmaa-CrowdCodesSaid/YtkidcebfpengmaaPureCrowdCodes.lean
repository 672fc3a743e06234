/- Codes come in the document's order: outside, taken, full, there already: at any size up to 8 by 8, any two cells, whether the cell is taken, whether as many live as may. No condition. -/
import Derived.Test.YtkidcebfpengmaaFLCrowdCodes
import Derived.Test.YtkidcebfpengmaaPlaw25
namespace Go.Proofs.Ytkidcebfpengmaa
open Go.Hx
set_option linter.unusedVariables false
set_option linter.unusedSimpArgs false

theorem ceta (c : crowd_Crowd) : crowd_Crowd.mk c.w c.h c.most (units_Units.mk c.units.most c.units.next c.units.live c.units.order) (floor_Floor.mk c.floor.words c.floor.count) = c := rfl

theorem codes_end {v1 v2 v3 v4 : Int} {c : crowd_Crowd} {L : List api_Unit} (hc : CS c v1 v2 2 L) (hn : c.units.next < 1000) (made : Int) (hmade : made = L.length) :
    ((if ((((decide (v3 < 0)) || (decide (v3 ≥ (w64 (v1 * v2))))) || (decide (v4 < 0))) || (decide (v4 ≥ (w64 (v1 * v2))))) = true then (some 7) else ((crowd_Crowd_Who.f c v3).bind fun v47 => if v47 ≥ 0 then (some 10) else (if (made == 2) = true then (some 11) else (if (v3 == v4) = true then (some 13) else (some 0))))).bind fun x45 => (crowd_Crowd_Units.f c).bind fun v48 => (crowd_Crowd_Spawn.f c v3 v4).bind fun v49 => if ((v49.2.1 != x45) || ((v49.1 == (-1)) == (x45 == 0))) = true then (some false) else (((law25_told.f).bind fun v52 => if v52 = true then (if (x45 == 0) = true then ((where_May.f v1 v2).bind fun v53 => some v53) else ((crowd_Crowd_Units.f v49.2.2).bind fun v54 => (ref21_Same.f v54 v48).bind fun v55 => if v55 = true then ((where_May.f v1 v2).bind fun v56 => some v56) else (some false))) else (some false)).bind fun x50 => some x50)) = some true := by
  have hp := may_prod hc.may
  have hnx := hc.next
  have hcn := hc.us.cnt
  rw [wi (by omega) (by omega)]
  have hwant : ((if ((((decide (v3 < 0)) || (decide (v3 ≥ v1 * v2))) || (decide (v4 < 0))) || (decide (v4 ≥ v1 * v2))) = true then (some 7) else ((crowd_Crowd_Who.f c v3).bind fun v47 => if v47 ≥ 0 then (some 10) else (if (made == 2) = true then (some 11) else (if (v3 == v4) = true then (some 13) else (some 0))))) : Option Int) = some (cSpawn v1 v2 2 L c.units.next v3 v4).2.1 ∧
      ((cSpawn v1 v2 2 L c.units.next v3 v4).1 = -1 ↔ (cSpawn v1 v2 2 L c.units.next v3 v4).2.1 ≠ 0) ∧ ((cSpawn v1 v2 2 L c.units.next v3 v4).2.1 ≠ 0 → (cSpawn v1 v2 2 L c.units.next v3 v4).2.2 = L) := by
    rw [cwho_f hc, Option.bind_some]
    by_cases a : CellS v1 v2 v3
    · by_cases b : CellS v1 v2 v4
      · rw [if_neg (by have := a.2; have := b.2; simp; omega)]
        by_cases d : cWho L v3 = -1
        · rw [if_neg (by omega)]
          by_cases e : (2 : Int) ≤ L.length
          · have := hc.few
            rw [if_pos (by simp; omega), cs_3 a b d e]; exact ⟨rfl, by simp, fun _ => rfl⟩
          · rw [if_neg (by simp; omega)]
            by_cases g : v3 = v4
            · rw [if_pos (by simpa using g), cs_4 a b d e g]; exact ⟨rfl, by simp, fun _ => rfl⟩
            · rw [if_neg (by simpa using g), cs_5 a b d e g]; exact ⟨rfl, ⟨fun q => by simp only at q; omega, fun q => absurd rfl q⟩, fun q => absurd rfl q⟩
        · have : 0 ≤ cWho L v3 := by
            unfold cWho at d ⊢
            cases hf : L.find? (fun x => x.Cell == v3) with
            | none => rw [hf] at d; exact absurd rfl d
            | some x => exact (hc.us.idr (List.mem_of_find?_eq_some hf)).1
          rw [if_pos this, cs_2 a b d]; exact ⟨rfl, by simp, fun _ => rfl⟩
      · rw [if_pos, cs_1 (.inr b)]
        · exact ⟨rfl, by simp, fun _ => rfl⟩
        · have : v4 < 0 ∨ v1 * v2 ≤ v4 := by
            refine Classical.byContradiction fun q => b ⟨hc.may, by omega, by omega⟩
          simp; omega
    · rw [if_pos, cs_1 (.inl a)]
      · exact ⟨rfl, by simp, fun _ => rfl⟩
      · have : v3 < 0 ∨ v1 * v2 ≤ v3 := by
          refine Classical.byContradiction fun q => a ⟨hc.may, by omega, by omega⟩
        simp; omega
  obtain ⟨w1, w2, w3⟩ := hwant
  obtain ⟨c', e1, e2, e3⟩ := cspawn_f hc (by omega) v3 v4
  rw [w1]
  simp only [Option.bind_some, cunits_f hc, e1, told25, may_f, decide_eq_true hc.may]
  generalize cSpawn v1 v2 2 L c.units.next v3 v4 = s at *
  by_cases z : s.2.1 = 0
  · have h1 : (s.1 == -1) = false := by rw [beq_eq_false_iff_ne]; exact fun q => w2.1 q z
    have h2 : (s.2.1 == 0) = true := by simpa using z
    rw [if_neg (by rw [h1, h2]; simp), if_pos trivial, h2]; rfl
  · have hs := same_self (a := L) (by omega)
    rw [w3 z] at e2
    have h1 : (s.1 == -1) = true := by simpa using w2.2 z
    have h2 : (s.2.1 == 0) = false := by simpa using z
    rw [if_neg (by rw [h1, h2]; simp), if_pos trivial, h2, if_neg (by simp)]
    simp only [cunits_f e2, Option.bind_some, hs, if_true]

theorem codes_l {w h : Int} {full : Bool} {v1 v2 v3 v4 : Int} (hw : 2 ≤ v1 ∧ v1 ≤ 8) (hh : 1 ≤ v2 ∧ v2 ≤ 8) : ∀ (m k : Nat) (i : Int) (c : crowd_Crowd) (L : List api_Unit), i + m = v1 * v2 → 0 ≤ i → m < k → CS c v1 v2 2 L → c.units.next ≤ 10 + i →
    law25_CrowdCodes.l0 k w h full v1 v2 v3 v4 (L.length : Int) c.w c.h c.most c.units.most c.units.next c.units.live c.units.order c.floor.words c.floor.count i = some true := by
  have hm : MayS v1 v2 := ⟨by omega, by omega, by omega, by omega⟩
  have hp := may_prod hm
  have hp8 : v1 * v2 ≤ 8 * 8 := mul_le (by omega) (by omega) hw.2 hh.2
  have hp2 : 2 ≤ v1 * v2 := by
    have := Int.mul_le_mul hw.1 hh.1 (by omega) (by omega : (0 : Int) ≤ v1); omega
  intro m
  induction m with
  | zero =>
    intro k i c L hi h0 hk hc hn
    obtain ⟨k, rfl⟩ := kpos hk
    rw [law25_CrowdCodes.l0, if_neg (by rw [wi (by omega) (by omega)]; simp; omega)]
    exact codes_end hc (by omega) _ rfl
  | succ m ih =>
    intro k i c L hi h0 hk hc hn
    obtain ⟨k, rfl⟩ := kpos hk
    have hnx := hc.next
    rw [law25_CrowdCodes.l0]
    by_cases hgo : full = true ∧ (L.length : Int) < 2
    · rw [if_pos (by rw [wi (by omega) (by omega)]; simp; exact ⟨⟨by omega, hgo.1⟩, by omega⟩)]
      have hskip : law25_CrowdCodes.l0 k w h full v1 v2 v3 v4 (L.length : Int) c.w c.h c.most c.units.most c.units.next c.units.live c.units.order c.floor.words c.floor.count (w64 (i + 1)) = some true := by
        rw [wi (by omega) (by omega)]
        exact ih k (i + 1) c L (by omega) (by omega) (by omega) hc (by omega)
      have hcell : CellS v1 v2 i := ⟨hm, h0, by omega⟩
      by_cases q : i = v3
      · rw [if_neg (by simpa using q)]
        simp only [Option.bind_some, Bool.false_eq_true, if_false]
        exact hskip
      · rw [if_pos (by simpa using q), ceta, cwho_f hc]
        simp only [Option.bind_some]
        by_cases d : cWho L i < 0
        · rw [if_pos (by simpa using d), wi (x := v1 * v2) (by omega) (by omega), if_pos (by omega), wi (x := i + 1) (by omega) (by omega)]
          have hmod : Int.tmod (i + 1) (v1 * v2) = (i + 1) % (v1 * v2) := tmod_pos (by omega)
          rw [hmod]
          have g1 := Int.emod_nonneg (i + 1) (b := v1 * v2) (by omega)
          have g2 := Int.emod_lt_of_pos (i + 1) (b := v1 * v2) (by omega)
          have g3 : i ≠ (i + 1) % (v1 * v2) := by
            by_cases y : i + 1 < v1 * v2
            · rw [Int.emod_eq_of_lt (by omega) y]; omega
            · have : i + 1 = v1 * v2 := by omega
              rw [this, Int.emod_self]; omega
          have hw0 : cWho L i = -1 := by
            refine Classical.byContradiction fun z => ?_
            unfold cWho at d z
            cases hf : L.find? (fun x => x.Cell == i) with
            | none => rw [hf] at z; exact z rfl
            | some x => rw [hf] at d; have := (hc.us.idr (List.mem_of_find?_eq_some hf)).1; simp only at d; omega
          obtain ⟨c', e1, e2, e3⟩ := cspawn_f hc (by omega) i ((i + 1) % (v1 * v2))
          rw [cs_5 hcell ⟨hm, g1, g2⟩ hw0 (by omega) g3] at e1 e2 e3
          rw [e1]
          simp only [Option.bind_some]
          rw [if_neg (by simp), wi (x := (L.length : Int) + 1) (by omega) (by omega)]
          have := ih k (i + 1) c' _ (by omega) (by omega) (by omega) e2 (by simp only at e3; rw [e3]; simp; omega)
          simpa using this
        · rw [if_neg (by simpa using d)]
          exact hskip
    · rw [if_neg (by rw [wi (by omega) (by omega)]; simp; intro _ q; exact Int.not_lt.1 (fun z => hgo ⟨q, by omega⟩))]
      exact codes_end hc (by omega) _ rfl

theorem codes_l' {w h : Int} {full : Bool} {v1 v2 v3 v4 made : Int} (hw : 2 ≤ v1 ∧ v1 ≤ 8) (hh : 1 ≤ v2 ∧ v2 ≤ 8) {c : crowd_Crowd} {L : List api_Unit} (hmade : made = (L.length : Int)) (hp : 0 ≤ v1 * v2 ∧ v1 * v2 ≤ 1048576) (hc : CS c v1 v2 2 L) (hn : c.units.next ≤ 10) :
    law25_CrowdCodes.l0 fuel w h full v1 v2 v3 v4 made c.w c.h c.most c.units.most c.units.next c.units.live c.units.order c.floor.words c.floor.count 0 = some true := by
  rw [hmade]
  exact codes_l hw hh (v1 * v2).toNat fuel 0 c L (by omega) (by omega) (by rw [fuelv]; omega) hc (by omega)

theorem CrowdCodes_pure : law25_CrowdCodes.Pure := by
  intro w h cell goal taken full _ _ _ _
  unfold law25_CrowdCodes.f
  obtain ⟨v1, e1, a1, a2⟩ := within_y (n := w) (lo := 2) (hi := 8) (by omega) (by omega) (by omega) (by omega)
  obtain ⟨v2, e2, b1, b2⟩ := within_y (n := h) (lo := 1) (hi := 8) (by omega) (by omega) (by omega) (by omega)
  have hm : MayS v1 v2 := ⟨by omega, by omega, by omega, by omega⟩
  have hp := may_prod hm
  have hp2 : 2 ≤ v1 * v2 := by
    have := Int.mul_le_mul a1 b1 (by omega) (by omega : (0 : Int) ≤ v1); omega
  obtain ⟨v3, e3, c1, c2⟩ := within_y (n := cell) (lo := -1) (hi := v1 * v2) (by omega) (by omega) (by omega) (by omega)
  obtain ⟨v4, e4, d1, d2⟩ := within_y (n := goal) (lo := -1) (hi := v1 * v2) (by omega) (by omega) (by omega) (by omega)
  obtain ⟨c, e5, hc, hn⟩ := new_ok (most := 2) hm (by decide) (by decide)
  rw [e1, Option.bind_some, e2, Option.bind_some, wi (x := v1 * v2) (by omega) (by omega), e3, Option.bind_some, e4, Option.bind_some, e5, Option.bind_some]
  simp only [optm]
  by_cases q : taken = true ∧ 0 ≤ v3 ∧ v3 < v1 * v2
  · obtain ⟨q1, q2, q3⟩ := q
    rw [if_pos (by simp [q1]; omega), if_pos (by omega), wi (x := v3 + 1) (by omega) (by omega), tmod_pos (by omega : 0 ≤ v3 + 1)]
    have g1 := Int.emod_nonneg (v3 + 1) (b := v1 * v2) (by omega)
    have g2 := Int.emod_lt_of_pos (v3 + 1) (b := v1 * v2) (by omega)
    have g3 : v3 ≠ (v3 + 1) % (v1 * v2) := by
      by_cases y : v3 + 1 < v1 * v2
      · rw [Int.emod_eq_of_lt (by omega) y]; omega
      · have : v3 + 1 = v1 * v2 := by omega
        rw [this, Int.emod_self]; omega
    obtain ⟨c', f1, f2, f3⟩ := cspawn_f hc (by omega) v3 ((v3 + 1) % (v1 * v2))
    rw [cs_5 ⟨hm, q2, q3⟩ ⟨hm, g1, g2⟩ rfl (by simp) g3] at f1 f2 f3
    rw [f1]
    simp only [Option.bind_some]
    rw [if_neg (by simp)]
    simp only [Option.bind_some]
    rw [wi (by omega) (by omega)]
    exact codes_l' ⟨a1, a2⟩ ⟨b1, b2⟩ (by simp) ⟨by omega, hp.2⟩ f2 (by simp only at f3; rw [f3]; simp; omega)
  · rw [if_neg (by simp; intro x y; exact Int.not_lt.1 (fun z => q ⟨x, y, z⟩))]
    simp only [Option.bind_some]
    exact codes_l' ⟨a1, a2⟩ ⟨b1, b2⟩ rfl ⟨by omega, hp.2⟩ hc (by omega)
end Go.Proofs.Ytkidcebfpengmaa
