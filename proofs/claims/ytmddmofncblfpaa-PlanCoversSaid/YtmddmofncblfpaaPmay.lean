import Derived.Test.YtmddmofncblfpaaPwhere
import Derived.Test.YtmddmofncblfpaaFplan
namespace Go.Proofs.Ytmddmofncblfpaa
open Go.Hx

theorem unit_ext {a b : api_Unit} (h1 : a.Id = b.Id) (h2 : a.Cell = b.Cell) (h3 : a.Goal = b.Goal) : a = b := by
  cases a; cases b; simp_all

/-- unit j may follow those ahead of it -/
def GoodU (w h : Int) (l : List api_Unit) (j : Int) : Prop :=
  (if j = 0 then -1 else (rd l (j - 1)).Id) < (rd l j).Id ∧ CellS w h (rd l j).Cell ∧ CellS w h (rd l j).Goal ∧ ∀ q, 0 ≤ q → q < j → (rd l q).Cell ≠ (rd l j).Cell
def MayU (w h : Int) (l : List api_Unit) : Prop := MayS w h ∧ ∀ j : Int, 0 ≤ j → j < l.length → GoodU w h l j

theorem may_l {w h : Int} {l : List api_Unit} (hb : l.length ≤ 4611686018427387000) : ∀ (n k : Nat) (i : Int) (m : List (Int × Bool)), i + n = l.length → 0 ≤ i → n < k →
    (∀ c, mval m c = true ↔ ∃ q, 0 ≤ q ∧ q < i ∧ (rd l q).Cell = c) →
    ∃ r, plan_May.l0 k w h l (if i = 0 then -1 else (rd l (i - 1)).Id) m i = some r ∧ (r = true ↔ ∀ j, i ≤ j → j < l.length → GoodU w h l j) := by
  intro n
  induction n with
  | zero =>
    intro k i m hi h0 hk hm
    obtain ⟨k, rfl⟩ := kpos hk
    exact ⟨true, by rw [plan_May.l0, if_neg (by omega)], ⟨fun _ j j0 j1 => by omega, fun _ => rfl⟩⟩
  | succ n ih =>
    intro k i m hi h0 hk hm
    obtain ⟨k, rfl⟩ := kpos hk
    rw [plan_May.l0, if_pos (by omega), if_pos (by omega)]
    simp only [sector_f, Option.bind_some]
    by_cases g : GoodU w h l i
    · obtain ⟨g1, g2, g3, g4⟩ := g
      have hm0 : mval m (rd l i).Cell = false := by
        rw [Bool.eq_false_iff]; intro q
        obtain ⟨z, z0, z1, z2⟩ := (hm _).1 q
        exact g4 z z0 z1 z2
      have s1 : ¬ sSector w h (rd l i).Cell < 0 := fun q => sector_neg.1 q g2
      have s2 : ¬ sSector w h (rd l i).Goal < 0 := fun q => sector_neg.1 q g3
      rw [if_neg (by omega), if_neg s1, if_neg s2, hm0]
      simp only [Option.bind_some, Bool.false_eq_true, if_false]
      rw [wi (by omega) (by omega)]
      obtain ⟨r, r1, r2⟩ := ih k (i + 1) (mset m (rd l i).Cell true) (by omega) (by omega) (by omega) (fun c => by
        rw [mval_mset]
        by_cases e : (rd l i).Cell = c
        · rw [if_pos e]; exact ⟨fun _ => ⟨i, h0, by omega, e⟩, fun _ => rfl⟩
        · rw [if_neg e, hm c]
          constructor
          · rintro ⟨q, q0, q1, q2⟩; exact ⟨q, q0, by omega, q2⟩
          · rintro ⟨q, q0, q1, q2⟩
            by_cases z : q = i
            · subst z; exact absurd q2 e
            · exact ⟨q, q0, by omega, q2⟩)
      rw [if_neg (by omega), show i + 1 - 1 = i by omega] at r1
      refine ⟨r, r1, r2.trans ⟨fun q j j0 j1 => ?_, fun q j j0 j1 => q j (by omega) j1⟩⟩
      by_cases z : j = i
      · subst z; exact ⟨g1, g2, g3, g4⟩
      · exact q j (by omega) j1
    · have hf : ∀ last, last = (if i = 0 then -1 else (rd l (i - 1)).Id) → ((if (rd l i).Id ≤ last then (some true) else (if sSector w h (rd l i).Cell < 0 then (some true) else (if sSector w h (rd l i).Goal < 0 then (some true) else (some (mval m (rd l i).Cell))))) : Option Bool) = some true := by
        intro last hla
        by_cases a : (rd l i).Id ≤ last
        · rw [if_pos a]
        · rw [if_neg a]
          by_cases b : sSector w h (rd l i).Cell < 0
          · rw [if_pos b]
          · rw [if_neg b]
            by_cases c : sSector w h (rd l i).Goal < 0
            · rw [if_pos c]
            · rw [if_neg c]
              congr 1
              rw [hm]
              refine Classical.byContradiction fun q => g ⟨by rw [← hla]; omega, Classical.byContradiction fun z => b (sector_neg.2 z), Classical.byContradiction fun z => c (sector_neg.2 z), fun z z0 z1 z2 => q ⟨z, z0, z1, z2⟩⟩
      rw [hf _ rfl]
      simp only [Option.bind_some, if_true]
      exact ⟨false, rfl, ⟨fun q => (by cases q), fun q => absurd (q i (by omega) (by omega)) g⟩⟩
theorem pmay_f {w h : Int} {l : List api_Unit} (hb : l.length ≤ 4611686018427387000) : ∃ r, plan_May.f w h l = some r ∧ (r = true ↔ MayU w h l) := by
  unfold plan_May.f
  rw [may_f, Option.bind_some]
  by_cases hm : MayS w h
  · rw [if_neg (by simpa using hm)]
    obtain ⟨r, r1, r2⟩ := may_l (w := w) (h := h) hb l.length fuel 0 [] (by omega) (by omega) (by rw [fuelv]; omega) (fun c => by
      constructor
      · intro q; simp [mval, mget] at q
      · rintro ⟨q, q0, q1, _⟩; omega)
    rw [if_pos rfl] at r1
    exact ⟨r, r1, r2.trans ⟨fun q => ⟨hm, q⟩, fun q => q.2⟩⟩
  · rw [if_pos (by rw [decide_eq_false hm]; rfl)]
    exact ⟨false, rfl, ⟨fun q => (by cases q), fun q => absurd q.1 hm⟩⟩

theorem MayU.cell {w h : Int} {l : List api_Unit} (hm : MayU w h l) {j : Int} (j0 : 0 ≤ j) (j1 : j < l.length) : CellS w h (rd l j).Cell := (hm.2 j j0 j1).2.1
theorem MayU.apart {w h : Int} {l : List api_Unit} (hm : MayU w h l) {i j : Int} (i0 : 0 ≤ i) (i1 : i < l.length) (j0 : 0 ≤ j) (j1 : j < l.length) (hij : i ≠ j) : (rd l i).Cell ≠ (rd l j).Cell := by
  rcases Int.lt_or_gt_of_ne hij with q | q
  · exact (hm.2 j j0 j1).2.2.2 i i0 q
  · exact fun e => (hm.2 i i0 i1).2.2.2 j j0 q e.symm
theorem MayU.ids {w h : Int} {l : List api_Unit} (hm : MayU w h l) : ∀ (n : Nat) (i j : Int), j = i + n → 0 ≤ i → 0 < n → j < l.length → (rd l i).Id < (rd l j).Id := by
  intro n
  induction n with
  | zero => intro i j _ _ h; omega
  | succ n ih =>
    intro i j hj i0 _ j1
    have h1 := (hm.2 j (by omega) j1).1
    rw [if_neg (by omega)] at h1
    by_cases hn : n = 0
    · have : j - 1 = i := by omega
      rw [this] at h1; exact h1
    · have := ih i (j - 1) (by omega) i0 (by omega) (by omega)
      omega
theorem MayU.id_lt {w h : Int} {l : List api_Unit} (hm : MayU w h l) {i j : Int} (i0 : 0 ≤ i) (hij : i < j) (j1 : j < l.length) : (rd l i).Id < (rd l j).Id :=
  hm.ids (j - i).toNat i j (by omega) i0 (by omega) j1
theorem MayU.id_nn {w h : Int} {l : List api_Unit} (hm : MayU w h l) {i : Int} (i0 : 0 ≤ i) (i1 : i < l.length) : 0 ≤ (rd l i).Id := by
  have h0 := (hm.2 0 (by omega) (by omega)).1
  rw [if_pos rfl] at h0
  by_cases q : i = 0
  · subst q; omega
  · have := hm.id_lt (i := 0) (j := i) (by omega) (by omega) i1
    omega

end Go.Proofs.Ytmddmofncblfpaa
