import Derived.Test.YtmddmofncblfpaaPmay
import Derived.Test.YtmddmofncblfpaaPmade21
namespace Go.Proofs.Ytmddmofncblfpaa
open Go.Hx

theorem dup_l {l : List api_Unit} {i : Int} (hi : 0 ≤ i ∧ i < l.length) (hb : l.length ≤ 4611686018427387000) : ∀ (n k : Nat) (j : Int), j + n = i → 0 ≤ j → n < k →
    ∃ b : Bool, ref21_May.l1 k l i j = some (if b then Sum.inr () else Sum.inl false) ∧ (b = true ↔ ∀ q, j ≤ q → q < i → (rd l q).Cell ≠ (rd l i).Cell) := by
  intro n
  induction n with
  | zero =>
    intro k j hj h0 hk
    obtain ⟨k, rfl⟩ := kpos hk
    exact ⟨true, by rw [ref21_May.l1, if_neg (by omega)]; rfl, ⟨fun _ q q0 q1 => by omega, fun _ => rfl⟩⟩
  | succ n ih =>
    intro k j hj h0 hk
    obtain ⟨k, rfl⟩ := kpos hk
    rw [ref21_May.l1, if_pos (by omega), if_pos (by omega), if_pos (by omega)]
    by_cases e : (rd l j).Cell = (rd l i).Cell
    · rw [if_pos (by simpa using e)]
      exact ⟨false, rfl, ⟨fun q => (by cases q), fun q => absurd e (q j (by omega) (by omega))⟩⟩
    · rw [if_neg (by simpa using e), wi (by omega) (by omega)]
      obtain ⟨b, b1, b2⟩ := ih k (j + 1) (by omega) (by omega) (by omega)
      refine ⟨b, b1, b2.trans ⟨fun q z z0 z1 => ?_, fun q z z0 z1 => q z (by omega) z1⟩⟩
      by_cases y : z = j
      · subst y; exact e
      · exact q z (by omega) z1

def GoodR (w h : Int) (l : List api_Unit) (j : Int) : Prop :=
  0 ≤ (rd l j).Id ∧ (0 < j → (rd l (j - 1)).Id < (rd l j).Id) ∧ CellS w h (rd l j).Cell ∧ CellS w h (rd l j).Goal ∧ ∀ q, 0 ≤ q → q < j → (rd l q).Cell ≠ (rd l j).Cell
theorem rmay_l {w h : Int} {l : List api_Unit} (hb : l.length ≤ 4611686018427387000) : ∀ (n k : Nat) (i : Int), i + n = l.length → 0 ≤ i → n < k →
    ∃ r, ref21_May.l0 k w h l i = some r ∧ (r = true ↔ ∀ j, i ≤ j → j < l.length → GoodR w h l j) := by
  intro n
  induction n with
  | zero =>
    intro k i hi h0 hk
    obtain ⟨k, rfl⟩ := kpos hk
    exact ⟨true, by rw [ref21_May.l0, if_neg (by omega)], ⟨fun _ j j0 j1 => by omega, fun _ => rfl⟩⟩
  | succ n ih =>
    intro k i hi h0 hk
    obtain ⟨k, rfl⟩ := kpos hk
    rw [ref21_May.l0, if_pos (by omega), if_pos (by omega), wi (x := i - 1) (by omega) (by omega)]
    simp only [riscell_f, Option.bind_some]
    obtain ⟨b, b1, b2⟩ := dup_l (l := l) (i := i) (by omega) hb i.toNat fuel 0 (by omega) (by omega) (by rw [fuelv]; omega)
    have hcell : ∀ c : Int, ((!decide (CellS w h c)) = true) ↔ ¬ CellS w h c := fun c => by simp only [Bool.not_eq_true', decide_eq_false_iff_not]
    have key : ∃ c : Bool, ((if (rd l i).Id < 0 then (some true) else (if i > 0 then (if (0 ≤ i - 1 ∧ i - 1 < (List.length l : Int)) then (if (rd l i).Id ≤ (rd l (i - 1)).Id then (some true) else (if (!decide (CellS w h (rd l i).Cell)) = true then (some true) else (some (!decide (CellS w h (rd l i).Goal))))) else none) else (if (!decide (CellS w h (rd l i).Cell)) = true then (some true) else (some (!decide (CellS w h (rd l i).Goal)))))) : Option Bool) = some c ∧
        (c = false ↔ 0 ≤ (rd l i).Id ∧ (0 < i → (rd l (i - 1)).Id < (rd l i).Id) ∧ CellS w h (rd l i).Cell ∧ CellS w h (rd l i).Goal) := by
      have tailc : ∃ c : Bool, ((if (!decide (CellS w h (rd l i).Cell)) = true then (some true) else (some (!decide (CellS w h (rd l i).Goal)))) : Option Bool) = some c ∧ (c = false ↔ CellS w h (rd l i).Cell ∧ CellS w h (rd l i).Goal) := by
        by_cases q : CellS w h (rd l i).Cell
        · rw [if_neg (by rw [hcell]; exact fun z => z q)]
          refine ⟨_, rfl, ?_⟩
          simp only [Bool.not_eq_false', decide_eq_true_eq]
          exact ⟨fun z => ⟨q, z⟩, fun z => z.2⟩
        · rw [if_pos ((hcell _).2 q)]
          exact ⟨true, rfl, ⟨fun z => (by cases z), fun z => absurd z.1 q⟩⟩
      obtain ⟨c, c1, c2⟩ := tailc
      rw [c1]
      by_cases a1 : (rd l i).Id < 0
      · rw [if_pos a1]
        exact ⟨true, rfl, ⟨fun z => (by cases z), fun z => by omega⟩⟩
      · rw [if_neg a1]
        by_cases a2 : i > 0
        · rw [if_pos a2, if_pos (by omega)]
          by_cases a3 : (rd l i).Id ≤ (rd l (i - 1)).Id
          · rw [if_pos a3]
            exact ⟨true, rfl, ⟨fun z => (by cases z), fun z => by have := z.2.1 (by omega); omega⟩⟩
          · rw [if_neg a3]
            exact ⟨c, rfl, c2.trans ⟨fun z => ⟨by omega, fun _ => by omega, z⟩, fun z => z.2.2⟩⟩
        · rw [if_neg a2]
          exact ⟨c, rfl, c2.trans ⟨fun z => ⟨by omega, fun y => absurd y a2, z⟩, fun z => z.2.2⟩⟩
    obtain ⟨c, c1, c2⟩ := key
    rw [c1]
    simp only [Option.bind_some]
    cases c with
    | true =>
      rw [if_pos rfl]
      refine ⟨false, rfl, ⟨fun q => (by cases q), fun q => ?_⟩⟩
      have := q i (by omega) (by omega)
      have := c2.2 ⟨this.1, this.2.1, this.2.2.1, this.2.2.2.1⟩
      cases this
    | false =>
      obtain ⟨d1, d2, d3, d4⟩ := c2.1 rfl
      rw [if_neg (by simp), b1]
      cases b with
      | false =>
        refine ⟨false, rfl, ⟨fun q => (by cases q), fun q => ?_⟩⟩
        have := b2.2 (fun z z0 z1 => (q i (by omega) (by omega)).2.2.2.2 z z0 z1)
        cases this
      | true =>
        simp only [if_true, Option.bind_some]
        rw [wi (by omega) (by omega)]
        obtain ⟨r, r1, r2⟩ := ih k (i + 1) (by omega) (by omega) (by omega)
        refine ⟨r, r1, r2.trans ⟨fun q j j0 j1 => ?_, fun q j j0 j1 => q j (by omega) j1⟩⟩
        by_cases z : j = i
        · subst z; exact ⟨d1, d2, d3, d4, b2.1 rfl⟩
        · exact q j (by omega) j1
theorem good_iff {w h : Int} {l : List api_Unit} : (∀ j : Int, 0 ≤ j → j < l.length → GoodR w h l j) ↔ (∀ j : Int, 0 ≤ j → j < l.length → GoodU w h l j) := by
  constructor
  · intro H j j0 j1
    obtain ⟨a, b, c, d, e⟩ := H j j0 j1
    refine ⟨?_, c, d, e⟩
    split
    · omega
    · exact b (by omega)
  · intro H j j0 j1
    have hid : ∀ n : Nat, (n : Int) < l.length → 0 ≤ (rd l (n : Int)).Id := by
      intro n
      induction n with
      | zero => intro hn; have := (H 0 (by omega) (by omega)).1; rw [if_pos rfl] at this; simp at this ⊢; omega
      | succ n ih =>
        intro hn
        have h1 := (H (n + 1 : Nat) (by omega) hn).1
        rw [if_neg (by omega), show ((n + 1 : Nat) : Int) - 1 = n by omega] at h1
        have := ih (by omega); omega
    obtain ⟨a, c, d, e⟩ := H j j0 j1
    have hj := hid j.toNat (by omega)
    rw [show (j.toNat : Int) = j by omega] at hj
    exact ⟨hj, fun q => by rw [if_neg (by omega)] at a; exact a, c, d, e⟩
theorem rmay21_f {w h : Int} {l : List api_Unit} (hb : l.length ≤ 4611686018427387000) : ∃ r, ref21_May.f w h l = some r ∧ (r = true ↔ MayU w h l) := by
  unfold ref21_May.f
  rw [rmay_f, Option.bind_some]
  by_cases hm : MayS w h
  · rw [if_neg (by simpa using hm)]
    obtain ⟨r, r1, r2⟩ := rmay_l (w := w) (h := h) hb l.length fuel 0 (by omega) (by omega) (by rw [fuelv]; omega)
    exact ⟨r, r1, r2.trans (good_iff.trans ⟨fun q => ⟨hm, q⟩, fun q => q.2⟩)⟩
  · rw [if_pos (by rw [decide_eq_false hm]; rfl)]
    exact ⟨false, rfl, ⟨fun q => (by cases q), fun q => absurd q.1 hm⟩⟩

theorem MInv.may {w h : Int} {l : List api_Unit} (hm : MayS w h) (hv : MInv w h l) : MayU w h l := by
  refine ⟨hm, fun j j0 j1 => ?_⟩
  obtain ⟨a, b, c, d⟩ := hv j j0 j1
  refine ⟨?_, b, c, d⟩
  split
  · omega
  · have := (hv (j - 1) (by omega) (by omega)).1; omega

end Go.Proofs.Ytmddmofncblfpaa
