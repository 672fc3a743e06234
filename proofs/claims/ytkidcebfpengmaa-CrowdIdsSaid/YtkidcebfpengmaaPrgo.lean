import Derived.Test.YtkidcebfpengmaaPgo
import Derived.Test.YtkidcebfpengmaaPsame21
import Derived.Test.YtkidcebfpengmaaPmoves21
import Derived.Test.YtkidcebfpengmaaPints
import Derived.Test.YtkidcebfpengmaaPmade21
namespace Go.Proofs.Ytkidcebfpengmaa
open Go.Hx
set_option linter.unusedVariables false
set_option linter.unusedSimpArgs false

theorem dup_l {l : List api_Unit} {i : Int} (hi : 0 ≤ i ∧ i < l.length) (hb : l.length ≤ 4611686018427387000) : ∀ (n k : Nat) (j : Int), j + n = i → 0 ≤ j → n < k →
    ∃ b : Bool, ref21_May.l1 k l i j = some (if b then Sum.inr () else Sum.inl false) ∧ (b = true ↔ ∀ q, j ≤ q → q < i → (rd l q).Cell ≠ (rd l i).Cell) := by
  intro n
  induction n with
  | zero =>
    intro k j hj h0 hk
    obtain ⟨k, rfl⟩ := kpos hk
    exact ⟨true, by rw [ref21_May.l1, if_neg (by omega)]; rfl, ⟨fun _ q q0 q1 => by omega, fun _ => rfl⟩⟩
  | succ n ih =>
    intro k j hj h0 hk
    obtain ⟨k, rfl⟩ := kpos hk
    rw [ref21_May.l1, if_pos (by omega), if_pos (by omega), if_pos (by omega)]
    by_cases e : (rd l j).Cell = (rd l i).Cell
    · rw [if_pos (by simpa using e)]
      exact ⟨false, rfl, ⟨fun q => (by cases q), fun q => absurd e (q j (by omega) (by omega))⟩⟩
    · rw [if_neg (by simpa using e), wi (by omega) (by omega)]
      obtain ⟨b, b1, b2⟩ := ih k (j + 1) (by omega) (by omega) (by omega)
      refine ⟨b, b1, b2.trans ⟨fun q z z0 z1 => ?_, fun q z z0 z1 => q z (by omega) z1⟩⟩
      by_cases y : z = j
      · subst y; exact e
      · exact q z (by omega) z1

def GoodR (w h : Int) (l : List api_Unit) (j : Int) : Prop :=
  0 ≤ (rd l j).Id ∧ (0 < j → (rd l (j - 1)).Id < (rd l j).Id) ∧ CellS w h (rd l j).Cell ∧ CellS w h (rd l j).Goal ∧ ∀ q, 0 ≤ q → q < j → (rd l q).Cell ≠ (rd l j).Cell
theorem rmay_l {w h : Int} {l : List api_Unit} (hb : l.length ≤ 4611686018427387000) : ∀ (n k : Nat) (i : Int), i + n = l.length → 0 ≤ i → n < k →
    ∃ r, ref21_May.l0 k w h l i = some r ∧ (r = true ↔ ∀ j, i ≤ j → j < l.length → GoodR w h l j) := by
  intro n
  induction n with
  | zero =>
    intro k i hi h0 hk
    obtain ⟨k, rfl⟩ := kpos hk
    exact ⟨true, by rw [ref21_May.l0, if_neg (by omega)], ⟨fun _ j j0 j1 => by omega, fun _ => rfl⟩⟩
  | succ n ih =>
    intro k i hi h0 hk
    obtain ⟨k, rfl⟩ := kpos hk
    rw [ref21_May.l0, if_pos (by omega), if_pos (by omega), wi (x := i - 1) (by omega) (by omega)]
    simp only [riscell_f, Option.bind_some]
    obtain ⟨b, b1, b2⟩ := dup_l (l := l) (i := i) (by omega) hb i.toNat fuel 0 (by omega) (by omega) (by rw [fuelv]; omega)
    have hcell : ∀ c : Int, ((!decide (CellS w h c)) = true) ↔ ¬ CellS w h c := fun c => by simp only [Bool.not_eq_true', decide_eq_false_iff_not]
    have key : ∃ c : Bool, ((if (rd l i).Id < 0 then (some true) else (if i > 0 then (if (0 ≤ i - 1 ∧ i - 1 < (List.length l : Int)) then (if (rd l i).Id ≤ (rd l (i - 1)).Id then (some true) else (if (!decide (CellS w h (rd l i).Cell)) = true then (some true) else (some (!decide (CellS w h (rd l i).Goal))))) else none) else (if (!decide (CellS w h (rd l i).Cell)) = true then (some true) else (some (!decide (CellS w h (rd l i).Goal)))))) : Option Bool) = some c ∧
        (c = false ↔ 0 ≤ (rd l i).Id ∧ (0 < i → (rd l (i - 1)).Id < (rd l i).Id) ∧ CellS w h (rd l i).Cell ∧ CellS w h (rd l i).Goal) := by
      have tailc : ∃ c : Bool, ((if (!decide (CellS w h (rd l i).Cell)) = true then (some true) else (some (!decide (CellS w h (rd l i).Goal)))) : Option Bool) = some c ∧ (c = false ↔ CellS w h (rd l i).Cell ∧ CellS w h (rd l i).Goal) := by
        by_cases q : CellS w h (rd l i).Cell
        · rw [if_neg (by rw [hcell]; exact fun z => z q)]
          refine ⟨_, rfl, ?_⟩
          simp only [Bool.not_eq_false', decide_eq_true_eq]
          exact ⟨fun z => ⟨q, z⟩, fun z => z.2⟩
        · rw [if_pos ((hcell _).2 q)]
          exact ⟨true, rfl, ⟨fun z => (by cases z), fun z => absurd z.1 q⟩⟩
      obtain ⟨c, c1, c2⟩ := tailc
      rw [c1]
      by_cases a1 : (rd l i).Id < 0
      · rw [if_pos a1]
        exact ⟨true, rfl, ⟨fun z => (by cases z), fun z => by omega⟩⟩
      · rw [if_neg a1]
        by_cases a2 : i > 0
        · rw [if_pos a2, if_pos (by omega)]
          by_cases a3 : (rd l i).Id ≤ (rd l (i - 1)).Id
          · rw [if_pos a3]
            exact ⟨true, rfl, ⟨fun z => (by cases z), fun z => by have := z.2.1 (by omega); omega⟩⟩
          · rw [if_neg a3]
            exact ⟨c, rfl, c2.trans ⟨fun z => ⟨by omega, fun _ => by omega, z⟩, fun z => z.2.2⟩⟩
        · rw [if_neg a2]
          exact ⟨c, rfl, c2.trans ⟨fun z => ⟨by omega, fun y => absurd y a2, z⟩, fun z => z.2.2⟩⟩
    obtain ⟨c, c1, c2⟩ := key
    rw [c1]
    simp only [Option.bind_some]
    cases c with
    | true =>
      rw [if_pos rfl]
      refine ⟨false, rfl, ⟨fun q => (by cases q), fun q => ?_⟩⟩
      have := q i (by omega) (by omega)
      have := c2.2 ⟨this.1, this.2.1, this.2.2.1, this.2.2.2.1⟩
      cases this
    | false =>
      obtain ⟨d1, d2, d3, d4⟩ := c2.1 rfl
      rw [if_neg (by simp), b1]
      cases b with
      | false =>
        refine ⟨false, rfl, ⟨fun q => (by cases q), fun q => ?_⟩⟩
        have := b2.2 (fun z z0 z1 => (q i (by omega) (by omega)).2.2.2.2 z z0 z1)
        cases this
      | true =>
        simp only [if_true, Option.bind_some]
        rw [wi (by omega) (by omega)]
        obtain ⟨r, r1, r2⟩ := ih k (i + 1) (by omega) (by omega) (by omega)
        refine ⟨r, r1, r2.trans ⟨fun q j j0 j1 => ?_, fun q j j0 j1 => q j (by omega) j1⟩⟩
        by_cases z : j = i
        · subst z; exact ⟨d1, d2, d3, d4, b2.1 rfl⟩
        · exact q j (by omega) j1
theorem good_iff {w h : Int} {l : List api_Unit} : (∀ j : Int, 0 ≤ j → j < l.length → GoodR w h l j) ↔ (∀ j : Int, 0 ≤ j → j < l.length → GoodU w h l j) := by
  constructor
  · intro H j j0 j1
    obtain ⟨a, b, c, d, e⟩ := H j j0 j1
    refine ⟨?_, c, d, e⟩
    split
    · omega
    · exact b (by omega)
  · intro H j j0 j1
    have hid : ∀ n : Nat, (n : Int) < l.length → 0 ≤ (rd l (n : Int)).Id := by
      intro n
      induction n with
      | zero => intro hn; have := (H 0 (by omega) (by omega)).1; rw [if_pos rfl] at this; simp at this ⊢; omega
      | succ n ih =>
        intro hn
        have h1 := (H (n + 1 : Nat) (by omega) hn).1
        rw [if_neg (by omega), show ((n + 1 : Nat) : Int) - 1 = n by omega] at h1
        have := ih (by omega); omega
    obtain ⟨a, c, d, e⟩ := H j j0 j1
    have hj := hid j.toNat (by omega)
    rw [show (j.toNat : Int) = j by omega] at hj
    exact ⟨hj, fun q => by rw [if_neg (by omega)] at a; exact a, c, d, e⟩
theorem rmay21_f {w h : Int} {l : List api_Unit} (hb : l.length ≤ 4611686018427387000) : ∃ r, ref21_May.f w h l = some r ∧ (r = true ↔ MayU w h l) := by
  unfold ref21_May.f
  rw [rmay_f, Option.bind_some]
  by_cases hm : MayS w h
  · rw [if_neg (by simpa using hm)]
    obtain ⟨r, r1, r2⟩ := rmay_l (w := w) (h := h) hb l.length fuel 0 (by omega) (by omega) (by rw [fuelv]; omega)
    exact ⟨r, r1, r2.trans (good_iff.trans ⟨fun q => ⟨hm, q⟩, fun q => q.2⟩)⟩
  · rw [if_pos (by rw [decide_eq_false hm]; rfl)]
    exact ⟨false, rfl, ⟨fun q => (by cases q), fun q => absurd q.1 hm⟩⟩

theorem rdirs_l {dirs : List Int} {n : Int} (hn : n = dirs.length) (hb : dirs.length ≤ 4611686018427387000) : ∀ (m k : Nat) (i : Int), i + m = n → 0 ≤ i → m < k →
    ∃ r, ref21_Dirs.l0 k dirs n i = some r ∧ (r = true ↔ ∀ j, i ≤ j → j < n → 0 ≤ rd dirs j ∧ rd dirs j ≤ 5) := by
  intro m
  induction m with
  | zero =>
    intro k i hi h0 hk
    obtain ⟨k, rfl⟩ := kpos hk
    exact ⟨true, by rw [ref21_Dirs.l0, if_neg (by omega)], ⟨fun _ j j0 j1 => by omega, fun _ => rfl⟩⟩
  | succ m ih =>
    intro k i hi h0 hk
    obtain ⟨k, rfl⟩ := kpos hk
    rw [ref21_Dirs.l0, if_pos (by omega), if_pos (by omega), in_f, Option.bind_some]
    by_cases e : 0 ≤ rd dirs i ∧ rd dirs i ≤ 5
    · rw [if_neg (by simpa using e), wi (by omega) (by omega)]
      obtain ⟨r, r1, r2⟩ := ih k (i + 1) (by omega) (by omega) (by omega)
      refine ⟨r, r1, r2.trans ⟨fun q j j0 j1 => ?_, fun q j j0 j1 => q j (by omega) j1⟩⟩
      by_cases z : j = i
      · subst z; exact e
      · exact q j (by omega) j1
    · rw [if_pos (by rw [decide_eq_false e]; rfl)]
      exact ⟨false, rfl, ⟨fun q => (by cases q), fun q => absurd (q i (by omega) (by omega)) e⟩⟩
theorem rdirs_f {dirs : List Int} {n : Nat} (hb : dirs.length ≤ 4611686018427387000) : ∃ r, ref21_Dirs.f dirs (n : Int) = some r ∧ (r = true ↔ DirsOk dirs n) := by
  unfold ref21_Dirs.f
  by_cases hl : dirs.length = n
  · rw [if_neg (by simp [hl])]
    obtain ⟨r, r1, r2⟩ := rdirs_l (dirs := dirs) (n := (n : Int)) (by omega) hb n fuel 0 (by omega) (by omega) (by rw [fuelv]; omega)
    refine ⟨r, r1, r2.trans ⟨fun q => ⟨hl, fun d hd => ?_⟩, fun q j j0 j1 => q.2 _ (rdmem j0 (by omega))⟩⟩
    obtain ⟨j, j0, j1, rfl⟩ := memrd hd
    exact q j j0 (by omega)
  · rw [if_pos (by simp; omega)]
    exact ⟨false, rfl, ⟨fun q => (by cases q), fun q => absurd q.1 hl⟩⟩

/-- one of the document's steps -/
theorem rgo_l1 {w h : Int} {l : List api_Unit} {n : Nat} {s : GSt} (hi : GInv w h l n s) (hn : n < l.length) (hb : l.length ≤ 1000000) {d : Int} (hd : 0 ≤ d ∧ d ≤ 3) : ∀ (m k : Nat) (j : Int) (b : Bool), j + m = l.length → 0 ≤ j → m < k →
    (b = true ↔ 0 ≤ gTo w h (rd l (n : Int)) d ∧ ∀ q, 0 ≤ q → q < j → (rd s.1 q).Cell ≠ gTo w h (rd l (n : Int)) d) →
    ref21_Go.l1 k l s.1 s.2.1 s.2.2 (n : Int) (gTo w h (rd l (n : Int)) d) b j = some (gStep w h s n (rd l (n : Int)) d) := by
  have hlen := hi.len
  have hml := hi.mlen
  have hgl := hi.glen
  intro m
  induction m with
  | zero =>
    intro k j b hj h0 hk hbb
    obtain ⟨k, rfl⟩ := kpos hk
    rw [ref21_Go.l1, if_neg (by omega)]
    have hcan : b = true ↔ gCan w h s.1 (rd l (n : Int)) d := by
      rw [hbb]
      unfold gCan
      refine and_congr_right fun _ => ⟨fun q x hx => ?_, fun q z z0 z1 => q _ (rdmem z0 (by omega))⟩
      obtain ⟨z, z0, z1, rfl⟩ := memrd hx
      exact q z z0 (by omega)
    unfold gStep
    by_cases hc : gCan w h s.1 (rd l (n : Int)) d
    · rw [hcan.2 hc, if_pos hc]
      rw [if_neg (by simp), if_pos (by omega), if_pos (by omega), if_pos (by omega), if_pos (by omega)]
      rw [hi.rest n (by omega) (by omega)]
      by_cases hg : gTo w h (rd l (n : Int)) d = (rd l (n : Int)).Goal
      · rw [if_pos (by simpa using hg), if_pos (by omega), if_pos (by rw [List.length_set]; omega)]
        rw [rds (by omega) (by omega) (by omega), if_pos rfl]
        simp only [List.set_set, if_pos hg]
      · rw [if_neg (by simpa using hg)]
        simp only [if_neg hg]
    · have hbf : b = false := by rw [Bool.eq_false_iff]; exact fun q => hc (hcan.1 q)
      rw [hbf, if_neg hc, if_pos (by simp)]
  | succ m ih =>
    intro k j b hj h0 hk hbb
    obtain ⟨k, rfl⟩ := kpos hk
    rw [ref21_Go.l1, if_pos (by omega), wi (by omega) (by omega)]
    cases b with
    | false =>
      rw [if_neg (by simp)]
      refine ih k (j + 1) false (by omega) (by omega) (by omega) ⟨fun q => (by cases q), fun q => ?_⟩
      have := hbb.2 ⟨q.1, fun z z0 z1 => q.2 z z0 (by omega)⟩
      cases this
    | true =>
      obtain ⟨h1, h2⟩ := hbb.1 rfl
      rw [if_pos rfl, if_pos (by omega)]
      refine ih k (j + 1) _ (by omega) (by omega) (by omega) ?_
      simp only [bne_iff_ne, ne_eq]
      constructor
      · intro q
        refine ⟨h1, fun z z0 z1 => ?_⟩
        by_cases y : z = j
        · subst y; exact q
        · exact h2 z z0 (by omega)
      · exact fun q => q.2 j h0 (by omega)

theorem rgo_l2 {x5 : List api_Unit} {x6 : List api_Move} {x7 : List Int} (hb : x5.length ≤ 1000000) : ∀ (m k : Nat) (i : Int) (L : List api_Unit), i + m = x5.length → 0 ≤ i → m < k → (L.length : Int) ≤ i →
    ref21_Go.l2 k x5 x6 x7 L i = some (L ++ (x5.drop i.toNat).filter (fun x => decide (0 ≤ x.Cell)), x6, x7) := by
  intro m
  induction m with
  | zero =>
    intro k i L hi h0 hk hL
    obtain ⟨k, rfl⟩ := kpos hk
    rw [ref21_Go.l2, if_neg (by omega), List.drop_of_length_le (by omega)]; simp
  | succ m ih =>
    intro k i L hi h0 hk hL
    obtain ⟨k, rfl⟩ := kpos hk
    rw [ref21_Go.l2, if_pos (by omega), if_pos (by omega), wi (by omega) (by omega), dropc h0 (by omega : i < (x5.length : Int))]
    by_cases e : 0 ≤ (rd x5 i).Cell
    · rw [if_pos (by omega), if_pos (by omega), ih k (i + 1) _ (by omega) (by omega) (by omega) (by simp; omega)]
      simp [e]
    · rw [if_neg (by omega), ih k (i + 1) _ (by omega) (by omega) (by omega) (by omega)]
      simp [e]

theorem rgo_l0 {w h : Int} {l : List api_Unit} {dirs : List Int} (hm : MayU w h l) (hb : l.length ≤ 1000000) (hd : DirsOk dirs l.length) : ∀ (m k : Nat) (n : Nat), n + m = l.length → m < k →
    ref21_Go.l0 k w h l dirs (gFold w h l dirs n).1 (gFold w h l dirs n).2.1 (gFold w h l dirs n).2.2 (n : Int) = some (gGo w h l dirs) := by
  intro m
  induction m with
  | zero =>
    intro k n hn hk
    obtain ⟨k, rfl⟩ := kpos hk
    have hi := gInv hm dirs n (by omega)
    have hl := hi.len
    rw [ref21_Go.l0, if_neg (by omega), rgo_l2 (by omega) (gFold w h l dirs n).1.length fuel 0 [] (by omega) (by omega) (by rw [fuelv]; omega) (by simp)]
    have : n = l.length := by omega
    subst this
    simp [gGo]
  | succ m ih =>
    intro k n hn hk
    obtain ⟨k, rfl⟩ := kpos hk
    have hi := gInv hm dirs n (by omega)
    have hl := hi.len
    have hdl := hd.1
    have hdn := hd.2 (rd dirs (n : Int)) (rdmem (by omega) (by omega))
    rw [ref21_Go.l0, if_pos (by omega), if_pos (by omega)]
    have hstep : ((if (rd dirs (n : Int)) > 3 then (some ((gFold w h l dirs n).1, (gFold w h l dirs n).2.1, (gFold w h l dirs n).2.2)) else (if (0 ≤ (n : Int) ∧ (n : Int) < (List.length l : Int)) then ((ref1_Step.f w h ((rd l (n : Int)).Cell) (rd dirs (n : Int))).bind fun v14 => ref21_Go.l1 fuel l (gFold w h l dirs n).1 (gFold w h l dirs n).2.1 (gFold w h l dirs n).2.2 (n : Int) v14 (decide (v14 ≥ 0)) 0) else none)) : Option GSt) = some (gFold w h l dirs (n + 1)) := by
      by_cases hq : rd dirs (n : Int) > 3
      · rw [if_pos hq]
        show _ = some (gStep w h (gFold w h l dirs n) n (rd l (n : Int)) (rd dirs (n : Int)))
        unfold gStep
        rw [if_neg]
        unfold gCan gTo
        rw [if_neg (by omega)]
        intro z; omega
      · rw [if_neg hq, if_pos (by omega), rstep_f, Option.bind_some]
        have hto : gTo w h (rd l (n : Int)) (rd dirs (n : Int)) = sStep w h (rd l (n : Int)).Cell (rd dirs (n : Int)) := by unfold gTo; rw [if_pos (by omega)]
        rw [← hto]
        refine rgo_l1 hi (by omega) hb (by omega) l.length fuel 0 _ (by omega) (by omega) (by rw [fuelv]; omega) ?_
        rw [decide_eq_true_iff]
        exact ⟨fun q => ⟨q, fun z z0 z1 => by omega⟩, fun q => q.1⟩
    rw [hstep]
    simp only [Option.bind_some]
    rw [wi (by omega) (by omega), show (n : Int) + 1 = ((n + 1 : Nat) : Int) by omega]
    exact ih k (n + 1) (by omega) (by omega)
theorem rgo_f {w h : Int} {l : List api_Unit} {dirs : List Int} (hm : MayU w h l) (hb : l.length ≤ 1000000) (hd : DirsOk dirs l.length) : ref21_Go.f w h l dirs = some (gGo w h l dirs) := by
  unfold ref21_Go.f
  rw [if_pos (by simp; omega), List.nil_append]
  exact rgo_l0 hm hb hd l.length fuel 0 (by omega) (by rw [fuelv]; omega)

theorem MInv.may {w h : Int} {l : List api_Unit} (hm : MayS w h) (hv : MInv w h l) : MayU w h l := by
  refine ⟨hm, fun j j0 j1 => ?_⟩
  obtain ⟨a, b, c, d⟩ := hv j j0 j1
  refine ⟨?_, b, c, d⟩
  split
  · omega
  · have := (hv (j - 1) (by omega) (by omega)).1; omega

theorem dirs24_l {l : List api_Unit} {ks : List Int} (hb : l.length ≤ 1000000) (hk0 : ks.length ≤ 9223372036854775807) : ∀ (m k : Nat) (i : Int) (L : List Int), i + m = l.length → 0 ≤ i → m < k → (L.length : Int) = i → (∀ d ∈ L, 0 ≤ d ∧ d ≤ 5) →
    ∃ r, law24_dirs.l0 k l ks L i = some r ∧ r.length = l.length ∧ ∀ d ∈ r, 0 ≤ d ∧ d ≤ 5 := by
  intro m
  induction m with
  | zero =>
    intro k i L hi h0 hk hL hd
    obtain ⟨k, rfl⟩ := kpos hk
    exact ⟨L, by rw [law24_dirs.l0, if_neg (by omega)], by omega, hd⟩
  | succ m ih =>
    intro k i L hi h0 hk hL hd
    obtain ⟨k, rfl⟩ := kpos hk
    rw [law24_dirs.l0, if_pos (by omega), wi (x := i + 1) (by omega) (by omega)]
    by_cases hp : (ks.length : Int) > 0
    · have hmod : Int.tmod i ks.length = i % ks.length := tmod_pos h0
      have h1 := Int.emod_nonneg i (b := (ks.length : Int)) (by omega)
      have h2 := Int.emod_lt_of_pos i hp
      rw [if_pos hp, if_pos (by omega), if_pos (by omega)]
      obtain ⟨v, v1, v2, v3⟩ := within_y (n := w64 (Int.tdiv (rd ks (Int.tmod i ks.length)) 3)) (lo := 0) (hi := 5) (by omega) (by omega) (by omega) (by omega)
      rw [v1, Option.bind_some, if_pos (by omega)]
      refine ih k (i + 1) _ (by omega) (by omega) (by omega) (by simp; omega) (fun d hdm => ?_)
      rcases List.mem_append.1 hdm with q | q
      · exact hd d q
      · simp at q; omega
    · rw [if_neg hp, if_pos (by omega)]
      refine ih k (i + 1) _ (by omega) (by omega) (by omega) (by simp; omega) (fun d hdm => ?_)
      rcases List.mem_append.1 hdm with q | q
      · exact hd d q
      · simp at q; omega
theorem dirs24_f {l : List api_Unit} {ks : List Int} (hb : l.length ≤ 1000000) (hk0 : ks.length ≤ 9223372036854775807) : ∃ r, law24_dirs.f l ks = some r ∧ DirsOk r l.length := by
  unfold law24_dirs.f
  obtain ⟨r, r1, r2, r3⟩ := dirs24_l hb hk0 l.length fuel 0 [] (by omega) (by omega) (by rw [fuelv]; omega) rfl (by simp)
  exact ⟨r, r1, r2, r3⟩

theorem told24 : law24_told.f = some true := by
  unfold law24_told.f
  have hm : MayU 3 1 [⟨0, 0, 2⟩, ⟨1, 1, 2⟩] := by
    refine ⟨by decide, fun j j0 j1 => ?_⟩
    have : j = 0 ∨ j = 1 := by simp at j1; omega
    rcases this with rfl | rfl
    · refine ⟨by decide, by decide, by decide, fun q q0 q1 => by omega⟩
    · refine ⟨by decide, by decide, by decide, fun q q0 q1 => ?_⟩
      have : q = 0 := by omega
      subst this; decide
  rw [go_ok hm (by decide) ⟨by decide, by decide⟩]
  have e : gGo 3 1 [⟨0, 0, 2⟩, ⟨1, 1, 2⟩] [1, 1] = ([⟨0, 0, 2⟩], [⟨1, 2⟩], [1]) := by rfl
  rw [e]
  have e1 := moves_self (a := [api_Move.mk 1 2]) (by decide)
  have e2 := ints_self (a := [1]) (by decide)
  simp only [Option.bind_some, e1, e2]
  rfl
end Go.Proofs.Ytkidcebfpengmaa
