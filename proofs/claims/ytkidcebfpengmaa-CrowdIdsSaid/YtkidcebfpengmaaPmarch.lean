import Derived.Test.YtkidcebfpengmaaPstep
import Derived.Test.YtkidcebfpengmaaFmarch
namespace Go.Proofs.Ytkidcebfpengmaa
open Go.Hx
set_option linter.unusedVariables false
set_option linter.unusedSimpArgs false

theorem unit_ext {a b : api_Unit} (h1 : a.Id = b.Id) (h2 : a.Cell = b.Cell) (h3 : a.Goal = b.Goal) : a = b := by
  cases a; cases b; simp_all

/-- unit j may follow those ahead of it -/
def GoodU (w h : Int) (l : List api_Unit) (j : Int) : Prop :=
  (if j = 0 then -1 else (rd l (j - 1)).Id) < (rd l j).Id ∧ CellS w h (rd l j).Cell ∧ CellS w h (rd l j).Goal ∧ ∀ q, 0 ≤ q → q < j → (rd l q).Cell ≠ (rd l j).Cell
def MayU (w h : Int) (l : List api_Unit) : Prop := MayS w h ∧ ∀ j : Int, 0 ≤ j → j < l.length → GoodU w h l j

theorem may_l {w h : Int} {l : List api_Unit} (hb : l.length ≤ 4611686018427387000) : ∀ (n k : Nat) (i : Int) (m : List (Int × Bool)), i + n = l.length → 0 ≤ i → n < k →
    (∀ c, mval m c = true ↔ ∃ q, 0 ≤ q ∧ q < i ∧ (rd l q).Cell = c) →
    ∃ r, plan_May.l0 k w h l (if i = 0 then -1 else (rd l (i - 1)).Id) m i = some r ∧ (r = true ↔ ∀ j, i ≤ j → j < l.length → GoodU w h l j) := by
  intro n
  induction n with
  | zero =>
    intro k i m hi h0 hk hm
    obtain ⟨k, rfl⟩ := kpos hk
    exact ⟨true, by rw [plan_May.l0, if_neg (by omega)], ⟨fun _ j j0 j1 => by omega, fun _ => rfl⟩⟩
  | succ n ih =>
    intro k i m hi h0 hk hm
    obtain ⟨k, rfl⟩ := kpos hk
    rw [plan_May.l0, if_pos (by omega), if_pos (by omega)]
    simp only [sector_f, Option.bind_some]
    by_cases g : GoodU w h l i
    · obtain ⟨g1, g2, g3, g4⟩ := g
      have hm0 : mval m (rd l i).Cell = false := by
        rw [Bool.eq_false_iff]; intro q
        obtain ⟨z, z0, z1, z2⟩ := (hm _).1 q
        exact g4 z z0 z1 z2
      have s1 : ¬ sSector w h (rd l i).Cell < 0 := fun q => sector_neg.1 q g2
      have s2 : ¬ sSector w h (rd l i).Goal < 0 := fun q => sector_neg.1 q g3
      rw [if_neg (by omega), if_neg s1, if_neg s2, hm0]
      simp only [Option.bind_some, Bool.false_eq_true, if_false]
      rw [wi (by omega) (by omega)]
      obtain ⟨r, r1, r2⟩ := ih k (i + 1) (mset m (rd l i).Cell true) (by omega) (by omega) (by omega) (fun c => by
        rw [mval_mset]
        by_cases e : (rd l i).Cell = c
        · rw [if_pos e]; exact ⟨fun _ => ⟨i, h0, by omega, e⟩, fun _ => rfl⟩
        · rw [if_neg e, hm c]
          constructor
          · rintro ⟨q, q0, q1, q2⟩; exact ⟨q, q0, by omega, q2⟩
          · rintro ⟨q, q0, q1, q2⟩
            by_cases z : q = i
            · subst z; exact absurd q2 e
            · exact ⟨q, q0, by omega, q2⟩)
      rw [if_neg (by omega), show i + 1 - 1 = i by omega] at r1
      refine ⟨r, r1, r2.trans ⟨fun q j j0 j1 => ?_, fun q j j0 j1 => q j (by omega) j1⟩⟩
      by_cases z : j = i
      · subst z; exact ⟨g1, g2, g3, g4⟩
      · exact q j (by omega) j1
    · have hf : ∀ last, last = (if i = 0 then -1 else (rd l (i - 1)).Id) → ((if (rd l i).Id ≤ last then (some true) else (if sSector w h (rd l i).Cell < 0 then (some true) else (if sSector w h (rd l i).Goal < 0 then (some true) else (some (mval m (rd l i).Cell))))) : Option Bool) = some true := by
        intro last hla
        by_cases a : (rd l i).Id ≤ last
        · rw [if_pos a]
        · rw [if_neg a]
          by_cases b : sSector w h (rd l i).Cell < 0
          · rw [if_pos b]
          · rw [if_neg b]
            by_cases c : sSector w h (rd l i).Goal < 0
            · rw [if_pos c]
            · rw [if_neg c]
              congr 1
              rw [hm]
              refine Classical.byContradiction fun q => g ⟨by rw [← hla]; omega, Classical.byContradiction fun z => b (sector_neg.2 z), Classical.byContradiction fun z => c (sector_neg.2 z), fun z z0 z1 z2 => q ⟨z, z0, z1, z2⟩⟩
      rw [hf _ rfl]
      simp only [Option.bind_some, if_true]
      exact ⟨false, rfl, ⟨fun q => (by cases q), fun q => absurd (q i (by omega) (by omega)) g⟩⟩
theorem pmay_f {w h : Int} {l : List api_Unit} (hb : l.length ≤ 4611686018427387000) : ∃ r, plan_May.f w h l = some r ∧ (r = true ↔ MayU w h l) := by
  unfold plan_May.f
  rw [may_f, Option.bind_some]
  by_cases hm : MayS w h
  · rw [if_neg (by simpa using hm)]
    obtain ⟨r, r1, r2⟩ := may_l (w := w) (h := h) hb l.length fuel 0 [] (by omega) (by omega) (by rw [fuelv]; omega) (fun c => by
      constructor
      · intro q; simp [mval, mget] at q
      · rintro ⟨q, q0, q1, _⟩; omega)
    rw [if_pos rfl] at r1
    exact ⟨r, r1, r2.trans ⟨fun q => ⟨hm, q⟩, fun q => q.2⟩⟩
  · rw [if_pos (by rw [decide_eq_false hm]; rfl)]
    exact ⟨false, rfl, ⟨fun q => (by cases q), fun q => absurd q.1 hm⟩⟩

theorem odd_l {s : List Int} (hb : s.length ≤ 4611686018427387000) : ∀ (n k : Nat) (i : Int), i + n = s.length → 0 ≤ i → n < k →
    ∃ r, slices_IndexFunc_int_int.l0 k s i = some r ∧ (r ≥ 0 ↔ ∃ j, i ≤ j ∧ j < s.length ∧ (rd s j < 0 ∨ rd s j > 5)) := by
  intro n
  induction n with
  | zero =>
    intro k i hi h0 hk
    obtain ⟨k, rfl⟩ := kpos hk
    exact ⟨-1, by rw [slices_IndexFunc_int_int.l0, if_neg (by omega)], ⟨fun q => by omega, fun ⟨j, j0, j1, _⟩ => by omega⟩⟩
  | succ n ih =>
    intro k i hi h0 hk
    obtain ⟨k, rfl⟩ := kpos hk
    rw [slices_IndexFunc_int_int.l0, if_pos (by omega), if_pos (by omega)]
    simp only [march_Go_1.f, Option.bind_some]
    by_cases e : rd s i < 0 ∨ rd s i > 5
    · rw [if_pos (by simpa using e)]
      exact ⟨i, rfl, ⟨fun _ => ⟨i, by omega, by omega, e⟩, fun _ => by omega⟩⟩
    · rw [if_neg (by simpa using e), wi (by omega) (by omega)]
      obtain ⟨r, r1, r2⟩ := ih k (i + 1) (by omega) (by omega) (by omega)
      refine ⟨r, r1, r2.trans ⟨fun ⟨j, j0, j1, j2⟩ => ⟨j, by omega, j1, j2⟩, fun ⟨j, j0, j1, j2⟩ => ?_⟩⟩
      by_cases z : j = i
      · subst z; exact absurd j2 e
      · exact ⟨j, by omega, j1, j2⟩
theorem odd_f {s : List Int} (hb : s.length ≤ 4611686018427387000) : ∃ r, slices_ContainsFunc_int_int.f s = some r ∧ (r = true ↔ ∃ d ∈ s, d < 0 ∨ d > 5) := by
  unfold slices_ContainsFunc_int_int.f slices_IndexFunc_int_int.f
  obtain ⟨r, r1, r2⟩ := odd_l hb s.length fuel 0 (by omega) (by omega) (by rw [fuelv]; omega)
  rw [r1, Option.bind_some]
  refine ⟨decide (r ≥ 0), rfl, ?_⟩
  rw [decide_eq_true_iff, r2]
  constructor
  · rintro ⟨j, j0, j1, j2⟩; exact ⟨_, rdmem j0 j1, j2⟩
  · rintro ⟨d, hd, h⟩
    obtain ⟨j, j0, j1, rfl⟩ := memrd hd
    exact ⟨j, j0, j1, h⟩

/-! ### one tick -/
abbrev GSt := List api_Unit × List api_Move × List Int
def gTo (w h : Int) (u : api_Unit) (d : Int) : Int := if 0 ≤ d ∧ d ≤ 3 then sStep w h u.Cell d else -1
def gCan (w h : Int) (now : List api_Unit) (u : api_Unit) (d : Int) : Prop := 0 ≤ gTo w h u d ∧ ∀ x ∈ now, x.Cell ≠ gTo w h u d
instance (w h : Int) (now : List api_Unit) (u : api_Unit) (d : Int) : Decidable (gCan w h now u d) := by unfold gCan; infer_instance
def gStep (w h : Int) (s : GSt) (i : Int) (u : api_Unit) (d : Int) : GSt :=
  if gCan w h s.1 u d then (s.1.set i.toNat ⟨u.Id, if gTo w h u d = u.Goal then -1 else gTo w h u d, u.Goal⟩, s.2.1 ++ [⟨u.Id, gTo w h u d⟩], if gTo w h u d = u.Goal then s.2.2 ++ [u.Id] else s.2.2) else s
def gFold (w h : Int) (l : List api_Unit) (dirs : List Int) : Nat → GSt
  | 0 => (l, [], [])
  | n + 1 => gStep w h (gFold w h l dirs n) n (rd l (n : Int)) (rd dirs (n : Int))
def gGo (w h : Int) (l : List api_Unit) (dirs : List Int) : List api_Unit × List api_Move × List Int :=
  ((gFold w h l dirs l.length).1.filter (fun x => decide (0 ≤ x.Cell)), (gFold w h l dirs l.length).2.1, (gFold w h l dirs l.length).2.2)

/-- what is known behind so many steps -/
structure GInv (w h : Int) (l : List api_Unit) (n : Nat) (s : GSt) : Prop where
  len : s.1.length = l.length
  rest : ∀ j : Int, n ≤ j → j < l.length → rd s.1 j = rd l j
  same : ∀ j : Int, 0 ≤ j → j < l.length → (rd s.1 j).Id = (rd l j).Id ∧ (rd s.1 j).Goal = (rd l j).Goal
  cell : ∀ j : Int, 0 ≤ j → j < l.length → (rd s.1 j).Cell = -1 ∨ CellS w h (rd s.1 j).Cell
  apart : ∀ i j : Int, 0 ≤ i → i < l.length → 0 ≤ j → j < l.length → i ≠ j → 0 ≤ (rd s.1 i).Cell → (rd s.1 i).Cell ≠ (rd s.1 j).Cell
  mlen : s.2.1.length ≤ n
  glen : s.2.2.length ≤ n

theorem step_cell {w h c d : Int} (hs : 0 ≤ sStep w h c d) : CellS w h (sStep w h c d) := by
  unfold sStep at hs ⊢
  split
  · unfold sCell at hs ⊢
    rename_i q
    rw [if_pos q] at hs
    split
    · rename_i z; exact ⟨z.1, cell_lt z.2.1 z.2.2.1 z.2.2.2.1 z.2.2.2.2⟩
    · rename_i z; rw [if_neg z] at hs; omega
  · rename_i q; rw [if_neg q] at hs; omega
theorem gto_cell {w h : Int} {u : api_Unit} {d : Int} (hs : 0 ≤ gTo w h u d) : CellS w h (gTo w h u d) := by
  unfold gTo at hs ⊢
  split
  · rename_i q; rw [if_pos q] at hs; exact step_cell hs
  · rename_i q; rw [if_neg q] at hs; omega

theorem MayU.cell {w h : Int} {l : List api_Unit} (hm : MayU w h l) {j : Int} (j0 : 0 ≤ j) (j1 : j < l.length) : CellS w h (rd l j).Cell := (hm.2 j j0 j1).2.1
theorem MayU.apart {w h : Int} {l : List api_Unit} (hm : MayU w h l) {i j : Int} (i0 : 0 ≤ i) (i1 : i < l.length) (j0 : 0 ≤ j) (j1 : j < l.length) (hij : i ≠ j) : (rd l i).Cell ≠ (rd l j).Cell := by
  rcases Int.lt_or_gt_of_ne hij with q | q
  · exact (hm.2 j j0 j1).2.2.2 i i0 q
  · exact fun e => (hm.2 i i0 i1).2.2.2 j j0 q e.symm
theorem MayU.ids {w h : Int} {l : List api_Unit} (hm : MayU w h l) : ∀ (n : Nat) (i j : Int), j = i + n → 0 ≤ i → 0 < n → j < l.length → (rd l i).Id < (rd l j).Id := by
  intro n
  induction n with
  | zero => intro i j _ _ h; omega
  | succ n ih =>
    intro i j hj i0 _ j1
    have h1 := (hm.2 j (by omega) j1).1
    rw [if_neg (by omega)] at h1
    by_cases hn : n = 0
    · have : j - 1 = i := by omega
      rw [this] at h1; exact h1
    · have := ih i (j - 1) (by omega) i0 (by omega) (by omega)
      omega
theorem MayU.id_lt {w h : Int} {l : List api_Unit} (hm : MayU w h l) {i j : Int} (i0 : 0 ≤ i) (hij : i < j) (j1 : j < l.length) : (rd l i).Id < (rd l j).Id :=
  hm.ids (j - i).toNat i j (by omega) i0 (by omega) j1
theorem MayU.id_nn {w h : Int} {l : List api_Unit} (hm : MayU w h l) {i : Int} (i0 : 0 ≤ i) (i1 : i < l.length) : 0 ≤ (rd l i).Id := by
  have h0 := (hm.2 0 (by omega) (by omega)).1
  rw [if_pos rfl] at h0
  by_cases q : i = 0
  · subst q; omega
  · have := hm.id_lt (i := 0) (j := i) (by omega) (by omega) i1
    omega

theorem gInv0 {w h : Int} {l : List api_Unit} (hm : MayU w h l) : GInv w h l 0 (l, [], []) :=
  ⟨rfl, fun _ _ _ => rfl, fun _ _ _ => ⟨rfl, rfl⟩, fun j j0 j1 => .inr (hm.cell j0 j1), fun i j i0 i1 j0 j1 hij _ => hm.apart i0 i1 j0 j1 hij, by simp, by simp⟩
theorem gInvS {w h : Int} {l : List api_Unit} {n : Nat} {s : GSt} (hi : GInv w h l n s) (hn : n < l.length) (d : Int) : GInv w h l (n + 1) (gStep w h s n (rd l (n : Int)) d) := by
  unfold gStep
  by_cases hc : gCan w h s.1 (rd l (n : Int)) d
  · rw [if_pos hc]
    obtain ⟨c1, c2⟩ := hc
    have hcell := gto_cell c1
    have hlen := hi.len
    have hr : ∀ j : Int, 0 ≤ j → rd (s.1.set (n : Int).toNat ⟨(rd l (n : Int)).Id, if gTo w h (rd l (n : Int)) d = (rd l (n : Int)).Goal then -1 else gTo w h (rd l (n : Int)) d, (rd l (n : Int)).Goal⟩) j =
        if j = n then ⟨(rd l (n : Int)).Id, if gTo w h (rd l (n : Int)) d = (rd l (n : Int)).Goal then -1 else gTo w h (rd l (n : Int)) d, (rd l (n : Int)).Goal⟩ else rd s.1 j :=
      fun j j0 => rds (by omega) (by omega) j0
    generalize gTo w h (rd l (n : Int)) d = to at *
    have hno : ∀ j : Int, 0 ≤ j → j < l.length → (rd s.1 j).Cell ≠ to := fun j j0 j1 => c2 _ (rdmem j0 (by omega))
    refine ⟨by simpa using hlen, fun j j0 j1 => ?_, fun j j0 j1 => ?_, fun j j0 j1 => ?_, fun i j i0 i1 j0 j1 hij hp => ?_, by simpa using hi.mlen, ?_⟩
    · simp only; rw [hr j (by omega), if_neg (by omega)]; exact hi.rest j (by omega) j1
    · simp only; rw [hr j j0]
      by_cases q : j = n
      · rw [if_pos q, q]; exact ⟨rfl, rfl⟩
      · rw [if_neg q]; exact hi.same j j0 j1
    · simp only; rw [hr j j0]
      by_cases q : j = n
      · rw [if_pos q]; simp only
        split
        · exact .inl rfl
        · exact .inr hcell
      · rw [if_neg q]; exact hi.cell j j0 j1
    · simp only at hp ⊢
      rw [hr i i0] at hp ⊢
      rw [hr j j0]
      by_cases qi : i = n
      · rw [if_pos qi] at hp ⊢
        rw [if_neg (show ¬ j = (n : Int) from fun q => hij (by omega))]
        simp only at hp ⊢
        by_cases z : to = (rd l (n : Int)).Goal
        · rw [if_pos z] at hp; omega
        · rw [if_neg z]; exact fun e => hno j j0 j1 e.symm
      · rw [if_neg qi] at hp ⊢
        by_cases qj : j = n
        · rw [if_pos qj]; simp only
          split
          · omega
          · exact hno i i0 i1
        · rw [if_neg qj]; exact hi.apart i j i0 i1 j0 j1 hij hp
    · simp only
      have := hi.glen
      split <;> simp <;> omega
  · rw [if_neg hc]
    exact ⟨hi.len, fun j j0 j1 => hi.rest j (by omega) j1, hi.same, hi.cell, hi.apart, by have := hi.mlen; omega, by have := hi.glen; omega⟩
theorem gInv {w h : Int} {l : List api_Unit} (hm : MayU w h l) (dirs : List Int) : ∀ n : Nat, n ≤ l.length → GInv w h l n (gFold w h l dirs n)
  | 0, _ => gInv0 hm
  | n + 1, hn => gInvS (gInv hm dirs n (by omega)) (by omega) _

/-- where units stand, by the map -/
def Stood (m : List (Int × Bool)) (now : List api_Unit) : Prop := (m.map (·.1)).Nodup ∧ ∀ c : Int, 0 ≤ c → (mval m c = true ↔ ∃ x ∈ now, x.Cell = c)

def fBody (f : march_field) (u : api_Unit) (d : Int) : Option (Bool × march_field × api_Unit) := (where_Step.f f.w f.h u.Cell d).bind fun v2 => (if v2 < 0 then (some true) else (some (mval f.stand v2))).bind fun x3 => if x3 = true then (some (true, f, u)) else (if (List.length f.moves + 1 ≤ 1099511627776) then (if (v2 == u.Goal) = true then (if (List.length f.gone + 1 ≤ 1099511627776) then (some (false, (march_field.mk f.w f.h (mdel f.stand u.Cell) (f.moves ++ [(api_Move.mk u.Id v2)]) (f.gone ++ [u.Id])), (api_Unit.mk u.Id v2 u.Goal))) else none) else (some (true, (march_field.mk f.w f.h (mset (mdel f.stand u.Cell) v2 true) (f.moves ++ [(api_Move.mk u.Id v2)]) f.gone), (api_Unit.mk u.Id v2 u.Goal)))) else none)
theorem fstep_go (f : march_field) (u : api_Unit) {d : Int} (hd : 0 ≤ d ∧ d ≤ 3) : march_field_step.f f u d = fBody f u d := by
  have : d = 0 ∨ d = 1 ∨ d = 2 ∨ d = 3 := by omega
  rcases this with rfl | rfl | rfl | rfl <;> rfl
theorem fstep_f {w h : Int} {l : List api_Unit} {n : Nat} {s : GSt} (hi : GInv w h l n s) (hn : n < l.length) (hl : l.length ≤ 1000000) (hc : CellS w h (rd l (n : Int)).Cell) {m : List (Int × Bool)} (hst : Stood m s.1) (d : Int) :
    ∃ m', march_field_step.f ⟨w, h, m, s.2.1, s.2.2⟩ (rd l (n : Int)) d = some (decide (0 ≤ (rd (gStep w h s n (rd l (n : Int)) d).1 (n : Int)).Cell), ⟨w, h, m', (gStep w h s n (rd l (n : Int)) d).2.1, (gStep w h s n (rd l (n : Int)) d).2.2⟩,
      ⟨(rd l (n : Int)).Id, if gCan w h s.1 (rd l (n : Int)) d then gTo w h (rd l (n : Int)) d else (rd l (n : Int)).Cell, (rd l (n : Int)).Goal⟩) ∧ Stood m' (gStep w h s n (rd l (n : Int)) d).1 := by
  have hlen := hi.len
  have hrest : rd s.1 (n : Int) = rd l (n : Int) := hi.rest n (by omega) (by omega)
  have hml := hi.mlen
  have hgl := hi.glen
  unfold gStep
  generalize hu : rd l (n : Int) = u at *
  have stay : ¬ gCan w h s.1 u d → (some (true, march_field.mk w h m s.2.1 s.2.2, u) : Option (Bool × march_field × api_Unit)) =
      some (decide (0 ≤ (rd (if gCan w h s.1 u d then (s.1.set (n : Int).toNat ⟨u.Id, if gTo w h u d = u.Goal then -1 else gTo w h u d, u.Goal⟩, s.2.1 ++ [⟨u.Id, gTo w h u d⟩], if gTo w h u d = u.Goal then s.2.2 ++ [u.Id] else s.2.2) else s).1 (n : Int)).Cell),
        ⟨w, h, m, (if gCan w h s.1 u d then (s.1.set (n : Int).toNat ⟨u.Id, if gTo w h u d = u.Goal then -1 else gTo w h u d, u.Goal⟩, s.2.1 ++ [⟨u.Id, gTo w h u d⟩], if gTo w h u d = u.Goal then s.2.2 ++ [u.Id] else s.2.2) else s).2.1, (if gCan w h s.1 u d then (s.1.set (n : Int).toNat ⟨u.Id, if gTo w h u d = u.Goal then -1 else gTo w h u d, u.Goal⟩, s.2.1 ++ [⟨u.Id, gTo w h u d⟩], if gTo w h u d = u.Goal then s.2.2 ++ [u.Id] else s.2.2) else s).2.2⟩,
        ⟨u.Id, if gCan w h s.1 u d then gTo w h u d else u.Cell, u.Goal⟩) := by
    intro q
    rw [if_neg q, if_neg q, hrest]
    have : decide (0 ≤ u.Cell) = true := by simpa using hc.2.1
    rw [this]
  by_cases hd : 0 ≤ d ∧ d ≤ 3
  · have hto : gTo w h u d = sStep w h u.Cell d := by unfold gTo; rw [if_pos hd]
    rw [fstep_go _ u hd]
    unfold fBody
    simp only [step_f, Option.bind_some]
    rw [← hto]
    have hbl : ((if gTo w h u d < 0 then some true else some (mval m (gTo w h u d))) : Option Bool) = some (!decide (gCan w h s.1 u d)) := by
      unfold gCan
      by_cases q : gTo w h u d < 0
      · rw [if_pos q]
        have : decide (0 ≤ gTo w h u d ∧ ∀ x ∈ s.1, x.Cell ≠ gTo w h u d) = false := by
          rw [decide_eq_false_iff_not]; intro z; omega
        rw [this]; rfl
      · rw [if_neg q]
        congr 1
        have h0 := hst.2 (gTo w h u d) (by omega)
        by_cases z : mval m (gTo w h u d) = true
        · rw [z]
          obtain ⟨x, hx, e⟩ := h0.1 z
          have : decide (0 ≤ gTo w h u d ∧ ∀ x ∈ s.1, x.Cell ≠ gTo w h u d) = false := by
            rw [decide_eq_false_iff_not]; intro y; exact y.2 x hx e
          rw [this]; rfl
        · have z' : mval m (gTo w h u d) = false := by simpa using z
          rw [z']
          have : decide (0 ≤ gTo w h u d ∧ ∀ x ∈ s.1, x.Cell ≠ gTo w h u d) = true := by
            rw [decide_eq_true_iff]; exact ⟨by omega, fun x hx e => z (h0.2 ⟨x, hx, e⟩)⟩
          rw [this]; rfl
    rw [hbl]
    simp only [Option.bind_some]
    by_cases hcan : gCan w h s.1 u d
    · have hcan' := hcan
      obtain ⟨c1, c2⟩ := hcan'
      rw [if_neg (by simpa using hcan), if_pos (by omega)]
      simp only [if_pos hcan]
      have hr : ∀ (v : api_Unit) (j : Int), 0 ≤ j → rd (s.1.set (n : Int).toNat v) j = if j = n then v else rd s.1 j := fun v j j0 => rds (by omega) (by omega) j0
      have hucell : u.Cell ≠ gTo w h u d := fun e => c2 u (by rw [← hrest]; exact rdmem (by omega) (by omega)) e
      have hmem : ∀ (v : api_Unit) (c : Int), (∃ x ∈ s.1.set (n : Int).toNat v, x.Cell = c) ↔ v.Cell = c ∨ ∃ j : Int, 0 ≤ j ∧ j < l.length ∧ j ≠ n ∧ (rd s.1 j).Cell = c := by
        intro v c
        constructor
        · rintro ⟨x, hx, e⟩
          obtain ⟨j, j0, j1, rfl⟩ := memrd hx
          rw [hr v j j0] at e
          rw [List.length_set] at j1
          by_cases q : j = n
          · rw [if_pos q] at e; exact .inl e
          · rw [if_neg q] at e; exact .inr ⟨j, j0, by omega, q, e⟩
        · rintro (e | ⟨j, j0, j1, j2, e⟩)
          · refine ⟨rd (s.1.set (n : Int).toNat v) (n : Int), rdmem (by omega) (by rw [List.length_set]; omega), ?_⟩
            rw [hr v n (by omega), if_pos rfl]; exact e
          · refine ⟨rd (s.1.set (n : Int).toNat v) j, rdmem j0 (by rw [List.length_set]; omega), ?_⟩
            rw [hr v j j0, if_neg j2]; exact e
      have hold : ∀ c : Int, 0 ≤ c → (mval m c = true ↔ u.Cell = c ∨ ∃ j : Int, 0 ≤ j ∧ j < l.length ∧ j ≠ n ∧ (rd s.1 j).Cell = c) := by
        intro c c0
        rw [hst.2 c c0]
        constructor
        · rintro ⟨x, hx, e⟩
          obtain ⟨j, j0, j1, rfl⟩ := memrd hx
          by_cases q : j = n
          · subst q; rw [hrest] at e; exact .inl e
          · exact .inr ⟨j, j0, by omega, q, e⟩
        · rintro (e | ⟨j, j0, j1, j2, e⟩)
          · exact ⟨rd s.1 (n : Int), rdmem (by omega) (by omega), by rw [hrest]; exact e⟩
          · exact ⟨rd s.1 j, rdmem j0 (by omega), e⟩
      have hap : ∀ j : Int, 0 ≤ j → j < l.length → j ≠ n → (rd s.1 j).Cell ≠ u.Cell := by
        intro j j0 j1 j2 e
        have := hi.apart n j (by omega) (by omega) j0 j1 (fun z => j2 z.symm) (by rw [hrest]; exact hc.2.1)
        rw [hrest] at this; exact this e.symm
      by_cases hg : gTo w h u d = u.Goal
      · rw [if_pos (by simpa using hg), if_pos (by omega)]
        refine ⟨mdel m u.Cell, ?_, mdel_nodup hst.1 _, fun c c0 => ?_⟩
        · simp only [if_pos hg]
          rw [hr _ n (by omega), if_pos rfl]; simp
        · rw [mval_mdel hst.1, if_pos hg, hmem]
          simp only
          by_cases q : u.Cell = c
          · rw [if_pos q]
            constructor
            · intro z; cases z
            · rintro (z | ⟨j, j0, j1, j2, e⟩)
              · omega
              · exact absurd (e.trans q.symm) (hap j j0 j1 j2)
          · rw [if_neg q, hold c c0]
            constructor
            · rintro (z | z)
              · exact absurd z q
              · exact .inr z
            · rintro (z | z)
              · omega
              · exact .inr z
      · rw [if_neg (by simpa using hg)]
        refine ⟨mset (mdel m u.Cell) (gTo w h u d) true, ?_, mkeys_nodup (mdel_nodup hst.1 _) _ _, fun c c0 => ?_⟩
        · simp only [if_neg hg]
          rw [hr _ n (by omega), if_pos rfl]
          simp [c1]
        · rw [mval_mset, mval_mdel hst.1, if_neg hg, hmem]
          simp only
          by_cases z : gTo w h u d = c
          · rw [if_pos z]; exact ⟨fun _ => .inl z, fun _ => rfl⟩
          · rw [if_neg z]
            by_cases q : u.Cell = c
            · rw [if_pos q]
              constructor
              · intro y; cases y
              · rintro (y | ⟨j, j0, j1, j2, e⟩)
                · exact absurd y z
                · exact absurd (e.trans q.symm) (hap j j0 j1 j2)
            · rw [if_neg q, hold c c0]
              constructor
              · rintro (y | y)
                · exact absurd y q
                · exact .inr y
              · rintro (y | y)
                · exact absurd y z
                · exact .inr y
    · rw [if_pos (by simpa using hcan)]
      refine ⟨m, stay hcan, ?_⟩
      rw [if_neg hcan]; exact hst
  · have hcan : ¬ gCan w h s.1 u d := by
      unfold gCan gTo; rw [if_neg hd]; intro q; omega
    unfold march_field_step.f
    rw [if_neg (by simp; omega), if_neg (by simp; omega), if_neg (by simp; omega), if_neg (by simp; omega)]
    refine ⟨m, stay hcan, ?_⟩
    rw [if_neg hcan]; exact hst
end Go.Proofs.Ytkidcebfpengmaa
