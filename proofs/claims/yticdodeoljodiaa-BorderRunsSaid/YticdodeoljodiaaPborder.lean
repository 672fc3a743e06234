import Derived.Test.YticdodeoljodiaaPover
namespace Go.Proofs.Yticdodeoljodiaa
open Go.Hx
set_option linter.unusedVariables false
set_option linter.unusedSimpArgs false

/-- has a cell a side, from j on, over the border? -/
def anyOver (w h c : Int) : Nat → Int → Bool
  | 0, _ => false
  | n + 1, j => decide (0 ≤ sOver w h c j) || anyOver w h c n (j + 1)
def sAtB (w h s l : Int) : Bool := anyOver w h (sGlobal w h s l) 4 0
def sCellsTo (w h s : Int) (n : Nat) : List Int := ((List.range n).filter (fun l : Nat => sAtB w h s (l : Int))).map (fun l : Nat => sGlobal w h s (l : Int))
def sCells (w h s : Int) : List Int := sCellsTo w h s ((sSize w h s).1 * (sSize w h s).2).toNat
theorem cellsTo_succ (w h s : Int) (n : Nat) : sCellsTo w h s (n + 1) = if sAtB w h s (n : Int) = true then sCellsTo w h s n ++ [sGlobal w h s (n : Int)] else sCellsTo w h s n := by
  unfold sCellsTo
  rw [List.range_succ, List.filter_append, List.map_append]
  by_cases h : sAtB w h s (n : Int) = true
  · rw [if_pos h]; simp [h]
  · rw [if_neg h]; simp [h]
theorem cellsTo_length (w h s : Int) (n : Nat) : (sCellsTo w h s n).length ≤ n := by
  unfold sCellsTo
  rw [List.length_map]
  have := List.length_filter_le (fun l : Nat => sAtB w h s (l : Int)) (List.range n)
  simpa using this
theorem size_prod (w h s : Int) : 0 ≤ (sSize w h s).1 * (sSize w h s).2 ∧ (sSize w h s).1 * (sSize w h s).2 ≤ 256 := by
  have hz := size_le w h s
  have : (sSize w h s).1 * (sSize w h s).2 ≤ 16 * 16 := mul_le hz.1 hz.2.2.1 hz.2.1 hz.2.2.2
  exact ⟨mul_nn hz.1 hz.2.2.1, by omega⟩
theorem size_sec {w h s l : Int} (h0 : 0 ≤ l) (h1 : l < (sSize w h s).1 * (sSize w h s).2) : SecS w h s := by
  by_cases hs : SecS w h s
  · exact hs
  · have : sSize w h s = (0, 0) := by unfold sSize; rw [if_neg hs]
    rw [this] at h1; simp at h1; omega

theorem rcells_l1 (w h : Int) (x : List Int) (v : Int) (hx : x.length < 1099511627776) : ∀ (n k : Nat) (b : Bool) (j : Int), j + n = 4 → 0 ≤ j → n < k →
    ref11_Cells.l1 k w h x v b j = some (if (b || anyOver w h v n j) = true then x ++ [v] else x) := by
  intro n
  induction n with
  | zero =>
    intro k b j hj h0 hk
    obtain ⟨k, rfl⟩ := kpos hk
    rw [ref11_Cells.l1, if_neg (by omega), if_pos (c := _ ≤ _) (by omega)]
    cases b <;> simp [anyOver]
  | succ n ih =>
    intro k b j hj h0 hk
    obtain ⟨k, rfl⟩ := kpos hk
    rw [ref11_Cells.l1, if_pos (by omega), w64_id (by omega) (by omega)]
    cases b
    · rw [if_neg (by simp), rover_f, Option.bind_some, ih k _ (j + 1) (by omega) (by omega) (by omega)]
      simp only [anyOver, ge_iff_le, Bool.false_or]
    · rw [if_pos rfl, ih k _ (j + 1) (by omega) (by omega) (by omega)]
      simp
theorem rcells_f (w h s : Int) : ref11_Cells.f w h s = some (sCells w h s) := by
  unfold ref11_Cells.f sCells
  rw [rsize_f, Option.bind_some]
  have hz := size_prod w h s
  have key : ∀ (n k : Nat) (i : Int), i + n = (sSize w h s).1 * (sSize w h s).2 → 0 ≤ i → n < k →
      ref11_Cells.l0 k w h s (sSize w h s) (sCellsTo w h s i.toNat) i = some (sCellsTo w h s ((sSize w h s).1 * (sSize w h s).2).toNat) := by
    intro n
    induction n with
    | zero =>
      intro k i hi h0 hk
      obtain ⟨k, rfl⟩ := kpos hk
      rw [ref11_Cells.l0, w64_id (x := _ * _) (by omega) (by omega), if_neg (by omega)]
      have : i = (sSize w h s).1 * (sSize w h s).2 := by omega
      rw [this]
    | succ n ih =>
      intro k i hi h0 hk
      obtain ⟨k, rfl⟩ := kpos hk
      have hle := cellsTo_length w h s i.toNat
      rw [ref11_Cells.l0, w64_id (x := _ * _) (by omega) (by omega), if_pos (by omega), rglobal_f, Option.bind_some, rcells_l1 w h _ _ (by omega) 4 fuel false 0 (by omega) (by omega) (by rw [fuelv]; omega), Option.bind_some, w64_id (by omega) (by omega)]
      have := ih k (i + 1) (by omega) (by omega) (by omega)
      rw [show (i + 1).toNat = i.toNat + 1 by omega, cellsTo_succ, show ((i.toNat : Nat) : Int) = i by omega] at this
      rw [Bool.false_or]
      exact this
  exact key ((sSize w h s).1 * (sSize w h s).2).toNat fuel 0 (by omega) (by omega) (by rw [fuelv]; omega)

/-- the cells along a side -/
def sPos (tw th side i : Int) : Int := if side = 2 then (th - 1) * tw + i else if side = 0 then i else if side = 1 then tw - 1 + i * tw else i * tw
def sLen (tw th side : Int) : Int := if side = 2 ∨ side = 0 then tw else if side = 1 ∨ side = 3 then th else 0
def sAlongTo (tw th side : Int) (n : Nat) : List Int := (List.range n).map (fun i : Nat => sPos tw th side (i : Int))
def sAlong (tw th side : Int) : List Int := sAlongTo tw th side (sLen tw th side).toNat
theorem alongTo_succ (tw th side : Int) (n : Nat) : sAlongTo tw th side (n + 1) = sAlongTo tw th side n ++ [sPos tw th side (n : Int)] := by
  unfold sAlongTo; rw [List.range_succ, List.map_append]; rfl
theorem alongTo_length (tw th side : Int) (n : Nat) : (sAlongTo tw th side n).length = n := by simp [sAlongTo]
theorem along_f {tw th : Int} (side : Int) (t0 : 0 ≤ tw) (t1 : tw ≤ 16) (u0 : 0 ≤ th) (u1 : th ≤ 16) : border_along.f tw th side = some (sAlong tw th side) := by
  unfold border_along.f sAlong
  have hb : ∀ i : Int, 0 ≤ i → i ≤ 16 → 0 ≤ i * tw ∧ i * tw ≤ 256 := fun i i0 i1 => ⟨mul_nn i0 t0, by have := mul_le i0 t0 i1 t1; omega⟩
  by_cases h2 : side = 2
  · subst h2
    rw [if_pos (by rfl)]
    have hbb : -16 ≤ (th - 1) * tw ∧ (th - 1) * tw ≤ 256 := by
      have := hb th u0 u1
      rw [Int.sub_mul, Int.one_mul]; omega
    have key : ∀ (n k : Nat) (i : Int), i + n = tw → 0 ≤ i → n < k → border_along.l0 k tw th (sAlongTo tw th 2 i.toNat) i = some (sAlongTo tw th 2 tw.toNat) := by
      intro n
      induction n with
      | zero =>
        intro k i hi h0 hk
        obtain ⟨k, rfl⟩ := kpos hk
        rw [border_along.l0, if_neg (by omega)]
        rw [show i = tw by omega]
      | succ n ih =>
        intro k i hi h0 hk
        obtain ⟨k, rfl⟩ := kpos hk
        rw [border_along.l0, if_pos (by omega), if_pos (by rw [alongTo_length]; omega), w64_id (x := th - 1) (by omega) (by omega), w64_id (x := (th - 1) * tw) (by omega) (by omega), w64_id (by omega) (by omega), w64_id (by omega) (by omega)]
        have := ih k (i + 1) (by omega) (by omega) (by omega)
        rw [show (i + 1).toNat = i.toNat + 1 by omega, alongTo_succ, show ((i.toNat : Nat) : Int) = i by omega] at this
        exact this
    exact key tw.toNat fuel 0 (by omega) (by omega) (by rw [fuelv]; omega)
  rw [if_neg (by simpa using h2)]
  by_cases h0 : side = 0
  · subst h0
    rw [if_pos (by rfl)]
    have key : ∀ (n k : Nat) (i : Int), i + n = tw → 0 ≤ i → n < k → border_along.l1 k tw (sAlongTo tw th 0 i.toNat) i = some (sAlongTo tw th 0 tw.toNat) := by
      intro n
      induction n with
      | zero =>
        intro k i hi h0 hk
        obtain ⟨k, rfl⟩ := kpos hk
        rw [border_along.l1, if_neg (by omega)]
        rw [show i = tw by omega]
      | succ n ih =>
        intro k i hi h0 hk
        obtain ⟨k, rfl⟩ := kpos hk
        rw [border_along.l1, if_pos (by omega), if_pos (by rw [alongTo_length]; omega), w64_id (by omega) (by omega), w64_id (by omega) (by omega), Int.zero_add]
        have := ih k (i + 1) (by omega) (by omega) (by omega)
        rw [show (i + 1).toNat = i.toNat + 1 by omega, alongTo_succ, show ((i.toNat : Nat) : Int) = i by omega] at this
        exact this
    exact key tw.toNat fuel 0 (by omega) (by omega) (by rw [fuelv]; omega)
  rw [if_neg (by simpa using h0)]
  by_cases h1 : side = 1
  · subst h1
    rw [if_pos (by rfl)]
    have key : ∀ (n k : Nat) (i : Int), i + n = th → 0 ≤ i → n < k → border_along.l2 k tw th (sAlongTo tw th 1 i.toNat) i = some (sAlongTo tw th 1 th.toNat) := by
      intro n
      induction n with
      | zero =>
        intro k i hi h0 hk
        obtain ⟨k, rfl⟩ := kpos hk
        rw [border_along.l2, if_neg (by omega)]
        rw [show i = th by omega]
      | succ n ih =>
        intro k i hi h0 hk
        obtain ⟨k, rfl⟩ := kpos hk
        have := hb i (by omega) (by omega)
        rw [border_along.l2, if_pos (by omega), if_pos (by rw [alongTo_length]; omega), w64_id (x := tw - 1) (by omega) (by omega), w64_id (x := i * tw) (by omega) (by omega), w64_id (by omega) (by omega), w64_id (by omega) (by omega)]
        have := ih k (i + 1) (by omega) (by omega) (by omega)
        rw [show (i + 1).toNat = i.toNat + 1 by omega, alongTo_succ, show ((i.toNat : Nat) : Int) = i by omega] at this
        exact this
    exact key th.toNat fuel 0 (by omega) (by omega) (by rw [fuelv]; omega)
  rw [if_neg (by simpa using h1)]
  by_cases h3 : side = 3
  · subst h3
    rw [if_pos (by rfl)]
    have key : ∀ (n k : Nat) (i : Int), i + n = th → 0 ≤ i → n < k → border_along.l3 k tw th (sAlongTo tw th 3 i.toNat) i = some (sAlongTo tw th 3 th.toNat) := by
      intro n
      induction n with
      | zero =>
        intro k i hi h0 hk
        obtain ⟨k, rfl⟩ := kpos hk
        rw [border_along.l3, if_neg (by omega)]
        rw [show i = th by omega]
      | succ n ih =>
        intro k i hi h0 hk
        obtain ⟨k, rfl⟩ := kpos hk
        have := hb i (by omega) (by omega)
        rw [border_along.l3, if_pos (by omega), if_pos (by rw [alongTo_length]; omega), w64_id (x := i * tw) (by omega) (by omega), Int.zero_add, w64_id (by omega) (by omega), w64_id (by omega) (by omega)]
        have := ih k (i + 1) (by omega) (by omega) (by omega)
        rw [show (i + 1).toNat = i.toNat + 1 by omega, alongTo_succ, show ((i.toNat : Nat) : Int) = i by omega] at this
        exact this
    exact key th.toNat fuel 0 (by omega) (by omega) (by rw [fuelv]; omega)
  rw [if_neg (by simpa using h3)]
  have : sLen tw th side = 0 := by unfold sLen; rw [if_neg (by omega), if_neg (by omega)]
  rw [this]; rfl

theorem pos_in {tw th side i : Int} (t0 : 1 ≤ tw) (u0 : 1 ≤ th) (i0 : 0 ≤ i) (i1 : i < sLen tw th side) : 0 ≤ sPos tw th side i ∧ sPos tw th side i < tw * th ∧ sOn tw th (sPos tw th side i) side := by
  have hb : ∀ j : Int, 0 ≤ j → j ≤ th - 1 → 0 ≤ j * tw ∧ j * tw + tw ≤ tw * th := fun j j0 j1 => ⟨mul_nn j0 (by omega), by
    have := Int.mul_le_mul_of_nonneg_right j1 (by omega : 0 ≤ tw)
    rw [Int.sub_mul, Int.one_mul, Int.mul_comm th] at this; omega⟩
  unfold sLen at i1
  unfold sPos sOn
  by_cases h2 : side = 2
  · subst h2
    rw [if_pos (Or.inl rfl)] at i1
    simp only [if_true]
    have := hb (th - 1) (by omega) (by omega)
    have q := num_parts (y := th - 1) i0 i1
    simp only [show ¬ ((2 : Int) = 0) by omega, show ¬ ((2 : Int) = 1) by omega, if_false]
    exact ⟨by omega, by omega, q.2⟩
  by_cases h0 : side = 0
  · subst h0
    rw [if_pos (Or.inr rfl)] at i1
    have := hb 0 (by omega) (by omega)
    simp only [if_true, show ¬ ((0 : Int) = 2) by omega, if_false]
    exact ⟨i0, by omega, Int.ediv_eq_zero_of_lt i0 i1⟩
  by_cases h1 : side = 1
  · subst h1
    rw [if_neg (by omega), if_pos (Or.inl rfl)] at i1
    simp only [show ¬ ((1 : Int) = 2) by omega, show ¬ ((1 : Int) = 0) by omega, if_false, if_true]
    have := hb i (by omega) (by omega)
    have q := num_parts (a := tw) (x := tw - 1) (y := i) (by omega) (by omega)
    rw [Int.add_comm]
    exact ⟨by omega, by omega, q.1⟩
  · rw [if_neg (by omega)] at i1
    by_cases h3 : side = 3
    · subst h3
      rw [if_pos (Or.inr rfl)] at i1
      have := hb i (by omega) (by omega)
      simp only [show ¬ ((3 : Int) = 2) by omega, show ¬ ((3 : Int) = 0) by omega, show ¬ ((3 : Int) = 1) by omega, if_false]
      exact ⟨by omega, by omega, Int.mul_emod_left _ _⟩
    · rw [if_neg (by omega)] at i1; omega
theorem mem_along {tw th side l : Int} (t0 : 1 ≤ tw) (u0 : 1 ≤ th) (s0 : 0 ≤ side) (s3 : side ≤ 3) : l ∈ sAlong tw th side ↔ 0 ≤ l ∧ l < tw * th ∧ sOn tw th l side := by
  constructor
  · intro hm
    unfold sAlong sAlongTo at hm
    obtain ⟨i, hi, rfl⟩ := List.mem_map.mp hm
    have hi2 := List.mem_range.mp hi
    exact pos_in t0 u0 (by omega) (by omega)
  · rintro ⟨l0, l1, hon⟩
    have a1 : 0 ≤ l % tw := Int.emod_nonneg _ (by omega)
    have a2 : l % tw < tw := Int.emod_lt_of_pos _ (by omega)
    have a3 : 0 ≤ l / tw := Int.ediv_nonneg l0 (by omega)
    have a4 : l / tw < th := Int.ediv_lt_of_lt_mul (by omega) (by rw [Int.mul_comm]; exact l1)
    have a5 := Int.mul_ediv_add_emod l tw
    rw [Int.mul_comm] at a5
    have hc : side = 0 ∨ side = 1 ∨ side = 2 ∨ side = 3 := by omega
    have go : ∀ i : Int, 0 ≤ i → i < sLen tw th side → sPos tw th side i = l → l ∈ sAlong tw th side := fun i i0 i1 e => by
      unfold sAlong sAlongTo
      exact List.mem_map.mpr ⟨i.toNat, List.mem_range.mpr (by omega), by rw [show ((i.toNat : Nat) : Int) = i by omega]; exact e⟩
    unfold sOn at hon
    rcases hc with rfl | rfl | rfl | rfl
    · simp only [if_true] at hon
      exact go (l % tw) a1 a2 (by unfold sPos; rw [hon] at a5; simp; omega)
    · simp at hon
      exact go (l / tw) a3 a4 (by unfold sPos; rw [hon] at a5; simp; omega)
    · simp at hon
      exact go (l % tw) a1 a2 (by unfold sPos; rw [hon] at a5; simp; omega)
    · simp at hon
      exact go (l / tw) a3 a4 (by unfold sPos; rw [hon] at a5; simp; omega)

theorem cells_l1 (v : List Int) (hv : v.length ≤ 1000) (N : Int) (hin : ∀ y ∈ v, 0 ≤ y ∧ y < N) : ∀ (n k : Nat) (i : Int) (x : List Bool), i + n = v.length → 0 ≤ i → n < k → (x.length : Int) = N →
    ∃ x', border_Cells.l1 k v x i = some x' ∧ (x'.length : Int) = N ∧ ∀ l : Int, 0 ≤ l → l < N → rd x' l = (rd x l || decide (l ∈ v.drop i.toNat)) := by
  intro n
  induction n with
  | zero =>
    intro k i x hi h0 hk hx
    obtain ⟨k, rfl⟩ := kpos hk
    refine ⟨x, by rw [border_Cells.l1, if_neg (by omega)], hx, fun l l0 l1 => ?_⟩
    rw [List.drop_of_length_le (by omega)]; simp
  | succ n ih =>
    intro k i x hi h0 hk hx
    obtain ⟨k, rfl⟩ := kpos hk
    have hy := hin _ (rdmem h0 (by omega : i < (v.length : Int)))
    obtain ⟨x', e, hl, hr⟩ := ih k (i + 1) (List.set x (Int.toNat (rd v i)) true) (by omega) (by omega) (by omega) (by simpa using hx)
    refine ⟨x', by rw [border_Cells.l1, if_pos (by omega), if_pos (by omega), if_pos (by omega), w64_id (by omega) (by omega)]; exact e, hl, fun l l0 l1 => ?_⟩
    rw [hr l l0 l1, rds hy.1 (by omega) l0, dropc h0 (by omega)]
    by_cases hq : l = rd v i
    · rw [if_pos hq, hq]; simp
    · rw [if_neg hq]; simp [hq]
theorem cells_l2 (w h s : Int) (x : List Bool) (hx : (x.length : Int) = (sSize w h s).1 * (sSize w h s).2) (hr : ∀ l : Int, 0 ≤ l → l < x.length → rd x l = sAtB w h s l) : ∀ (n k : Nat) (i : Int), i + n = x.length → 0 ≤ i → n < k →
    border_Cells.l2 k w h s x (sCellsTo w h s i.toNat) i = some (sCells w h s) := by
  have hz := size_prod w h s
  intro n
  induction n with
  | zero =>
    intro k i hi h0 hk
    obtain ⟨k, rfl⟩ := kpos hk
    rw [border_Cells.l2, if_neg (by omega)]
    unfold sCells
    rw [show i = (sSize w h s).1 * (sSize w h s).2 by omega]
  | succ n ih =>
    intro k i hi h0 hk
    obtain ⟨k, rfl⟩ := kpos hk
    have hle := cellsTo_length w h s i.toNat
    have := ih k (i + 1) (by omega) (by omega) (by omega)
    rw [show (i + 1).toNat = i.toNat + 1 by omega, cellsTo_succ, show ((i.toNat : Nat) : Int) = i by omega] at this
    rw [border_Cells.l2, if_pos (by omega), if_pos (by omega), hr i h0 (by omega), w64_id (by omega) (by omega)]
    by_cases hb : sAtB w h s i = true
    · rw [if_pos hb] at this
      rw [if_pos hb, global_f, Option.bind_some, if_pos (by omega)]
      exact this
    · rw [if_neg hb] at this
      rw [if_neg hb]
      exact this
theorem side_at {j : Int} (h0 : 0 ≤ j) (h3 : j ≤ 3) : rd ([rd ([0, 1, 2, 3] : List Int) 0, rd ([0, 1, 2, 3] : List Int) 1, rd ([0, 1, 2, 3] : List Int) 2, rd ([0, 1, 2, 3] : List Int) 3] : List Int) j = j := by
  have : j = 0 ∨ j = 1 ∨ j = 2 ∨ j = 3 := by omega
  rcases this with rfl | rfl | rfl | rfl <;> rfl
theorem anyOver_add (w h c : Int) : ∀ (n : Nat) (j : Int), anyOver w h c (n + 1) j = (anyOver w h c n j || decide (0 ≤ sOver w h c (j + n))) := by
  intro n
  induction n with
  | zero => intro j; simp [anyOver]
  | succ n ih =>
    intro j
    rw [anyOver, ih (j + 1), anyOver, Bool.or_assoc]
    rw [show j + 1 + (n : Int) = j + ((n + 1 : Nat) : Int) by omega]
theorem cells_l0 (w h s : Int) : ∀ (n k : Nat) (j : Int) (x : List Bool), j + n = 4 → 0 ≤ j → n < k → (x.length : Int) = (sSize w h s).1 * (sSize w h s).2 →
    (∀ l : Int, 0 ≤ l → l < x.length → rd x l = anyOver w h (sGlobal w h s l) j.toNat 0) →
    border_Cells.l0 k w h s (sSize w h s) [0, 1, 2, 3] x j = some (sCells w h s) := by
  have hz := size_prod w h s
  have hzz := size_le w h s
  intro n
  induction n with
  | zero =>
    intro k j x hj h0 hk hx hr
    obtain ⟨k, rfl⟩ := kpos hk
    rw [border_Cells.l0, if_neg (by omega)]
    have e : j.toNat = 4 := by omega
    rw [e] at hr
    exact cells_l2 w h s x hx hr x.length fuel 0 (by omega) (by omega) (by rw [fuelv]; omega)
  | succ n ih =>
    intro k j x hj h0 hk hx hr
    obtain ⟨k, rfl⟩ := kpos hk
    rw [border_Cells.l0, if_pos (by omega), side_at h0 (by omega), along_f j hzz.1 hzz.2.1 hzz.2.2.1 hzz.2.2.2, if_pos (by simp; omega), w64_id (by omega) (by omega)]
    rw [Option.bind_some]
    by_cases hs : SecS w h s
    · have hz1 := size_in hs
      have hlen : ((sAlong (sSize w h s).1 (sSize w h s).2 j).length : Int) = sLen (sSize w h s).1 (sSize w h s).2 j := by
        unfold sAlong; rw [alongTo_length]
        unfold sLen; split
        · omega
        · split <;> omega
      have hlp : 1 ≤ sLen (sSize w h s).1 (sSize w h s).2 j ∧ sLen (sSize w h s).1 (sSize w h s).2 j ≤ 16 := by
        unfold sLen; split
        · omega
        · rw [if_pos (by omega)]; omega
      have hmem := fun l => mem_along (l := l) hz1.1 hz1.2.2.1 h0 (by omega : j ≤ 3)
      have h0m := rdmem (a := sAlong (sSize w h s).1 (sSize w h s).2 j) (i := 0) (by omega) (by omega)
      obtain ⟨f0, f1, f2⟩ := (hmem _).mp h0m
      rw [if_neg (by rw [beq_iff_eq]; omega), if_pos (by omega), global_f, Option.bind_some, over_f, Option.bind_some, Option.bind_some]
      have hov := over_iff hs f0 f1 h0 (by omega : j ≤ 3)
      by_cases hn : sOver w h (sGlobal w h s (rd (sAlong (sSize w h s).1 (sSize w h s).2 j) 0)) j < 0
      · have hne : ¬ sEdge w h s j := fun q => by have := hov.mpr ⟨q, f2⟩; omega
        rw [if_pos (by simpa using hn), Option.bind_some]
        refine ih k (j + 1) x (by omega) (by omega) (by omega) hx (fun l l0 l1 => ?_)
        rw [hr l l0 l1, show (j + 1).toNat = j.toNat + 1 by omega, anyOver_add, Int.zero_add, show ((j.toNat : Nat) : Int) = j by omega]
        rw [decide_eq_false (fun q => hne ((over_iff hs l0 (by omega) h0 (by omega : j ≤ 3)).mp q).1)]; simp
      · have hed : sEdge w h s j := (hov.mp (by omega)).1
        obtain ⟨x', e, hl, hq⟩ := cells_l1 (sAlong (sSize w h s).1 (sSize w h s).2 j) (by omega) _ (fun y hy => ⟨((hmem y).mp hy).1, ((hmem y).mp hy).2.1⟩) (sAlong (sSize w h s).1 (sSize w h s).2 j).length fuel 0 x (by omega) (by omega) (by rw [fuelv]; omega) hx
        rw [if_neg (by simpa using hn), e, Option.bind_some]
        refine ih k (j + 1) x' (by omega) (by omega) (by omega) hl (fun l l0 l1 => ?_)
        rw [hq l l0 (by omega), hr l l0 (by omega), show (j + 1).toNat = j.toNat + 1 by omega, anyOver_add, Int.zero_add, show ((j.toNat : Nat) : Int) = j by omega]
        congr 1
        simp only [Int.toNat_zero, List.drop_zero, decide_eq_decide]
        rw [hmem, over_iff hs l0 (by omega) h0 (by omega : j ≤ 3)]
        exact ⟨fun q => ⟨hed, q.2.2⟩, fun q => ⟨l0, by omega, q.2⟩⟩
    · have e0 : sSize w h s = (0, 0) := by unfold sSize; rw [if_neg hs]
      have e1 : sAlong (sSize w h s).1 (sSize w h s).2 j = [] := by
        unfold sAlong; rw [e0]
        have : sLen (0, 0).1 (0, 0).2 j = 0 := by unfold sLen; split <;> simp
        rw [this]; rfl
      rw [e1, if_pos (by simp), Option.bind_some, if_pos rfl, Option.bind_some]
      refine ih k (j + 1) x (by omega) (by omega) (by omega) hx (fun l l0 l1 => ?_)
      rw [e0] at hx; simp at hx
      subst hx
      simp at l1; omega
theorem cells_f (w h s : Int) : border_Cells.f w h s = some (sCells w h s) := by
  unfold border_Cells.f
  have hz := size_prod w h s
  have e : border_sides.f = some [0, 1, 2, 3] := rfl
  rw [size_f, Option.bind_some, w64_id (x := _ * _) (by omega) (by omega), if_pos (by omega), e, Option.bind_some]
  refine cells_l0 w h s 4 fuel 0 _ (by omega) (by omega) (by rw [fuelv]; omega) (by simp; omega) (fun l l0 l1 => ?_)
  rw [rdrep l0 (by simpa using l1)]; rfl
end Go.Proofs.Yticdodeoljodiaa
