import Derived.Test.YticdodeoljodiaaPmates
import Derived.Test.YticdodeoljodiaaPedits
namespace Go.Proofs.Yticdodeoljodiaa
open Go.Hx
set_option linter.unusedVariables false
set_option linter.unusedSimpArgs false

/-- a sum -/
def S : Nat → (Nat → Int) → Int
  | 0, _ => 0
  | n + 1, f => S n f + f n
theorem S_congr {n : Nat} {f g : Nat → Int} (h : ∀ i, i < n → f i = g i) : S n f = S n g := by
  induction n with
  | zero => rfl
  | succ n ih => rw [S, S, ih (fun i hi => h i (by omega)), h n (by omega)]
theorem S_zero {n : Nat} {f : Nat → Int} (h : ∀ i, i < n → f i = 0) : S n f = 0 := by
  induction n with
  | zero => rfl
  | succ n ih => rw [S, ih (fun i hi => h i (by omega)), h n (by omega)]; rfl
theorem S_add (n : Nat) (f g : Nat → Int) : S n (fun i => f i + g i) = S n f + S n g := by
  induction n with
  | zero => rfl
  | succ n ih => rw [S, S, S, ih]; omega
theorem S_append (n a : Nat) (f : Nat → Int) : S (n + a) f = S n f + S a (fun x => f (n + x)) := by
  induction a with
  | zero => simp [S]
  | succ a ih => rw [← Nat.add_assoc, S, S, ih]; omega
theorem S_mul (a b : Nat) (f : Nat → Int) : S (b * a) f = S b (fun y => S a (fun x => f (y * a + x))) := by
  induction b with
  | zero => simp [S]
  | succ b ih => rw [Nat.succ_mul, S_append, ih, S]
theorem S_single {n a : Nat} {f : Nat → Int} (ha : a < n) (h : ∀ i, i < n → i ≠ a → f i = 0) : S n f = f a := by
  induction n with
  | zero => omega
  | succ n ih =>
    rw [S]
    by_cases hq : a = n
    · subst hq; rw [S_zero (fun i hi => h i (by omega) (by omega))]; omega
    · rw [ih (by omega) (fun i hi hne => h i (by omega) hne), h n (by omega) (by omega)]; omega
theorem S_le {n : Nat} {f g : Nat → Int} (h : ∀ i, i < n → f i ≤ g i) : S n f ≤ S n g := by
  induction n with
  | zero => exact Int.le_refl _
  | succ n ih =>
    rw [S, S]
    have := ih (fun i hi => h i (by omega)); have := h n (by omega); omega
theorem S_nn {n : Nat} {f : Nat → Int} (h : ∀ i, i < n → 0 ≤ f i) : 0 ≤ S n f := by
  have := S_le (f := fun _ => 0) (g := f) (n := n) h
  rwa [S_zero (fun _ _ => rfl)] at this
def one (b : Bool) : Int := if b = true then 1 else 0
theorem one_in (b : Bool) : 0 ≤ one b ∧ one b ≤ 1 := by unfold one; split <;> omega

/-- how long the runs are together -/
def runSum (l : List api_Run) : Int := (l.map (fun r => r.Len)).sum
theorem runs_spec (good : Nat → Bool) : ∀ i : Nat,
    (∀ r ∈ (runsSt good i).1, 1 ≤ r.Len ∧ 0 ≤ r.From ∧ r.From + r.Len < (i : Int) - (runsSt good i).2) ∧
    (runsSt good i).1.Pairwise (fun a b => a.From + a.Len < b.From) ∧
    runSum (runsSt good i).1 + (runsSt good i).2 = S i (fun j => one (good j)) := by
  intro i
  induction i with
  | zero => simp [runsSt, runSum, S]
  | succ i ih =>
    obtain ⟨h1, h2, h3⟩ := ih
    have hin := runsSt_in good i
    rw [runsSt]
    by_cases hg : good i = true
    · rw [if_pos hg, S]
      have e1 : one (good i) = 1 := by unfold one; rw [if_pos hg]
      refine ⟨fun r hr => ?_, h2, by rw [e1]; simp only; omega⟩
      have := h1 r hr
      simp only; omega
    · rw [if_neg hg, S]
      have e1 : one (good i) = 0 := by unfold one; rw [if_neg hg]
      by_cases hq : (runsSt good i).2 > 0
      · rw [if_pos hq]
        simp only
        refine ⟨fun r hr => ?_, ?_, ?_⟩
        · rcases List.mem_append.mp hr with hr | hr
          · have := h1 r hr; omega
          · rw [List.mem_singleton] at hr
            subst hr
            simp only; omega
        · rw [List.pairwise_append]
          refine ⟨h2, List.pairwise_singleton _ _, fun a ha b hb => ?_⟩
          rw [List.mem_singleton] at hb
          subst hb
          have := h1 a ha
          simp only; omega
        · unfold runSum at h3 ⊢
          rw [List.map_append, List.sum_append, e1]
          simp; omega
      · rw [if_neg hq]
        simp only
        refine ⟨fun r hr => ?_, h2, by rw [e1]; omega⟩
        have := h1 r hr; omega

/-- the crosses of a cell, as a sum -/
def crossOne (m : api_Map) (c j : Int) : Int := one (sOpen m c && sOpen m (sOver m.W m.H c j))
theorem crossTo_len (m : api_Map) (c : Int) : ∀ n : Nat, ((sCrossTo m c n).length : Int) = S n (fun j => one (sOpen m (sOver m.W m.H c (j : Int)))) := by
  intro n
  induction n with
  | zero => rfl
  | succ n ih =>
    rw [crossTo_succ, S, ← ih]
    by_cases hq : sOpen m (sOver m.W m.H c (n : Int)) = true
    · rw [if_pos hq]; unfold one; rw [if_pos hq]; simp
    · rw [if_neg hq]; unfold one; rw [if_neg hq]; simp
theorem cross_sum (m : api_Map) (c : Int) : ((sCross m c).length : Int) = crossOne m c 0 + crossOne m c 1 + crossOne m c 2 + crossOne m c 3 := by
  unfold sCross crossOne
  by_cases ho : sOpen m c = true
  · rw [if_pos ho, crossTo_len, ho]
    simp [S]
  · rw [if_neg ho]
    have : sOpen m c = false := by simpa using ho
    rw [this]; simp [one]
/-- over a list -/
def lsum (l : List Int) (f : Int → Int) : Int := (l.map f).sum
theorem lsum_cons (a : Int) (l : List Int) (f : Int → Int) : lsum (a :: l) f = f a + lsum l f := by simp [lsum]
theorem lsum_range (n : Nat) (p : Nat → Bool) (q : Int → Bool) (g : Nat → Int) (f : Int → Int) (h : ∀ l, l < n → (p l && q (g l)) = false → f (g l) = 0) :
    lsum ((((List.range n).filter p).map g).filter q) f = S n (fun l => f (g l)) := by
  induction n with
  | zero => rfl
  | succ n ih =>
    rw [List.range_succ, List.filter_append, List.map_append, List.filter_append, S, ← ih (fun l hl => h l (by omega))]
    unfold lsum
    rw [List.map_append, List.sum_append]
    congr 1
    by_cases hp : p n = true
    · by_cases hq : q (g n) = true
      · simp [hp, hq]
      · have := h n (by omega) (by simp [hq])
        simp [hp, hq, this]
    · have := h n (by omega) (by simp [hp])
      simp [hp, this]
theorem anyOver_false {w h c : Int} : ∀ (n : Nat) (j : Int), anyOver w h c n j = false → ∀ i : Int, j ≤ i → i < j + n → sOver w h c i < 0 := by
  intro n
  induction n with
  | zero => intro j _ i h1 h2; omega
  | succ n ih =>
    intro j hj i h1 h2
    rw [anyOver, Bool.or_eq_false_iff] at hj
    by_cases hq : i = j
    · subst hq; have := hj.1; simp at this; omega
    · exact ih (j + 1) hj.2 i (by omega) (by omega)
theorem nodes_sum {m : api_Map} (s : Int) : lsum (sNodes m s) (fun c => ((sCross m c).length : Int)) = S ((sSize m.W m.H s).1 * (sSize m.W m.H s).2).toNat (fun l => ((sCross m (sGlobal m.W m.H s (l : Int))).length : Int)) := by
  unfold sNodes sCells sCellsTo
  apply lsum_range
  intro l hl hf
  rw [Bool.and_eq_false_iff] at hf
  have key : sCross m (sGlobal m.W m.H s (l : Int)) = [] := by
    rcases hf with hf | hf
    · have hz := anyOver_false 4 0 hf
      apply List.eq_nil_iff_forall_not_mem.mpr
      intro e he
      obtain ⟨_, j, j0, j3, _, _, _, h6⟩ := cross_mem he
      have := hz j j0 (by omega); omega
    · unfold sCross; rw [if_neg (by simp [hf])]
  rw [key]; rfl

/-- the sum over a side -/
theorem side_sum {m : api_Map} {s side : Int} (hs : SecS m.W m.H s) (s0 : 0 ≤ side) (s3 : side ≤ 3) :
    S ((sSize m.W m.H s).1 * (sSize m.W m.H s).2).toNat (fun l => crossOne m (sGlobal m.W m.H s (l : Int)) side) = S (sLen (sSize m.W m.H s).1 (sSize m.W m.H s).2 side).toNat (fun i => one (sGood m s side i)) := by
  have hz := size_in hs
  have hzp := size_prod m.W m.H s
  obtain ⟨a, ha⟩ : ∃ a : Nat, (sSize m.W m.H s).1 = (a : Int) := ⟨(sSize m.W m.H s).1.toNat, by omega⟩
  obtain ⟨b, hb⟩ : ∃ b : Nat, (sSize m.W m.H s).2 = (b : Int) := ⟨(sSize m.W m.H s).2.toNat, by omega⟩
  have hoff : ∀ l : Nat, (l : Int) < (sSize m.W m.H s).1 * (sSize m.W m.H s).2 → ¬ sOn (sSize m.W m.H s).1 (sSize m.W m.H s).2 (l : Int) side → crossOne m (sGlobal m.W m.H s (l : Int)) side = 0 := by
    intro l hl hn
    have : sOver m.W m.H (sGlobal m.W m.H s (l : Int)) side < 0 := by
      have := over_iff hs (l := (l : Int)) (by omega) hl s0 s3
      by_cases q : 0 ≤ sOver m.W m.H (sGlobal m.W m.H s (l : Int)) side
      · exact absurd (this.mp q).2 hn
      · omega
    unfold crossOne one
    rw [sopen_neg _ this]; simp
  have hgood : ∀ i : Nat, (i : Int) < sLen (sSize m.W m.H s).1 (sSize m.W m.H s).2 side → one (sGood m s side i) = crossOne m (sGlobal m.W m.H s (sPos (sSize m.W m.H s).1 (sSize m.W m.H s).2 side (i : Int))) side := by
    intro i hi
    unfold sGood
    rw [decide_eq_true hi]; rfl
  have hprod : ((sSize m.W m.H s).1 * (sSize m.W m.H s).2).toNat = b * a := by
    rw [ha, hb, Int.mul_comm]; omega
  have hlt : ∀ y x : Nat, y < b → x < a → ((y * a + x : Nat) : Int) < (sSize m.W m.H s).1 * (sSize m.W m.H s).2 := by
    intro y x hy hx
    have : (y + 1) * a ≤ b * a := Nat.mul_le_mul_right a (by omega)
    rw [Nat.succ_mul] at this
    have h2 : ((b * a : Nat) : Int) = (sSize m.W m.H s).1 * (sSize m.W m.H s).2 := by rw [ha, hb, Int.mul_comm]; omega
    omega
  have hparts : ∀ y x : Nat, y < b → x < a → ((y * a + x : Nat) : Int) % (sSize m.W m.H s).1 = (x : Int) ∧ ((y * a + x : Nat) : Int) / (sSize m.W m.H s).1 = (y : Int) := by
    intro y x hy hx
    rw [ha]
    have := num_parts (a := (a : Int)) (x := (x : Int)) (y := (y : Int)) (by omega) (by omega)
    push_cast
    exact this
  have hon : ∀ y x : Nat, y < b → x < a → sOn (sSize m.W m.H s).1 (sSize m.W m.H s).2 ((y * a + x : Nat) : Int) side → (side = 0 → y = 0) ∧ (side = 1 → x = a - 1) ∧ (side = 2 → y = b - 1) ∧ (side = 3 → x = 0) := by
    intro y x hy hx h
    obtain ⟨p1, p2⟩ := hparts y x hy hx
    unfold sOn at h
    rw [p1, p2] at h
    refine ⟨?_, ?_, ?_, ?_⟩ <;> rintro rfl <;> simp at h <;> omega
  rw [hprod, S_mul]
  have hc : side = 0 ∨ side = 1 ∨ side = 2 ∨ side = 3 := by omega
  rcases hc with rfl | rfl | rfl | rfl
  · rw [S_single (a := 0) (by omega) (fun y hy hne => S_zero (fun x hx => hoff _ (hlt y x hy hx) (fun q => hne ((hon y x hy hx q).1 rfl))))]
    rw [show (sLen (sSize m.W m.H s).1 (sSize m.W m.H s).2 0).toNat = a by unfold sLen; simp; omega]
    apply S_congr
    intro x hx
    rw [hgood x (by unfold sLen; simp; omega)]
    congr 2
    unfold sPos; simp
  · rw [show (sLen (sSize m.W m.H s).1 (sSize m.W m.H s).2 1).toNat = b by unfold sLen; simp; omega]
    apply S_congr
    intro y hy
    rw [S_single (a := a - 1) (by omega) (fun x hx hne => hoff _ (hlt y x hy hx) (fun q => hne ((hon y x hy hx q).2.1 rfl)))]
    rw [hgood y (by unfold sLen; simp; omega)]
    congr 2
    unfold sPos; simp
    rw [ha]; omega
  · rw [S_single (a := b - 1) (by omega) (fun y hy hne => S_zero (fun x hx => hoff _ (hlt y x hy hx) (fun q => hne ((hon y x hy hx q).2.2.1 rfl))))]
    rw [show (sLen (sSize m.W m.H s).1 (sSize m.W m.H s).2 2).toNat = a by unfold sLen; simp; omega]
    apply S_congr
    intro x hx
    rw [hgood x (by unfold sLen; simp; omega)]
    congr 2
    unfold sPos; simp
    rw [ha, hb]
    have : ((b - 1 : Nat) : Int) = (b : Int) - 1 := by omega
    rw [this]
  · rw [show (sLen (sSize m.W m.H s).1 (sSize m.W m.H s).2 3).toNat = b by unfold sLen; simp; omega]
    apply S_congr
    intro y hy
    rw [S_single (a := 0) (by omega) (fun x hx hne => hoff _ (hlt y x hy hx) (fun q => hne ((hon y x hy hx q).2.2.2 rfl)))]
    rw [hgood y (by unfold sLen; simp; omega)]
    congr 2
    unfold sPos; simp
    rw [ha]
/-- a sector's runs, all together, are its crosses -/
theorem runs_cross {m : api_Map} {s : Int} (hs : SecS m.W m.H s) : runSum (sRuns m s 0) + runSum (sRuns m s 1) + runSum (sRuns m s 2) + runSum (sRuns m s 3) = lsum (sNodes m s) (fun c => ((sCross m c).length : Int)) := by
  have hr : ∀ side : Int, 0 ≤ side → side ≤ 3 → runSum (sRuns m s side) = S ((sSize m.W m.H s).1 * (sSize m.W m.H s).2).toNat (fun l => crossOne m (sGlobal m.W m.H s (l : Int)) side) := by
    intro side h0 h3
    have hsp := (runs_spec (sGood m s side) ((sLen (sSize m.W m.H s).1 (sSize m.W m.H s).2 side).toNat + 1)).2.2
    have hz := size_le m.W m.H s
    have hL := len_in (side := side) hz.1 hz.2.1 hz.2.2.1 hz.2.2.2
    have hend := good_end m s side (sLen (sSize m.W m.H s).1 (sSize m.W m.H s).2 side).toNat (by omega)
    have h2 : (runsSt (sGood m s side) ((sLen (sSize m.W m.H s).1 (sSize m.W m.H s).2 side).toNat + 1)).2 = 0 := by
      rw [runsSt, hend, if_neg (by simp)]; split <;> rfl
    rw [h2, S, hend] at hsp
    rw [side_sum hs h0 h3]
    unfold sRuns
    have : one false = 0 := rfl
    omega
  rw [hr 0 (by omega) (by omega), hr 1 (by omega) (by omega), hr 2 (by omega) (by omega), hr 3 (by omega) (by omega), nodes_sum, ← S_add, ← S_add, ← S_add]
  apply S_congr
  intro l _
  rw [cross_sum]
theorem rim_small : ∀ a : Nat, a < 17 → ∀ b : Nat, b < 17 → S b (fun y => S a (fun x => if y = 0 ∨ y + 1 = b ∨ x = 0 ∨ x + 1 = a then 1 else 0)) ≤ 60 := by decide +kernel
/-- a sector has at most 60 cells at its border -/
theorem cells_60 (w h s : Int) : (sCells w h s).length ≤ 60 := by
  by_cases hs : SecS w h s
  · have hz := size_in hs
    have hzp := size_prod w h s
    obtain ⟨a, ha⟩ : ∃ a : Nat, (sSize w h s).1 = (a : Int) := ⟨(sSize w h s).1.toNat, by omega⟩
    obtain ⟨b, hb⟩ : ∃ b : Nat, (sSize w h s).2 = (b : Int) := ⟨(sSize w h s).2.toNat, by omega⟩
    have hprod : ((sSize w h s).1 * (sSize w h s).2).toNat = b * a := by
      rw [ha, hb, Int.mul_comm]; omega
    have h2 : ((b * a : Nat) : Int) = (sSize w h s).1 * (sSize w h s).2 := by rw [ha, hb, Int.mul_comm]; omega
    have hcount : ∀ n : Nat, ((sCellsTo w h s n).length : Int) = S n (fun l => one (sAtB w h s (l : Int))) := by
      intro n
      induction n with
      | zero => rfl
      | succ n ih =>
        rw [cellsTo_succ, S, ← ih]
        by_cases hq : sAtB w h s (n : Int) = true
        · rw [if_pos hq]; unfold one; rw [if_pos hq]; simp
        · rw [if_neg hq]; unfold one; rw [if_neg hq]; simp
    have hle : S (b * a) (fun l => one (sAtB w h s (l : Int))) ≤ S b (fun y => S a (fun x => if y = 0 ∨ y + 1 = b ∨ x = 0 ∨ x + 1 = a then 1 else 0)) := by
      rw [S_mul]
      apply S_le
      intro y hy
      apply S_le
      intro x hx
      by_cases hr : y = 0 ∨ y + 1 = b ∨ x = 0 ∨ x + 1 = a
      · rw [if_pos hr]; exact (one_in _).2
      · rw [if_neg hr]
        have hlt : ((y * a + x : Nat) : Int) < (sSize w h s).1 * (sSize w h s).2 := by
          have : (y + 1) * a ≤ b * a := Nat.mul_le_mul_right a (by omega)
          rw [Nat.succ_mul] at this
          omega
        have hp := num_parts (a := (a : Int)) (x := (x : Int)) (y := (y : Int)) (by omega) (by omega)
        have e : ((y * a + x : Nat) : Int) = (y : Int) * (a : Int) + (x : Int) := by push_cast; rfl
        have hno : ∀ j : Int, 0 ≤ j → j ≤ 3 → ¬ 0 ≤ sOver w h (sGlobal w h s ((y * a + x : Nat) : Int)) j := by
          intro j j0 j3 q
          have := ((over_iff hs (by omega) hlt j0 j3).mp q).2
          rw [ha, hb, e] at this
          unfold sOn at this
          rw [hp.1, hp.2] at this
          have hc : j = 0 ∨ j = 1 ∨ j = 2 ∨ j = 3 := by omega
          rcases hc with rfl | rfl | rfl | rfl <;> simp at this <;> omega
        have : sAtB w h s ((y * a + x : Nat) : Int) = false := by
          unfold sAtB anyOver anyOver anyOver anyOver anyOver
          rw [decide_eq_false (hno 0 (by omega) (by omega)), decide_eq_false (hno (0 + 1) (by omega) (by omega)), decide_eq_false (hno (0 + 1 + 1) (by omega) (by omega)), decide_eq_false (hno (0 + 1 + 1 + 1) (by omega) (by omega))]
          rfl
        rw [this]; unfold one; simp
    have := rim_small a (by omega) b (by omega)
    have h3 := hcount (b * a)
    unfold sCells
    rw [hprod]
    omega
  · unfold sCells
    have : sSize w h s = (0, 0) := by unfold sSize; rw [if_neg hs]
    rw [this]; simp [sCellsTo]
end Go.Proofs.Yticdodeoljodiaa
