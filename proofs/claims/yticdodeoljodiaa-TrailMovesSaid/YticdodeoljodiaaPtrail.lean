import Derived.Test.YticdodeoljodiaaPref17
import Derived.Test.YticdodeoljodiaaFtrail
import Derived.Test.YticdodeoljodiaaFref27
import Derived.Test.YticdodeoljodiaaFlaw30
namespace Go.Proofs.Yticdodeoljodiaa
open Go.Hx
set_option linter.unusedVariables false
set_option linter.unusedSimpArgs false

/-- the path from a cell, by directions -/
inductive IsPath (m : api_Map) (t : Int) (D : List Int) : Int → List Int → Prop
  | done : IsPath m t D t [t]
  | go {c n : Int} {l : List Int} : c ≠ t → n = sStep m.W m.H c (dirP m D c) → IsPath m t D n l → IsPath m t D c (c :: l)
variable {m : api_Map} {t : Int} {D : List Int}
theorem path_head {c : Int} {l : List Int} (h : IsPath m t D c l) : ∃ r, l = c :: r := by
  cases h with
  | done => exact ⟨[], rfl⟩
  | go _ _ _ => exact ⟨_, rfl⟩
theorem path_eq {c : Int} {l k : List Int} (h : IsPath m t D c l) (h2 : IsPath m t D c k) : l = k := by
  induction h generalizing k with
  | done =>
    cases h2 with
    | done => rfl
    | go q _ _ => exact absurd rfl q
  | go q1 q2 h1 ih =>
    cases h2 with
    | done => exact absurd rfl q1
    | go p1 p2 h3 =>
      rw [q2] at ih
      rw [p2] at h3
      rw [ih h3]
/-- the next cell -/
theorem next_spec (hm : MapOk m) (hc : CostOk m) (hf : Far m t D) {c : Int} (hi : inMap m c) (hlt : rd D c < (1099511627776 : Int)) (hne : c ≠ t) :
    0 ≤ dirP m D c ∧ dirP m D c ≤ 3 ∧ Opn m (sStep m.W m.H c (dirP m D c)) ∧ rd m.C (sStep m.W m.H c (dirP m D c)) + rd D (sStep m.W m.H c (dirP m D c)) = rd D c := by
  obtain ⟨d1, d2, d3, d4, d5⟩ := dir_spec hm hc hf hi
  have hd3 : dirP m D c ≤ 3 := by
    have n5 : dirP m D c ≠ 5 := fun q => by have := d3.mp q; omega
    have n4 : dirP m D c ≠ 4 := fun q => hne (far_zero hm hc hf hi (d4.mp q))
    omega
  obtain ⟨b1, _⟩ := d5 hd3
  unfold byP at b1
  exact ⟨d1, hd3, of_decide_eq_true b1⟩
theorem path_ex (hm : MapOk m) (hc : CostOk m) (hf : Far m t D) : ∀ (n : Nat) (c : Int), inMap m c → rd D c < (1099511627776 : Int) → rd D c ≤ n → ∃ l, IsPath m t D c l ∧ (l.length : Int) ≤ rd D c + 1 := by
  intro n
  induction n with
  | zero =>
    intro c hi hlt hn
    have h0 := far_nn hc hf hi
    have : c = t := far_zero hm hc hf hi (by omega)
    subst this
    exact ⟨[c], .done, by simp; omega⟩
  | succ n ih =>
    intro c hi hlt hn
    have h0 := far_nn hc hf hi
    by_cases hct : c = t
    · subst hct; exact ⟨[c], .done, by simp; omega⟩
    · obtain ⟨a1, a2, a3, a4⟩ := next_spec hm hc hf hi hlt hct
      have hcn := hc _ a3.1
      obtain ⟨l, h1, h2⟩ := ih _ a3.1 (by omega) (by omega)
      exact ⟨c :: l, .go hct rfl h1, by simp; omega⟩
theorem path_loop (hm : MapOk m) (hc : CostOk m) (hf : Far m t D) {c : Int} {l : List Int} (hp : IsPath m t D c l) : ∀ (k : Nat) (x : List Int), inMap m c → rd D c < (1099511627776 : Int) → l.length < k → x.length + l.length ≤ 1000000000 →
    trail_Path.l0 k m t (dirsP m D D.length, 0) c x = some (x ++ l.tail) := by
  have hl := hm.2.1
  have hD := hf.len
  induction hp with
  | done =>
    intro k x hi hlt hk hx
    obtain ⟨k, rfl⟩ := kpos hk
    rw [trail_Path.l0, if_neg (by simp)]; simp
  | @go c n l h1 h2 h3 ih =>
    intro k x hi hlt hk hx
    obtain ⟨k, rfl⟩ := kpos hk
    obtain ⟨a1, a2, a3, a4⟩ := next_spec hm hc hf hi hlt h1
    have hi2 := hi.2
    have hcn := hc _ a3.1
    obtain ⟨r, hr⟩ := path_head h3
    simp only [List.length_cons] at hk hx
    rw [trail_Path.l0, if_pos (by simpa using h1)]
    simp only
    rw [dirsP_len, if_pos ⟨hi.1, by omega⟩, dirsP_rd m D hi.1 (by omega), step_f, Option.bind_some, if_pos (by omega), ← h2]
    rw [← h2] at a3 a4 hcn
    rw [ih k (x ++ [n]) a3.1 (by omega) (by omega) (by simp; omega), hr]
    simp
theorem rpath_loop (hm : MapOk m) (hc : CostOk m) (hf : Far m t D) {c : Int} {l : List Int} (hp : IsPath m t D c l) : ∀ (k : Nat) (x : List Int), inMap m c → rd D c < (1099511627776 : Int) → l.length < k → x.length + l.length ≤ 1000000000 →
    ref27_Path.l0 k m t D c x = some (x ++ l.tail) := by
  induction hp with
  | done =>
    intro k x hi hlt hk hx
    obtain ⟨k, rfl⟩ := kpos hk
    rw [ref27_Path.l0, if_neg (by simp)]; simp
  | @go c n l h1 h2 h3 ih =>
    intro k x hi hlt hk hx
    obtain ⟨k, rfl⟩ := kpos hk
    obtain ⟨a1, a2, a3, a4⟩ := next_spec hm hc hf hi hlt h1
    have hcn := hc _ a3.1
    obtain ⟨r, hr⟩ := path_head h3
    simp only [List.length_cons] at hk hx
    rw [ref27_Path.l0, if_pos (by simpa using h1), dir_ref hm hc hf hi, Option.bind_some, rstep_f, Option.bind_some, if_pos (by omega), ← h2]
    rw [← h2] at a3 a4 hcn
    rw [ih k (x ++ [n]) a3.1 (by omega) (by omega) (by simp; omega), hr]
    simp
/-- what a path is, whole -/
theorem path_of (hm : MapOk m) (hc : CostOk m) (hf : Far m t D) (hlk : flat_look.f m t = some (some (flat_plain.mk m D), 0)) {c : Int} (hi : inMap m c) (hlt : rd D c < (1099511627776 : Int)) :
    ∃ l, IsPath m t D c l ∧ trail_Path.f m t c = some (l, true) ∧ l.length ≤ 300000001 ∧ ((ref11_Flat.f m t = some D) → ref27_Path.f m t c = some (l, true)) := by
  have hl := hm.2.1
  have hpp := may_prod hm.1
  have hi2 := hi.2
  have hD := hf.len
  have hs := far_small hm hc hf hi hlt
  obtain ⟨l, hp, hlen⟩ := path_ex hm hc hf (rd D c).toNat c hi hlt (by have := far_nn hc hf hi; omega)
  obtain ⟨r, hr⟩ := path_head hp
  have ht : inMap m t := (way_goal (hf.way c hi hlt)).1
  refine ⟨l, hp, ?_, by omega, fun e => ?_⟩
  · unfold trail_Path.f
    rw [query_of hm hc hf hlk, if_pos (in_cell hm hi), Option.bind_some]
    simp only
    rw [if_neg (by simp; omega), dirs_of hm hc hf hlk, Option.bind_some, path_loop hm hc hf hp fuel [c] hi hlt (by rw [fuelv]; omega) (by simp; omega), Option.bind_some, hr]
    rfl
  · unfold ref27_Path.f
    rw [ref_may_f m (by omega), Option.bind_some, decide_eq_true hm, if_neg (by simp), riscell_f, decide_eq_true (in_cell hm ht), Option.bind_some, if_neg (by simp), riscell_f, decide_eq_true (in_cell hm hi)]
    simp only [Option.bind_some, Bool.not_true, Bool.false_eq_true, if_false]
    rw [e, Option.bind_some, if_pos ⟨hi.1, by omega⟩, if_neg (by omega), rpath_loop hm hc hf hp fuel [c] hi hlt (by rw [fuelv]; omega) (by simp; omega), Option.bind_some, hr]
    rfl
theorem path_far (hm : MapOk m) (hc : CostOk m) (hf : Far m t D) (hlk : flat_look.f m t = some (some (flat_plain.mk m D), 0)) {c : Int} (hi : inMap m c) (hlt : ¬ rd D c < (1099511627776 : Int)) (ht : inMap m t) : trail_Path.f m t c = some ([], false) ∧ ((ref11_Flat.f m t = some D) → ref27_Path.f m t c = some ([], false)) := by
  have hl := hm.2.1
  have hpp := may_prod hm.1
  have hi2 := hi.2
  have hD := hf.len
  have htop := hf.top c hi
  constructor
  · unfold trail_Path.f
    rw [query_of hm hc hf hlk, if_pos (in_cell hm hi), Option.bind_some]
    simp only
    rw [if_pos (by simp; omega)]
  · intro e
    unfold ref27_Path.f
    rw [ref_may_f m (by omega), Option.bind_some, decide_eq_true hm, if_neg (by simp), riscell_f, decide_eq_true (in_cell hm ht), Option.bind_some, if_neg (by simp), riscell_f, decide_eq_true (in_cell hm hi)]
    simp only [Option.bind_some, Bool.not_true, Bool.false_eq_true, if_false]
    rw [e, Option.bind_some, if_pos ⟨hi.1, by omega⟩, if_pos (by omega)]

/-- what a way costs -/
def costT (m : api_Map) : Int → List Int → Option Int
  | _, [] => some 0
  | p, c :: r => if Opn m c ∧ sSide m.W m.H p c ≤ 3 then (costT m c r).map (fun v => v + rd m.C c) else none
def costP (m : api_Map) : List Int → Option Int
  | [] => none
  | c :: r => if Opn m c then costT m c r else none
def told2 (x : Int) (o : Option Int) : Int × Bool := match o with | some v => (x + v, true) | none => (0, false)
theorem costT_nn (hc : CostOk m) : ∀ (r : List Int) (p v : Int), costT m p r = some v → 0 ≤ v
  | [], p, v, h => by simp [costT] at h; omega
  | c :: r, p, v, h => by
    unfold costT at h
    split at h
    · rename_i q
      cases e : costT m c r with
      | none => rw [e] at h; cases h
      | some u =>
        rw [e] at h
        have := costT_nn hc r c u e
        have := hc c q.1.1
        simp at h; omega
    · cases h
theorem costl (hm : MapOk m) (hc : CostOk m) (l : List Int) (hb : l.length ≤ 1000000000) : ∀ (n k : Nat) (i x : Int), i + n = l.length → 1 ≤ i → n < k → 0 ≤ x → x ≤ 255 * i →
    trail_Cost.l0 k m l x i = some (told2 x (costT m (rd l (i - 1)) (l.drop i.toNat))) ∧ ref27_Cost.l0 k m l x i = some (told2 x (costT m (rd l (i - 1)) (l.drop i.toNat))) := by
  have hl := hm.2.1
  intro n
  induction n with
  | zero =>
    intro k i x hi h1 hk x0 x1
    obtain ⟨k, rfl⟩ := kpos hk
    rw [List.drop_of_length_le (by omega), trail_Cost.l0, if_neg (by omega), ref27_Cost.l0, if_neg (by omega)]
    simp [costT, told2]
  | succ n ih =>
    intro k i x hi h1 hk x0 x1
    obtain ⟨k, rfl⟩ := kpos hk
    have hil : i < (l.length : Int) := by omega
    have c1 : ((where_Sector.f m.W m.H (rd l i)).bind fun v9 => if v9 < 0 then (some true) else (if (0 ≤ (rd l i) ∧ (rd l i) < (List.length m.C : Int)) then (some ((rd m.C (rd l i)) == 255)) else none)) = some (!decide (Opn m (rd l i))) := by
      rw [sector_f, Option.bind_some]
      by_cases hcell : CellS m.W m.H (rd l i)
      · have hin : inMap m (rd l i) := ⟨hcell.2.1, hcell.2.2⟩
        have h2 := hin.2
        rw [if_neg (fun q => sector_neg.mp q hcell), if_pos ⟨hin.1, by omega⟩]
        congr 1
        rw [Bool.eq_iff_iff]; simp [Opn, hin]
      · rw [if_pos (sector_neg.mpr hcell), decide_eq_false (fun q => hcell (in_cell hm q.1))]; rfl
    have c2 : ((ref1_IsCell.f m.W m.H (rd l i)).bind fun v9 => if (!v9) = true then (some true) else (if (0 ≤ (rd l i) ∧ (rd l i) < (List.length m.C : Int)) then (some ((rd m.C (rd l i)) == 255)) else none)) = some (!decide (Opn m (rd l i))) := by
      rw [riscell_f, Option.bind_some]
      by_cases hcell : CellS m.W m.H (rd l i)
      · have hin : inMap m (rd l i) := ⟨hcell.2.1, hcell.2.2⟩
        have h2 := hin.2
        rw [decide_eq_true hcell, if_neg (by simp), if_pos ⟨hin.1, by omega⟩]
        congr 1
        rw [Bool.eq_iff_iff]; simp [Opn, hin]
      · rw [decide_eq_false hcell, if_pos (by simp), decide_eq_false (fun q => hcell (in_cell hm q.1))]; rfl
    rw [dropc (by omega) hil, costT]
    by_cases ho : Opn m (rd l i)
    · have h2 := ho.1.2
      have hco := hc _ ho.1
      obtain ⟨e1, e2⟩ := ih k (i + 1) (x + rd m.C (rd l i)) (by omega) (by omega) (by omega) (by omega) (by omega)
      rw [show i + 1 - 1 = i by omega] at e1 e2
      constructor
      · rw [trail_Cost.l0, if_pos hil, if_pos ⟨by omega, hil⟩, c1, Option.bind_some, decide_eq_true ho, if_neg (by simp), if_neg (by rw [beq_iff_eq]; omega), w64_id (x := i - 1) (by omega) (by omega), if_pos (c := 0 ≤ i - 1 ∧ _) (by omega), side_f, Option.bind_some]
        by_cases hs : sSide m.W m.H (rd l (i - 1)) (rd l i) ≤ 3
        · rw [if_neg (c := sSide m.W m.H (rd l (i - 1)) (rd l i) > 3) (by omega), if_pos ⟨ho.1.1, by omega⟩, if_pos ⟨ho, hs⟩, w64_id (x := rd m.C _) (by omega) (by omega), w64_id (x := x + _) (by omega) (by omega), w64_id (x := i + 1) (by omega) (by omega), e1]
          cases costT m (rd l i) (l.drop (i + 1).toNat) with
          | none => simp [told2]
          | some v => simp [told2]; omega
        · rw [if_pos (c := sSide m.W m.H (rd l (i - 1)) (rd l i) > 3) (by omega), if_neg (fun q => hs q.2)]
          rfl
      · rw [ref27_Cost.l0, if_pos hil, if_pos (c := 0 ≤ i ∧ i < (l.length : Int)) ⟨by omega, hil⟩, c2, Option.bind_some, decide_eq_true ho, if_neg (by simp), if_pos (c := i > 0) (by omega), w64_id (x := i - 1) (by omega) (by omega), if_pos (c := 0 ≤ i - 1 ∧ _) (by omega), if_pos (c := 0 ≤ i ∧ i < (l.length : Int)) ⟨by omega, hil⟩, rside_f, Option.bind_some]
        by_cases hs : sSide m.W m.H (rd l (i - 1)) (rd l i) ≤ 3
        · rw [if_neg (c := sSide m.W m.H (rd l (i - 1)) (rd l i) > 3) (by omega), if_pos ⟨ho.1.1, by omega⟩, if_pos ⟨ho, hs⟩, w64_id (x := rd m.C _) (by omega) (by omega), w64_id (x := x + _) (by omega) (by omega), w64_id (x := i + 1) (by omega) (by omega), e2]
          cases costT m (rd l i) (l.drop (i + 1).toNat) with
          | none => simp [told2]
          | some v => simp [told2]; omega
        · rw [if_pos (c := sSide m.W m.H (rd l (i - 1)) (rd l i) > 3) (by omega), if_neg (fun q => hs q.2)]
          rfl
    · constructor
      · rw [trail_Cost.l0, if_pos hil, if_pos ⟨by omega, hil⟩, c1, Option.bind_some, decide_eq_false ho, if_pos (by rfl), if_neg (fun q => ho q.1)]
        rfl
      · rw [ref27_Cost.l0, if_pos hil, if_pos (c := 0 ≤ i ∧ i < (l.length : Int)) ⟨by omega, hil⟩, c2, Option.bind_some, decide_eq_false ho, if_pos (by rfl), if_neg (fun q => ho q.1)]
        rfl
theorem cost_f' (hm : MapOk m) (hc : CostOk m) (l : List Int) (hb : l.length ≤ 1000000000) : trail_Cost.f m l = some (told2 0 (costP m l)) ∧ ref27_Cost.f m l = some (told2 0 (costP m l)) := by
  have hl := hm.2.1
  have hpp := may_prod hm.1
  unfold trail_Cost.f ref27_Cost.f
  rw [atlas_may_f m (by omega), ref_may_f m (by omega), decide_eq_true hm, Option.bind_some, Option.bind_some]
  cases l with
  | nil => simp [costP, told2]
  | cons c r =>
    rw [if_neg (by simp; omega), if_neg (by simp; omega)]
    obtain ⟨k, hk⟩ : ∃ k, fuel = k + 1 := ⟨fuel - 1, by rw [fuelv]⟩
    have hr0 : rd (c :: r) 0 = c := rfl
    simp only [List.length_cons] at hb
    have c1 : ((where_Sector.f m.W m.H c).bind fun v9 => if v9 < 0 then (some true) else (if (0 ≤ c ∧ c < (List.length m.C : Int)) then (some ((rd m.C c) == 255)) else none)) = some (!decide (Opn m c)) := by
      rw [sector_f, Option.bind_some]
      by_cases hcell : CellS m.W m.H c
      · have hin : inMap m c := ⟨hcell.2.1, hcell.2.2⟩
        have h2 := hin.2
        rw [if_neg (fun q => sector_neg.mp q hcell), if_pos ⟨hin.1, by omega⟩]
        congr 1
        rw [Bool.eq_iff_iff]; simp [Opn, hin]
      · rw [if_pos (sector_neg.mpr hcell), decide_eq_false (fun q => hcell (in_cell hm q.1))]; rfl
    have c2 : ((ref1_IsCell.f m.W m.H c).bind fun v9 => if (!v9) = true then (some true) else (if (0 ≤ c ∧ c < (List.length m.C : Int)) then (some ((rd m.C c) == 255)) else none)) = some (!decide (Opn m c)) := by
      rw [riscell_f, Option.bind_some]
      by_cases hcell : CellS m.W m.H c
      · have hin : inMap m c := ⟨hcell.2.1, hcell.2.2⟩
        have h2 := hin.2
        rw [decide_eq_true hcell, if_neg (by simp), if_pos ⟨hin.1, by omega⟩]
        congr 1
        rw [Bool.eq_iff_iff]; simp [Opn, hin]
      · rw [decide_eq_false hcell, if_pos (by simp), decide_eq_false (fun q => hcell (in_cell hm q.1))]; rfl
    have hrest := costl hm hc (c :: r) (by simp only [List.length_cons]; omega) r.length k 1 0 (by simp only [List.length_cons]; omega) (by omega) (by rw [fuelv] at hk; omega) (by omega) (by omega)
    have hlen : (0 : Int) < ((c :: r).length : Int) := by simp only [List.length_cons]; omega
    rw [costP]
    by_cases ho : Opn m c
    · rw [if_pos ho]
      have h10 : rd (c :: r) (1 - 1) = c := rfl
      have h11 : (c :: r).drop (1 : Int).toNat = r := rfl
      rw [h10, h11] at hrest
      constructor
      · rw [hk, trail_Cost.l0, if_pos hlen, if_pos ⟨by omega, hlen⟩, hr0, c1, Option.bind_some, decide_eq_true ho, if_neg (by simp), if_pos (by rfl), w64_id (by omega) (by omega)]
        exact hrest.1
      · rw [hk, ref27_Cost.l0, if_pos hlen, if_pos (c := (0 : Int) ≤ 0 ∧ (0 : Int) < _) ⟨by omega, hlen⟩, hr0, c2, Option.bind_some, decide_eq_true ho, if_neg (by simp), if_neg (by omega), w64_id (by omega) (by omega)]
        exact hrest.2
    · rw [if_neg ho]
      constructor
      · rw [hk, trail_Cost.l0, if_pos hlen, if_pos ⟨by omega, hlen⟩, hr0, c1, Option.bind_some, decide_eq_false ho, if_pos (by rfl)]
        rfl
      · rw [hk, ref27_Cost.l0, if_pos hlen, if_pos (c := (0 : Int) ≤ 0 ∧ (0 : Int) < _) ⟨by omega, hlen⟩, hr0, c2, Option.bind_some, decide_eq_false ho, if_pos (by rfl)]
        rfl
theorem cost_no (hm : ¬ MapOk m) (hb : m.C.length < 4611686018427387904) (l : List Int) : trail_Cost.f m l = some (0, false) ∧ ref27_Cost.f m l = some (0, false) := by
  unfold trail_Cost.f ref27_Cost.f
  rw [atlas_may_f m hb, ref_may_f m hb, decide_eq_false hm, Option.bind_some, Option.bind_some]
  simp
/-- a path costs the distance -/
theorem path_cost (hm : MapOk m) (hc : CostOk m) (hf : Far m t D) {c : Int} {l : List Int} (hp : IsPath m t D c l) (hi : inMap m c) (hlt : rd D c < (1099511627776 : Int)) : costP m l = some (rd D c) := by
  induction hp with
  | done =>
    have ho := way_open (hf.way t hi hlt)
    rw [costP, if_pos ho, costT, far_goal hc hf ho]
  | @go c n l h1 h2 h3 ih =>
    obtain ⟨a1, a2, a3, a4⟩ := next_spec hm hc hf hi hlt h1
    have hcn := hc _ a3.1
    have ho := way_open (hf.way c hi hlt)
    have hsd := side_of (in_cell hm hi) a1 (by omega : dirP m D c ≤ 4) (in_cell hm a3.1)
    rw [← h2] at a3 a4 hcn hsd
    have e := ih a3.1 (by omega)
    obtain ⟨r, hr⟩ := path_head h3
    rw [hr] at e ⊢
    rw [costP, if_pos a3] at e
    rw [costP, if_pos ho, costT, if_pos ⟨a3, by rw [hsd]; exact a2⟩, e]
    simp; omega
theorem side_le {a b : Int} (h : sSide m.W m.H a b ≤ 3) : ∃ s : Int, 0 ≤ s ∧ s ≤ 3 ∧ sStep m.W m.H a s = b := by
  unfold sSide at h
  split at h
  · have key : ∀ (n : Nat) (s : Int), s + n = 5 → 0 ≤ s → sideFrom m.W m.H a b n s ≤ 3 → ∃ s : Int, 0 ≤ s ∧ s ≤ 3 ∧ sStep m.W m.H a s = b := by
      intro n
      induction n with
      | zero => intro s hs h0 hle; simp [sideFrom] at hle
      | succ n ih =>
        intro s hs h0 hle
        unfold sideFrom at hle
        split at hle
        · rename_i q; exact ⟨s, h0, hle, q⟩
        · exact ih (s + 1) (by omega) (by omega) hle
    exact key 5 0 (by omega) (by omega) h
  · omega
/-- what costs something is a way -/
theorem cost_way : ∀ (r : List Int) (c v : Int), Opn m c → costT m c r = some v → (c :: r).getLast (by simp) = t → Way m t c v
  | [], c, v, ho, h, e => by
    simp [costT] at h
    simp at e
    subst h e; exact Way.here ho
  | n :: r, c, v, ho, h, e => by
    unfold costT at h
    split at h
    · rename_i q
      cases e2 : costT m n r with
      | none => rw [e2] at h; cases h
      | some u =>
        rw [e2] at h
        have hw := cost_way r n u q.1 e2 (by rw [List.getLast_cons_cons] at e; exact e)
        obtain ⟨s, s0, s3, hs⟩ := side_le q.2
        have := Way.go s hw s0 s3 hs ho
        simp at h
        rw [← h]; exact this
    · cases h
/-- a way in two parts -/
theorem costT_split : ∀ (r : List Int) (p c v : Int) (B : List Int), costT m p (r ++ c :: B) = some v → ∃ u w, costT m p (r ++ [c]) = some u ∧ costT m c B = some w ∧ v = u + w
  | [], p, c, v, B, h => by
    simp only [List.nil_append] at h ⊢
    unfold costT at h
    split at h
    · rename_i q
      cases e2 : costT m c B with
      | none => rw [e2] at h; cases h
      | some w =>
        rw [e2] at h
        simp at h
        refine ⟨0 + rd m.C c, w, ?_, rfl, by omega⟩
        rw [costT, if_pos q, costT]; rfl
    · cases h
  | a :: r, p, c, v, B, h => by
    simp only [List.cons_append] at h ⊢
    unfold costT at h
    split at h
    · rename_i q
      cases e2 : costT m a (r ++ c :: B) with
      | none => rw [e2] at h; cases h
      | some x =>
        rw [e2] at h
        obtain ⟨u, w, h1, h2, h3⟩ := costT_split r a c x B e2
        simp at h
        refine ⟨u + rd m.C a, w, ?_, h2, by omega⟩
        rw [costT, if_pos q, h1]; rfl
    · cases h
theorem t_path : IsPath tM 2 [11, 9, 0] 0 [0, 1, 2] := .go (by decide) (by decide +kernel) (.go (by decide) (by decide +kernel) .done)
theorem told30 : law30_told.f = some true := by
  obtain ⟨D, e, hf⟩ := look_f t_ok t_cost (t := 2) ⟨by omega, by decide⟩
  have hD : D = [11, 9, 0] := far_eq t_ok hf t_far
  subst hD
  have hi : inMap tM 0 := ⟨by omega, by decide⟩
  have hlt : rd ([11, 9, 0] : List Int) 0 < (1099511627776 : Int) := by decide
  obtain ⟨l, hp, e1, _, _⟩ := path_of t_ok t_cost hf e hi hlt
  have hl : l = [0, 1, 2] := path_eq hp t_path
  subst hl
  have e2 := (cost_f' t_ok t_cost [0, 1, 2] (by simp)).1
  rw [path_cost t_ok t_cost hf hp hi hlt] at e2
  have e1' : trail_Path.f (api_Map.mk 3 1 [5, 2, 9]) 2 0 = some ([0, 1, 2], true) := e1
  have e2' : trail_Cost.f (api_Map.mk 3 1 [5, 2, 9]) [0, 1, 2] = some (0 + 11, true) := e2
  unfold law30_told.f
  rw [e1', Option.bind_some, e2', Option.bind_some, ints_self (by simp)]
  rfl
end Go.Proofs.Yticdodeoljodiaa
