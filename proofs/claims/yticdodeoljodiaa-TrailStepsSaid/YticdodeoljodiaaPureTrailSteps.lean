/- A path has no more cells than the map, none twice; each further cell of it has the rest of it as its own path: any map of numbers, any goal, any cell, any place of the path. No condition. -/
import Derived.Test.YticdodeoljodiaaFLTrailSteps
import Derived.Test.YticdodeoljodiaaPtrail
namespace Go.Proofs.Yticdodeoljodiaa
open Go.Hx
set_option linter.unusedVariables false
set_option linter.unusedSimpArgs false

variable {m : api_Map} {t : Int} {D : List Int}
/-- the cells of a path: each can be reached, and is nearer than those ahead -/
theorem path_cells (hm : MapOk m) (hc : CostOk m) (hf : Far m t D) {c : Int} {l : List Int} (hp : IsPath m t D c l) (hi : inMap m c) (hlt : rd D c < (1099511627776 : Int)) : (∀ x ∈ l, inMap m x ∧ rd D x < (1099511627776 : Int) ∧ rd D x ≤ rd D c) ∧ l.Pairwise (fun a b => rd D b < rd D a) := by
  induction hp with
  | done => exact ⟨fun x hx => by simp at hx; subst hx; exact ⟨hi, hlt, by omega⟩, List.pairwise_singleton _ _⟩
  | @go c n l h1 h2 h3 ih =>
    obtain ⟨a1, a2, a3, a4⟩ := next_spec hm hc hf hi hlt h1
    have hcn := hc _ a3.1
    rw [← h2] at a3 a4 hcn
    obtain ⟨b1, b2⟩ := ih a3.1 (by omega)
    refine ⟨fun x hx => ?_, ?_⟩
    · rcases List.mem_cons.mp hx with rfl | hx
      · exact ⟨hi, hlt, by omega⟩
      · obtain ⟨q1, q2, q3⟩ := b1 x hx
        exact ⟨q1, q2, by omega⟩
    · rw [List.pairwise_cons]
      exact ⟨fun x hx => by have := (b1 x hx).2.2; omega, b2⟩
/-- the rest of a path is the path of its first cell -/
theorem path_drop {c : Int} {l : List Int} (hp : IsPath m t D c l) : ∀ j : Nat, j < l.length → IsPath m t D (rd l (j : Int)) (l.drop j) := by
  induction hp with
  | done =>
    intro j hj
    have : j = 0 := by simp at hj; omega
    subst this; exact .done
  | @go c n l h1 h2 h3 ih =>
    intro j hj
    cases j with
    | zero => exact .go h1 h2 h3
    | succ j =>
      have := ih j (by simp at hj; omega)
      have hr : rd (c :: l) ((j + 1 : Nat) : Int) = rd l (j : Int) := by
        unfold rd
        have e1 : ((j + 1 : Nat) : Int).toNat = j + 1 := by omega
        have e2 : ((j : Nat) : Int).toNat = j := by omega
        rw [e1, e2]; rfl
      rw [hr]; exact this
theorem sub_take (l : List Int) {j : Int} (h0 : 0 ≤ j) : sub' l 0 j = l.take j.toNat := by unfold sub'; simp
theorem sub_drop (l : List Int) {j : Int} (h0 : 0 ≤ j) (h1 : j ≤ l.length) : sub' l j (l.length : Int) = l.drop j.toNat := by
  unfold sub'
  rw [List.take_of_length_le]
  rw [List.length_drop]; omega
/-- what the two parts of a path cost -/
theorem cost_parts {c v : Int} {l : List Int} (hv : costP m l = some v) {j : Nat} (hj : j < l.length) (hl : l.head? = some c) : ∃ u w, costP m (l.take (j + 1)) = some u ∧ costP m (l.drop j) = some w ∧ u + w = v := by
  cases l with
  | nil => cases hl
  | cons a r =>
    rw [costP] at hv
    split at hv
    · rename_i ho
      cases j with
      | zero =>
        refine ⟨0, v, ?_, ?_, by omega⟩
        · simp [costP, ho, costT]
        · simp [costP, ho, hv]
      | succ j =>
        have hjr : j < r.length := by simp at hj; omega
        have hsp : r = r.take j ++ r[j] :: r.drop (j + 1) := by
          rw [← List.drop_eq_getElem_cons hjr, List.take_append_drop]
        rw [hsp] at hv
        obtain ⟨u, w, q1, q2, q3⟩ := costT_split (r.take j) a r[j] v (r.drop (j + 1)) hv
        have hod : Opn m r[j] := by
          -- a cell of what costs something is open
          have key : ∀ (A : List Int) (p x y : Int), costT m p (A ++ [x]) = some y → Opn m x := by
            intro A
            induction A with
            | nil =>
              intro p x y h
              simp only [List.nil_append] at h
              unfold costT at h
              split at h
              · rename_i q; exact q.1
              · cases h
            | cons b A ih =>
              intro p x y h
              simp only [List.cons_append] at h
              unfold costT at h
              split at h
              · cases e : costT m b (A ++ [x]) with
                | none => rw [e] at h; cases h
                | some z => exact ih b x z e
              · cases h
          exact key _ _ _ _ q1
        refine ⟨u, w, ?_, ?_, by omega⟩
        · rw [List.take_succ_cons, costP, if_pos ho, List.take_succ_eq_append_getElem hjr]; exact q1
        · rw [List.drop_succ_cons, List.drop_eq_getElem_cons hjr, costP, if_pos hod]; exact q2
    · cases hv
theorem steps_l0 (hm : MapOk m) (hc : CostOk m) (hf : Far m t D) (hlk : flat_look.f m t = some (some (flat_plain.mk m D), 0)) (p5 : Int) {c : Int} {l : List Int} (hp : IsPath m t D c l) (hi : inMap m c) (hlt : rd D c < (1099511627776 : Int)) (hlen : l.length ≤ 300000001) : ∀ (n k : Nat) (i : Int) (x : List Bool), i + n = l.length → 0 ≤ i → n < k → x.length = m.C.length → (∀ y : Int, 0 ≤ y → y < x.length → (rd x y = true ↔ y ∈ l.take i.toNat)) →
    law30_TrailSteps.l0 k p5 m t (l, true) x i = some true := by
  have hl := hm.2.1
  obtain ⟨hcells, hpair⟩ := path_cells hm hc hf hp hi hlt
  obtain ⟨r, hr⟩ := path_head hp
  have hl1 : 1 ≤ l.length := by rw [hr]; simp
  intro n
  induction n with
  | zero =>
    intro k i x hin h0 hk hx hr'
    obtain ⟨k, rfl⟩ := kpos hk
    have iw := within_in (n := p5) (lo := 0) (hi := (l.length : Int) - 1) (by omega)
    rw [law30_TrailSteps.l0, if_neg (by simp only; omega), if_neg (by rw [beq_iff_eq]; simp only; omega)]
    simp only
    rw [w64_id (x := (l.length : Int) - 1) (by omega) (by omega), within_f (by omega) (by omega) (by omega) (by omega), Option.bind_some]
    generalize 0 + p5 % ((l.length : Int) - 1 - 0 + 1) = j at *
    have hmem := rdmem (a := l) (i := j) iw.1 (by omega)
    obtain ⟨m1, m2, m3⟩ := hcells _ hmem
    have hpd := path_drop hp j.toNat (by omega)
    rw [show ((j.toNat : Nat) : Int) = j by omega] at hpd
    obtain ⟨p, hp2, e1, e2, _⟩ := path_of hm hc hf hlk m1 m2
    have hpe : p = l.drop j.toNat := path_eq hp2 hpd
    subst hpe
    have hcost := path_cost hm hc hf hp hi hlt
    obtain ⟨u, w, q1, q2, q3⟩ := cost_parts (c := c) hcost (j := j.toNat) (by omega) (by rw [hr]; rfl)
    have f1 := (cost_f' hm hc (l.take (j.toNat + 1)) (by rw [List.length_take]; omega)).1
    have f2 := (cost_f' hm hc (l.drop j.toNat) (by rw [List.length_drop]; omega)).1
    have f3 := (cost_f' hm hc l (by omega)).1
    rw [q1] at f1
    rw [q2] at f2
    rw [hcost] at f3
    have hsm := far_small hm hc hf hi hlt
    have h0D := far_nn hc hf hi
    have hu : 0 ≤ u ∧ 0 ≤ w := by
      constructor
      · rw [hr] at q1
        rw [List.take_succ_cons, costP] at q1
        split at q1
        · exact costT_nn hc _ _ _ q1
        · cases q1
      · rw [List.drop_eq_getElem_cons (by omega), costP] at q2
        split at q2
        · exact costT_nn hc _ _ _ q2
        · cases q2
    rw [if_pos (by omega), e1, Option.bind_some, w64_id (x := j + 1) (by omega) (by omega), if_pos (by omega), sub_take l (by omega : 0 ≤ j + 1), show (j + 1).toNat = j.toNat + 1 by omega, f1, Option.bind_some, if_pos (by omega), sub_drop l iw.1 (by omega), f2, Option.bind_some, f3, Option.bind_some, told30, Option.bind_some, if_pos (by rfl), if_pos (by omega), ints_self (by rw [List.length_drop]; omega)]
    simp only [told2, Option.bind_some, Int.zero_add]
    rw [w64_id (by omega) (by omega), q3]
    simp
  | succ n ih =>
    intro k i x hin h0 hk hx hr'
    obtain ⟨k, rfl⟩ := kpos hk
    have hil : i < (l.length : Int) := by omega
    obtain ⟨m1, m2, m3⟩ := hcells _ (rdmem h0 hil)
    have m12 := m1.2
    have hnew : rd x (rd l i) = false := by
      by_cases hq : rd x (rd l i) = true
      · exfalso
        have hmem := (hr' _ m1.1 (by omega)).mp hq
        obtain ⟨j, j0, j1, j2⟩ := memrd hmem
        rw [List.length_take] at j1
        have e : rd (l.take i.toNat) j = rd l j := by
          unfold rd; simp [List.getD, List.getElem?_take, show j.toNat < i.toNat by omega]
        rw [e] at j2
        have := pairrd hpair (i := j) (j := i) j0 (by omega) hil
        rw [j2] at this; omega
      · simpa using hq
    have hcond : (if (0 ≤ i ∧ i < (List.length l : Int)) then (if (rd l i) < 0 then (some true) else (if (rd l i) ≥ (List.length m.C : Int) then (some true) else (if (0 ≤ (rd l i) ∧ (rd l i) < (List.length x : Int)) then (some (rd x (rd l i))) else none))) else none) = some false := by
      rw [if_pos ⟨h0, hil⟩, if_neg (by have := m1.1; omega), if_neg (by omega), if_pos ⟨m1.1, by omega⟩, hnew]
    rw [law30_TrailSteps.l0, if_pos (by simp only; omega)]
    simp only
    rw [hcond, Option.bind_some, if_neg (by simp), if_pos ⟨h0, hil⟩, if_pos ⟨m1.1, by omega⟩, w64_id (by omega) (by omega)]
    refine ih k (i + 1) _ (by omega) (by omega) (by omega) (by simpa using hx) (fun y y0 y1 => ?_)
    rw [List.length_set] at y1
    rw [rds m1.1 (by omega) y0, takec h0 hil, List.mem_append, List.mem_singleton]
    by_cases hy : y = rd l i
    · rw [if_pos hy]; simp [hy]
    · rw [if_neg hy, hr' y y0 y1]; simp [hy]
theorem TrailSteps_pure : law30_TrailSteps.Pure := by
  intro w h c goal cell p5 _ _ hc _ _ _ _
  unfold law30_TrailSteps.f
  obtain ⟨m, e, hm, hco, hl, h1, h2, hw, hh⟩ := made17 w h (c := c) (fun y hy => hc y hy)
  rw [e, Option.bind_some, w64_id (x := (m.C.length : Int) - 1) (by omega) (by omega)]
  have i1 := within_in (n := goal) (lo := 0) (hi := (m.C.length : Int) - 1) (by omega)
  have i2 := within_in (n := cell) (lo := 0) (hi := (m.C.length : Int) - 1) (by omega)
  rw [within_f (by omega) (by omega) (by omega) (by omega), Option.bind_some, within_f (by omega) (by omega) (by omega) (by omega), Option.bind_some]
  generalize 0 + goal % ((m.C.length : Int) - 1 - 0 + 1) = t at *
  generalize 0 + cell % ((m.C.length : Int) - 1 - 0 + 1) = x at *
  have hx : inMap m x := ⟨i2.1, by omega⟩
  have ht : inMap m t := ⟨i1.1, by omega⟩
  obtain ⟨D, l1, hD⟩ := look_f hm hco ht
  by_cases hlt : rd D x < (1099511627776 : Int)
  · obtain ⟨p, hp, a1, a2, _⟩ := path_of hm hco hD l1 hx hlt
    rw [a1, Option.bind_some, if_neg (by simp), if_pos (by omega)]
    refine steps_l0 hm hco hD l1 p5 hp hx hlt a2 p.length fuel 0 _ (by omega) (by omega) (by rw [fuelv]; omega) (by simp) (fun y y0 y1 => ?_)
    rw [rdrep y0 (by simpa using y1)]
    simp
  · obtain ⟨a1, _⟩ := path_far hm hco hD l1 hx hlt ht
    rw [a1, Option.bind_some, if_pos (by simp), told30]
    rfl
end Go.Proofs.Yticdodeoljodiaa
