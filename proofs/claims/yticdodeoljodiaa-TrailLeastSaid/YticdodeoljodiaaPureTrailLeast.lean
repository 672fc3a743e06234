/- A path goes from cell to goal, from open cell to open cell beside it, and costs just the distance; no way that is handed in costs less: any map of numbers, any goal, any cell, any steps from it, of which 60 are looked at. No condition. -/
import Derived.Test.YticdodeoljodiaaFLTrailLeast
import Derived.Test.YticdodeoljodiaaPtrail
namespace Go.Proofs.Yticdodeoljodiaa
open Go.Hx
set_option linter.unusedVariables false
set_option linter.unusedSimpArgs false

theorem last_app (c z : Int) (r : List Int) : (c :: (r ++ [z])).getLast (by simp) = z := by
  induction r generalizing c with
  | nil => rfl
  | cons a r ih => exact ih a
theorem least_l0 {m : api_Map} {t : Int} {D : List Int} (hm : MapOk m) (hc : CostOk m) (hf : Far m t D) (steps : List Int) (v4 : Int × Int × Int) (c : Int) (hv : v4.1 = rd D c) : ∀ (n k : Nat) (i at' : Int) (r : List Int), i + n = 60 → 0 ≤ i → n < k → r.length ≤ i.toNat → (c :: r).getLast (by simp) = at' →
    law30_TrailLeast.l0 k steps m t v4 at' (c :: r) i = some true := by
  have hl := hm.2.1
  have hpp := may_prod hm.1
  intro n
  induction n with
  | zero =>
    intro k i at' r hi h0 hk hr hlast
    obtain ⟨k, rfl⟩ := kpos hk
    rw [law30_TrailLeast.l0, if_neg (by simp; omega), told30]; rfl
  | succ n ih =>
    intro k i at' r hi h0 hk hr hlast
    obtain ⟨k, rfl⟩ := kpos hk
    by_cases hil : i < steps.length
    · rw [law30_TrailLeast.l0, if_pos (by simp; omega), if_pos (by omega), within_f (by omega) (by omega) (by omega) (by omega), Option.bind_some, rstep_f, Option.bind_some, w64_id (x := i + 1) (by omega) (by omega)]
      generalize 0 + rd steps i % (3 - 0 + 1) = s
      have hcond : (if sStep m.W m.H at' s ≥ 0 then (if (0 ≤ sStep m.W m.H at' s ∧ sStep m.W m.H at' s < (List.length m.C : Int)) then (some ((rd m.C (sStep m.W m.H at' s)) != 255)) else none) else (some false)) = some (decide (Opn m (sStep m.W m.H at' s))) := by
        by_cases hn : sStep m.W m.H at' s ≥ 0
        · have hin := step_in hm hn
          have hin2 := hin.2
          rw [if_pos hn, if_pos ⟨hin.1, by omega⟩]
          congr 1
          rw [Bool.eq_iff_iff]; simp [Opn, hin]
        · rw [if_neg hn, decide_eq_false (fun q => hn q.1.1)]
      rw [hcond, Option.bind_some]
      have next : ∃ a' r', (if decide (Opn m (sStep m.W m.H at' s)) = true then (if (List.length (c :: r) + 1 ≤ 1099511627776) then (some (sStep m.W m.H at' s, ((c :: r) ++ [sStep m.W m.H at' s]))) else none) else (some (at', (c :: r)))) = some (a', c :: r') ∧ r'.length ≤ (i + 1).toNat ∧ (c :: r').getLast (by simp) = a' := by
        by_cases ho : Opn m (sStep m.W m.H at' s)
        · rw [decide_eq_true ho, if_pos rfl, if_pos (by simp only [List.length_cons]; omega)]
          refine ⟨_, r ++ [sStep m.W m.H at' s], rfl, by simp; omega, ?_⟩
          exact last_app c _ r
        · rw [decide_eq_false ho, if_neg (by simp)]
          exact ⟨at', r, rfl, by omega, hlast⟩
      obtain ⟨a', r', e, h1, h2⟩ := next
      rw [e]
      simp only [Option.bind_some]
      have hgo := ih k (i + 1) a' r' (by omega) (by omega) (by omega) h1 h2
      by_cases hat : a' = t
      · have ec := (cost_f' hm hc (c :: r') (by simp only [List.length_cons]; omega)).1
        rw [if_pos (by simpa using hat), ec, Option.bind_some]
        have hno : ¬ ((told2 0 (costP m (c :: r'))).2 && decide ((told2 0 (costP m (c :: r'))).1 < v4.1)) = true := by
          cases hcp : costP m (c :: r') with
          | none => simp [told2]
          | some v =>
            rw [costP] at hcp
            split at hcp
            · rename_i ho
              have hw := cost_way (t := t) r' c v ho hcp (by rw [h2, hat])
              have := hf.le c v hw
              simp [told2]; omega
            · cases hcp
        rw [if_neg hno]
        exact hgo
      · rw [if_neg (by simpa using hat)]
        exact hgo
    · rw [law30_TrailLeast.l0, if_neg (by simp; omega), told30]; rfl
theorem path_last {m : api_Map} {t : Int} {D : List Int} {c : Int} {l : List Int} (h : IsPath m t D c l) : rd l ((l.length : Int) - 1) = t := by
  induction h with
  | done => rfl
  | @go c n l h1 h2 h3 ih =>
    obtain ⟨r, hr⟩ := path_head h3
    have hl : 1 ≤ l.length := by rw [hr]; simp
    have : rd (c :: l) (((c :: l).length : Int) - 1) = rd l ((l.length : Int) - 1) := by
      unfold rd
      have e1 : ((((c :: l).length : Nat) : Int) - 1).toNat = l.length := by simp only [List.length_cons]; omega
      have e2 : (((l.length : Nat) : Int) - 1).toNat = l.length - 1 := by omega
      rw [e1, e2]
      rw [show l.length = (l.length - 1) + 1 by omega]
      simp [List.getD]
    rw [this]; exact ih
theorem TrailLeast_pure : law30_TrailLeast.Pure := by
  intro w h c goal cell steps _ _ hc _ _ _ _ _
  unfold law30_TrailLeast.f
  obtain ⟨m, e, hm, hco, hl, h1, h2, hw, hh⟩ := made17 w h (c := c) (fun y hy => hc y hy)
  rw [e, Option.bind_some, w64_id (x := (m.C.length : Int) - 1) (by omega) (by omega)]
  have i1 := within_in (n := goal) (lo := 0) (hi := (m.C.length : Int) - 1) (by omega)
  have i2 := within_in (n := cell) (lo := 0) (hi := (m.C.length : Int) - 1) (by omega)
  rw [within_f (by omega) (by omega) (by omega) (by omega), Option.bind_some, within_f (by omega) (by omega) (by omega) (by omega), Option.bind_some]
  generalize 0 + goal % ((m.C.length : Int) - 1 - 0 + 1) = t at *
  generalize 0 + cell % ((m.C.length : Int) - 1 - 0 + 1) = x at *
  have hx : inMap m x := ⟨i2.1, by omega⟩
  have ht : inMap m t := ⟨i1.1, by omega⟩
  obtain ⟨D, l1, hD⟩ := look_f hm hco ht
  rw [query_of hm hco hD l1, if_pos (in_cell hm hx), Option.bind_some]
  by_cases hlt : rd D x < (1099511627776 : Int)
  · obtain ⟨p, hp, a1, a2, _⟩ := path_of hm hco hD l1 hx hlt
    have ec := (cost_f' hm hco p (by omega)).1
    rw [path_cost hm hco hD hp hx hlt] at ec
    obtain ⟨r, hr⟩ := path_head hp
    have hlast := path_last hp
    have hpl : 1 ≤ p.length := by rw [hr]; simp
    have h00 : rd p 0 = x := by rw [hr]; rfl
    rw [a1, Option.bind_some, ec, Option.bind_some]
    simp only [told2, Int.zero_add]
    rw [if_neg (by simp [hlt]), if_pos True.intro, if_neg (by simp), if_neg (by rw [beq_iff_eq]; omega), if_pos (by omega), h00, if_neg (by simp), w64_id (x := (p.length : Int) - 1) (by omega) (by omega), if_pos (by omega), hlast, if_neg (by simp), if_neg (by simp), Option.bind_some, if_neg (by simp)]
    exact least_l0 hm hco hD steps _ x rfl 60 fuel 0 x [] (by omega) (by omega) (by rw [fuelv]; omega) (by simp) rfl
  · obtain ⟨a1, _⟩ := path_far hm hco hD l1 hx hlt ht
    have ec := (cost_f' hm hco [] (by simp)).1
    rw [a1, Option.bind_some, ec, Option.bind_some]
    simp only [told2, costP]
    rw [if_neg (by simp; omega), if_neg (by simp), if_pos (by simp), Option.bind_some, if_neg (by simp)]
    exact least_l0 hm hco hD steps _ x rfl 60 fuel 0 x [] (by omega) (by omega) (by rw [fuelv]; omega) (by simp) rfl
end Go.Proofs.Yticdodeoljodiaa
