/- Each open cell is as far as the least of the cells beside it with their own costs, the goal not at all, a wall has no way: any map of numbers, any goal. No condition. -/
import Derived.Test.YtmjcmkimhkjdeaaFLFlatFixed
import Derived.Test.YtmjcmkimhkjdeaaPfar
namespace Go.Proofs.Ytmjcmkimhkjdeaa
open Go.Hx
set_option linter.unusedVariables false
set_option linter.unusedSimpArgs false

theorem fixed_l1 {m : api_Map} {t : Int} {D : List Int} (hm : MapOk m) (hc : CostOk m) (hf : Far m t D) {c : Int} (hi : inMap m c) : ∀ (n k : Nat) (j y : Int), j + n = 4 → 0 ≤ j → n < k → y ≤ (1099511627776 : Int) →
    (c ≠ t → Opn m c → rd D c ≤ y) → (c ≠ t → Opn m c → rd D c < (1099511627776 : Int) → (y = rd D c ∨ ∃ s : Int, j ≤ s ∧ s ≤ 3 ∧ byP m D c s = true)) → (c ≠ t → Opn m c → rd D c = (1099511627776 : Int) → y = (1099511627776 : Int)) →
    law17_FlatFixed.l1 k m t (D, 0) c y j = some (Sum.inr ()) := by
  have hl := hm.2.1
  have hD := hf.len
  have hi1 := hi.1
  have hi2 := hi.2
  intro n
  induction n with
  | zero =>
    intro k j y hj h0 hk hy q1 q2 q3
    obtain ⟨k, rfl⟩ := kpos hk
    have htop := hf.top c hi
    have hx : (if (c == t) = true then (some 0) else (some y) : Option Int) = some (if c = t then 0 else y) := by
      by_cases q : c = t
      · rw [if_pos (by simpa using q), if_pos q]
      · rw [if_neg (by simpa using q), if_neg q]
    rw [law17_FlatFixed.l1, if_neg (by omega), hx, Option.bind_some, if_pos ⟨hi1, by omega⟩]
    simp only
    by_cases hw : rd m.C c = 255
    · have := far_wall hf hi (fun q => q.2 hw)
      rw [if_pos (by simpa using hw), if_pos ⟨hi1, by omega⟩, if_neg (by simp [this])]
    · have ho : Opn m c := ⟨hi, hw⟩
      have key : rd D c = (if c = t then 0 else y) := by
        by_cases q : c = t
        · rw [if_pos q, q]; rw [q] at ho; exact far_goal hc hf ho
        · rw [if_neg q]
          by_cases hq : rd D c < (1099511627776 : Int)
          · rcases q2 q ho hq with h | ⟨s, s0, s3, _⟩
            · exact h.symm
            · omega
          · have h1 : rd D c = (1099511627776 : Int) := by omega
            rw [h1, q3 q ho h1]
      have hle : ¬ ((1099511627776 : Int) < (if c = t then 0 else y)) := by rw [← key]; omega
      rw [if_neg (by simpa using hw), if_pos ⟨hi1, by omega⟩, if_neg hle, key, if_neg (by simp)]
  | succ n ih =>
    intro k j y hj h0 hk hy q1 q2 q3
    obtain ⟨k, rfl⟩ := kpos hk
    rw [law17_FlatFixed.l1, if_pos (by omega), rstep_f, Option.bind_some, w64_id (x := j + 1) (by omega) (by omega)]
    have hcond : (if sStep m.W m.H c j ≥ 0 then (if (0 ≤ sStep m.W m.H c j ∧ sStep m.W m.H c j < (List.length m.C : Int)) then (some ((rd m.C (sStep m.W m.H c j)) != 255)) else none) else (some false)) = some (decide (Opn m (sStep m.W m.H c j))) := by
      by_cases hn : sStep m.W m.H c j ≥ 0
      · have hin := step_in hm hn
        have hin2 := hin.2
        rw [if_pos hn, if_pos ⟨hin.1, by omega⟩]
        congr 1
        rw [Bool.eq_iff_iff]; simp [Opn, hin]
      · rw [if_neg hn, decide_eq_false (fun q => hn q.1.1)]
    rw [hcond, Option.bind_some]
    by_cases ho : Opn m (sStep m.W m.H c j)
    · have hin2 := ho.1.2
      have hcn := hc _ ho.1
      have t1 := hf.top _ ho.1
      have t0 := far_nn hc hf ho.1
      rw [decide_eq_true ho, if_pos rfl]
      simp only
      rw [if_pos ⟨ho.1.1, by omega⟩, if_pos ⟨ho.1.1, by omega⟩, w64_id (x := rd m.C _) (by omega) (by omega), w64_id (x := _ + _) (by omega) (by omega)]
      have hle : Opn m c → rd D c ≤ rd D (sStep m.W m.H c j) + rd m.C (sStep m.W m.H c j) := fun hoc => by
        by_cases hq : rd D (sStep m.W m.H c j) < (1099511627776 : Int)
        · exact far_le hf hoc ho h0 (by omega) rfl hq
        · have := hf.top c hi; omega
      by_cases hlt : rd D (sStep m.W m.H c j) + rd m.C (sStep m.W m.H c j) < y
      · rw [if_pos hlt]
        refine ih k (j + 1) _ (by omega) (by omega) (by omega) (by omega) (fun _ b => hle b) (fun a b d => ?_) (fun a b d => ?_)
        · rcases q2 a b d with h | ⟨s, s0, s3, hs⟩
          · have := hle b; omega
          · by_cases hsj : s = j
            · left
              rw [hsj] at hs
              unfold byP at hs
              have := (of_decide_eq_true hs).2; omega
            · exact .inr ⟨s, by omega, s3, hs⟩
        · have h1 := q3 a b d
          have := hle b; omega
      · rw [if_neg hlt]
        refine ih k (j + 1) y (by omega) (by omega) (by omega) hy q1 (fun a b d => ?_) q3
        rcases q2 a b d with h | ⟨s, s0, s3, hs⟩
        · exact .inl h
        · by_cases hsj : s = j
          · left
            rw [hsj] at hs
            unfold byP at hs
            have h1 := (of_decide_eq_true hs).2
            have h2 := q1 a b
            omega
          · exact .inr ⟨s, by omega, s3, hs⟩
    · rw [decide_eq_false ho, if_neg (by simp)]
      refine ih k (j + 1) y (by omega) (by omega) (by omega) hy q1 (fun a b d => ?_) q3
      rcases q2 a b d with h | ⟨s, s0, s3, hs⟩
      · exact .inl h
      · by_cases hsj : s = j
        · exfalso
          rw [hsj] at hs
          unfold byP at hs
          exact ho (of_decide_eq_true hs).1
        · exact .inr ⟨s, by omega, s3, hs⟩
theorem fixed_l0 {m : api_Map} {t : Int} {D : List Int} (hm : MapOk m) (hc : CostOk m) (hf : Far m t D) : ∀ (n k : Nat) (i : Int), i + n = D.length → 0 ≤ i → n < k → law17_FlatFixed.l0 k m t (D, 0) i = some true := by
  have hl := hm.2.1
  have hD := hf.len
  have hpp := may_prod hm.1
  intro n
  induction n with
  | zero =>
    intro k i hi h0 hk
    obtain ⟨k, rfl⟩ := kpos hk
    rw [law17_FlatFixed.l0, if_neg (by simp only; omega), told17]; rfl
  | succ n ih =>
    intro k i hi h0 hk
    obtain ⟨k, rfl⟩ := kpos hk
    have hin : inMap m i := ⟨h0, by omega⟩
    have := fixed_l1 hm hc hf hin 4 fuel 0 (1099511627776 : Int) (by omega) (by omega) (by rw [fuelv]; omega) (by omega) (fun _ _ => hf.top i hin) (fun a b d => by
      obtain ⟨x, s, s0, s3, hs, ho, e, _⟩ := far_step hm hc hf hin d a
      exact .inr ⟨s, s0, s3, by unfold byP; rw [hs]; exact decide_eq_true ⟨ho, by omega⟩⟩) (fun _ _ _ => rfl)
    rw [law17_FlatFixed.l0, if_pos (by simp only; omega), this]
    simp only [Option.bind_some]
    rw [w64_id (by omega) (by omega)]
    exact ih k (i + 1) (by omega) (by omega) (by omega)
theorem FlatFixed_pure : law17_FlatFixed.Pure := by
  intro w h c goal _ _ hc _ _
  unfold law17_FlatFixed.f
  obtain ⟨m, e, hm, hco, hl, h1, h2, hw, hh⟩ := made17 w h (c := c) (fun y hy => hc y hy)
  rw [e, Option.bind_some, w64_id (x := (m.C.length : Int) - 1) (by omega) (by omega)]
  have i1 := within_in (n := goal) (lo := 0) (hi := (m.C.length : Int) - 1) (by omega)
  rw [within_f (by omega) (by omega) (by omega) (by omega), Option.bind_some]
  generalize 0 + goal % ((m.C.length : Int) - 1 - 0 + 1) = t at *
  have ht : inMap m t := ⟨i1.1, by omega⟩
  obtain ⟨D, l1, hD⟩ := look_f hm hco ht
  have hlen := hD.len
  rw [dist_of l1, Option.bind_some, if_neg (by simp), Option.bind_some, if_neg (by simp [hlen])]
  exact fixed_l0 hm hco hD D.length fuel 0 (by omega) (by omega) (by rw [fuelv]; omega)
end Go.Proofs.Ytmjcmkimhkjdeaa
