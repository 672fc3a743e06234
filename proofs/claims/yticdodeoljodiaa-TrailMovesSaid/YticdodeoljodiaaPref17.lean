import Derived.Test.YticdodeoljodiaaPfar
import Derived.Test.YticdodeoljodiaaFref11
namespace Go.Proofs.Yticdodeoljodiaa
open Go.Hx
set_option linter.unusedVariables false
set_option linter.unusedSimpArgs false

/-- distances that are told so far: none too small -/
structure Up (m : api_Map) (t : Int) (D : List Int) : Prop where
  len : D.length = m.C.length
  top : ∀ c : Int, inMap m c → rd D c ≤ (1099511627776 : Int)
  way : ∀ c : Int, inMap m c → rd D c < (1099511627776 : Int) → Way m t c (rd D c)
  goal : rd D t ≤ 0
/-- nothing is won by a side -/
def Still (m : api_Map) (D : List Int) (c s : Int) : Prop := Opn m (sStep m.W m.H c s) → rd D (sStep m.W m.H c s) < (1099511627776 : Int) → rd D c ≤ rd D (sStep m.W m.H c s) + rd m.C (sStep m.W m.H c s)
variable {m : api_Map} {t : Int}
def sumD (D : List Int) : Int := lsum (fun x => x) D
theorem up_nn (hc : CostOk m) {D : List Int} (h : Up m t D) {c : Int} (hi : inMap m c) : 0 ≤ rd D c := by
  by_cases hd : rd D c < (1099511627776 : Int)
  · exact way_nn hc (h.way c hi hd)
  · omega
theorem sum_set {D : List Int} {c v : Int} (h0 : 0 ≤ c) (h1 : c < D.length) : sumD (List.set D c.toNat v) = sumD D - rd D c + v := by
  unfold sumD
  rw [lsum_set _ D c.toNat v (by omega), show ((c.toNat : Nat) : Int) = c by omega]
theorem sum_nn (hm : MapOk m) (hc : CostOk m) {D : List Int} (h : Up m t D) : 0 ≤ sumD D := lsum_nn _ _ (fun x hx => by
  obtain ⟨i, i0, i1, rfl⟩ := memrd hx
  have hl := hm.2.1
  have := h.len
  exact up_nn hc h ⟨i0, by omega⟩)
theorem flat_l3 (hm : MapOk m) (hc : CostOk m) {c : Int} (hi : inMap m c) : ∀ (n k : Nat) (j : Int) (D : List Int) (b : Bool), j + n = 4 → 0 ≤ j → n < k → Up m t D →
    ∃ D' b', ref11_Flat.l3 k m c D b j = some (D', b') ∧ Up m t D' ∧ ((b' = b ∧ D' = D ∧ (Opn m c → ∀ s : Int, j ≤ s → s ≤ 3 → Still m D c s)) ∨ (b' = true ∧ sumD D' + 1 ≤ sumD D)) := by
  have hl := hm.2.1
  have hi1 := hi.1
  have hi2 := hi.2
  intro n
  induction n with
  | zero =>
    intro k j D b hj h0 hk hu
    obtain ⟨k, rfl⟩ := kpos hk
    exact ⟨D, b, by rw [ref11_Flat.l3, if_neg (c := j ≤ 3) (by omega), Option.bind_some, if_neg (by simp)], hu, .inl ⟨rfl, rfl, fun _ s q1 q2 => by omega⟩⟩
  | succ n ih =>
    intro k j D b hj h0 hk hu
    obtain ⟨k, rfl⟩ := kpos hk
    have hD := hu.len
    rw [ref11_Flat.l3, if_pos (c := j ≤ 3) (by omega), if_pos ⟨hi1, by omega⟩, Option.bind_some]
    by_cases hw : rd m.C c = 255
    · rw [if_neg (by simpa using hw)]
      exact ⟨D, b, rfl, hu, .inl ⟨rfl, rfl, fun q => absurd hw q.2⟩⟩
    · have ho : Opn m c := ⟨hi, hw⟩
      rw [if_pos (by simpa using hw), rstep_f, Option.bind_some, w64_id (x := j + 1) (by omega) (by omega)]
      have hcond : (if sStep m.W m.H c j ≥ 0 then (if (0 ≤ sStep m.W m.H c j ∧ sStep m.W m.H c j < (List.length m.C : Int)) then (if ((rd m.C (sStep m.W m.H c j)) != 255) = true then (if (0 ≤ sStep m.W m.H c j ∧ sStep m.W m.H c j < (List.length D : Int)) then (if (rd D (sStep m.W m.H c j)) < 1099511627776 then (if (0 ≤ c ∧ c < (List.length D : Int)) then (some (decide ((w64 ((rd D (sStep m.W m.H c j)) + (w64 (rd m.C (sStep m.W m.H c j))))) < (rd D c)))) else none) else (some false)) else none) else (some false)) else none) else (some false)) = some (decide (Opn m (sStep m.W m.H c j) ∧ rd D (sStep m.W m.H c j) < (1099511627776 : Int) ∧ rd D (sStep m.W m.H c j) + rd m.C (sStep m.W m.H c j) < rd D c)) := by
        by_cases hn : sStep m.W m.H c j ≥ 0
        · have hin := step_in hm hn
          have hin2 := hin.2
          have hcn := hc _ hin
          have t1 := hu.top _ hin
          have t0 := up_nn hc hu hin
          rw [if_pos hn, if_pos ⟨hin.1, by omega⟩]
          by_cases hw : rd m.C (sStep m.W m.H c j) = 255
          · rw [if_neg (by simpa using hw), decide_eq_false (fun q => q.1.2 hw)]
          · rw [if_pos (by simpa using hw), if_pos ⟨hin.1, by omega⟩]
            by_cases hlt : rd D (sStep m.W m.H c j) < (1099511627776 : Int)
            · rw [if_pos hlt, if_pos ⟨hi1, by omega⟩, w64_id (x := rd m.C _) (by omega) (by omega), w64_id (by omega) (by omega)]
              congr 1
              rw [Bool.eq_iff_iff]
              simp [Opn, hin, hw, hlt]
            · rw [if_neg hlt, decide_eq_false (fun q => hlt q.2.1)]
        · rw [if_neg hn, decide_eq_false (fun q => hn q.1.1.1)]
      rw [hcond, Option.bind_some]
      by_cases hq : Opn m (sStep m.W m.H c j) ∧ rd D (sStep m.W m.H c j) < (1099511627776 : Int) ∧ rd D (sStep m.W m.H c j) + rd m.C (sStep m.W m.H c j) < rd D c
      · obtain ⟨q1, q2, q3⟩ := hq
        have hin2 := q1.1.2
        have hcn := hc _ q1.1
        have t0 := up_nn hc hu q1.1
        have tc := hu.top c hi
        rw [decide_eq_true ⟨q1, q2, q3⟩, if_pos rfl, if_pos ⟨q1.1.1, by omega⟩, if_pos ⟨q1.1.1, by omega⟩, if_pos ⟨hi1, by omega⟩, w64_id (x := rd m.C _) (by omega) (by omega), w64_id (x := _ + _) (by omega) (by omega)]
        have hrd : ∀ x : Int, 0 ≤ x → rd (List.set D c.toNat (rd D (sStep m.W m.H c j) + rd m.C (sStep m.W m.H c j))) x = if x = c then rd D (sStep m.W m.H c j) + rd m.C (sStep m.W m.H c j) else rd D x := fun x x0 => rds hi1 (by omega) x0
        have hsum := sum_set (D := D) (c := c) (v := rd D (sStep m.W m.H c j) + rd m.C (sStep m.W m.H c j)) hi1 (by omega)
        have hw2 := Way.go j (hu.way _ q1.1 q2) h0 (by omega) rfl ho
        have ht0 := (way_goal hw2).1.1
        have hup : Up m t (List.set D c.toNat (rd D (sStep m.W m.H c j) + rd m.C (sStep m.W m.H c j))) := by
          refine ⟨by simpa using hD, fun x hx => ?_, fun x hx hlt => ?_, ?_⟩
          · rw [hrd x hx.1]; split
            · omega
            · exact hu.top x hx
          · rw [hrd x hx.1] at hlt ⊢
            split at hlt
            · rename_i q; rw [if_pos q, q]; exact hw2
            · rename_i q; rw [if_neg q]; exact hu.way x hx hlt
          · rw [hrd t ht0]
            have := hu.goal
            split
            · rename_i q
              rw [q] at this; omega
            · exact this
        obtain ⟨D', b', e, hu', hr⟩ := ih k (j + 1) _ true (by omega) (by omega) (by omega) hup
        refine ⟨D', b', e, hu', .inr ?_⟩
        rcases hr with ⟨a1, a2, _⟩ | ⟨a1, a2⟩
        · exact ⟨a1, by rw [a2]; omega⟩
        · exact ⟨a1, by omega⟩
      · rw [decide_eq_false hq, if_neg (by simp)]
        obtain ⟨D', b', e, hu', hr⟩ := ih k (j + 1) D b (by omega) (by omega) (by omega) hu
        refine ⟨D', b', e, hu', ?_⟩
        rcases hr with ⟨a1, a2, a3⟩ | a
        · refine .inl ⟨a1, a2, fun _ s s0 s3 => ?_⟩
          by_cases hs : s = j
          · rw [hs]
            intro p1 p2
            by_cases p3 : rd D (sStep m.W m.H c j) + rd m.C (sStep m.W m.H c j) < rd D c
            · exact absurd ⟨p1, p2, p3⟩ hq
            · omega
          · exact a3 ho s (by omega) s3
        · exact .inr a
theorem flat_l2 (hm : MapOk m) (hc : CostOk m) : ∀ (n k : Nat) (i : Int) (D : List Int) (b : Bool), i + n = 2 * m.C.length → 0 ≤ i → n < k → Up m t D →
    ∃ D' b', ref11_Flat.l2 k m D b i = some (D', b') ∧ Up m t D' ∧ ((b' = b ∧ D' = D ∧ ∀ c : Int, Opn m c → i ≤ c → ∀ s : Int, 0 ≤ s → s ≤ 3 → Still m D c s) ∨ (b' = true ∧ sumD D' + 1 ≤ sumD D)) := by
  have hl := hm.2.1
  have hpp := may_prod hm.1
  intro n
  induction n with
  | zero =>
    intro k i D b hi h0 hk hu
    obtain ⟨k, rfl⟩ := kpos hk
    refine ⟨D, b, by rw [ref11_Flat.l2, w64_id (by omega) (by omega), if_neg (by omega)], hu, .inl ⟨rfl, rfl, fun c hc q => ?_⟩⟩
    have := hc.1.2; omega
  | succ n ih =>
    intro k i D b hi h0 hk hu
    obtain ⟨k, rfl⟩ := kpos hk
    have hx : ∃ c : Int, inMap m c ∧ (i < m.C.length → c = i) ∧ (if i ≥ (List.length m.C : Int) then (some (w64 ((w64 ((w64 (2 * (List.length m.C : Int))) - 1)) - i))) else (some i)) = some c := by
      by_cases hq : i ≥ (List.length m.C : Int)
      · rw [if_pos hq, w64_id (x := 2 * _) (by omega) (by omega), w64_id (x := _ - 1) (by omega) (by omega), w64_id (by omega) (by omega)]
        exact ⟨_, ⟨by omega, by omega⟩, fun q => by omega, rfl⟩
      · rw [if_neg hq]; exact ⟨i, ⟨h0, by omega⟩, fun _ => rfl, rfl⟩
    obtain ⟨c, hc1, hc2, e⟩ := hx
    rw [ref11_Flat.l2, e, Option.bind_some, w64_id (x := 2 * _) (by omega) (by omega), if_pos (by omega)]
    obtain ⟨D1, b1, e1, hu1, hr1⟩ := flat_l3 hm hc hc1 4 fuel 0 D b (by omega) (by omega) (by rw [fuelv]; omega) hu
    rw [e1]
    simp only [Option.bind_some]
    rw [w64_id (by omega) (by omega)]
    obtain ⟨D2, b2, e2, hu2, hr2⟩ := ih k (i + 1) D1 b1 (by omega) (by omega) (by omega) hu1
    refine ⟨D2, b2, e2, hu2, ?_⟩
    rcases hr1 with ⟨a1, a2, a3⟩ | ⟨a1, a2⟩
    · subst a1 a2
      rcases hr2 with ⟨p1, p2, p3⟩ | p
      · refine .inl ⟨p1, p2, fun x hx hix s s0 s3 => ?_⟩
        by_cases hq : x = i
        · have hlt := hx.1.2
          have hci := hc2 (by omega)
          rw [hq, ← hci]
          rw [hq, ← hci] at hx
          exact a3 hx s s0 s3
        · exact p3 x hx (by omega) s s0 s3
      · exact .inr p
    · rcases hr2 with ⟨p1, p2, _⟩ | ⟨p1, p2⟩
      · exact .inr ⟨by rw [p1, a1], by rw [p2]; exact a2⟩
      · exact .inr ⟨p1, by omega⟩
theorem up_far (hm : MapOk m) (hc : CostOk m) {D : List Int} (h : Up m t D) (hs : ∀ c : Int, Opn m c → 0 ≤ c → ∀ s : Int, 0 ≤ s → s ≤ 3 → Still m D c s) : Far m t D := by
  refine ⟨h.len, h.way, fun c k hw => ?_, h.top⟩
  induction hw with
  | here _ => exact h.goal
  | @go c' k' n s h1 s0 s3 hst ho ih =>
    have hcc := hc c' (way_open h1).1
    have hn0 := way_nn hc h1
    by_cases hq : rd D c' < (1099511627776 : Int)
    · have := hs n ho ho.1.1 s s0 s3 (by rw [hst]; exact way_open h1) (by rw [hst]; exact hq)
      rw [hst] at this; omega
    · have := h.top n ho.1; omega
theorem flat_l1 (hm : MapOk m) (hc : CostOk m) : ∀ (n k : Nat) (D : List Int), sumD D ≤ n → n + 1 < k → Up m t D → ∃ D', ref11_Flat.l1 k m D true = some D' ∧ Far m t D' := by
  have hl := hm.2.1
  have hpp := may_prod hm.1
  have fin : ∀ (k : Nat) (D : List Int), 1 < k → Up m t D → (∃ D' b', ref11_Flat.l2 fuel m D false 0 = some (D', b') ∧ b' = false ∧ D' = D ∧ ∀ c : Int, Opn m c → 0 ≤ c → ∀ s : Int, 0 ≤ s → s ≤ 3 → Still m D c s) → ∃ D', ref11_Flat.l1 k m D true = some D' ∧ Far m t D' := by
    intro k D hk hu h
    obtain ⟨D', b', e, rfl, rfl, h3⟩ := h
    obtain ⟨k, rfl⟩ : ∃ q, k = q + 2 := ⟨k - 2, by omega⟩
    refine ⟨D', ?_, up_far hm hc hu h3⟩
    rw [ref11_Flat.l1, if_pos rfl, e]
    simp only [Option.bind_some]
    rw [ref11_Flat.l1, if_neg (by simp)]
  intro n
  induction n with
  | zero =>
    intro k D hs hk hu
    obtain ⟨D', b', e, hu', hr⟩ := flat_l2 hm hc (2 * m.C.length) fuel 0 D false (by omega) (by omega) (by rw [fuelv]; omega) hu
    rcases hr with ⟨a1, a2, a3⟩ | ⟨a1, a2⟩
    · exact fin k D (by omega) hu ⟨D', b', e, a1, a2, a3⟩
    · have := sum_nn hm hc hu'; omega
  | succ n ih =>
    intro k D hs hk hu
    obtain ⟨D', b', e, hu', hr⟩ := flat_l2 hm hc (2 * m.C.length) fuel 0 D false (by omega) (by omega) (by rw [fuelv]; omega) hu
    rcases hr with ⟨a1, a2, a3⟩ | ⟨a1, a2⟩
    · exact fin k D (by omega) hu ⟨D', b', e, a1, a2, a3⟩
    · obtain ⟨k, rfl⟩ : ∃ q, k = q + 1 := ⟨k - 1, by omega⟩
      obtain ⟨D2, e2, hf⟩ := ih k D' (by omega) (by omega) hu'
      refine ⟨D2, ?_, hf⟩
      rw [ref11_Flat.l1, if_pos rfl, e, a1]
      exact e2
theorem ropen17 (hm : MapOk m) (c : Int) : ref11_open.f m c = some (decide (Opn m c)) := by
  unfold ref11_open.f
  have hl := hm.2.1
  by_cases hc : inMap m c
  · have h2 := hc.2
    rw [if_pos hc.1, if_pos (by omega), if_pos ⟨hc.1, by omega⟩, Option.bind_some]
    congr 1
    rw [Bool.eq_iff_iff]; simp [Opn, hc]
  · rw [decide_eq_false (fun q => hc q.1)]
    unfold inMap at hc
    by_cases c0 : c ≥ 0
    · rw [if_pos c0, if_neg (by omega)]; rfl
    · rw [if_neg c0]; rfl
theorem flat_ref (hm : MapOk m) (hc : CostOk m) (ht : inMap m t) (hb : m.C.length ≤ 10000) : ∃ D, ref11_Flat.f m t = some D ∧ Far m t D := by
  have hl := hm.2.1
  have hpp := may_prod hm.1
  have ht2 := ht.2
  have ht1 := ht.1
  unfold ref11_Flat.f
  rw [if_pos (by omega), Int.toNat_natCast]
  have key : ∀ (n k : Nat) (i : Int) (x : List Int), i + n = m.C.length → 0 ≤ i → n < k → x.length = m.C.length → (∀ j : Int, 0 ≤ j → j < i → rd x j = (1099511627776 : Int)) →
      ∃ D, ref11_Flat.l0 k m t x i = some D ∧ Far m t D := by
    intro n
    induction n with
    | zero =>
      intro k i x hi h0 hk hx hr
      obtain ⟨k, rfl⟩ := kpos hk
      rw [ref11_Flat.l0, if_neg (by omega), ropen17 hm, Option.bind_some]
      by_cases ho : Opn m t
      · rw [decide_eq_true ho, if_neg (by simp), if_pos ⟨ht1, by omega⟩]
        have hrd : ∀ c : Int, 0 ≤ c → rd (List.set x t.toNat 0) c = if c = t then 0 else rd x c := fun c c0 => rds ht1 (by omega) c0
        have hup : Up m t (List.set x t.toNat 0) := by
          refine ⟨by simpa using hx, fun c hc => ?_, fun c hc hlt => ?_, ?_⟩
          · have := hc.2
            rw [hrd c hc.1]; split
            · omega
            · rw [hr c hc.1 (by omega)]; omega
          · have := hc.2
            rw [hrd c hc.1] at hlt ⊢
            split at hlt
            · rename_i q; rw [if_pos q, q]; exact Way.here ho
            · rw [hr c hc.1 (by omega)] at hlt; omega
          · rw [hrd t ht1, if_pos rfl]; omega
        have hxr : x = List.replicate x.length (1099511627776 : Int) := by
          apply rdext (by simp)
          intro j j0 j1
          rw [hr j j0 (by omega), rdrep j0 (by omega)]
        have hsum : sumD (List.set x t.toNat 0) ≤ 10000 * (1099511627776 : Int) := by
          have e := sum_set (D := x) (c := t) (v := 0) ht1 (by omega)
          have e2 : sumD x = x.length * (1099511627776 : Int) := by
            rw [hxr]; unfold sumD; rw [lsum_rep]; simp
          rw [e, e2, hr t ht1 (by omega)]
          omega
        exact flat_l1 hm hc (10000 * 1099511627776) fuel _ (by omega) (by rw [fuelv]; omega) hup
      · rw [decide_eq_false ho, if_pos (by simp)]
        refine ⟨x, rfl, by omega, fun c hc hlt => ?_, fun c k hw => absurd (way_goal hw) ho, fun c hc => ?_⟩
        · have := hc.2
          rw [hr c hc.1 (by omega)] at hlt; omega
        · have := hc.2
          rw [hr c hc.1 (by omega)]; omega
    | succ n ih =>
      intro k i x hi h0 hk hx hr
      obtain ⟨k, rfl⟩ := kpos hk
      rw [ref11_Flat.l0, if_pos (by omega), if_pos (by omega), w64_id (by omega) (by omega)]
      refine ih k (i + 1) _ (by omega) (by omega) (by omega) (by simpa using hx) (fun j j0 j1 => ?_)
      rw [rds h0 (by omega) j0]
      by_cases hj : j = i
      · rw [if_pos hj]
      · rw [if_neg hj]; exact hr j j0 (by omega)
  exact key m.C.length fuel 0 _ (by omega) (by omega) (by rw [fuelv]; omega) (by simp) (fun j j0 j1 => by omega)
theorem dir_ref (hm : MapOk m) (hc : CostOk m) {D : List Int} (hf : Far m t D) {c : Int} (hi : inMap m c) : ref11_Dir.f m t D c = some (dirP m D c) := by
  have hl := hm.2.1
  have hD := hf.len
  have hi1 := hi.1
  have hi2 := hi.2
  have htop := hf.top c hi
  obtain ⟨d1, d2, d3, d4, d5⟩ := dir_spec hm hc hf hi
  unfold ref11_Dir.f
  rw [if_pos ⟨hi1, by omega⟩]
  by_cases hq : rd D c ≥ (1099511627776 : Int)
  · rw [if_pos hq, d3.mpr (by omega)]
  · rw [if_neg hq]
    by_cases hct : c = t
    · have h0 : rd D c = 0 := by
        rw [hct]; rw [hct] at hq
        exact far_goal hc hf (way_open (hf.way t (hct ▸ hi) (by omega)))
      rw [if_pos (by simpa using hct), d4.mpr h0]
    · have hne : rd D c ≠ 0 := fun q => hct (far_zero hm hc hf hi q)
      rw [if_neg (by simpa using hct)]
      have hd3 : dirP m D c ≤ 3 := by
        have n5 : dirP m D c ≠ 5 := fun q => by have := d3.mp q; omega
        have n4 : dirP m D c ≠ 4 := fun q => hne (d4.mp q)
        omega
      obtain ⟨b1, b2⟩ := d5 hd3
      have key : ∀ (n k : Nat) (j : Int), j + n = 4 → 0 ≤ j → n < k → j ≤ dirP m D c → ref11_Dir.l0 k m D c j = some (dirP m D c) := by
        intro n
        induction n with
        | zero => intro k j hj h0 hk hle; omega
        | succ n ih =>
          intro k j hj h0 hk hle
          obtain ⟨k, rfl⟩ := kpos hk
          have hby : (if sStep m.W m.H c j ≥ 0 then (if (0 ≤ sStep m.W m.H c j ∧ sStep m.W m.H c j < (List.length m.C : Int)) then (if ((rd m.C (sStep m.W m.H c j)) != 255) = true then (if (0 ≤ sStep m.W m.H c j ∧ sStep m.W m.H c j < (List.length D : Int)) then (if (0 ≤ c ∧ c < (List.length D : Int)) then (some ((w64 ((rd D (sStep m.W m.H c j)) + (w64 (rd m.C (sStep m.W m.H c j))))) == (rd D c))) else none) else none) else (some false)) else none) else (some false)) = some (byP m D c j) := by
            unfold byP
            by_cases hn : sStep m.W m.H c j ≥ 0
            · have hin := step_in hm hn
              have hin2 := hin.2
              have hcn := hc _ hin
              have t1 := hf.top _ hin
              have t0 := far_nn hc hf hin
              rw [if_pos hn, if_pos ⟨hin.1, by omega⟩]
              by_cases hw : rd m.C (sStep m.W m.H c j) = 255
              · rw [if_neg (by simpa using hw), decide_eq_false (fun q => q.1.2 hw)]
              · rw [if_pos (by simpa using hw), if_pos ⟨hin.1, by omega⟩, if_pos ⟨hi1, by omega⟩, w64_id (x := rd m.C _) (by omega) (by omega), w64_id (by omega) (by omega)]
                congr 1
                rw [Bool.eq_iff_iff]
                simp [Opn, hin, hw, Int.add_comm]
            · rw [if_neg hn, decide_eq_false (fun q => hn q.1.1.1)]
          rw [ref11_Dir.l0, if_pos (by omega), rstep_f, Option.bind_some, hby, Option.bind_some]
          by_cases hjd : j = dirP m D c
          · rw [if_pos (by rw [hjd]; exact b1), hjd]
          · rw [if_neg (by rw [b2 j h0 (by omega)]; simp), w64_id (by omega) (by omega)]
            exact ih k (j + 1) (by omega) (by omega) (by omega) (by omega)
      exact key 4 fuel 0 (by omega) (by omega) (by rw [fuelv]; omega) d1
end Go.Proofs.Yticdodeoljodiaa
