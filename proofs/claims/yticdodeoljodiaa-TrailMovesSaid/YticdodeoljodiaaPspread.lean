import Derived.Test.YticdodeoljodiaaPway
import Derived.Test.YticdodeoljodiaaFflat
namespace Go.Proofs.Yticdodeoljodiaa
open Go.Hx
set_option linter.unusedVariables false
set_option linter.unusedSimpArgs false

/-- the cell beside a cell -/
theorem beside_f {p : flat_plain} (hm : MapOk p.Map) {c s : Int} (hc : inMap p.Map c) (s0 : 0 ≤ s) (s3 : s ≤ 3) : flat_plain_beside.f p c s = some (sStep p.Map.W p.Map.H c s) := by
  have hl := hm.2.1
  have hcell := in_cell hm hc
  have hp := place_in hcell
  have hq := may_prod hm.1
  obtain ⟨⟨w0, w1, h0, h1⟩, _⟩ := hm
  have hde := Int.mul_ediv_add_emod c p.Map.W
  rw [Int.mul_comm] at hde
  have hc1 := hc.1
  have hc2 := hc.2
  have e : sStep p.Map.W p.Map.H c s = sCell p.Map.W p.Map.H (c % p.Map.W + dX s) (c / p.Map.W + dY s) := by unfold sStep; rw [if_pos ⟨hcell, s0, by omega⟩]
  rw [e]
  unfold flat_plain_beside.f sCell
  have hsc : s = 0 ∨ s = 1 ∨ s = 2 ∨ s = 3 := by omega
  have hrow : c / p.Map.W * p.Map.W + p.Map.W ≤ p.Map.W * p.Map.H := by
    have := Int.mul_le_mul_of_nonneg_right (show c / p.Map.W + 1 ≤ p.Map.H by omega) (show 0 ≤ p.Map.W by omega)
    rw [Int.add_mul, Int.one_mul, Int.mul_comm p.Map.H] at this; exact this
  have hne : ¬ p.Map.W = 0 := by omega
  rcases hsc with rfl | rfl | rfl | rfl
  · rw [show dX 0 = 0 from rfl, show dY 0 = -1 from rfl]
    simp only [show ((0 : Int) == 0) = true from rfl, if_true]
    by_cases hg : c ≥ p.Map.W
    · have : 1 ≤ c / p.Map.W := by
        by_cases q : 1 ≤ c / p.Map.W
        · exact q
        · have : c / p.Map.W = 0 := by omega
          rw [this] at hde; omega
      rw [if_pos hg, w64_id (by omega) (by omega), if_pos ⟨⟨w0, w1, h0, h1⟩, by omega, by omega, by omega, by omega⟩]
      congr 1
      rw [Int.add_mul]; omega
    · have : c / p.Map.W = 0 := Int.ediv_eq_zero_of_lt hc1 (by omega)
      rw [if_neg hg, if_neg (by rintro ⟨_, _, _, q, _⟩; omega)]
  · rw [show dX 1 = 1 from rfl, show dY 1 = 0 from rfl]
    simp only [show ((1 : Int) == 0) = false from rfl, show ((1 : Int) == 2) = false from rfl, show ((1 : Int) == 1) = true from rfl, if_true, Bool.false_eq_true, if_false]
    rw [if_pos hne, tmod_pos hc1, w64_id (x := p.Map.W - 1) (by omega) (by omega), w64_id (x := c + 1) (by omega) (by omega)]
    by_cases hg : c % p.Map.W < p.Map.W - 1
    · rw [if_pos hg, if_pos ⟨⟨w0, w1, h0, h1⟩, by omega, by omega, by omega, by omega⟩]
      congr 1; rw [Int.add_zero]; omega
    · rw [if_neg hg, if_neg (by rintro ⟨_, _, q, _⟩; omega)]
  · rw [show dX 2 = 0 from rfl, show dY 2 = 1 from rfl]
    simp only [show ((2 : Int) == 0) = false from rfl, show ((2 : Int) == 2) = true from rfl, if_true, Bool.false_eq_true, if_false]
    rw [w64_id (x := (p.Map.C.length : Int) - p.Map.W) (by omega) (by omega)]
    by_cases hg : c < (p.Map.C.length : Int) - p.Map.W
    · have : c / p.Map.W + 1 < p.Map.H := by
        by_cases q : c / p.Map.W + 1 < p.Map.H
        · exact q
        · have e2 : c / p.Map.W = p.Map.H - 1 := by omega
          rw [e2, Int.sub_mul, Int.one_mul, Int.mul_comm p.Map.H] at hde; omega
      rw [if_pos hg, w64_id (by omega) (by omega), if_pos ⟨⟨w0, w1, h0, h1⟩, by omega, by omega, by omega, by omega⟩]
      congr 1
      rw [Int.add_mul]; omega
    · have : p.Map.H ≤ c / p.Map.W + 1 := by
        by_cases q : p.Map.H ≤ c / p.Map.W + 1
        · exact q
        · have := Int.mul_le_mul_of_nonneg_right (show c / p.Map.W + 1 + 1 ≤ p.Map.H by omega) (show 0 ≤ p.Map.W by omega)
          rw [Int.add_mul, Int.one_mul, Int.add_mul, Int.one_mul, Int.mul_comm p.Map.H] at this; omega
      rw [if_neg hg, if_neg (by rintro ⟨_, _, _, _, q⟩; omega)]
  · rw [show dX 3 = -1 from rfl, show dY 3 = 0 from rfl]
    simp only [show ((3 : Int) == 0) = false from rfl, show ((3 : Int) == 2) = false from rfl, show ((3 : Int) == 1) = false from rfl, show ((3 : Int) == 3) = true from rfl, if_true, Bool.false_eq_true, if_false]
    rw [if_pos hne, tmod_pos hc1]
    by_cases hg : c % p.Map.W > 0
    · rw [if_pos hg, w64_id (by omega) (by omega), if_pos ⟨⟨w0, w1, h0, h1⟩, by omega, by omega, by omega, by omega⟩]
      congr 1; rw [Int.add_zero]; omega
    · rw [if_neg hg, if_neg (by rintro ⟨_, q, _⟩; omega)]
theorem step_neg {w h c s : Int} (hn : sStep w h c s < 0) : sStep w h c s = -1 := by
  by_cases hc : CellS w h c ∧ 0 ≤ s ∧ s ≤ 4
  · rcases step_cases hc.1 hc.2.1 hc.2.2 with ⟨h1, _⟩ | ⟨h1, _⟩
    · exact h1
    · have := h1.2; omega
  · unfold sStep; rw [if_neg hc]
theorem step_in {m : api_Map} (hm : MapOk m) {c s : Int} (h0 : 0 ≤ sStep m.W m.H c s) : inMap m (sStep m.W m.H c s) := by
  by_cases hc : CellS m.W m.H c ∧ 0 ≤ s ∧ s ≤ 4
  · rcases step_cases hc.1 hc.2.1 hc.2.2 with ⟨h1, _⟩ | ⟨h1, _⟩
    · omega
    · exact h1.2
  · have : sStep m.W m.H c s = -1 := by unfold sStep; rw [if_neg hc]
    omega

instance (m : api_Map) (c : Int) : Decidable (Opn m c) := by unfold Opn; infer_instance
/-- what waits at a side from j on: the open cells beside that are not told yet -/
def Waits (m : api_Map) (D : List Int) (c : Int) (j : Int) (A : List Int) : Prop :=
  (∀ e : Int, e ∈ A ↔ ∃ s : Int, j ≤ s ∧ s ≤ 3 ∧ sStep m.W m.H c s = e ∧ Opn m e ∧ rd D e = (1099511627776 : Int))
theorem set_self {α : Type} [Inhabited α] (l : List α) (i : Int) (h0 : 0 ≤ i) : List.set l i.toNat (rd l i) = l := by
  apply rdext (by simp)
  intro j j0 j1
  rw [List.length_set] at j1
  by_cases hi : i < l.length
  · rw [rds h0 (by omega) j0]
    split
    · rename_i q; rw [q]
    · rfl
  · rw [List.set_eq_of_length_le (by omega)]
theorem spread_l2 {p : flat_plain} (hm : MapOk p.Map) (hc : CostOk p.Map) (x6 : List (List Int)) (d : Int) (D : List Int) (i : Int) {c : Int} (ec : rd (rd x6 (Int.tmod d 256)) i = c) (hin : inMap p.Map c) (hD : D.length = p.Map.C.length)
    (d0 : 0 ≤ d) (d1 : d ≤ 4000000000) (ho : rd p.Map.C c ≠ 255) : ∀ (n k : Nat) (j : Int) (B : List (List Int)) (left : Int), j + n = 4 → 0 ≤ j → n < k → B.length = 256 → 0 ≤ left → left + n ≤ 40000000 → (rd B ((d + rd p.Map.C c) % 256)).length + n ≤ 40000000 →
    ∃ A, flat_plain_spread.l2 k p x6 d D i B left j = some (List.set D c.toNat d, List.set B ((d + rd p.Map.C c) % 256).toNat (rd B ((d + rd p.Map.C c) % 256) ++ A), left + A.length) ∧
      A.length ≤ n ∧ Waits p.Map (List.set D c.toNat d) c j A := by
  have hcc := hc c hin
  have hl := hm.2.1
  have hin1 := hin.1
  have hin2 := hin.2
  intro n
  induction n with
  | zero =>
    intro k j B left hj h0 hk hB l0 l1 l2
    obtain ⟨k, rfl⟩ := kpos hk
    refine ⟨[], ?_, by simp, fun e => ⟨fun q => (by cases q), fun ⟨s, q1, q2, _⟩ => by omega⟩⟩
    rw [flat_plain_spread.l2, if_neg (by omega), ec, List.append_nil, set_self _ _ (by omega)]
    simp
  | succ n ih =>
    intro k j B left hj h0 hk hB l0 l1 l2
    obtain ⟨k, rfl⟩ := kpos hk
    have hmod : Int.tmod (w64 (d + w64 (rd p.Map.C c))) 256 = (d + rd p.Map.C c) % 256 := by
      rw [w64_id (x := rd p.Map.C c) (by omega) (by omega), w64_id (by omega) (by omega), tmod_pos (by omega)]
    have hb := beside_f (p := flat_plain.mk p.Map (List.set D c.toNat d)) hm (c := c) hin h0 (by omega : j ≤ 3)
    simp only at hb
    rw [flat_plain_spread.l2, if_pos (by omega), ec, hb, Option.bind_some, w64_id (x := j + 1) (by omega) (by omega), hmod, w64_id (x := left + 1) (by omega) (by omega)]
    have hcond : (if sStep p.Map.W p.Map.H c j ≥ 0 then (if (0 ≤ sStep p.Map.W p.Map.H c j ∧ sStep p.Map.W p.Map.H c j < (List.length p.Map.C : Int)) then (if ((rd p.Map.C (sStep p.Map.W p.Map.H c j)) != 255) = true then (if (0 ≤ sStep p.Map.W p.Map.H c j ∧ sStep p.Map.W p.Map.H c j < (List.length (List.set D (Int.toNat c) d) : Int)) then (some ((rd (List.set D (Int.toNat c) d) (sStep p.Map.W p.Map.H c j)) == 1099511627776)) else none) else (some false)) else none) else (some false)) = some (decide (Opn p.Map (sStep p.Map.W p.Map.H c j) ∧ rd (List.set D (Int.toNat c) d) (sStep p.Map.W p.Map.H c j) = 1099511627776)) := by
      by_cases hn : sStep p.Map.W p.Map.H c j ≥ 0
      · have hi := step_in hm hn
        have hi2 := hi.2
        rw [if_pos hn, if_pos ⟨hi.1, by omega⟩]
        by_cases hw : rd p.Map.C (sStep p.Map.W p.Map.H c j) = 255
        · rw [if_neg (by simpa using hw), decide_eq_false (fun q => q.1.2 hw)]
        · rw [if_pos (by simpa using hw), if_pos ⟨hi.1, by rw [List.length_set]; omega⟩]
          congr 1
          rw [Bool.eq_iff_iff]
          simp [Opn, hi, hw]
      · rw [if_neg hn, decide_eq_false (fun q => hn q.1.1.1)]
    rw [hcond, Option.bind_some]
    by_cases hq : Opn p.Map (sStep p.Map.W p.Map.H c j) ∧ rd (List.set D (Int.toNat c) d) (sStep p.Map.W p.Map.H c j) = (1099511627776 : Int)
    · have hto : 0 ≤ (d + rd p.Map.C c) % 256 ∧ (d + rd p.Map.C c) % 256 < 256 := by omega
      rw [decide_eq_true hq, if_pos rfl, if_pos ⟨hin1, by omega⟩, if_pos hto, if_pos (by omega), if_pos hto]
      have hrd : rd (List.set B ((d + rd p.Map.C c) % 256).toNat (rd B ((d + rd p.Map.C c) % 256) ++ [sStep p.Map.W p.Map.H c j])) ((d + rd p.Map.C c) % 256) = rd B ((d + rd p.Map.C c) % 256) ++ [sStep p.Map.W p.Map.H c j] := by
        rw [rds hto.1 (by omega) hto.1, if_pos rfl]
      obtain ⟨A, e, hA, hw⟩ := ih k (j + 1) (List.set B ((d + rd p.Map.C c) % 256).toNat (rd B ((d + rd p.Map.C c) % 256) ++ [sStep p.Map.W p.Map.H c j])) (left + 1) (by omega) (by omega) (by omega) (by simpa using hB) (by omega) (by omega) (by rw [hrd]; simp; omega)
      refine ⟨sStep p.Map.W p.Map.H c j :: A, ?_, by simp; omega, fun e' => ?_⟩
      · rw [e, hrd, List.set_set, List.append_assoc]
        simp only [List.singleton_append, List.length_cons]
        congr 3
        push_cast; omega
      · rw [List.mem_cons, hw e']
        constructor
        · rintro (rfl | ⟨s, q1, q2, q3⟩)
          · exact ⟨j, by omega, by omega, rfl, hq⟩
          · exact ⟨s, by omega, q2, q3⟩
        · rintro ⟨s, q1, q2, q3, q4⟩
          by_cases hs : s = j
          · left; rw [← q3, hs]
          · exact .inr ⟨s, by omega, q2, q3, q4⟩
    · rw [decide_eq_false hq, if_neg (by simp)]
      obtain ⟨A, e, hA, hw⟩ := ih k (j + 1) B left (by omega) (by omega) (by omega) hB l0 (by omega) (by omega)
      refine ⟨A, e, by omega, fun e' => ?_⟩
      rw [hw e']
      constructor
      · rintro ⟨s, q1, q2, q3⟩; exact ⟨s, by omega, q2, q3⟩
      · rintro ⟨s, q1, q2, q3, q4⟩
        by_cases hs : s = j
        · exfalso; apply hq; rw [hs] at q3; rw [q3]; exact q4
        · exact ⟨s, by omega, q2, q3, q4⟩
end Go.Proofs.Yticdodeoljodiaa
