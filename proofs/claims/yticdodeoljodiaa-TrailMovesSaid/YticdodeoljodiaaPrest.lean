import Derived.Test.YticdodeoljodiaaPleft
import Derived.Test.YticdodeoljodiaaPmade21
namespace Go.Proofs.Yticdodeoljodiaa
open Go.Hx
set_option linter.unusedVariables false
set_option linter.unusedSimpArgs false

/-- what is left of all ways: of the first of a list -/
def restP : List Int → Int
  | [] => 0
  | d :: r => (if d = (1099511627776 : Int) then 0 else d) + restP r
theorem restP_in : ∀ (l : List Int), (∀ d ∈ l, 0 ≤ d ∧ d ≤ (1099511627776 : Int)) → 0 ≤ restP l ∧ restP l ≤ (1099511627776 : Int) * l.length
  | [], _ => by simp [restP]
  | d :: r, h => by
    have := restP_in r (fun x hx => h x (List.mem_cons_of_mem _ hx))
    have h2 := h d (List.mem_cons_self ..)
    simp only [restP, List.length_cons]
    push_cast
    split <;> omega
theorem rest_l (v : List Int × Bool) (hv : ∀ d ∈ v.1, 0 ≤ d ∧ d ≤ (1099511627776 : Int)) (hl : v.1.length ≤ 1000) : ∀ (n k : Nat) (i x : Int), i + n = v.1.length → 0 ≤ i → n < k → 0 ≤ x → x ≤ (1099511627776 : Int) * i →
    trail_Rest.l0 k v x i = some (x + restP (v.1.drop i.toNat), v.2) ∧ ref27_Rest.l0 k v x i = some (x + restP (v.1.drop i.toNat), v.2) := by
  intro n
  induction n with
  | zero =>
    intro k i x hi h0 hk x0 x1
    obtain ⟨k, rfl⟩ := kpos hk
    rw [trail_Rest.l0, if_neg (by omega), ref27_Rest.l0, if_neg (by omega), List.drop_of_length_le (by omega)]
    simp [restP]
  | succ n ih =>
    intro k i x hi h0 hk x0 x1
    obtain ⟨k, rfl⟩ := kpos hk
    have hil : i < (v.1.length : Int) := by omega
    obtain ⟨d0, d1⟩ := hv _ (rdmem h0 hil)
    rw [dropc h0 hil, restP]
    by_cases hd : rd v.1 i = (1099511627776 : Int)
    · obtain ⟨e1, e2⟩ := ih k (i + 1) x (by omega) (by omega) (by omega) x0 (by omega)
      rw [trail_Rest.l0, if_pos hil, if_pos ⟨h0, hil⟩, if_neg (by simpa using hd), ref27_Rest.l0, if_pos hil, if_pos (c := 0 ≤ i ∧ i < (v.1.length : Int)) ⟨h0, hil⟩, if_neg (c := rd v.1 i < 1099511627776) (by omega), w64_id (by omega) (by omega), if_pos hd, e1, e2]
      simp
    · obtain ⟨e1, e2⟩ := ih k (i + 1) (x + rd v.1 i) (by omega) (by omega) (by omega) (by omega) (by omega)
      rw [trail_Rest.l0, if_pos hil, if_pos ⟨h0, hil⟩, if_pos (by simpa using hd), ref27_Rest.l0, if_pos hil, if_pos (c := 0 ≤ i ∧ i < (v.1.length : Int)) ⟨h0, hil⟩, if_pos (c := rd v.1 i < 1099511627776) (by omega), w64_id (x := x + _) (by omega) (by omega), w64_id (by omega) (by omega), if_neg hd, e1, e2]
      refine ⟨?_, ?_⟩ <;> congr 2 <;> omega
theorem first_l (l : List api_Unit) (v : List Int × Bool) (hlv : v.1.length = l.length) (hv : ∀ d ∈ v.1, 0 ≤ d ∧ d ≤ (1099511627776 : Int)) (hl : v.1.length ≤ 1000) : ∀ (n k : Nat) (i at' a b : Int), i + n = v.1.length → 0 ≤ i → n < k →
    ((at' = -1 ∧ a = -1 ∧ b = (1099511627776 : Int)) ∨ (0 ≤ at' ∧ at' < v.1.length ∧ a = (rd l at').Id ∧ b = rd v.1 at' ∧ b < (1099511627776 : Int))) →
    ∃ r, trail_First.l0 k l v a b i = some r ∧ ref27_First.l0 k l v at' i = some r := by
  intro n
  induction n with
  | zero =>
    intro k i at' a b hi h0 hk hr
    obtain ⟨k, rfl⟩ := kpos hk
    refine ⟨a, by rw [trail_First.l0, if_neg (by omega)], ?_⟩
    rw [ref27_First.l0, if_neg (by omega)]
    rcases hr with ⟨q1, q2, _⟩ | ⟨q1, q2, q3, _⟩
    · rw [if_pos (by omega), q2]
    · rw [if_neg (by omega), if_pos (by omega), q3]
  | succ n ih =>
    intro k i at' a b hi h0 hk hr
    obtain ⟨k, rfl⟩ := kpos hk
    have hil : i < (v.1.length : Int) := by omega
    obtain ⟨d0, d1⟩ := hv _ (rdmem h0 hil)
    have hcond : (if (0 ≤ i ∧ i < (List.length v.1 : Int)) then (if (rd v.1 i) < 1099511627776 then (if at' < 0 then (some true) else (if (0 ≤ at' ∧ at' < (List.length v.1 : Int)) then (some (decide ((rd v.1 i) < (rd v.1 at')))) else none)) else (some false)) else none) = some (decide (rd v.1 i < b)) := by
      rw [if_pos ⟨h0, hil⟩]
      rcases hr with ⟨q1, q2, q3⟩ | ⟨q1, q2, q3, q4, q5⟩
      · rw [q3]
        by_cases hd : rd v.1 i < (1099511627776 : Int)
        · rw [if_pos hd, if_pos (by omega), decide_eq_true hd]
        · rw [if_neg hd, decide_eq_false hd]
      · by_cases hd : rd v.1 i < (1099511627776 : Int)
        · rw [if_pos hd, if_neg (by omega), if_pos ⟨q1, q2⟩, q4]
        · rw [if_neg hd, decide_eq_false (by omega)]
    rw [trail_First.l0, if_pos hil, if_pos ⟨h0, hil⟩, ref27_First.l0, if_pos hil, hcond, Option.bind_some, w64_id (by omega) (by omega)]
    by_cases hb : rd v.1 i < b
    · rw [if_pos hb, if_pos (by omega), decide_eq_true hb, if_pos rfl]
      exact ih k (i + 1) i _ _ (by omega) (by omega) (by omega) (.inr ⟨h0, hil, rfl, rfl, by rcases hr with ⟨_, _, q⟩ | ⟨_, _, _, _, q⟩ <;> omega⟩)
    · rw [if_neg hb, decide_eq_false hb, if_neg (by simp)]
      exact ih k (i + 1) at' a b (by omega) (by omega) (by omega) hr
theorem leftP_in {m : api_Map} (hm : MapOk m) (hc : CostOk m) {l : List api_Unit} (hok : ∀ y ∈ l, UnitOk m y) : ∀ d ∈ leftP m l, 0 ≤ d ∧ d ≤ (1099511627776 : Int) := by
  intro d hd
  obtain ⟨u, hu, rfl⟩ := List.mem_map.mp hd
  obtain ⟨c1, c2⟩ := hok u hu
  obtain ⟨D, _, hf⟩ := look_f hm hc (t := u.Goal) ⟨c2.2.1, c2.2.2⟩
  rw [dst_far hm hf]
  have hi : inMap m u.Cell := ⟨c1.2.1, c1.2.2⟩
  exact ⟨far_nn hc hf hi, hf.top _ hi⟩
/-- what Rest tells -/
theorem rest_f {m : api_Map} (hm : MapOk m) (hc : CostOk m) (l : List api_Unit) (hb : l.length ≤ 1000) : ((∀ y ∈ l, UnitOk m y) → trail_Rest.f m l = some (restP (leftP m l), true)) ∧ ((∃ y ∈ l, ¬ UnitOk m y) → trail_Rest.f m l = some (0, false)) := by
  obtain ⟨h1, h2⟩ := left_f hm hc l hb
  unfold trail_Rest.f
  refine ⟨fun q => ?_, fun q => ?_⟩
  · rw [h1 q, Option.bind_some]
    have hlen : (leftP m l).length = l.length := by simp [leftP]
    have := (rest_l (leftP m l, true) (leftP_in hm hc q) (by simp only; omega) l.length fuel 0 0 (by simp only; omega) (by omega) (by rw [fuelv]; omega) (by omega) (by omega)).1
    simpa using this
  · rw [h2 q, Option.bind_some]
    have := (rest_l ([], false) (by simp) (by simp) 0 fuel 0 0 (by simp) (by omega) (by rw [fuelv]; omega) (by omega) (by omega)).1
    simpa [restP] using this
end Go.Proofs.Yticdodeoljodiaa
