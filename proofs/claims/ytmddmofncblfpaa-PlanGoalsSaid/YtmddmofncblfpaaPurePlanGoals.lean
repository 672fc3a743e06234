/- Each goal is told once, in the order in which it comes first: any units, of which at most 40 are taken. No condition. -/
import Derived.Test.YtmddmofncblfpaaFLPlanGoals
import Derived.Test.YtmddmofncblfpaaPrpairs
namespace Go.Proofs.Ytmddmofncblfpaa
open Go.Hx

theorem cut40 {α : Type} (l : List α) (hl : l.length ≤ 9223372036854775807) : (0 ≤ (0 : Int) ∧ 0 ≤ (if 40 < (List.length l : Int) then 40 else (List.length l : Int)) ∧ (if 40 < (List.length l : Int) then 40 else (List.length l : Int)) ≤ (List.length l : Int)) ∧
    (sub' l 0 (if 40 < (List.length l : Int) then 40 else (List.length l : Int))).length ≤ 40 := by
  refine ⟨⟨by omega, by split <;> omega, by split <;> omega⟩, ?_⟩
  simp only [sub', List.length_take, List.length_drop]
  split <;> omega

theorem gls_take {x : List api_Unit} {i : Int} (h0 : 0 ≤ i) (h1 : i < x.length) : gls (x.take (i + 1).toNat) = if (rd x i).Goal ∈ gls (x.take i.toNat) then gls (x.take i.toNat) else gls (x.take i.toNat) ++ [(rd x i).Goal] := by
  unfold gls
  rw [takec h0 h1, glA_app]; rfl
theorem gls_pre (x : List api_Unit) (i : Nat) : ∃ t, gls x = gls (x.take i) ++ t := by
  unfold gls
  have := glA_app (x.take i) (x.drop i) []
  rw [List.take_append_drop] at this
  rw [this]
  exact glA_ext _ _
theorem mem_take {x : List api_Unit} {i : Int} (h0 : 0 ≤ i) (h1 : i ≤ x.length) {g : Int} : g ∈ gls (x.take i.toNat) ↔ ∃ j, 0 ≤ j ∧ j < i ∧ (rd x j).Goal = g := by
  rw [gls_mem]
  constructor
  · rintro ⟨u, hu, rfl⟩
    obtain ⟨j, j0, j1, rfl⟩ := memrd hu
    simp only [List.length_take] at j1
    refine ⟨j, j0, by omega, ?_⟩
    unfold rd
    rw [List.getD_eq_getElem?_getD, List.getD_eq_getElem?_getD, List.getElem?_take_of_lt (by omega)]
  · rintro ⟨j, j0, j1, rfl⟩
    refine ⟨rd x j, ?_, rfl⟩
    have e : rd (x.take i.toNat) j = rd x j := by
      unfold rd
      rw [List.getD_eq_getElem?_getD, List.getD_eq_getElem?_getD, List.getElem?_take_of_lt (by omega)]
    rw [← e]
    exact rdmem j0 (by simp only [List.length_take]; omega)

theorem goals_l2 {x : List api_Unit} (hb : x.length ≤ 40) {i : Int} (h0 : 0 ≤ i) (h1 : i < x.length) : ∀ (n k : Nat) (j : Int) (b : Bool), j + n = i → 0 ≤ j → n < k →
    (b = true ↔ ∀ q, 0 ≤ q → q < j → (rd x q).Goal ≠ (rd x i).Goal) →
    law23_PlanGoals.l2 k x ((gls (x.take i.toNat)).length : Int) i (gls x) b j = some (Sum.inr ((gls (x.take (i + 1).toNat)).length : Int)) := by
  intro n
  induction n with
  | zero =>
    intro k j b hj h0' hk hbb
    obtain ⟨k, rfl⟩ := kpos hk
    rw [law23_PlanGoals.l2, if_neg (by omega), gls_take h0 h1]
    have hl := gls_len (x.take i.toNat)
    simp only [List.length_take] at hl
    cases b with
    | true =>
      have hno : ¬ (rd x i).Goal ∈ gls (x.take i.toNat) := by
        rw [mem_take h0 (by omega)]
        rintro ⟨q, q0, q1, q2⟩
        exact hbb.1 rfl q q0 (by omega) q2
      rw [if_neg hno, if_pos rfl]
      obtain ⟨t, ht⟩ := gls_pre x (i + 1).toNat
      rw [gls_take h0 h1, if_neg hno] at ht
      have hr : rd (gls x) ((gls (x.take i.toNat)).length : Int) = (rd x i).Goal := by
        rw [ht, rdl (by omega) (by simp; omega), rda (by omega) (by omega), if_pos rfl]
      have hlen : ((gls (x.take i.toNat)).length : Int) < (gls x).length := by rw [ht]; simp; omega
      rw [if_neg (by omega), if_pos (by omega), if_pos (by omega), hr]
      simp only [Option.bind_some, bne_self_eq_false, Bool.false_eq_true, if_false]
      rw [wi (by omega) (by omega)]
      simp
    | false =>
      have hyes : (rd x i).Goal ∈ gls (x.take i.toNat) := by
        rw [mem_take h0 (by omega)]
        refine Classical.byContradiction fun q => ?_
        have := hbb.2 (fun z z0 z1 z2 => q ⟨z, z0, by omega, z2⟩)
        cases this
      rw [if_pos hyes, if_neg (by simp)]
  | succ n ih =>
    intro k j b hj h0' hk hbb
    obtain ⟨k, rfl⟩ := kpos hk
    rw [law23_PlanGoals.l2, if_pos (by omega), wi (by omega) (by omega)]
    cases b with
    | true =>
      rw [if_pos rfl, if_pos (by omega), if_pos (by omega)]
      refine ih k (j + 1) _ (by omega) (by omega) (by omega) ?_
      rw [bne_iff_ne]
      constructor
      · intro z q q0 q1
        by_cases e : q = j
        · subst e; exact z
        · exact hbb.1 rfl q q0 (by omega)
      · exact fun z => z j (by omega) (by omega)
    | false =>
      rw [if_neg (by simp)]
      refine ih k (j + 1) _ (by omega) (by omega) (by omega) ⟨fun z => (by cases z), fun z => ?_⟩
      exact hbb.2 (fun q q0 q1 => z q q0 (by omega))
theorem goals_l1 {x : List api_Unit} (hb : x.length ≤ 40) : ∀ (n k : Nat) (i : Int), i + n = x.length → 0 ≤ i → n < k →
    law23_PlanGoals.l1 k x (gls x) ((gls (x.take i.toNat)).length : Int) i = some true := by
  intro n
  induction n with
  | zero =>
    intro k i hi h0 hk
    obtain ⟨k, rfl⟩ := kpos hk
    rw [law23_PlanGoals.l1, if_neg (by omega), told23, Option.bind_some, List.take_of_length_le (by omega)]
    simp
  | succ n ih =>
    intro k i hi h0 hk
    obtain ⟨k, rfl⟩ := kpos hk
    rw [law23_PlanGoals.l1, if_pos (by omega), goals_l2 hb h0 (by omega) i.toNat fuel 0 true (by omega) (by omega) (by rw [fuelv]; omega) ⟨fun _ q q0 q1 => by omega, fun _ => rfl⟩]
    simp only [Option.bind_some]
    rw [wi (by omega) (by omega)]
    exact ih k (i + 1) (by omega) (by omega) (by omega)
theorem goals_l0 {few : Bool} : ∀ (n k : Nat) (i : Int) (x : List api_Unit), x.length ≤ 40 → i + n = x.length → 0 ≤ i → n < k → law23_PlanGoals.l0 k few x i = some true := by
  have fin : ∀ x : List api_Unit, x.length ≤ 40 → (plan_Goals.f x).bind (fun v7 => law23_PlanGoals.l1 fuel x v7 0 0) = some true := by
    intro x hx
    rw [pgoals_f (by omega), Option.bind_some]
    have := goals_l1 hx x.length fuel 0 (by omega) (by omega) (by rw [fuelv]; omega)
    simpa [gls, glA] using this
  intro n
  induction n with
  | zero =>
    intro k i x hx hi h0 hk
    obtain ⟨k, rfl⟩ := kpos hk
    rw [law23_PlanGoals.l0, if_neg (by simp; omega)]
    exact fin x hx
  | succ n ih =>
    intro k i x hx hi h0 hk
    obtain ⟨k, rfl⟩ := kpos hk
    rw [law23_PlanGoals.l0]
    cases few with
    | false => rw [if_neg (by simp)]; exact fin x hx
    | true =>
      obtain ⟨v, v1, v2, v3⟩ := within_y (n := (rd x i).Goal) (lo := -2) (hi := 2) (by omega) (by omega) (by omega) (by omega)
      rw [if_pos (by simp; omega), if_pos (by omega), v1, Option.bind_some, wi (by omega) (by omega)]
      exact ih k (i + 1) _ (by simp; omega) (by simp; omega) (by omega) (by omega)
theorem PlanGoals_pure : law23_PlanGoals.Pure := by
  intro l few _ hl
  unfold law23_PlanGoals.f
  obtain ⟨a1, a2⟩ := cut40 l hl
  rw [if_pos a1, if_pos (by simp; omega), List.nil_append]
  generalize sub' l 0 _ = x at *
  exact goals_l0 x.length fuel 0 x a2 (by omega) (by omega) (by rw [fuelv]; omega)
end Go.Proofs.Ytmddmofncblfpaa
