/- Which units may be, which pairs they make, in which order, is what the document says: any units, of which at most 20 are taken, near ones or raw, any size. No condition. -/
import Derived.Test.YtmddmofncblfpaaFLPlanAsks
import Derived.Test.YtmddmofncblfpaaPrpairs
namespace Go.Proofs.Ytmddmofncblfpaa
open Go.Hx

theorem cut20 {α : Type} (l : List α) (hl : l.length ≤ 9223372036854775807) : (0 ≤ (0 : Int) ∧ 0 ≤ (if 20 < (List.length l : Int) then 20 else (List.length l : Int)) ∧ (if 20 < (List.length l : Int) then 20 else (List.length l : Int)) ≤ (List.length l : Int)) ∧
    (sub' l 0 (if 20 < (List.length l : Int) then 20 else (List.length l : Int))).length ≤ 20 := by
  refine ⟨⟨by omega, by split <;> omega, by split <;> omega⟩, ?_⟩
  simp only [sub', List.length_take, List.length_drop]
  split <;> omega

theorem asks_tail {x1 x2 : Int} {x3 : List api_Unit} (hb : x3.length ≤ 20) : (if (List.length ([] : List api_Unit) + List.length x3 ≤ 1099511627776) then ((plan_Pairs.f x1 x2 x3).bind fun v15 => ((law23_told.f).bind fun v18 => if v18 = true then ((plan_May.f x1 x2 x3).bind fun v19 => (ref21_May.f x1 x2 x3).bind fun v20 => if (v19 == v20) = true then ((ref21_Pairs.f x1 x2 x3).bind fun v21 => (ref21_SamePairs.f v15 v21).bind fun v22 => if v22 = true then ((plan_Goals.f x3).bind fun v23 => (ref21_Goals.f x3).bind fun v24 => (ref1_Ints.f v23 v24).bind fun v25 => if v25 = true then ((ref21_Same.f x3 (([] : List api_Unit) ++ x3)).bind fun v26 => some v26) else (some false)) else (some false)) else (some false)) else (some false)).bind fun x16 => some x16) else none) = some true := by
  rw [if_pos (by simp; omega), List.nil_append]
  obtain ⟨r, r1, r2⟩ := rmay21_f (w := x1) (h := x2) (l := x3) (by omega)
  obtain ⟨p, p1, p2⟩ := pmay_f (w := x1) (h := x2) (l := x3) (by omega)
  have es := same_self (a := x3) (by omega)
  have hg := gls_len x3
  have ei := ints_self (a := gls x3) (by omega)
  have g1 := pgoals_f (l := x3) (by omega)
  have g2 := rgoals_f (l := x3) (by omega)
  have epr : p = r := by rw [Bool.eq_iff_iff, p2, r2]
  subst epr
  have key : ∀ ps, ref21_SamePairs.f ps ps = some true → plan_Pairs.f x1 x2 x3 = some ps → ref21_Pairs.f x1 x2 x3 = some ps → _ := fun ps e1 e2 e3 => (show ((plan_Pairs.f x1 x2 x3).bind fun v15 => ((law23_told.f).bind fun v18 => if v18 = true then ((plan_May.f x1 x2 x3).bind fun v19 => (ref21_May.f x1 x2 x3).bind fun v20 => if (v19 == v20) = true then ((ref21_Pairs.f x1 x2 x3).bind fun v21 => (ref21_SamePairs.f v15 v21).bind fun v22 => if v22 = true then ((plan_Goals.f x3).bind fun v23 => (ref21_Goals.f x3).bind fun v24 => (ref1_Ints.f v23 v24).bind fun v25 => if v25 = true then ((ref21_Same.f x3 x3).bind fun v26 => some v26) else (some false)) else (some false)) else (some false)) else (some false)).bind fun x16 => some x16) = some true by
    simp only [e2, e3, told23, p1, r1, e1, g1, g2, ei, es, Option.bind_some, if_true, beq_self_eq_true])
  by_cases hm : MayU x1 x2 x3
  · exact key (prs x1 x2 x3) (samep_self (by have := prs_len (w := x1) (h := x2) (l := x3) (by omega); omega) (fun q hq => by have := prs_ids hq; omega)) (ppairs_ok (by omega) hm) (rpairs_ok (by omega) hm)
  · exact key [] (samep_self (by simp) (fun q hq => by simp at hq)) (ppairs_bad (by omega) hm) (rpairs_bad (by omega) hm)

theorem turn_l {k : List Int} (hk : 0 < k.length) (hk2 : k.length ≤ 9223372036854775807) {v u : Int} : ∀ (n f : Nat) (i : Int) (x : List api_Unit), i + n = x.length → 0 ≤ i → n < f → x.length ≤ 12 →
    ∃ y, law23_PlanAsks.l0 f k v u x i = some (v, u, y) ∧ y.length ≤ 12 := by
  intro n
  induction n with
  | zero =>
    intro f i x hi h0 hf hx
    obtain ⟨f, rfl⟩ := kpos hf
    exact ⟨x, by rw [law23_PlanAsks.l0, if_neg (by omega)], hx⟩
  | succ n ih =>
    intro f i x hi h0 hf hx
    obtain ⟨f, rfl⟩ := kpos hf
    rw [law23_PlanAsks.l0, if_pos (by omega), wi (by omega) (by omega)]
    have hmod : 0 ≤ Int.tmod i (k.length : Int) ∧ Int.tmod i (k.length : Int) < (k.length : Int) := by
      rw [tmod_pos h0]; exact ⟨Int.emod_nonneg _ (by omega), Int.emod_lt_of_pos _ (by omega)⟩
    have hb : ∃ b : Bool, (if i > 0 then (if (¬ (List.length k : Int) = 0) then (if (0 ≤ (Int.tmod i (List.length k : Int)) ∧ (Int.tmod i (List.length k : Int)) < (List.length k : Int)) then (some ((Int.tmod (rd k (Int.tmod i (List.length k : Int))) 3) == 0)) else none) else none) else (some false)) = some b := by
      by_cases h1 : i > 0
      · rw [if_pos h1, if_pos (by omega), if_pos hmod]; exact ⟨_, rfl⟩
      · rw [if_neg h1]; exact ⟨_, rfl⟩
    obtain ⟨b, hb⟩ := hb
    rw [hb, Option.bind_some]
    cases b with
    | true =>
      rw [if_pos rfl, if_pos (by omega), if_pos (by omega)]
      exact ih f (i + 1) _ (by simp; omega) (by omega) (by omega) (by simp; omega)
    | false =>
      rw [if_neg (by simp)]
      exact ih f (i + 1) _ (by omega) (by omega) (by omega) hx
theorem made_nil {w h : Int} : ref21_Made.f w h [] = some [] := by
  unfold ref21_Made.f
  rw [show fuel = 18446744073709551615 + 1 by rw [fuelv], ref21_Made.l0, if_neg (by simp)]

theorem PlanAsks_pure : law23_PlanAsks.Pure := by
  intro w h l k raw _ _ _ _ hl hk
  unfold law23_PlanAsks.f
  obtain ⟨a1, a2⟩ := cut20 l hl
  rw [if_pos a1, if_pos (by simp; omega)]
  cases raw with
  | true =>
    simp only [Bool.not_true, Bool.false_eq_true, if_false, Option.bind_some, List.nil_append]
    have := asks_tail (x1 := w) (x2 := h) a2
    simpa only [List.nil_append] using this
  | false =>
    obtain ⟨v, v1, v2, v3⟩ := within_y (n := w) (lo := 1) (hi := 60) (by omega) (by omega) (by omega) (by omega)
    obtain ⟨u, u1, u2, u3⟩ := within_y (n := h) (lo := 1) (hi := 60) (by omega) (by omega) (by omega) (by omega)
    simp only [Bool.not_false, if_true, v1, u1, Option.bind_some]
    by_cases hk0 : k.length = 0
    · have : k = [] := List.length_eq_zero_iff.1 hk0
      subst this
      rw [made_nil, Option.bind_some, show fuel = 18446744073709551615 + 1 by rw [fuelv], law23_PlanAsks.l0, if_neg (by simp)]
      simp only [Option.bind_some]
      exact asks_tail (by simp)
    · obtain ⟨m, m1, m2, m3⟩ := made_f (w := v) (h := u) ⟨by omega, by omega, by omega, by omega⟩ hk
      rw [m1, Option.bind_some]
      obtain ⟨y, y1, y2⟩ := turn_l (k := k) (by omega) hk (v := v) (u := u) m.length fuel 0 m (by omega) (by omega) (by rw [fuelv]; omega) m2
      rw [y1]
      simp only [Option.bind_some]
      exact asks_tail (by omega)
end Go.Proofs.Ytmddmofncblfpaa
