/- Units with one thing turned may be no more, and make no pairs: any units of numbers (at most 12), which thing. No condition. -/
import Derived.Test.YtmddmofncblfpaaFLPlanTurned
import Derived.Test.YtmddmofncblfpaaPrpairs
namespace Go.Proofs.Ytmddmofncblfpaa
open Go.Hx

theorem PlanTurned_pure : law23_PlanTurned.Pure := by
  intro w h k at' how by' _ _ _ _ _ _ hk
  unfold law23_PlanTurned.f
  obtain ⟨v, v1, v2, v3⟩ := within_y (n := w) (lo := 1) (hi := 60) (by omega) (by omega) (by omega) (by omega)
  obtain ⟨u, u1, u2, u3⟩ := within_y (n := h) (lo := 1) (hi := 60) (by omega) (by omega) (by omega) (by omega)
  have hms : MayS v u := ⟨by omega, by omega, by omega, by omega⟩
  have hpr := may_prod hms
  obtain ⟨m, m1, m2, m3⟩ := made_f hms hk
  have hm := MInv.may hms m3
  obtain ⟨p, p1, p2⟩ := pmay_f (w := v) (h := u) (l := m) (by omega)
  have hp := p2.2 hm
  subst hp
  simp only [v1, u1, m1, p1, Option.bind_some]
  by_cases h0 : m.length = 0
  · have : m = [] := List.length_eq_zero_iff.1 h0
    subst this
    rw [if_pos (by rfl)]
    have e : prs v u [] = [] := rfl
    simp only [told23, ppairs_ok (l := []) (by simp) hm, e, Option.bind_some, if_true]
    rfl
  · rw [if_neg (by simpa using h0), if_neg (by simp)]
    obtain ⟨i, i1, i2, i3⟩ := within_y (n := at') (lo := 0) (hi := (m.length : Int) - 1) (by omega) (by omega) (by omega) (by omega)
    obtain ⟨c, c1, c2, c3⟩ := within_y (n := how) (lo := 0) (hi := 4) (by omega) (by omega) (by omega) (by omega)
    obtain ⟨t, t1, t2, t3⟩ := within_y (n := by') (lo := 0) (hi := 99) (by omega) (by omega) (by omega) (by omega)
    have hi : 0 ≤ i ∧ i < (m.length : Int) := by omega
    rw [wi (x := (m.length : Int) - 1) (by omega) (by omega), i1]
    simp only [Option.bind_some, c1, t1]
    -- however it is turned
    have fin : ∀ x : List api_Unit, x.length ≤ 13 → ¬ MayU v u x → ((law23_told.f).bind fun v19 => if v19 = true then ((plan_May.f v u x).bind fun v20 => if (!v20) = true then ((plan_Pairs.f v u x).bind fun v21 => some ((List.length v21 : Int) == 0)) else (some false)) else (some false)).bind (fun x17 => some x17) = some true := by
      intro x hx hn
      obtain ⟨q, q1, q2⟩ := pmay_f (w := v) (h := u) (l := x) (by omega)
      have hq : q = false := by rw [Bool.eq_false_iff]; exact fun z => hn (q2.1 z)
      subst hq
      simp only [told23, q1, ppairs_bad (l := x) (by omega) hn, Option.bind_some, if_true, Bool.not_false]
      rfl
    have hset : ∀ z : api_Unit, rd (List.set m i.toNat z) i = z := fun z => by rw [rds hi.1 hi.2 hi.1, if_pos rfl]
    have hc : c = 0 ∨ c = 1 ∨ c = 2 ∨ c = 3 ∨ c = 4 := by omega
    rcases hc with rfl | rfl | rfl | rfl | rfl
    · rw [if_pos (by rfl), if_pos hi]
      simp only [Option.bind_some]
      refine fin _ (by simp; omega) (fun hn => ?_)
      have := (hn.2 i hi.1 (by simp; omega)).2.1
      rw [hset] at this
      simp only at this
      rw [wi (x := v * u) (by omega) (by omega), wi (by omega) (by omega)] at this
      have := this.2.2; omega
    · rw [if_neg (by decide), if_pos (by rfl), if_pos hi]
      simp only [Option.bind_some]
      refine fin _ (by simp; omega) (fun hn => ?_)
      have := (hn.2 i hi.1 (by simp; omega)).2.2.1
      rw [hset] at this
      simp only at this
      rw [wi (by omega) (by omega)] at this
      have := this.2.1; omega
    · rw [if_neg (by decide), if_neg (by decide), if_pos (by rfl), if_pos hi]
      simp only [Option.bind_some]
      refine fin _ (by simp; omega) (fun hn => ?_)
      have := hn.id_nn (i := i) hi.1 (by simp; omega)
      rw [hset] at this
      simp only at this
      rw [wi (by omega) (by omega)] at this
      omega
    · rw [if_neg (by decide), if_neg (by decide), if_neg (by decide), if_pos (by rfl), if_pos (by omega), if_pos hi, if_pos (by omega)]
      simp only [Option.bind_some]
      refine fin _ (by simp; omega) (fun hn => ?_)
      have := (hn.2 (m.length : Int) (by omega) (by simp; omega)).2.2.2 i hi.1 (by omega)
      rw [rda hi.1 (by omega), if_neg (by omega), rda (by omega) (by omega), if_pos rfl] at this
      exact this rfl
    · rw [if_neg (by decide), if_neg (by decide), if_neg (by decide), if_neg (by decide), if_pos hi, if_pos (by omega)]
      simp only [Option.bind_some]
      refine fin _ (by simp; omega) (fun hn => ?_)
      have := (hn.2 (m.length : Int) (by omega) (by simp; omega)).2.2.2 i hi.1 (by omega)
      rw [rda hi.1 (by omega), if_neg (by omega), rda (by omega) (by omega), if_pos rfl] at this
      exact this rfl
end Go.Proofs.Ytmddmofncblfpaa
