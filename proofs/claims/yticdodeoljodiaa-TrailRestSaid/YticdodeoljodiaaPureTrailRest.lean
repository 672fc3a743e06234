/- What is left of all ways, and who is nearest, is what the document says: any map of at most 2,500 costs, near or raw, any units, of which 12 are looked at. No condition. -/
import Derived.Test.YticdodeoljodiaaFLTrailRest
import Derived.Test.YticdodeoljodiaaPrest
namespace Go.Proofs.Yticdodeoljodiaa
open Go.Hx
set_option linter.unusedVariables false
set_option linter.unusedSimpArgs false

theorem rest_law {m : api_Map} (hml : m.C.length ≤ 2500) (hmb : ∀ y ∈ m.C, inU8 y) (l : List api_Unit) (hb : l.length ≤ 1000) : ∃ a b c d, trail_Rest.f m l = some (a, b) ∧ ref27_Rest.f m l = some (c, b) ∧ (b = true → a = c) ∧ (b = false → a = 0) ∧ trail_First.f m l = some d ∧ (b = true → ref27_First.f m l = some d) ∧ (b = false → d = -1) := by
  have nil1 : ∀ b, trail_Rest.l0 fuel ([], b) 0 0 = some (0, b) ∧ ref27_Rest.l0 fuel ([], b) 0 0 = some (0, b) := fun b => by
    have := rest_l ([], b) (by simp) (by simp) 0 fuel 0 0 (by simp) (by omega) (by rw [fuelv]; omega) (by omega) (by omega)
    simpa [restP] using this
  obtain ⟨k, hk⟩ : ∃ k, fuel = k + 1 := ⟨fuel - 1, by rw [fuelv]⟩
  have bad : trail_left.f m l = some ([], false) → ref27_Left.f m l = some ([], false) → ∃ a b c d, trail_Rest.f m l = some (a, b) ∧ ref27_Rest.f m l = some (c, b) ∧ (b = true → a = c) ∧ (b = false → a = 0) ∧ trail_First.f m l = some d ∧ (b = true → ref27_First.f m l = some d) ∧ (b = false → d = -1) := by
    intro e1 e2
    refine ⟨0, false, 0, -1, ?_, ?_, by simp, by simp, ?_, by simp, by simp⟩
    · unfold trail_Rest.f; rw [e1, Option.bind_some]; exact (nil1 false).1
    · unfold ref27_Rest.f; rw [e2, Option.bind_some]; exact (nil1 false).2
    · unfold trail_First.f
      rw [e1, Option.bind_some, hk, trail_First.l0, if_neg (by simp)]
  by_cases hm : MapOk m
  · have hc := cost_ok hm hmb
    obtain ⟨h1, h2⟩ := left_f hm hc l hb
    obtain ⟨g1, g2⟩ := rleft_f hm hc (by omega) l hb
    by_cases hok : ∀ y ∈ l, UnitOk m y
    · have hlen : (leftP m l).length = l.length := by simp [leftP]
      have hin := leftP_in hm hc hok
      have hr := rest_l (leftP m l, true) hin (by simp only; omega) l.length fuel 0 0 (by simp only; omega) (by omega) (by rw [fuelv]; omega) (by omega) (by omega)
      obtain ⟨d, f1, f2⟩ := first_l l (leftP m l, true) hlen hin (by simp only; omega) l.length fuel 0 (-1) (-1) (1099511627776 : Int) (by simp only; omega) (by omega) (by rw [fuelv]; omega) (.inl ⟨rfl, rfl, rfl⟩)
      refine ⟨0 + restP ((leftP m l).drop (Int.toNat 0)), true, 0 + restP ((leftP m l).drop (Int.toNat 0)), d, ?_, ?_, fun _ => rfl, by simp, ?_, fun _ => ?_, by simp⟩
      · unfold trail_Rest.f; rw [h1 hok, Option.bind_some]; exact hr.1
      · unfold ref27_Rest.f; rw [g1 hok, Option.bind_some]; exact hr.2
      · unfold trail_First.f; rw [h1 hok, Option.bind_some]; exact f1
      · unfold ref27_First.f; rw [g1 hok, Option.bind_some]; exact f2
    · have hbad : ∃ y ∈ l, ¬ UnitOk m y := by
        obtain ⟨y, hy⟩ := Classical.not_forall.mp hok
        obtain ⟨q1, q2⟩ := Classical.not_imp.mp hy
        exact ⟨y, q1, q2⟩
      exact bad (h2 hbad) (g2 hbad)
  · refine bad ?_ ?_
    · unfold trail_left.f
      rw [atlas_may_f m (by omega), Option.bind_some, decide_eq_false hm]; rfl
    · unfold ref27_Left.f
      rw [ref_may_f m (by omega), Option.bind_some, decide_eq_false hm]; rfl
theorem sub0_len {α : Type} [Inhabited α] (l : List α) {q : Int} (h0 : 0 ≤ q) (h1 : q ≤ l.length) : (sub' l 0 q).length = q.toNat := by
  rw [sub_length ⟨by omega, h0, h1⟩]; omega
theorem TrailRest_pure : law30_TrailRest.Pure := by
  intro m l k raw hmb _ _ _ _ hkl
  unfold law30_TrailRest.f
  by_cases hbig : (List.length m.C : Int) > 2500
  · rw [if_pos hbig, told30]; rfl
  rw [if_neg hbig]
  have hown : ref1_Own.f m = some m := by
    unfold ref1_Own.f
    rw [if_pos (by simp; omega)]; simp
  have h12 : 0 ≤ (if 12 < (List.length l : Int) then 12 else (List.length l : Int)) ∧ (if 12 < (List.length l : Int) then 12 else (List.length l : Int)) ≤ (List.length l : Int) ∧ (if 12 < (List.length l : Int) then 12 else (List.length l : Int)) ≤ 12 := by split <;> omega
  generalize (if 12 < (List.length l : Int) then 12 else (List.length l : Int)) = q at *
  have hsl := sub0_len l h12.1 h12.2.1
  rw [if_pos ⟨by omega, h12.1, h12.2.1⟩, hown, Option.bind_some, if_pos (by rw [hsl]; simp; omega), List.nil_append]
  simp only [Option.bind_some]
  have hk : ∃ x : api_Map, ∃ u : List api_Unit, (if (!raw) = true then ((ref1_Made.f m.W m.H m.C).bind fun v17 => if (0 ≤ (0 : Int) ∧ (0 : Int) ≤ (if 1 < (List.length (sub' l 0 q) : Int) then 1 else (List.length (sub' l 0 q) : Int)) ∧ (if 1 < (List.length (sub' l 0 q) : Int) then 1 else (List.length (sub' l 0 q) : Int)) ≤ (List.length (sub' l 0 q) : Int)) then ((ref21_Made.f v17.W v17.H k).bind fun v18 => if (List.length v18 + List.length (sub' (sub' l 0 q) 0 (if 1 < (List.length (sub' l 0 q) : Int) then 1 else (List.length (sub' l 0 q) : Int))) ≤ 1099511627776) then (if (List.length (v18 ++ (sub' (sub' l 0 q) 0 (if 1 < (List.length (sub' l 0 q) : Int) then 1 else (List.length (sub' l 0 q) : Int)))) : Int) > 12 then (if (0 ≤ (0 : Int) ∧ (0 : Int) ≤ (12 : Int) ∧ (12 : Int) ≤ (List.length (v18 ++ (sub' (sub' l 0 q) 0 (if 1 < (List.length (sub' l 0 q) : Int) then 1 else (List.length (sub' l 0 q) : Int)))) : Int)) then (some (v17.W, v17.H, v17.C, (sub' (v18 ++ (sub' (sub' l 0 q) 0 (if 1 < (List.length (sub' l 0 q) : Int) then 1 else (List.length (sub' l 0 q) : Int)))) 0 12))) else none) else (some (v17.W, v17.H, v17.C, (v18 ++ (sub' (sub' l 0 q) 0 (if 1 < (List.length (sub' l 0 q) : Int) then 1 else (List.length (sub' l 0 q) : Int))))))) else none) else none) else (some (m.W, m.H, m.C, sub' l 0 q))) = some (x.W, x.H, x.C, u) ∧ x.C.length ≤ 2500 ∧ (∀ y ∈ x.C, inU8 y) ∧ u.length ≤ 1000 := by
    cases raw
    · obtain ⟨x, e, hm, hco, hl, h1, h2, _⟩ := made17 m.W m.H (c := m.C) (fun y hy => hmb.2.2 y hy)
      have hq1 : 0 ≤ (if 1 < (List.length (sub' l 0 q) : Int) then 1 else (List.length (sub' l 0 q) : Int)) ∧ (if 1 < (List.length (sub' l 0 q) : Int) then 1 else (List.length (sub' l 0 q) : Int)) ≤ (List.length (sub' l 0 q) : Int) ∧ (if 1 < (List.length (sub' l 0 q) : Int) then 1 else (List.length (sub' l 0 q) : Int)) ≤ 1 := by split <;> omega
      generalize (if 1 < (List.length (sub' l 0 q) : Int) then 1 else (List.length (sub' l 0 q) : Int)) = q1 at *
      have hs1 := sub0_len (sub' l 0 q) hq1.1 hq1.2.1
      obtain ⟨us, eu, hu, _⟩ := made21_f hm.1 (l := k) hkl
      rw [if_pos (by simp), e, Option.bind_some, if_pos ⟨by omega, hq1.1, hq1.2.1⟩, eu, Option.bind_some, if_pos (by rw [hs1]; omega)]
      have hxb : ∀ y ∈ x.C, inU8 y := fun y hy => by
        obtain ⟨j, j0, j1, rfl⟩ := memrd hy
        have := hco j ⟨j0, by omega⟩
        unfold inU8; omega
      by_cases hg : (List.length (us ++ (sub' (sub' l 0 q) 0 q1)) : Int) > 12
      · rw [if_pos hg, if_pos (by omega)]
        exact ⟨x, _, rfl, by omega, hxb, by rw [sub0_len _ (by omega) (by omega)]; omega⟩
      · rw [if_neg hg]
        exact ⟨x, _, rfl, by omega, hxb, by omega⟩
    · exact ⟨m, sub' l 0 q, rfl, by omega, hmb.2.2, by omega⟩
  obtain ⟨x, u, e, hxl, hxb, hul⟩ := hk
  rw [e]
  simp only [Option.bind_some]
  have eta : api_Map.mk x.W x.H x.C = x := rfl
  rw [eta]
  obtain ⟨a, b, c, d, r1, r2, r3, r4, r5, r6, r7⟩ := rest_law hxl hxb u hul
  rw [r1, Option.bind_some, r2, Option.bind_some]
  cases b
  · simp only [Bool.false_eq_true, if_false, Option.bind_some]
    rw [told30, r5, r4 rfl, r7 rfl]
    rfl
  · rw [if_pos rfl, r6 rfl]
    simp only [Option.bind_some]
    rw [told30, r5, r3 rfl]
    simp
end Go.Proofs.Yticdodeoljodiaa
