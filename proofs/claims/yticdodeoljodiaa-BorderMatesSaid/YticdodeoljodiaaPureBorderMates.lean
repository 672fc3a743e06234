/- Who crosses to a cell can be crossed to from it, each at what the other one costs; the two are beside each other, in two sectors: any map of numbers, any cell. No condition. -/
import Derived.Test.YticdodeoljodiaaFLBorderMates
import Derived.Test.YticdodeoljodiaaPlaw11
import Derived.Test.YticdodeoljodiaaPmates
namespace Go.Proofs.Yticdodeoljodiaa
open Go.Hx
set_option linter.unusedVariables false
set_option linter.unusedSimpArgs false

theorem mates_l1 {m : api_Map} {c : Int} {i : Int} (hm : MapOk m) (hb : ∀ c : Int, inMap m c → 1 ≤ rd m.C c ∧ rd m.C c ≤ 255) (hc : inMap m c) (i0 : 0 ≤ i) (i1 : i < (sCross m c).length) (d : Int) : ∀ (n k : Nat) (b : Bool) (t : Int), t + n = (sCross m d).length → 0 ≤ t → n < k →
    (b = true ∨ ∃ u : Int, t ≤ u ∧ u < (sCross m d).length ∧ (rd (sCross m d) u).To = c) →
    law11_BorderMates.l1 k m c (sCross m c) (sCross m d) i b t = some (Sum.inr ()) := by
  have hl := hm.2.1
  have hci := hc.2
  have hlen := cross_len m d
  have hlen2 := cross_len m c
  intro n
  induction n with
  | zero =>
    intro k b t ht t0 hk hu
    obtain ⟨k, rfl⟩ := kpos hk
    have hbt : b = true := by
      rcases hu with hu | ⟨u, u0, u1, _⟩
      · exact hu
      · omega
    rw [law11_BorderMates.l1, if_neg (by omega), hbt, if_neg (by simp)]
    by_cases hi : i > 0
    · have hp := pairrd (cross_side (m := m) (c := c)) (i := i - 1) (j := i) (by omega) (by omega) i1
      rw [if_pos hi, w64_id (x := i - 1) (by omega) (by omega), if_pos (by omega), side_f, Option.bind_some, side_f, Option.bind_some, Option.bind_some, decide_eq_false (by omega)]
      simp
    · rw [if_neg hi]; simp
  | succ n ih =>
    intro k b t ht t0 hk hu
    obtain ⟨k, rfl⟩ := kpos hk
    rw [law11_BorderMates.l1, if_pos (by omega), w64_id (x := t + 1) (by omega) (by omega)]
    by_cases hbt : b = true
    · rw [if_pos hbt]
      exact ih k true (t + 1) (by omega) (by omega) (by omega) (.inl rfl)
    · rw [if_neg hbt, if_pos (by omega)]
      by_cases hto : (rd (sCross m d) t).To = c
      · obtain ⟨_, j, _, _, _, _, ec, _⟩ := cross_mem (rdmem t0 (by omega : t < ((sCross m d).length : Int)))
        have hbb := hb c hc
        rw [if_pos (by simpa using hto), if_pos ⟨hc.1, by omega⟩, ec, hto, w64_id (by omega) (by omega)]
        exact ih k _ (t + 1) (by omega) (by omega) (by omega) (.inl (by simp))
      · rw [if_neg (by simpa using hto)]
        refine ih k _ (t + 1) (by omega) (by omega) (by omega) (.inr ?_)
        rcases hu with hu | ⟨u, u0, u1, u2⟩
        · exact absurd hu hbt
        · by_cases hq : u = t
          · exact absurd (hq ▸ u2) hto
          · exact ⟨u, by omega, u1, u2⟩

theorem mates_l0 {g : grid_Grid} {more : Int} (hg : GridS g more) {c : Int} (hc : inMap g.m c) : ∀ (n k : Nat) (i : Int), i + n = (sCross g.m c).length → 0 ≤ i → n < k →
    law11_BorderMates.l0 k g.m g c (sCross g.m c) i = some true := by
  have hl := hg.ok.2.1
  have hlen2 := cross_two g.m c
  have hci := hc.2
  intro n
  induction n with
  | zero =>
    intro k i hi h0 hk
    obtain ⟨k, rfl⟩ := kpos hk
    rw [law11_BorderMates.l0, if_neg (by omega), told11, Option.bind_some, decide_eq_true (by omega)]; rfl
  | succ n ih =>
    intro k i hi h0 hk
    obtain ⟨k, rfl⟩ := kpos hk
    have hil : i < ((sCross g.m c).length : Int) := by omega
    obtain ⟨ho, j, j0, j3, et, ho2, ec, hge⟩ := cross_mem (rdmem h0 hil)
    obtain ⟨hcell, _, _, hcell2, hst, hsec⟩ := over_cell hge
    obtain ⟨t, t0, t3, hback⟩ := over_back hge
    have hin2 := (sopen_iff.mp ho2).1
    have hin2r := hin2.2
    have hbb := hg.by_ _ hin2.1 hin2.2
    have hsd : sSide g.m.W g.m.H c (rd (sCross g.m c) i).To = j := by
      rw [et, hst]; rw [hst] at hcell2; exact side_of hcell j0 (by omega) hcell2
    have n1 := (sopen_iff.mp ho).2
    have n2 := (sopen_iff.mp ho2).2
    rw [law11_BorderMates.l0, if_pos hil, if_pos ⟨h0, hil⟩, if_neg (c := _ < 0) (by have := hin2.1; omega), if_neg (c := _ ≥ _) (by omega), if_pos (c := 0 ≤ (rd (sCross g.m c) i).To ∧ _) ⟨hin2.1, by omega⟩]
    rw [if_neg (c := (_ == 255) = true) (by simpa using n2), if_pos (c := 0 ≤ c ∧ _) ⟨hc.1, by omega⟩, if_neg (c := (_ == 255) = true) (by simpa using n1), w64_id (x := rd g.m.C _) (by omega) (by omega), if_neg (c := (_ != _) = true) (by simp [ec])]
    rw [sector_f, Option.bind_some, sector_f, Option.bind_some, if_neg (c := (_ == _) = true) (by rw [et]; simpa using hsec), side_f, Option.bind_some, Option.bind_some, hsd, decide_eq_false (by omega), if_neg (by simp), cross_f hg, Option.bind_some]
    have hmem : api_Edge.mk c (rd g.m.C c) ∈ sCross g.m (rd (sCross g.m c) i).To := by
      have := mem_cross (m := g.m) (c := (rd (sCross g.m c) i).To) (j := t) ho2 t0 t3 (by rw [et, hback]; exact ho)
      rw [et, hback] at this
      rw [et]; exact this
    obtain ⟨u, u0, u1, u2⟩ := memrd hmem
    have hfin := mates_l1 hg.ok (fun c hc => hg.by_ c hc.1 hc.2) hc h0 hil (rd (sCross g.m c) i).To (sCross g.m (rd (sCross g.m c) i).To).length fuel false 0 (by omega) (by omega) (by have := cross_len g.m (rd (sCross g.m c) i).To; rw [fuelv]; omega) (.inr ⟨u, by omega, u1, by rw [u2]⟩)
    rw [hfin]
    simp only [Option.bind_some]
    rw [w64_id (by omega) (by omega)]
    exact ih k (i + 1) (by omega) (by omega) (by omega)

theorem BorderMates_pure : law11_BorderMates.Pure := by
  intro w h c cell _ _ hc _ _
  unfold law11_BorderMates.f
  obtain ⟨m, e, en, hm, hw, hh, hl, hp, hb, hg⟩ := made_g w h (c := c) (fun y hy => hc y hy)
  have hpp := may_prod hm.1
  rw [e, Option.bind_some, en]
  simp only [Option.bind_some, optm]
  have hin := within_in (n := cell) (lo := 0) (hi := (m.C.length : Int) - 1) (by omega)
  rw [w64_id (x := (m.C.length : Int) - 1) (by omega) (by omega), within_f (by omega) (by omega) (by omega) (by omega), Option.bind_some]
  generalize 0 + cell % ((m.C.length : Int) - 1 - 0 + 1) = cc at *
  rw [cross_f hg, Option.bind_some]
  have hlen := cross_len m cc
  have hfin := mates_l0 hg (c := cc) ⟨by omega, by simp only; omega⟩ (sCross m cc).length fuel 0
  simp only at hfin
  exact hfin (by omega) (by omega) (by rw [fuelv]; omega)
end Go.Proofs.Yticdodeoljodiaa
