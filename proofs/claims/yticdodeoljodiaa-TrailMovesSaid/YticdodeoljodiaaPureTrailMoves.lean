/- A unit that goes one cell on by its direction has just so much less to go as that cell costs; the others' rest stays: any map of numbers, any units, of which 8 are looked at. No condition. -/
import Derived.Test.YticdodeoljodiaaFLTrailMoves
import Derived.Test.YticdodeoljodiaaPrest
namespace Go.Proofs.Yticdodeoljodiaa
open Go.Hx
set_option linter.unusedVariables false
set_option linter.unusedSimpArgs false

theorem restP_set : ∀ (l : List Int) (i : Nat) (d : Int), i < l.length → restP (l.set i d) = restP l - (if rd l (i : Int) = (1099511627776 : Int) then 0 else rd l (i : Int)) + (if d = (1099511627776 : Int) then 0 else d)
  | [], i, d, h => by simp at h
  | a :: r, 0, d, h => by
    have : rd (a :: r) ((0 : Nat) : Int) = a := rfl
    rw [this]; simp only [List.set_cons_zero, restP]; omega
  | a :: r, i + 1, d, h => by
    have ih := restP_set r i d (by simpa using h)
    have hr : rd (a :: r) ((i + 1 : Nat) : Int) = rd r (i : Int) := by
      unfold rd
      have h1 : ((i + 1 : Nat) : Int).toNat = i + 1 := by omega
      have h2 : ((i : Nat) : Int).toNat = i := by omega
      rw [h1, h2]; rfl
    rw [hr]; simp only [List.set_cons_succ, restP, ih]; omega
theorem TrailMoves_pure : law30_TrailMoves.Pure := by
  intro w h c k which _ _ hc _ _ _ hkl
  unfold law30_TrailMoves.f
  obtain ⟨m, e, hm, hco, hl, h1, h2, hw, hh⟩ := made17 w h (c := c) (fun y hy => hc y hy)
  have h8 : 0 ≤ (if 8 < (List.length k : Int) then 8 else (List.length k : Int)) ∧ (if 8 < (List.length k : Int) then 8 else (List.length k : Int)) ≤ (List.length k : Int) ∧ (if 8 < (List.length k : Int) then 8 else (List.length k : Int)) ≤ 8 := by split <;> omega
  generalize (if 8 < (List.length k : Int) then 8 else (List.length k : Int)) = q at *
  have hkq : (sub' k 0 q).length = q.toNat := by rw [sub_length ⟨by omega, h8.1, h8.2.1⟩]; omega
  obtain ⟨us, eu, hu, hinv⟩ := made21_f hm.1 (l := sub' k 0 q) (by omega)
  have hok : ∀ y ∈ us, UnitOk m y := fun y hy => by
    obtain ⟨j, j0, j1, rfl⟩ := memrd hy
    have := hinv j j0 j1
    exact ⟨this.2.1, this.2.2.1⟩
  obtain ⟨r1, _⟩ := rest_f hm hco us (by omega)
  rw [e, Option.bind_some, if_pos ⟨by omega, h8.1, h8.2.1⟩, eu, Option.bind_some, r1 hok, Option.bind_some]
  have hin := leftP_in hm hco hok
  have hsum := restP_in (leftP m us) hin
  have hlen : (leftP m us).length = us.length := by simp [leftP]
  by_cases hz : us.length = 0
  · have hnil : us = [] := List.length_eq_zero_iff.mp hz
    subst hnil
    have hf : trail_First.f m [] = some (-1) := by
      obtain ⟨l1, _⟩ := left_f hm hco [] (by simp)
      unfold trail_First.f
      rw [l1 (fun y hy => by cases hy), Option.bind_some]
      obtain ⟨k', hk'⟩ : ∃ k, fuel = k + 1 := ⟨fuel - 1, by rw [fuelv]⟩
      rw [hk', trail_First.l0, if_neg (by simp [leftP])]
    rw [if_pos (by rfl), told30, Option.bind_some, hf]
    simp [leftP, restP]
  · have iw := within_in (n := which) (lo := 0) (hi := (us.length : Int) - 1) (by omega)
    rw [if_neg (by rw [beq_iff_eq]; omega), w64_id (x := (us.length : Int) - 1) (by omega) (by omega), within_f (by omega) (by omega) (by omega) (by omega), Option.bind_some]
    generalize 0 + which % ((us.length : Int) - 1 - 0 + 1) = i at *
    obtain ⟨c1, c2⟩ := hok _ (rdmem (a := us) (i := i) iw.1 (by omega))
    have hci : inMap m (rd us i).Cell := ⟨c1.2.1, c1.2.2⟩
    have hgi : inMap m (rd us i).Goal := ⟨c2.2.1, c2.2.2⟩
    obtain ⟨D, hlk, hf⟩ := look_f hm hco hgi
    obtain ⟨d1, d2, d3, d4, d5⟩ := dir_spec hm hco hf hci
    rw [if_pos (by omega), query_of hm hco hf hlk, if_pos c1, Option.bind_some]
    simp only
    rw [if_neg (by simp; omega)]
    by_cases hdir : dirP m D (rd us i).Cell > 3
    · rw [if_pos hdir, told30, Option.bind_some, if_pos rfl]
      by_cases h0 : rd D (rd us i).Cell = 0
      · rw [if_pos (by simpa using h0)]; rfl
      · have h5 : dirP m D (rd us i).Cell = 5 := by
          have : dirP m D (rd us i).Cell ≠ 4 := fun q => h0 (d4.mp q)
          omega
        rw [if_neg (by simpa using h0), d3.mp h5]; rfl
    · have hlt : rd D (rd us i).Cell < (1099511627776 : Int) := by
        have : rd D (rd us i).Cell ≠ (1099511627776 : Int) := fun q => by have := d3.mpr q; omega
        have := hf.top _ hci; omega
      have hne : (rd us i).Cell ≠ (rd us i).Goal := fun q => by
        have ho := way_open (hf.way _ hci hlt)
        have : rd D (rd us i).Cell = 0 := by rw [q]; rw [q] at ho; exact far_goal hco hf ho
        have := d4.mpr this; omega
      obtain ⟨a1, a2, a3, a4⟩ := next_spec hm hco hf hci hlt hne
      have hcn := hco _ a3.1
      have hsn := a3.1.1
      have hsn2 := a3.1.2
      have h0D := far_nn hco hf a3.1
      rw [if_neg hdir, if_pos (by simp; omega), rstep_f, Option.bind_some, List.nil_append, if_pos (by omega), if_pos (by rw [List.length_set]; omega)]
      generalize hn : sStep m.W m.H (rd us i).Cell (dirP m D (rd us i).Cell) = n at *
      have hrd : rd (List.set us i.toNat (api_Unit.mk (rd us i).Id n (rd us i).Goal)) i = api_Unit.mk (rd us i).Id n (rd us i).Goal := by
        rw [rds iw.1 (by omega) iw.1, if_pos rfl]
      have hok2 : ∀ y ∈ List.set us i.toNat (api_Unit.mk (rd us i).Id n (rd us i).Goal), UnitOk m y := fun y hy => by
        rcases List.mem_or_eq_of_mem_set hy with q | q
        · exact hok y q
        · subst q; exact ⟨in_cell hm a3.1, c2⟩
      obtain ⟨s1, _⟩ := rest_f hm hco (List.set us i.toNat (api_Unit.mk (rd us i).Id n (rd us i).Goal)) (by rw [List.length_set]; omega)
      have hset : leftP m (List.set us i.toNat (api_Unit.mk (rd us i).Id n (rd us i).Goal)) = List.set (leftP m us) i.toNat (rd D n) := by
        unfold leftP
        rw [List.map_set]
        simp only [dst_far hm hf]
      have hold : rd (leftP m us) i = rd D (rd us i).Cell := by rw [leftP_rd m us iw.1 (by omega), dst_far hm hf]
      have hrs := restP_set (leftP m us) i.toNat (rd D n) (by omega)
      rw [show ((i.toNat : Nat) : Int) = i by omega, hold, if_neg (by omega), if_neg (by omega)] at hrs
      obtain ⟨F, eF, hF⟩ := flat_ref hm hco hgi (by omega)
      have hFl := hF.len
      rw [hrd]
      simp only
      rw [if_neg (by omega), s1 hok2, Option.bind_some, told30, Option.bind_some, if_pos rfl]
      simp only
      rw [if_pos True.intro, if_pos ⟨hsn, by omega⟩, w64_id (x := rd m.C n) (by omega) (by omega), w64_id (by omega) (by omega), hset, hrs, if_pos (by rw [beq_iff_eq]; omega), if_pos (by omega), eF, Option.bind_some, hFl]
      simp
end Go.Proofs.Yticdodeoljodiaa
