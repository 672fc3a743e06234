/- Distances, directions, queries over a whole map are what the document says: any map of at most 2,500 costs, near or raw, any goal, any cell. No condition. -/
import Derived.Test.YtmjcmkimhkjdeaaFLFlatAsks
import Derived.Test.YtmjcmkimhkjdeaaPref17
namespace Go.Proofs.Ytmjcmkimhkjdeaa
open Go.Hx
set_option linter.unusedVariables false
set_option linter.unusedSimpArgs false

theorem FlatAsks_pure : law17_FlatAsks.Pure := by
  intro m goal cell raw hmb _ _ _
  unfold law17_FlatAsks.f
  by_cases hbig : (List.length m.C : Int) > 2500
  · rw [if_pos hbig, told17]; rfl
  rw [if_neg hbig]
  have hown : ref1_Own.f m = some m := by
    unfold ref1_Own.f
    rw [if_pos (by simp; omega)]; simp
  rw [hown, Option.bind_some]
  have hk : ∃ x : api_Map, ∃ g c : Int, (if (!raw) = true then ((ref1_Made.f m.W m.H m.C).bind fun v9 => (ref1_Within.f goal (-1) (List.length v9.C : Int)).bind fun v10 => (ref1_Within.f cell (-1) (List.length v9.C : Int)).bind fun v11 => some (v10, v11, v9.W, v9.H, v9.C)) else (some (goal, cell, m.W, m.H, m.C))) = some (g, c, x.W, x.H, x.C) ∧ x.C.length ≤ 2500 ∧ (∀ y ∈ x.C, inU8 y) := by
    cases raw
    · obtain ⟨x, e, hm, hco, hl, h1, h2, _⟩ := made17 m.W m.H (c := m.C) (fun y hy => hmb.2.2 y hy)
      rw [if_pos (by simp), e, Option.bind_some, within_f (by omega) (by omega) (by omega) (by omega), Option.bind_some, within_f (by omega) (by omega) (by omega) (by omega), Option.bind_some]
      refine ⟨x, _, _, rfl, by omega, fun y hy => ?_⟩
      obtain ⟨j, j0, j1, rfl⟩ := memrd hy
      have := hco j ⟨j0, by omega⟩
      unfold inU8; omega
    · exact ⟨m, goal, cell, rfl, by omega, hmb.2.2⟩
  obtain ⟨x, g, c, e, hxl, hxb⟩ := hk
  rw [e]
  simp only [Option.bind_some]
  have eta : api_Map.mk x.W x.H x.C = x := rfl
  rw [eta]
  by_cases hm : MapOk x
  · have hco := cost_ok hm hxb
    have hl := hm.2.1
    by_cases hg : CellS x.W x.H g
    · have hgi : inMap x g := ⟨hg.2.1, hg.2.2⟩
      obtain ⟨D, l1, hD⟩ := look_f hm hco hgi
      obtain ⟨E, r1, hE⟩ := flat_ref hm hco hgi (by omega)
      have hED : E = D := far_eq hm hE hD
      subst hED
      have hlen := hD.len
      rw [dist_of l1, dirs_of hm hco hD l1, query_of hm hco hD l1, ref_may_f x (by omega), decide_eq_true hm, riscell_f, decide_eq_true hg, riscell_f, r1, dirs_ref hm hco hgi (by omega) hD, told17]
      simp only [Option.bind_some]
      rw [ints_self (by omega), ints_self (by rw [dirsP_len]; omega)]
      by_cases hcell : CellS x.W x.H c
      · have hc1 := hcell.2.1
        have hc2 := hcell.2.2
        have hdr := dirsP_rd x E (n := E.length) (j := c) hc1 (by omega)
        rw [if_pos hcell, decide_eq_true hcell]
        simp only [Option.bind_some, Bool.not_true, Bool.false_eq_true, if_false, if_true]
        rw [dirsP_len, hdr]
        simp
        exact ⟨hc1, by omega⟩
      · rw [if_neg hcell, decide_eq_false hcell]
        simp
    · have hlo := look_out hm hg
      rw [dist_no (by omega) hlo, dirs_no (by omega) hlo, query_no (by omega) hlo, ref_may_f x (by omega), decide_eq_true hm, riscell_f, decide_eq_false hg, told17]
      rfl
  · have hlo := look_arg hm (by omega) g
    rw [dist_no (by omega) hlo, dirs_no (by omega) hlo, query_no (by omega) hlo, ref_may_f x (by omega), decide_eq_false hm, told17]
    rfl
end Go.Proofs.Ytmjcmkimhkjdeaa
