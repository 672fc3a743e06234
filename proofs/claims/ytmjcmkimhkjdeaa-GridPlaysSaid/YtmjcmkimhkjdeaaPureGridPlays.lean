/- What edits do, one behind the other, is what the document says: any map of numbers, any epoch, any edits, near or raw, of which at most 40 are made. No condition. -/
import Derived.Test.YtmjcmkimhkjdeaaFLGridPlays
import Derived.Test.YtmjcmkimhkjdeaaPlaw5
import Derived.Test.YtmjcmkimhkjdeaaPtile
import Derived.Test.YtmjcmkimhkjdeaaPmade
namespace Go.Proofs.Ytmjcmkimhkjdeaa
open Go.Hx
set_option linter.unusedVariables false
set_option linter.unusedSimpArgs false

theorem sametile_f (m : api_Map) : ref1_SameTile.f m m = some true := by
  unfold ref1_SameTile.f ref1_Bytes.f; simp [strEq_self]
theorem edited_f (m : api_Map) (hb : m.C.length ≤ 1099511627776) (c v : Int) (h0 : 0 ≤ c) (h1 : c < m.C.length) : ref11_Edited.f m c v = some (api_Map.mk m.W m.H (List.set m.C c.toNat v)) := by
  unfold ref11_Edited.f
  rw [own_f m hb, Option.bind_some, if_pos ⟨h0, h1⟩]

theorem plays_l2 {g : grid_Grid} {more : Int} (h : GridS g more) : ∀ (n k : Nat) (s : Int), s + n = sCount g.m.W g.m.H → 0 ≤ s → n < k →
    law5_GridPlays.l2 k (sCount g.m.W g.m.H) g.m.H g.m.W g.m.C g.versions g.m.W g.epoch g.versions g.m.H g.m.C s = some true := by
  have hcn := count_in g.m.W g.m.H
  have eta : grid_Grid.mk (api_Map.mk g.m.W g.m.H g.m.C) g.epoch g.versions = g := rfl
  have etam : api_Map.mk g.m.W g.m.H g.m.C = g.m := rfl
  intro n
  induction n with
  | zero =>
    intro k s hs s0 hk
    obtain ⟨k, rfl⟩ : ∃ q, k = q + 1 := ⟨k - 1, by omega⟩
    have e0 : grid_Grid_Size.f g = some (g.m.W, g.m.H) := rfl
    have hl := h.ok.2.1
    have hp := may_prod h.ok.1
    have hns : ¬ SecS g.m.W g.m.H (sCount g.m.W g.m.H) := fun q => by have := q.2; unfold sCount at this; omega
    have et : gTile g (sCount g.m.W g.m.H) = (api_Map.mk 0 0 [], false) := by unfold gTile; rw [if_neg hns]
    have ev : gVersion g (sCount g.m.W g.m.H) = 0 := by unfold gVersion; rw [if_neg (by omega)]
    have ev2 : gVersion g (-1) = 0 := by unfold gVersion; rw [if_neg (by omega)]
    rw [law5_GridPlays.l2, if_neg (by omega), eta, etam, tile_f h, e0, told5, gmap_f g (by omega), version_f h, version_f h]
    simp only [Option.bind_some, same_f, et, ev, ev2]
    simp
  | succ n ih =>
    intro k s hs s0 hk
    obtain ⟨k, rfl⟩ : ∃ q, k = q + 1 := ⟨k - 1, by omega⟩
    have hsec : SecS g.m.W g.m.H s := ⟨s0, by omega⟩
    have et : gTile g s = (api_Map.mk (sSize g.m.W g.m.H s).1 (sSize g.m.W g.m.H s).2 (tileL g.m s ((sSize g.m.W g.m.H s).1 * (sSize g.m.W g.m.H s).2).toNat), true) := by unfold gTile; rw [if_pos hsec]
    have hv : gVersion g s = rd g.versions s := by unfold gVersion; rw [if_pos (by omega)]
    have hvs := h.vs
    rw [law5_GridPlays.l2, if_pos (by omega), eta, etam, tile_f h, tileof_f h.ok, version_f h, et, hv, w64_id (x := s + 1) (by omega) (by omega), if_pos (c := 0 ≤ s ∧ s < (g.versions.length : Int)) (by omega)]
    simp only [Option.bind_some, sametile_f]
    simp only [Bool.not_true, Bool.false_eq_true, if_false, bne_self_eq_false, Option.bind_some]
    exact ih k (s + 1) (by omega) (by omega) (by omega)

theorem plays_l1 {epoch : Int} (l : List herdsmanlaw5_Lay) (hl : ∀ y ∈ l, (inI64 y.Cell ∧ inI64 y.Cost)) (raw : Bool) (W H : Int) : ∀ (n k : Nat) (g : grid_Grid) (i : Int), i + n = 40 → 0 ≤ i → n < k → GridS g n → g.m.W = W → g.m.H = H →
    law5_GridPlays.l1 k epoch l raw (sCount W H) W H g.m.C W H g.m.C g.epoch g.versions g.epoch g.versions i = some true := by
  have hcn := count_in W H
  have fin : ∀ (g : grid_Grid) (more : Int), GridS g more → g.m.W = W → g.m.H = H → law5_GridPlays.l2 fuel (sCount W H) H W g.m.C g.versions W g.epoch g.versions H g.m.C 0 = some true := by
    intro g more hg hw hh
    subst hw hh
    exact plays_l2 hg (sCount g.m.W g.m.H).toNat fuel 0 (by omega) (by omega) (by rw [fuel_eq]; omega)
  intro n
  induction n with
  | zero =>
    intro k g i hi h0 hk hs hw hh
    obtain ⟨k, rfl⟩ : ∃ q, k = q + 1 := ⟨k - 1, by omega⟩
    rw [law5_GridPlays.l1, if_neg (by simp; omega)]
    exact fin g _ hs hw hh
  | succ n ih =>
    intro k g i hi h0 hk hs hw hh
    obtain ⟨k, rfl⟩ : ∃ q, k = q + 1 := ⟨k - 1, by omega⟩
    by_cases hil : i < l.length
    · have hlen := hs.ok.2.1
      have hp := may_prod hs.ok.1
      rw [law5_GridPlays.l1, if_pos (by simp; omega), if_pos (by omega)]
      have hd : ∃ c v, (if (!raw) = true then ((ref1_Within.f ((rd l i).Cell) (-1) (List.length g.m.C : Int)).bind fun v36 => (ref1_Within.f ((rd l i).Cost) 0 256).bind fun v37 => some (v36, v37)) else (some ((rd l i).Cell, (rd l i).Cost))) = some (c, v) := by
        split
        · rw [within_f (by omega) (by omega) (by omega) (by omega), within_f (by omega) (by omega) (by omega) (by omega)]; exact ⟨_, _, rfl⟩
        · exact ⟨_, _, rfl⟩
      obtain ⟨c, v, e⟩ := hd
      have eta : grid_Grid.mk (api_Map.mk W H g.m.C) g.epoch g.versions = g := by rw [← hw, ← hh]
      have etam : api_Map.mk W H g.m.C = g.m := by rw [← hw, ← hh]
      have hdec : CellS W H c ↔ inMap g.m c := by
        unfold CellS inMap; rw [hw, hh]
        have := hs.ok.1; rw [hw, hh] at this
        exact ⟨fun q => q.2, fun q => ⟨this, q⟩⟩
      have hcode : (((ref1_IsCell.f W H c).bind fun v40 => if (!v40) = true then (some 7) else ((ref1_In.f v 1 255).bind fun v41 => if (!v41) = true then (some 8) else (some 0))) : Option Int) = some (gEdit g c v).1 := by
        rw [riscell_f, in_f]
        unfold gEdit
        by_cases hc : inMap g.m c
        · rw [decide_eq_true (hdec.mpr hc), if_neg (c := ¬ inMap g.m c) (fun q => q hc)]
          by_cases hv : v < 1 ∨ 255 < v
          · rw [if_pos hv, decide_eq_false (by omega)]; simp
          · rw [if_neg hv, decide_eq_true (by omega)]; simp
        · rw [decide_eq_false (fun q => hc (hdec.mp q)), if_pos (c := ¬ inMap g.m c) hc]; simp
      rw [e]
      simp only [Option.bind_some]
      rw [eta, hcode]
      simp only [Option.bind_some, edit_f hs, bne_self_eq_false, Bool.false_eq_true, if_false]
      rw [etam]
      have hg2 := after_s' hs (by omega) c v
      have ee : ∀ q : grid_Grid, grid_Grid_Epoch.f q = some q.epoch := fun _ => rfl
      have hdown : ((n + 1 : Nat) : Int) - 1 = (n : Int) := by omega
      rw [hdown] at hg2
      by_cases hc : inMap g.m c
      · by_cases hv : v < 1 ∨ 255 < v
        · have e5 : gEdit g c v = (8, g) := by unfold gEdit; rw [if_neg (fun q => q hc), if_pos hv]
          rw [e5] at hg2 ⊢
          simp only [ee, Option.bind_some]
          rw [if_neg (by simp)]
          simp only [Option.bind_some, bne_self_eq_false, Bool.false_eq_true, if_false]
          rw [w64_id (by omega) (by omega), hw, hh]
          exact ih k g (i + 1) (by omega) (by omega) (by omega) hg2 hw hh
        · have e5 : gEdit g c v = (0, gLay g c v) := by unfold gEdit; rw [if_neg (fun q => q hc), if_neg hv]
          have hsec : SecS W H (sSector W H c) := by unfold sSector; rw [if_pos (hdec.mpr hc)]; exact sector_in (hdec.mpr hc)
          have hvs := hs.vs
          rw [hw, hh] at hvs
          have hep := hs.ep
          rw [e5] at hg2 ⊢
          have hc1 := hc.2
          simp only [ee, Option.bind_some]
          rw [if_pos (by rfl : ((0 : Int) == 0) = true), edited_f g.m (by omega) c (wu8 v) hc.1 (by omega)]
          simp only [Option.bind_some]
          rw [rsector_f, Option.bind_some, hw, hh, if_pos (by rw [hvs]; exact ⟨hsec.1, hsec.2⟩), wu8_id (by omega) (by omega), w64_id (x := g.epoch + 1) (by omega) (by omega), w64_id (x := i + 1) (by omega) (by omega)]
          simp only [Option.bind_some]
          have e6 : (gLay g c v).epoch = g.epoch + 1 := rfl
          have e7 : (gLay g c v).m.W = W := hw
          have e8 : (gLay g c v).m.H = H := hh
          have e9 : (gLay g c v).m.C = List.set g.m.C c.toNat v := rfl
          have e10 : (gLay g c v).versions = List.set g.versions (sSector W H c).toNat (g.epoch + 1) := by unfold gLay; rw [hw, hh]
          rw [e6, e7, e8, if_neg (by simp)]
          have := ih k (gLay g c v) (i + 1) (by omega) (by omega) (by omega) hg2 e7 e8
          rw [e6, e9, e10] at this
          rw [e9, e10]
          exact this
      · have e5 : gEdit g c v = (7, g) := by unfold gEdit; rw [if_pos hc]
        rw [e5] at hg2 ⊢
        simp only [ee, Option.bind_some]
        rw [if_neg (by simp)]
        simp only [Option.bind_some, bne_self_eq_false, Bool.false_eq_true, if_false]
        rw [w64_id (by omega) (by omega), hw, hh]
        exact ih k g (i + 1) (by omega) (by omega) (by omega) hg2 hw hh
    · rw [law5_GridPlays.l1, if_neg (by simp; omega)]
      exact fin g _ hs hw hh

theorem plays_l0 {epoch v2 : Int} (l : List herdsmanlaw5_Lay) (hl : ∀ y ∈ l, (inI64 y.Cell ∧ inI64 y.Cost)) (raw : Bool) {m : api_Map} (h2 : 0 ≤ v2 ∧ v2 ≤ 4611686018427387904) (hg : GridS (grid_Grid.mk m (v2 + 1) (List.replicate (sCount m.W m.H).toNat (v2 + 1))) 1000) : ∀ (n k : Nat) (i : Int) (x : List Int), i + n = sCount m.W m.H → 0 ≤ i → n < k → (x.length : Int) = sCount m.W m.H → (∀ d : Int, 0 ≤ d → d < i → rd x d = v2 + 1) →
    law5_GridPlays.l0 k epoch l raw m v2 (grid_Grid.mk m (v2 + 1) (List.replicate (sCount m.W m.H).toNat (v2 + 1))) (sCount m.W m.H) x i = some true := by
  have hcn := count_in m.W m.H
  intro n
  induction n with
  | zero =>
    intro k i x hi h0 hk hx hd
    obtain ⟨k, rfl⟩ : ∃ q, k = q + 1 := ⟨k - 1, by omega⟩
    rw [law5_GridPlays.l0, if_neg (by omega), w64_id (by omega) (by omega)]
    have hx2 : x = List.replicate (sCount m.W m.H).toNat (v2 + 1) := by
      have := all_rep (x := x) (v := v2 + 1) (fun c c0 c1 => hd c c0 (by omega))
      rw [this]; congr 1; omega
    rw [hx2]
    exact plays_l1 l hl raw m.W m.H 40 fuel _ 0 (by omega) (by omega) (by rw [fuel_eq]; omega) ⟨hg.ok, hg.by_, hg.vs, by have := hg.ep; simp only at this ⊢; omega⟩ rfl rfl
  | succ n ih =>
    intro k i x hi h0 hk hx hd
    obtain ⟨k, rfl⟩ : ∃ q, k = q + 1 := ⟨k - 1, by omega⟩
    rw [law5_GridPlays.l0, if_pos (by omega), if_pos (by omega), w64_id (x := i + 1) (by omega) (by omega), w64_id (by omega) (by omega)]
    refine ih k (i + 1) _ (by omega) (by omega) (by omega) (by simpa using hx) (fun d d0 d1 => ?_)
    rw [rd_set h0 (by omega) d0]
    by_cases hdi : d = i
    · rw [if_pos hdi]
    · rw [if_neg hdi]; exact hd d d0 (by omega)

theorem GridPlays_pure : law5_GridPlays.Pure := by
  intro w h c epoch l raw _ _ hc _ hl _ _
  unfold law5_GridPlays.f
  obtain ⟨m, e, hm, hw, hh, hb⟩ := made_f w h (c := c) (fun y hy => hc y hy)
  have hlen : m.C.length ≤ 1600 := by
    obtain ⟨⟨a1, a2, a3, a4⟩, a5, _⟩ := hm
    have : m.W * m.H ≤ 40 * 40 := mul_le (by omega) (by omega) hw hh
    omega
  have hin := within_in (n := epoch) (lo := 0) (hi := 4611686018427387904) (by omega)
  have hcn := count_in m.W m.H
  rw [e, Option.bind_some, within_f (by omega) (by omega) (by omega) (by omega), Option.bind_some]
  generalize 0 + epoch % (4611686018427387904 - 0 + 1) = v2 at *
  have hg : GridS (grid_Grid.mk m (v2 + 1) (List.replicate (sCount m.W m.H).toNat (v2 + 1))) 1000 :=
    ⟨hm, fun c c0 c1 => hb _ (rd_mem c0 (by rw [hm.2.1]; exact c1)), by simp; omega, by simp only; omega⟩
  have en : gNew m v2 = some (grid_Grid.mk m (v2 + 1) (List.replicate (sCount m.W m.H).toNat (v2 + 1))) := by unfold gNew; rw [if_pos ⟨hm, hin⟩]
  rw [gnew_f m v2 (by omega), en]
  simp only [Option.bind_some, optm, rcount_f]
  rw [if_pos (by omega)]
  exact plays_l0 l hl raw hin hg (sCount m.W m.H).toNat fuel 0 _ (by omega) (by omega) (by rw [fuel_eq]; omega) (by simp; omega) (fun d d0 d1 => by omega)
end Go.Proofs.Ytmjcmkimhkjdeaa
