/- An edit makes its own sector's version the epoch, and no other one's; what is refused turns nothing: any map of numbers, any edits, of which at most 30 are made. No condition. -/
import Derived.Test.YtmjcmkimhkjdeaaFLGridVersions
import Derived.Test.YtmjcmkimhkjdeaaPlaw5
import Derived.Test.YtmjcmkimhkjdeaaPmade
namespace Go.Proofs.Ytmjcmkimhkjdeaa
open Go.Hx

def gAfter (g : grid_Grid) (c v : Int) : grid_Grid := (gEdit g c v).2
theorem after_s {g : grid_Grid} {more : Int} (h : GridS g more) (h1 : 1 ≤ more) (c v : Int) : GridS (gEdit g c v).2 (more - 1) := by
  unfold gEdit
  by_cases hc : inMap g.m c
  · rw [if_neg (fun q => q hc)]
    by_cases hv : v < 1 ∨ 255 < v
    · rw [if_pos hv]; exact ⟨h.ok, h.by_, h.vs, by have := h.ep; simp only; omega⟩
    · rw [if_neg hv]; exact lay_s h h1 hc (by omega) (by omega)
  · rw [if_pos hc]; exact ⟨h.ok, h.by_, h.vs, by have := h.ep; simp only; omega⟩
theorem after_wh (g : grid_Grid) (c v : Int) : (gEdit g c v).2.m.W = g.m.W ∧ (gEdit g c v).2.m.H = g.m.H := by
  unfold gEdit
  split
  · exact ⟨rfl, rfl⟩
  · split
    · exact ⟨rfl, rfl⟩
    · exact ⟨rfl, rfl⟩
/-- the versions behind an edit -/
theorem after_version {g : grid_Grid} {more : Int} (h : GridS g more) (c v s : Int) (s0 : 0 ≤ s) (s1 : s < sCount g.m.W g.m.H) :
    gVersion (gEdit g c v).2 s = if (gEdit g c v).1 = 0 ∧ s = sSector g.m.W g.m.H c then (gEdit g c v).2.epoch else gVersion g s := by
  obtain ⟨w1, w2⟩ := after_wh g c v
  unfold gVersion
  rw [w1, w2, if_pos (c := 0 ≤ s ∧ s < sCount g.m.W g.m.H) ⟨s0, s1⟩, if_pos (c := 0 ≤ s ∧ s < sCount g.m.W g.m.H) ⟨s0, s1⟩]
  unfold gEdit
  by_cases hc : inMap g.m c
  · rw [if_neg (fun q => q hc)]
    by_cases hv : v < 1 ∨ 255 < v
    · rw [if_pos hv]; simp
    · rw [if_neg hv]
      have hcell : CellS g.m.W g.m.H c := ⟨h.ok.1, hc.1, hc.2⟩
      have hsec : SecS g.m.W g.m.H (sSector g.m.W g.m.H c) := by unfold sSector; rw [if_pos hcell]; exact sector_in hcell
      simp only [gLay, true_and]
      rw [rd_set hsec.1 (by rw [h.vs]; exact hsec.2) s0]
  · rw [if_pos hc]; simp

theorem versions_l2 {m : api_Map} {g : grid_Grid} {more : Int} (h : GridS g more) (h1 : 1 ≤ more) (hw : g.m.W = m.W) (hh : g.m.H = m.H) (c v : Int) (x : List Int) (hx : ∀ s : Int, 0 ≤ s → s < sCount m.W m.H → rd x s = gVersion g s) (hxl : (x.length : Int) = sCount m.W m.H) :
    ∀ (n k : Nat) (s : Int), s + n = sCount m.W m.H → 0 ≤ s → n < k → law5_GridVersions.l2 k m (sCount m.W m.H) x (gEdit g c v) c s = some (Sum.inr ((gEdit g c v).2.m.W, (gEdit g c v).2.m.H, (gEdit g c v).2.m.C, (gEdit g c v).2.epoch, (gEdit g c v).2.versions)) := by
  have hcn := count_in m.W m.H
  intro n
  induction n with
  | zero =>
    intro k s hs s0 hk
    obtain ⟨k, rfl⟩ : ∃ q, k = q + 1 := ⟨k - 1, by omega⟩
    rw [law5_GridVersions.l2, if_neg (by omega)]
  | succ n ih =>
    intro k s hs s0 hk
    obtain ⟨k, rfl⟩ : ∃ q, k = q + 1 := ⟨k - 1, by omega⟩
    have hg2 := after_s h h1 c v
    have hv := after_version h c v s s0 (by rw [hw, hh]; omega)
    rw [hw, hh] at hv
    have ee : grid_Grid_Epoch.f (gEdit g c v).2 = some (gEdit g c v).2.epoch := rfl
    rw [law5_GridVersions.l2, if_pos (by omega), w64_id (x := s + 1) (by omega) (by omega)]
    have hx1 : (if ((gEdit g c v).1 == 0) = true then ((ref1_Sector.f m.W m.H c).bind fun v53 => some (s == v53)) else (some false)) = some (decide ((gEdit g c v).1 = 0 ∧ s = sSector m.W m.H c)) := by
      by_cases h0 : (gEdit g c v).1 = 0
      · rw [if_pos (by simpa using h0), rsector_f]
        simp only [h0, true_and, Option.bind_some]; congr 1
      · rw [if_neg (by simpa using h0)]; simp [h0]
    rw [hx1]
    simp only [Option.bind_some, version_f hg2, ee]
    by_cases hq : (gEdit g c v).1 = 0 ∧ s = sSector m.W m.H c
    · rw [if_pos hq] at hv
      rw [decide_eq_true hq, hv]
      simp only [bne_self_eq_false, Bool.not_true, Bool.false_eq_true, if_false, if_true, Option.bind_some]
      exact ih k (s + 1) (by omega) (by omega) (by omega)
    · rw [if_neg hq] at hv
      rw [decide_eq_false hq, hv, hx s s0 (by omega), if_neg (by simp), if_pos (by simp), if_pos (by omega)]
      simp only [bne_self_eq_false, Bool.false_eq_true, if_false, Option.bind_some]
      exact ih k (s + 1) (by omega) (by omega) (by omega)

theorem versions_l1 {m : api_Map} {g : grid_Grid} {more : Int} (h : GridS g more) (h1 : 1 ≤ more) (hw : g.m.W = m.W) (hh : g.m.H = m.H) (c v : Int) (he : g.epoch ≤ 1000) :
    ∀ (n k : Nat) (s : Int) (x : List Int), (x.length : Int) = sCount m.W m.H → s + n = sCount m.W m.H → 0 ≤ s → n < k → (∀ d : Int, 0 ≤ d → d < s → rd x d = gVersion g d) →
    law5_GridVersions.l1 k m (sCount m.W m.H) v g.m.C g.epoch g.versions g.m.W g.m.H c x s = some (Sum.inr ((gEdit g c v).2.m.W, (gEdit g c v).2.m.H, (gEdit g c v).2.m.C, (gEdit g c v).2.epoch, (gEdit g c v).2.versions)) := by
  have hcn := count_in m.W m.H
  have eta : grid_Grid.mk (api_Map.mk g.m.W g.m.H g.m.C) g.epoch g.versions = g := rfl
  intro n
  induction n with
  | zero =>
    intro k s x hxl hs s0 hk hx
    obtain ⟨k, rfl⟩ : ∃ q, k = q + 1 := ⟨k - 1, by omega⟩
    have hl2 := versions_l2 h h1 hw hh c v x (fun d d0 d1 => hx d d0 (by omega)) hxl (sCount m.W m.H).toNat fuel 0 (by omega) (by omega) (by rw [fuel_eq]; omega)
    have hg2 := after_s h h1 c v
    have ee : grid_Grid_Epoch.f (gEdit g c v).2 = some (gEdit g c v).2.epoch := rfl
    have e0 : grid_Grid_Epoch.f g = some g.epoch := rfl
    rw [law5_GridVersions.l1, if_neg (by omega), eta]
    simp only [e0, Option.bind_some, cost_f h, edit_f h, ee, cost_f hg2, hl2]
    by_cases hc : inMap g.m c
    · by_cases hq : v < 1 ∨ 255 < v
      · have e : gEdit g c v = (8, g) := by unfold gEdit; rw [if_neg (fun q => q hc), if_pos hq]
        simp [e]
      · have e : gEdit g c v = (0, gLay g c v) := by unfold gEdit; rw [if_neg (fun q => q hc), if_neg hq]
        have hep := h.ep
        have hci : inMap (gLay g c v).m c := hc
        have e4 : gCost (gLay g c v) c = v := by
          unfold gCost; rw [if_pos hci]
          show rd (List.set g.m.C c.toNat v) c = v
          rw [rd_set hc.1 (by have := h.ok.2.1; have := hc.2; omega) hc.1, if_pos rfl]
        have e5 : (gLay g c v).epoch = g.epoch + 1 := rfl
        rw [e]
        simp [e4, e5, w64_id (x := g.epoch + 1) (by omega) (by omega)]
    · have e : gEdit g c v = (7, g) := by unfold gEdit; rw [if_pos hc]
      simp [e]
  | succ n ih =>
    intro k s x hxl hs s0 hk hx
    obtain ⟨k, rfl⟩ : ∃ q, k = q + 1 := ⟨k - 1, by omega⟩
    rw [law5_GridVersions.l1, if_pos (by omega), eta, version_f h, Option.bind_some, if_pos (by omega), w64_id (x := s + 1) (by omega) (by omega)]
    refine ih k (s + 1) _ (by simpa using hxl) (by omega) (by omega) (by omega) (fun d d0 d1 => ?_)
    rw [rd_set s0 (by omega) d0]
    by_cases hd : d = s
    · rw [if_pos hd, hd]
    · rw [if_neg hd]; exact hx d d0 (by omega)

theorem after_epoch (g : grid_Grid) (c v : Int) : (gEdit g c v).2.epoch ≤ g.epoch + 1 := by
  unfold gEdit
  split
  · simp only; omega
  · split
    · simp only; omega
    · simp only [gLay]; omega
theorem new_s {m : api_Map} {e : Int} (hm : MapOk m) (hb : ∀ y ∈ m.C, 1 ≤ y ∧ y ≤ 255) (he : 0 ≤ e ∧ e ≤ 4611686018427387904) : GridS (grid_Grid.mk m (e + 1) (List.replicate (sCount m.W m.H).toNat (e + 1))) 1000 := by
  have hc := count_in m.W m.H
  refine ⟨hm, fun c c0 c1 => hb _ (rd_mem c0 (by rw [hm.2.1]; exact c1)), by simp; omega, by simp only; omega⟩

theorem versions_l0 {m : api_Map} (l : List herdsmanlaw5_Lay) (hml : (m.C.length : Int) ≤ 1600) : ∀ (n k : Nat) (g : grid_Grid) (i : Int), i + n = 30 → 0 ≤ i → n < k → GridS g n → g.m.W = m.W → g.m.H = m.H → g.epoch ≤ 8 + i →
    law5_GridVersions.l0 k l m (sCount m.W m.H) g.m.W g.m.H g.m.C g.epoch g.versions i = some true := by
  have hcn := count_in m.W m.H
  intro n
  induction n with
  | zero =>
    intro k g i hi h0 hk hs hw hh he
    obtain ⟨k, rfl⟩ : ∃ q, k = q + 1 := ⟨k - 1, by omega⟩
    rw [law5_GridVersions.l0, if_neg (by simp; omega), told5]; rfl
  | succ n ih =>
    intro k g i hi h0 hk hs hw hh he
    obtain ⟨k, rfl⟩ : ∃ q, k = q + 1 := ⟨k - 1, by omega⟩
    by_cases hl : i < l.length
    · rw [law5_GridVersions.l0, if_pos (by simp; omega), if_pos (by omega), within_f (n := (rd l i).Cell) (lo := -1) (hi := (m.C.length : Int)) (by omega) (by omega) (by omega) (by omega), within_f (n := (rd l i).Cost) (lo := 0) (hi := 256) (by omega) (by omega) (by omega) (by omega)]
      simp only [Option.bind_some]
      generalize -1 + (rd l i).Cell % ((m.C.length : Int) - -1 + 1) = c
      generalize 0 + (rd l i).Cost % (256 - 0 + 1) = v
      have hg2 := after_s hs (by omega) c v
      obtain ⟨w1, w2⟩ := after_wh g c v
      have hep := after_epoch g c v
      rw [if_pos (by omega), versions_l1 hs (by omega) hw hh c v (by omega) (sCount m.W m.H).toNat fuel 0 _ (by simp; omega) (by omega) (by omega) (by rw [fuel_eq]; omega) (fun d d0 d1 => by omega)]
      simp only [Option.bind_some]
      rw [w64_id (by omega) (by omega)]
      exact ih k _ (i + 1) (by omega) (by omega) (by omega) (by have : ((n + 1 : Nat) : Int) - 1 = (n : Int) := by omega
                                                                rw [this] at hg2; exact hg2) (by rw [w1, hw]) (by rw [w2, hh]) (by omega)
    · rw [law5_GridVersions.l0, if_neg (by simp; omega), told5]; rfl

theorem GridVersions_pure : law5_GridVersions.Pure := by
  intro w h c l _ _ hc _
  unfold law5_GridVersions.f
  obtain ⟨m, e, hm, hw, hh, hb⟩ := made_f w h (c := c) (fun y hy => hc y hy)
  have hlen : m.C.length ≤ 1600 := by
    obtain ⟨⟨a1, a2, a3, a4⟩, a5, _⟩ := hm
    have : m.W * m.H ≤ 40 * 40 := mul_le (by omega) (by omega) hw hh
    omega
  have hg := new_s hm hb (e := 7) (by omega)
  have en : gNew m 7 = some (grid_Grid.mk m (7 + 1) (List.replicate (sCount m.W m.H).toNat (7 + 1))) := by unfold gNew; rw [if_pos ⟨hm, by omega, by omega⟩]
  rw [e, Option.bind_some, gnew_f m 7 (by omega), en]
  simp only [Option.bind_some, optm, rcount_f]
  exact versions_l0 l (by omega) 30 fuel _ 0 (by omega) (by omega) (by rw [fuel_eq]; omega) ⟨hg.ok, hg.by_, hg.vs, by simp only; omega⟩ rfl rfl (by simp only; omega)
end Go.Proofs.Ytmjcmkimhkjdeaa
