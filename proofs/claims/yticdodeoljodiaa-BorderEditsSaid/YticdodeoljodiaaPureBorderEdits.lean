/- A wall laid at a node takes it away, and what crosses to it; laid open again it is as it was: any map of numbers, any sector, any of its nodes. No condition. -/
import Derived.Test.YticdodeoljodiaaFLBorderEdits
import Derived.Test.YticdodeoljodiaaPlaw11
import Derived.Test.YticdodeoljodiaaPedits
namespace Go.Proofs.Yticdodeoljodiaa
open Go.Hx
set_option linter.unusedVariables false
set_option linter.unusedSimpArgs false

/-- a wall at one cell -/
theorem open_wall {m : api_Map} {c : Int} (hm : MapOk m) (hc : inMap m c) (d : Int) : sOpen (api_Map.mk m.W m.H (List.set m.C c.toNat 255)) d = (sOpen m d && (d != c)) := by
  have hl := hm.2.1
  unfold sOpen
  by_cases hd : inMap m d
  · have hd2 : inMap (api_Map.mk m.W m.H (List.set m.C c.toNat 255)) d := hd
    have h2 := hc.2
    rw [decide_eq_true hd, decide_eq_true hd2]
    simp only
    rw [rd_set hc.1 (by omega) hd.1]
    by_cases hq : d = c
    · rw [if_pos hq]; simp [hq]
    · rw [if_neg hq]; simp [hq]
  · have hd2 : ¬ inMap (api_Map.mk m.W m.H (List.set m.C c.toNat 255)) d := hd
    rw [decide_eq_false hd, decide_eq_false hd2]; simp
theorem nodes_wall {m : api_Map} {c : Int} (hm : MapOk m) (hc : inMap m c) (s : Int) : sNodes (api_Map.mk m.W m.H (List.set m.C c.toNat 255)) s = (sNodes m s).erase c := by
  have hnd : (sNodes m s).Nodup := (nodes_rise m s).imp (fun {a b} q => by omega)
  rw [hnd.erase_eq_filter]
  unfold sNodes
  rw [List.filter_filter]
  show (sCells m.W m.H s).filter _ = _
  apply List.filter_congr
  intro d _
  rw [open_wall hm hc, Bool.and_comm]

theorem edits_l0 {m : api_Map} {g2 : grid_Grid} (hm : MapOk m) (hb : ∀ c : Int, inMap m c → 1 ≤ rd m.C c ∧ rd m.C c ≤ 255) (v : List Int) (j : Int) (j0 : 0 ≤ j) (j1 : j < v.length) {s c : Int} (hv : v = sNodes m s) (ec : rd v j = c) (hc : inMap m c) (ew : g2.m = api_Map.mk m.W m.H (List.set m.C c.toNat 255)) (hg2 : GridS g2 500) (v16 : List Int) (h16 : v16 = v.erase c) : ∀ (n k : Nat) (i : Int), i + n = v16.length → 0 ≤ i → n < k →
    law11_BorderEdits.l0 k m s v j g2.m.W g2.m.H g2.m.C g2.epoch g2.versions v16 i = some true := by
  have hl := hm.2.1
  have hc2 := hc.2
  have hbb := hb c hc
  have hmem : c ∈ v := ec ▸ rdmem j0 j1
  have hlen : v16.length = v.length - 1 := by rw [h16, List.length_erase_of_mem hmem]
  have hvl : v.length ≤ 256 := by rw [hv]; exact nodes_len m s
  have hpos : 1 ≤ v.length := by omega
  have hnd : v.Nodup := by rw [hv]; exact (nodes_rise m s).imp (fun {a b} q => by omega)
  intro n
  induction n with
  | zero =>
    intro k i hi h0 hk
    obtain ⟨k, rfl⟩ := kpos hk
    have eta : grid_Grid.mk (api_Map.mk g2.m.W g2.m.H g2.m.C) g2.epoch g2.versions = g2 := rfl
    have hx : sCross g2.m c = [] := by
      unfold sCross
      rw [if_neg]
      rw [ew, open_wall hm hc]; simp
    have hin2 : inMap g2.m c := by rw [ew]; exact hc
    have hg3 := lay_s hg2 (by omega) hin2 hbb.1 hbb.2
    have e3 : (gLay g2 c (rd m.C c)).m = m := by
      unfold gLay
      rw [ew]
      simp only
      rw [List.set_set]
      have : List.set m.C c.toNat (rd m.C c) = m.C := by
        apply rdext (by simp)
        intro i i0 i1
        rw [rd_set hc.1 (by omega) i0]
        split
        · rename_i q; rw [q]
        · rfl
      rw [this]
    have e4 : gEdit g2 c (rd m.C c) = (0, gLay g2 c (rd m.C c)) := by unfold gEdit; rw [if_neg (fun q => q hin2), if_neg (by omega)]
    have eta3 : grid_Grid.mk (api_Map.mk (gLay g2 c (rd m.C c)).m.W (gLay g2 c (rd m.C c)).m.H (gLay g2 c (rd m.C c)).m.C) (gLay g2 c (rd m.C c)).epoch (gLay g2 c (rd m.C c)).versions = gLay g2 c (rd m.C c) := rfl
    have hn3 : border_Nodes.f (gLay g2 c (rd m.C c)) s = some v := by
      rw [nodes_f hg3, e3, hv]
    rw [law11_BorderEdits.l0, if_neg (by omega), eta, ec, cross_f hg2, hx, Option.bind_some]
    rw [w64_id (x := (v.length : Int) - 1) (by omega) (by omega), if_neg (by simp; omega), if_pos ⟨hc.1, by omega⟩, w64_id (x := rd m.C c) (by omega) (by omega), edit_f hg2, e4, Option.bind_some]
    simp only [Option.bind_some]
    rw [if_neg (by simp), eta3, told11, hn3]
    simp only [Option.bind_some]
    rw [ints_self (by omega)]
    rfl
  | succ n ih =>
    intro k i hi h0 hk
    obtain ⟨k, rfl⟩ := kpos hk
    have hne : rd v16 i ≠ c := by
      have hm2 := rdmem h0 (by omega : i < (v16.length : Int))
      rw [h16, hnd.mem_erase_iff] at hm2
      rw [h16]; exact hm2.1
    rw [law11_BorderEdits.l0, if_pos (by omega), if_pos (by omega), if_neg (by rw [ec]; simpa using hne), w64_id (by omega) (by omega)]
    exact ih k (i + 1) (by omega) (by omega) (by omega)

theorem BorderEdits_pure : law11_BorderEdits.Pure := by
  intro w h c sector which _ _ hc _ _ _
  unfold law11_BorderEdits.f
  obtain ⟨m, e, en, hm, hw, hh, hl, hp, hb, hg⟩ := made_g w h (c := c) (fun y hy => hc y hy)
  have hpp := may_prod hm.1
  have hcn := count_in m.W m.H
  have hcp := count_pos hm.1
  generalize hgg : grid_Grid.mk m 1 (List.replicate (sCount m.W m.H).toNat 1) = g at *
  have egm : g.m = m := by rw [← hgg]
  rw [e, Option.bind_some, en]
  simp only [Option.bind_some, optm]
  have hin := within_in (n := sector) (lo := 0) (hi := sCount m.W m.H - 1) (by omega)
  rw [rcount_f, Option.bind_some, w64_id (x := sCount m.W m.H - 1) (by omega) (by omega), within_f (by omega) (by omega) (by omega) (by omega), Option.bind_some]
  generalize 0 + sector % (sCount m.W m.H - 1 - 0 + 1) = s at *
  rw [nodes_f hg, Option.bind_some, egm]
  have hnl := nodes_len m s
  by_cases hz : (sNodes m s).length = 0
  · rw [if_pos (by rw [hz]; rfl), told11]; rfl
  · rw [if_neg (by rw [beq_iff_eq]; omega)]
    have hin2 := within_in (n := which) (lo := 0) (hi := ((sNodes m s).length : Int) - 1) (by omega)
    rw [w64_id (x := ((sNodes m s).length : Int) - 1) (by omega) (by omega), within_f (by omega) (by omega) (by omega) (by omega), Option.bind_some]
    generalize 0 + which % (((sNodes m s).length : Int) - 1 - 0 + 1) = j at *
    have hmem := rdmem (a := sNodes m s) hin2.1 (by omega)
    obtain ⟨_, hcm, _, _⟩ := nodes_mem hmem
    have hcm2 := hcm.2
    have hcg : inMap g.m (rd (sNodes m s) j) := by rw [egm]; exact hcm
    have e4 : gEdit g (rd (sNodes m s) j) 255 = (0, gLay g (rd (sNodes m s) j) 255) := by unfold gEdit; rw [if_neg (fun q => q hcg), if_neg (by omega)]
    have hg2 := lay_s hg (by omega) hcg (v := 255) (by omega) (by omega)
    have ew : (gLay g (rd (sNodes m s) j) 255).m = api_Map.mk m.W m.H (List.set m.C (rd (sNodes m s) j).toNat 255) := by unfold gLay; rw [egm]
    rw [if_pos (by omega), if_neg (c := _ < 0) (by have := hcm.1; omega), if_neg (c := _ ≥ _) (by omega), edit_f hg, e4]
    simp only [Option.bind_some]
    rw [if_neg (by simp)]
    have eta : grid_Grid.mk (api_Map.mk (gLay g (rd (sNodes m s) j) 255).m.W (gLay g (rd (sNodes m s) j) 255).m.H (gLay g (rd (sNodes m s) j) 255).m.C) (gLay g (rd (sNodes m s) j) 255).epoch (gLay g (rd (sNodes m s) j) 255).versions = gLay g (rd (sNodes m s) j) 255 := rfl
    rw [eta, nodes_f hg2, Option.bind_some]
    have e16 : sNodes (gLay g (rd (sNodes m s) j) 255).m s = (sNodes m s).erase (rd (sNodes m s) j) := by rw [ew]; exact nodes_wall hm hcm s
    have hlen : ((sNodes m s).erase (rd (sNodes m s) j)).length ≤ (sNodes m s).length := List.length_erase_le
    have hg3 : GridS (gLay g (rd (sNodes m s) j) 255) 500 := ⟨hg2.ok, hg2.by_, hg2.vs, by have := hg2.ep; omega⟩
    rw [e16]
    exact edits_l0 hm hb (sNodes m s) j hin2.1 (by omega) rfl rfl hcm ew hg3 _ rfl ((sNodes m s).erase (rd (sNodes m s) j)).length fuel 0 (by omega) (by omega) (by rw [fuelv]; omega)
end Go.Proofs.Yticdodeoljodiaa
