/- A cell has a number just if that unit lives and is there; no two at one, no more than may, nobody at its own goal: at any size up to 8 by 8, any most up to 9, any calls, of which at most 50 are made. No condition. -/
import Derived.Test.YtkidcebfpengmaaFLCrowdApart
import Derived.Test.YtkidcebfpengmaaPlaw25
namespace Go.Proofs.Ytkidcebfpengmaa
open Go.Hx
set_option linter.unusedVariables false
set_option linter.unusedSimpArgs false

section
variable {c : crowd_Crowd} {v1 v2 most : Int} {L : List api_Unit}

theorem eta25 (c : crowd_Crowd) : crowd_Crowd.mk c.w c.h c.most (units_Units.mk c.units.most c.units.next c.units.live c.units.order) (floor_Floor.mk c.floor.words c.floor.count) = c := rfl

/-- how many of the first so many words are somebody's -/
def cntW (ws : List Int) (n : Nat) : Nat := ((List.range n).filter (fun i : Nat => decide (rd ws (i : Int) ≠ 0))).length
theorem cntW_succ (ws : List Int) (n : Nat) : cntW ws (n + 1) = cntW ws n + (if rd ws (n : Int) ≠ 0 then 1 else 0) := by
  unfold cntW
  rw [List.range_succ, List.filter_append, List.length_append]
  congr 1
  by_cases h : rd ws (n : Int) ≠ 0
  · simp [h]
  · simp [h]
theorem cntW_le (ws : List Int) (n : Nat) : cntW ws n ≤ n := by
  unfold cntW
  exact Nat.le_trans (List.length_filter_le ..) (by simp)
theorem cntW_all (hc : CS c v1 v2 most L) : cntW c.floor.words (v1 * v2).toNat = L.length := by
  have hp := may_prod hc.may
  have hn : (L.map (·.Cell)).Nodup := by
    unfold List.Nodup
    rw [List.pairwise_map]
    have := hc.us.up
    rw [List.pairwise_map] at this
    refine List.Pairwise.imp_of_mem (fun {x y} hx hy hxy e => ?_) this
    rw [hc.inj hx hy e] at hxy; omega
  have h1 := count_range (ids := L.map (·.Cell)) (n := (v1 * v2).toNat) hn (fun x hx => by
    obtain ⟨y, hy, rfl⟩ := List.mem_map.1 hx
    have := hc.fl.at_ y hy; omega)
  rw [List.length_map] at h1
  rw [← h1]
  unfold cntW
  congr 1
  refine List.filter_congr fun i hi => ?_
  rw [List.mem_range] at hi
  rw [Bool.eq_iff_iff, decide_eq_true_iff, decide_eq_true_iff]
  constructor
  · intro h
    obtain ⟨x, hx, e⟩ := hc.fl.only (i : Int) (by omega) (by omega) h
    exact List.mem_map.2 ⟨x, hx, e⟩
  · intro h
    obtain ⟨x, hx, e⟩ := List.mem_map.1 h
    have h2 := (hc.fl.at_ x hx).2.2
    rw [e] at h2
    have := (hc.us.idr hx).1
    omega

theorem apart_l2 (hc : CS c v1 v2 most L) (hs : v1 * v2 ≤ 64) (hx : c.units.next ≤ 1000) : ∀ (m k : Nat) (i : Int), i + m = L.length → 0 ≤ i → m < k →
    law25_CrowdApart.l2 k v1 v2 c.h c.w c.units.most c.units.next c.units.order c.most c.units.live c.floor.count c.floor.words L c.floor.words (L.length : Int) i = some (Sum.inr (c.w, c.h, c.most, c.units.most, c.units.next, c.units.live, c.units.order, c.floor.words, c.floor.count)) := by
  have hp := may_prod hc.may
  have hcn := hc.us.cnt
  intro m
  induction m with
  | zero =>
    intro k i hi h0 hk
    obtain ⟨k, rfl⟩ := kpos hk
    rw [law25_CrowdApart.l2, if_neg (by omega), if_neg (by simp)]
  | succ m ih =>
    intro k i hi h0 hk
    obtain ⟨k, rfl⟩ := kpos hk
    have hm : rd L i ∈ L := rdmem h0 (by omega)
    obtain ⟨f1, f2, f3⟩ := hc.fl.at_ _ hm
    obtain ⟨o1, o2, o3⟩ := hc.ok _ hm
    have hid := hc.us.idr hm
    have hlen := hc.fl.fl.1
    rw [law25_CrowdApart.l2, if_pos (by omega), if_pos (by omega), if_neg (by omega), wi (x := v1 * v2) (by omega) (by omega), if_neg (by omega), if_pos (by omega)]
    rw [wi (x := (rd L i).Id + 1) (by omega) (by omega), w32i (by omega) (by omega), if_neg (by simpa using f3), if_neg (by simpa using o3), if_neg (by have := o2.2.1; omega), if_neg (by have := o2.2.2; omega)]
    have hfin : ((if i > 0 then (if (0 ≤ (w64 (i - 1)) ∧ (w64 (i - 1)) < (List.length L : Int)) then (some (decide ((rd L (w64 (i - 1))).Id ≥ (rd L i).Id))) else none) else (some false)) : Option Bool) = some false := by
      by_cases q : i > 0
      · rw [if_pos q, wi (by omega) (by omega), if_pos (by omega)]
        have h1 := pairrd hc.us.up (i := i - 1) (j := i) (by omega) (by omega) (by simp; omega)
        rw [rdmap (by omega) (by omega), rdmap (by omega) (by omega)] at h1
        simp; omega
      · rw [if_neg q]
    rw [hfin]
    simp only [Option.bind_some, Bool.false_eq_true, if_false]
    rw [wi (by omega) (by omega)]
    exact ih k (i + 1) (by omega) (by omega) (by omega)

theorem apart_l1 (hc : CS c v1 v2 most L) (hs : v1 * v2 ≤ 64) (hx : c.units.next ≤ 1000) : ∀ (m k n : Nat), (n : Int) + m = v1 * v2 → m < k →
    law25_CrowdApart.l1 k v1 v2 c.h c.w c.units.most c.units.next c.units.order c.most c.units.live c.floor.count c.floor.words L c.floor.words (cntW c.floor.words n : Int) (n : Int) = some (Sum.inr (c.w, c.h, c.most, c.units.most, c.units.next, c.units.live, c.units.order, c.floor.words, c.floor.count)) := by
  have hp := may_prod hc.may
  have hlen := hc.fl.fl.1
  have hcn := hc.us.cnt
  intro m
  induction m with
  | zero =>
    intro k n hi hk
    obtain ⟨k, rfl⟩ := kpos hk
    rw [law25_CrowdApart.l1, if_neg (by omega)]
    have := cntW_all hc
    rw [show (v1 * v2).toNat = n by omega] at this
    rw [this]
    exact apart_l2 hc hs hx L.length fuel 0 (by omega) (by omega) (by rw [fuelv]; omega)
  | succ m ih =>
    intro k n hi hk
    obtain ⟨k, rfl⟩ := kpos hk
    have hle := cntW_le c.floor.words n
    have hsucc := cntW_succ c.floor.words n
    have hrng := hc.fl.fl.2 (n : Int) (by omega) (by omega)
    rw [law25_CrowdApart.l1, if_pos (by omega), if_pos (by omega)]
    have hcnt : ((if ((rd c.floor.words (n : Int)) != 0) = true then (some (w64 ((cntW c.floor.words n : Int) + 1))) else (some (cntW c.floor.words n : Int))) : Option Int) = some (cntW c.floor.words (n + 1) : Int) := by
      rw [hsucc, wi (by omega) (by omega)]
      by_cases q : rd c.floor.words (n : Int) = 0
      · rw [if_neg (by simpa using q), if_neg (by simpa using q)]; simp
      · rw [if_pos (by simpa using q), if_pos (by simpa using q)]; simp
    rw [hcnt]
    simp only [Option.bind_some, eta25, crowd_Crowd_Who.f, who_f hc.fl.fl]
    have hw : fWho (v1 * v2) c.floor (n : Int) = rd c.floor.words (n : Int) - 1 := by unfold fWho; rw [if_pos (by omega)]
    rw [hw, if_pos (by omega), wi (x := rd c.floor.words (n : Int)) (by omega) (by omega), wi (x := rd c.floor.words (n : Int) - 1) (by omega) (by omega), if_neg (by simp), wi (by omega) (by omega), show (n : Int) + 1 = ((n + 1 : Nat) : Int) by omega]
    exact ih k (n + 1) (by omega) (by omega)

theorem apart_l0 {w h most0 : Int} {l : List herdsmanlaw25_Ask} (hs : v1 * v2 ≤ 64) (hmost : most ≤ 9) : ∀ (m k : Nat) (i : Int) (c : crowd_Crowd) (L : List api_Unit), i + m = 50 → 0 ≤ i → m < k → CS c v1 v2 most L → c.units.next ≤ i →
    law25_CrowdApart.l0 k w h most0 l v1 v2 most c.w c.h c.most c.units.most c.units.next c.units.live c.units.order c.floor.words c.floor.count i = some true := by
  intro m
  induction m with
  | zero =>
    intro k i c L hi h0 hk hc hx
    obtain ⟨k, rfl⟩ := kpos hk
    rw [law25_CrowdApart.l0, if_neg (by simp; omega), told25]; rfl
  | succ m ih =>
    intro k i c L hi h0 hk hc hx
    obtain ⟨k, rfl⟩ := kpos hk
    by_cases hl : (l.length : Int) ≤ i
    · rw [law25_CrowdApart.l0, if_neg (by simp; omega), told25]; rfl
    have hp := may_prod hc.may
    obtain ⟨q, q1, q2⟩ := near_f (rd l i) (nx := 12) hc.may (by omega)
    obtain ⟨kk, k1, k2, k3⟩ := within_y (n := q.Kind) (lo := 0) (hi := 9) (by omega) (by omega) (by omega) (by omega)
    have hstep : ∃ c' L', ((if (kk == 5) = true then ((crowd_Crowd_Retarget.f c q.A q.B).bind fun v48 => some (Sum.inr (v48.2.w, v48.2.h, v48.2.most, v48.2.units.most, v48.2.units.next, v48.2.units.live, v48.2.units.order, v48.2.floor.words, v48.2.floor.count))) else (if (kk == 6) = true then ((crowd_Crowd_Despawn.f c q.A).bind fun v49 => some (Sum.inr (v49.2.w, v49.2.h, v49.2.most, v49.2.units.most, v49.2.units.next, v49.2.units.live, v49.2.units.order, v49.2.floor.words, v49.2.floor.count))) else ((if (kk == 7) = true then (some (kk == 7)) else (if (kk == 8) = true then (some (kk == 8)) else (some (kk == 9)))).bind fun x50 => if x50 = true then ((crowd_Crowd_Units.f c).bind fun v52 => (law25_dirs.f (List.length v52 : Int) q.A q.B).bind fun v53 => (crowd_Crowd_Tick.f c v53).bind fun v54 => if (v54.2.2.1 != 0) = true then (some (Sum.inl false)) else (some (Sum.inr (v54.2.2.2.w, v54.2.2.2.h, v54.2.2.2.most, v54.2.2.2.units.most, v54.2.2.2.units.next, v54.2.2.2.units.live, v54.2.2.2.units.order, v54.2.2.2.floor.words, v54.2.2.2.floor.count)))) else ((crowd_Crowd_Spawn.f c q.A q.B).bind fun v55 => some (Sum.inr (v55.2.2.w, v55.2.2.h, v55.2.2.most, v55.2.2.units.most, v55.2.2.units.next, v55.2.2.units.live, v55.2.2.units.order, v55.2.2.floor.words, v55.2.2.floor.count)))))) : Option (Sum Bool (Int × Int × Int × Int × Int × (List (Int × api_Unit)) × (List Int) × (List Int) × Int))) =
        some (Sum.inr (c'.w, c'.h, c'.most, c'.units.most, c'.units.next, c'.units.live, c'.units.order, c'.floor.words, c'.floor.count)) ∧ CS c' v1 v2 most L' ∧ c'.units.next ≤ i + 1 := by
      by_cases a5 : kk = 5
      · obtain ⟨c', e1, e2, e3⟩ := cretarget_f hc q.A q.B
        exact ⟨c', _, by rw [if_pos (by simpa using a5), e1]; rfl, e2, by omega⟩
      · rw [if_neg (by simpa using a5)]
        by_cases a6 : kk = 6
        · obtain ⟨c', e1, e2, e3⟩ := cdespawn_f hc q.A
          exact ⟨c', _, by rw [if_pos (by simpa using a6), e1]; rfl, e2, by omega⟩
        · rw [if_neg (by simpa using a6)]
          by_cases a7 : 7 ≤ kk
          · have : ((if (kk == 7) = true then (some (kk == 7)) else (if (kk == 8) = true then (some (kk == 8)) else (some (kk == 9)))) : Option Bool) = some true := by
              have : kk = 7 ∨ kk = 8 ∨ kk = 9 := by omega
              rcases this with rfl | rfl | rfl <;> rfl
            have hcn := hc.us.cnt
            obtain ⟨d, d1, d2⟩ := dirs25_f (n := L.length) (by omega) q.A q.B
            obtain ⟨c', e1, e2, e3⟩ := ctick_ok hc d2
            rw [this]
            refine ⟨c', _, ?_, e2, by omega⟩
            simp only [Option.bind_some, if_true, cunits_f hc, d1, e1]
            rw [if_neg (by simp)]
          · have : ((if (kk == 7) = true then (some (kk == 7)) else (if (kk == 8) = true then (some (kk == 8)) else (some (kk == 9)))) : Option Bool) = some false := by
              rw [if_neg (by simp; omega), if_neg (by simp; omega)]; congr 1; simp; omega
            obtain ⟨c', e1, e2, e3⟩ := cspawn_f hc (by omega) q.A q.B
            rw [this]
            refine ⟨c', _, ?_, e2, ?_⟩
            · simp only [Option.bind_some, Bool.false_eq_true, if_false, e1]
            · rw [e3]; split <;> omega
    obtain ⟨c', L', e1, e2, e3⟩ := hstep
    have hcn := e2.us.cnt
    have hfew := e2.few
    have hlen := e2.fl.fl.1
    rw [law25_CrowdApart.l0, if_pos (by simp; omega), if_pos (by omega)]
    simp only [q1, k1, Option.bind_some, eta25]
    rw [e1]
    simp only [Option.bind_some, eta25, cunits_f e2, cwords_f e2]
    rw [if_neg (by rw [wi (by omega) (by omega)]; simp; omega)]
    have h1 := apart_l1 e2 hs (by omega) (v1 * v2).toNat fuel 0 (by omega) (by rw [fuelv]; omega)
    have hz : ((cntW c'.floor.words 0 : Nat) : Int) = 0 := rfl
    rw [hz] at h1
    rw [show ((0 : Nat) : Int) = 0 from rfl] at h1
    rw [h1]
    simp only [Option.bind_some]
    rw [wi (by omega) (by omega)]
    exact ih k (i + 1) c' L' (by omega) (by omega) (by omega) e2 e3
end

theorem CrowdApart_pure : law25_CrowdApart.Pure := by
  intro w h most l _ _ _ _ _
  unfold law25_CrowdApart.f
  obtain ⟨v1, e1, a1, a2⟩ := within_y (n := w) (lo := 1) (hi := 8) (by omega) (by omega) (by omega) (by omega)
  obtain ⟨v2, e2, b1, b2⟩ := within_y (n := h) (lo := 1) (hi := 8) (by omega) (by omega) (by omega) (by omega)
  obtain ⟨v3, e3, c1, c2⟩ := within_y (n := most) (lo := 1) (hi := 9) (by omega) (by omega) (by omega) (by omega)
  obtain ⟨c, e4, hc, hn⟩ := new_ok (w := v1) (h := v2) (most := v3) ⟨by omega, by omega, by omega, by omega⟩ c1 (by omega)
  rw [e1, Option.bind_some, e2, Option.bind_some, e3, Option.bind_some, e4, Option.bind_some]
  simp only [optm]
  have hs : v1 * v2 ≤ 8 * 8 := mul_le (by omega) (by omega) a2 b2
  exact apart_l0 hs c2 50 fuel 0 c [] (by omega) (by omega) (by rw [fuelv]; omega) hc (by omega)
end Go.Proofs.Ytkidcebfpengmaa
