/- Numbers are given from 0 on, one for each that is made; who is gone, or was sent away, never comes again: at any size up to 8 by 8, any calls, of which at most 50 are made. No condition. -/
import Derived.Test.YtkidcebfpengmaaFLCrowdIds
import Derived.Test.YtkidcebfpengmaaPlaw25
namespace Go.Proofs.Ytkidcebfpengmaa
open Go.Hx
set_option linter.unusedVariables false
set_option linter.unusedSimpArgs false

theorem eta28 (c : crowd_Crowd) : crowd_Crowd.mk c.w c.h c.most (units_Units.mk c.units.most c.units.next c.units.live c.units.order) (floor_Floor.mk c.floor.words c.floor.count) = c := rfl

theorem uHas_iff {L : List api_Unit} {k : Int} : uHas L k = true ↔ k ∈ L.map (·.Id) := by
  unfold uHas
  cases hf : uFind L k with
  | none =>
    have := uFind_none hf
    constructor
    · intro q; cases q
    · intro q
      obtain ⟨x, hx, e⟩ := List.mem_map.1 q
      exact absurd e (this x hx)
  | some x =>
    obtain ⟨h1, h2⟩ := uFind_some hf
    exact ⟨fun _ => List.mem_map.2 ⟨x, h1, h2⟩, fun _ => rfl⟩
theorem uHas_drop {L : List api_Unit} {k q : Int} : uHas (uDrop L k) q = true ↔ uHas L q = true ∧ q ≠ k := by
  rw [uHas_iff, uHas_iff]
  unfold uDrop
  constructor
  · intro h
    obtain ⟨x, hx, rfl⟩ := List.mem_map.1 h
    obtain ⟨h1, h2⟩ := List.mem_filter.1 hx
    exact ⟨List.mem_map.2 ⟨x, h1, rfl⟩, by simpa using h2⟩
  · rintro ⟨h, hne⟩
    obtain ⟨x, hx, rfl⟩ := List.mem_map.1 h
    exact List.mem_map.2 ⟨x, List.mem_filter.2 ⟨hx, by simpa using hne⟩, rfl⟩
theorem uHas_turn {L : List api_Unit} {k q : Int} {f : api_Unit → api_Unit} (hf : ∀ x, x.Id = k → (f x).Id = x.Id) : uHas (uTurn L k f) q = uHas L q := by
  rw [Bool.eq_iff_iff, uHas_iff, uHas_iff]
  have : (uTurn L k f).map (·.Id) = L.map (·.Id) := by
    unfold uTurn
    rw [List.map_map]
    refine List.map_congr_left fun x _ => ?_
    simp only [Function.comp]
    split
    · rename_i e; exact hf x e
    · rfl
  rw [this]

theorem rt_1 {w h : Int} {L : List api_Unit} {id goal : Int} (hf : uFind L id = none) : cRetarget w h L id goal = (12, L) := by unfold cRetarget; rw [hf]
theorem rt_2 {w h : Int} {L : List api_Unit} {id goal : Int} {x : api_Unit} (hf : uFind L id = some x) (z : ¬ CellS w h goal) : cRetarget w h L id goal = (7, L) := by unfold cRetarget; rw [hf]; simp only; rw [if_pos z]
theorem rt_3 {w h : Int} {L : List api_Unit} {id goal : Int} {x : api_Unit} (hf : uFind L id = some x) (z : CellS w h goal) (g : x.Cell = goal) : cRetarget w h L id goal = (13, uDrop L id) := by
  unfold cRetarget; rw [hf]; simp only; rw [if_neg (fun y => y z), if_pos g]
theorem rt_4 {w h : Int} {L : List api_Unit} {id goal : Int} {x : api_Unit} (hf : uFind L id = some x) (z : CellS w h goal) (g : ¬ x.Cell = goal) : cRetarget w h L id goal = (0, uTurn L id (fun x => ⟨x.Id, x.Cell, goal⟩)) := by
  unfold cRetarget; rw [hf]; simp only; rw [if_neg (fun y => y z), if_neg g]

/-- the law's own book of who lives -/
def Book (m : List (Int × Int)) (L : List api_Unit) : Prop := ∀ k, mval m k = if uHas L k = true then 1 else 0

section
variable {w h : Int} {L : List api_Unit} {dirs : List Int}
theorem has_ln (hm : MayU w h L) : ∀ n : Nat, n ≤ L.length → (∀ q, uHas (Ln w h L dirs n) q = true ↔ uHas L q = true ∧ q ∉ (gFold w h L dirs n).2.2) ∧ (gFold w h L dirs n).2.2.Nodup ∧ ∀ g ∈ (gFold w h L dirs n).2.2, ∃ j : Int, 0 ≤ j ∧ j < n ∧ g = (rd L j).Id := by
  intro n
  induction n with
  | zero =>
    intro _
    have h0 : Ln w h L dirs 0 = L := by
      show L.filter _ = L
      rw [List.filter_eq_self]
      intro x hx
      obtain ⟨j, j0, j1, rfl⟩ := memrd hx
      simpa using (hm.cell j0 j1).2.1
    rw [h0]
    exact ⟨fun q => by simp [gFold], by simp [gFold], by simp [gFold]⟩
  | succ n ih =>
    intro hn
    obtain ⟨i1, i2, i3⟩ := ih (by omega)
    have hls := ln_step hm dirs (n := n) (by omega)
    have hgs := gn_step (w := w) (h := h) (l := L) (dirs := dirs) n
    have hnew : (rd L (n : Int)).Id ∉ (gFold w h L dirs n).2.2 := by
      intro q
      obtain ⟨j, j0, j1, e⟩ := i3 _ q
      have := hm.id_lt (i := j) (j := n) j0 j1 (by omega)
      omega
    by_cases z : nCan w h L dirs n
    · rw [if_pos z] at hls
      by_cases g : nTo w h L dirs n = (rd L (n : Int)).Goal
      · rw [if_pos g] at hls
        rw [if_pos ⟨z, g⟩] at hgs
        rw [hls, hgs]
        refine ⟨fun q => ?_, ?_, fun x hx => ?_⟩
        · rw [uHas_drop, i1]
          simp only [List.mem_append, List.mem_singleton, not_or]
          exact ⟨fun ⟨⟨a, b⟩, c⟩ => ⟨a, b, c⟩, fun ⟨a, b, c⟩ => ⟨⟨a, b⟩, c⟩⟩
        · rw [List.nodup_append]
          exact ⟨i2, by simp, fun a ha b hb e => by simp at hb; subst hb; subst e; exact hnew ha⟩
        · rcases List.mem_append.1 hx with q | q
          · obtain ⟨j, j0, j1, e⟩ := i3 x q; exact ⟨j, j0, by omega, e⟩
          · simp at q; exact ⟨n, by omega, by omega, q⟩
      · rw [if_neg g] at hls
        rw [if_neg (fun q => g q.2), List.append_nil] at hgs
        rw [hls, hgs]
        exact ⟨fun q => by rw [uHas_turn (L := Ln w h L dirs n) (k := (rd L (n : Int)).Id) (q := q) (f := fun _ => ⟨(rd L (n : Int)).Id, nTo w h L dirs n, (rd L (n : Int)).Goal⟩) (fun x e => e.symm), i1], i2, fun x hx => by obtain ⟨j, j0, j1, e⟩ := i3 x hx; exact ⟨j, j0, by omega, e⟩⟩
    · rw [if_neg z] at hls
      rw [if_neg (fun q => z q.1), List.append_nil] at hgs
      rw [hls, hgs]
      exact ⟨i1, i2, fun x hx => by obtain ⟨j, j0, j1, e⟩ := i3 x hx; exact ⟨j, j0, by omega, e⟩⟩
theorem move_has (hm : MayU w h L) {x : api_Move} (hx : x ∈ (gGo w h L dirs).2.1) : uHas L x.Id = true := by
  obtain ⟨A, M, G, _, h2, _, h4, _⟩ := tails (dirs := dirs) hm L.length 0 (by omega)
  rw [h2] at hx
  have hx' : x ∈ M := by simpa [gFold] using hx
  obtain ⟨j, j0, j1, e⟩ := h4 x hx'
  rw [uHas_iff, e]
  exact List.mem_map.2 ⟨_, rdmem (by omega) j1, rfl⟩

theorem ids_l2 {c : crowd_Crowd} {nx : Int} {mv : List api_Move} {cd : Int} {gs : List Int} {A : List api_Unit} (hg : gs.Nodup) (hgl : gs.length ≤ 1000) (hhas : ∀ g ∈ gs, uHas L g = true) (hA : ∀ q, uHas A q = true ↔ uHas L q = true ∧ q ∉ gs) : ∀ (m k n : Nat) (b : List (Int × Int)), n + m = gs.length → m < k →
    (∀ q, mval b q = if uHas L q = true ∧ q ∉ gs.take n then 1 else 0) →
    ∃ b', law25_CrowdIds.l2 k w h nx (mv, gs, cd, c) b (n : Int) = some (Sum.inr (c.w, c.h, c.most, c.units.most, c.units.next, c.units.live, c.units.order, c.floor.words, c.floor.count, nx, b')) ∧ Book b' A := by
  intro m
  induction m with
  | zero =>
    intro k n b hn hk hb
    obtain ⟨k, rfl⟩ := kpos hk
    refine ⟨b, by rw [law25_CrowdIds.l2, if_neg (by simp only; omega)], fun q => ?_⟩
    rw [hb q, List.take_of_length_le (by omega)]
    simp only [hA]
  | succ m ih =>
    intro k n b hn hk hb
    obtain ⟨k, rfl⟩ := kpos hk
    have hlt : n < gs.length := by omega
    have hmem : rd gs (n : Int) ∈ gs := rdmem (by omega) (by omega)
    have hnot : rd gs (n : Int) ∉ gs.take n := by
      intro q
      rw [rdn hlt] at q
      obtain ⟨i, hi, e⟩ := List.mem_take_iff_getElem.1 q
      have := List.pairwise_iff_getElem.1 hg i n (by omega) hlt (by omega)
      exact this e
    rw [law25_CrowdIds.l2, if_pos (by simp only; omega), if_pos (by simp only; omega)]
    have h1 : mval b (rd gs (n : Int)) = 1 := by rw [hb, if_pos ⟨hhas _ hmem, hnot⟩]
    simp only [h1]
    rw [if_neg (by simp), wi (by omega) (by omega), show (n : Int) + 1 = ((n + 1 : Nat) : Int) by omega]
    refine ih k (n + 1) _ (by omega) (by omega) (fun q => ?_)
    rw [mval_mset, List.take_add_one, List.getElem?_eq_getElem hlt, ← rdn hlt]
    by_cases e : rd gs (n : Int) = q
    · rw [if_pos e, if_neg]
      rintro ⟨_, y⟩; exact y (by simp [e])
    · rw [if_neg e, hb q]
      have : (q ∈ gs.take n ++ [rd gs (n : Int)]) ↔ q ∈ gs.take n := by
        simp only [List.mem_append, List.mem_singleton]
        exact ⟨fun y => y.elim id (fun z => absurd z.symm e), .inl⟩
      simp only [Option.toList_some, this]

theorem ids_l1 {c : crowd_Crowd} {nx : Int} {b : List (Int × Int)} {mv : List api_Move} {gs : List Int} {cd : Int} (hb : Book b L) (hml : mv.length ≤ 1000) (hmv : ∀ x ∈ mv, uHas L x.Id = true) : ∀ (m k : Nat) (i : Int), i + m = mv.length → 0 ≤ i → m < k →
    law25_CrowdIds.l1 k w h nx b (mv, gs, cd, c) i = law25_CrowdIds.l2 fuel w h nx (mv, gs, cd, c) b 0 := by
  intro m
  induction m with
  | zero =>
    intro k i hi h0 hk
    obtain ⟨k, rfl⟩ := kpos hk
    rw [law25_CrowdIds.l1, if_neg (by simp only; omega)]
  | succ m ih =>
    intro k i hi h0 hk
    obtain ⟨k, rfl⟩ := kpos hk
    rw [law25_CrowdIds.l1, if_pos (by simp only; omega), if_pos (by simp only; omega)]
    have h1 : mval b (rd mv i).Id = 1 := by rw [hb, if_pos (hmv _ (rdmem h0 (by omega)))]
    simp only [h1]
    rw [if_neg (by simp), wi (by omega) (by omega)]
    exact ih k (i + 1) (by omega) (by omega) (by omega)

def cntH (L : List api_Unit) (n : Nat) : Nat := ((List.range n).filter (fun i : Nat => uHas L (i : Int))).length
theorem cntH_succ (n : Nat) : cntH L (n + 1) = cntH L n + (if uHas L (n : Int) = true then 1 else 0) := by
  unfold cntH
  rw [List.range_succ, List.filter_append, List.length_append]
  congr 1
  by_cases h : uHas L (n : Int) = true
  · simp [h]
  · simp [h]
theorem cntH_le (n : Nat) : cntH L n ≤ n := by
  unfold cntH
  exact Nat.le_trans (List.length_filter_le ..) (by simp)

theorem ids_l3 {c : crowd_Crowd} {v1 v2 most : Int} (hc : CS c v1 v2 most L) {b : List (Int × Int)} (hb : Book b L) (hx : c.units.next ≤ 1000) : ∀ (m k n : Nat), (n : Int) + m = c.units.next → m < k →
    law25_CrowdIds.l3 k c.w c.h c.units.next c.units.live c.units.order c.floor.words c.most c.floor.count c.units.next b c.units.most (cntH L n : Int) (n : Int) = some (Sum.inr (c.w, c.h, c.most, c.units.most, c.units.next, c.units.live, c.units.order, c.floor.words, c.floor.count, c.units.next, b)) := by
  intro m
  induction m with
  | zero =>
    intro k n hn hk
    obtain ⟨k, rfl⟩ := kpos hk
    have hnd : (L.map (·.Id)).Nodup := by
      unfold List.Nodup
      exact hc.us.up.imp (fun {a b} hab => by omega)
    have h1 := count_range (ids := L.map (·.Id)) (n := n) hnd (fun x hx => by
      obtain ⟨y, hy, rfl⟩ := List.mem_map.1 hx
      have := hc.us.idr hy; omega)
    have h2 : cntH L n = L.length := by
      rw [List.length_map] at h1
      rw [← h1]
      unfold cntH
      congr 1
      refine List.filter_congr fun i _ => ?_
      rw [Bool.eq_iff_iff, uHas_iff, decide_eq_true_iff]
    rw [law25_CrowdIds.l3, if_neg (by omega), eta28, cunits_f hc, h2]
    simp
  | succ m ih =>
    intro k n hn hk
    obtain ⟨k, rfl⟩ := kpos hk
    have hle := cntH_le (L := L) n
    have hsucc := cntH_succ (L := L) n
    rw [law25_CrowdIds.l3, if_pos (by omega), hb]
    have : w64 ((cntH L n : Int) + (if uHas L (n : Int) = true then 1 else 0)) = (cntH L (n + 1) : Int) := by
      rw [hsucc]
      split
      · rw [wi (by omega) (by omega)]; simp
      · rw [wi (by omega) (by omega)]; simp
    rw [this, wi (by omega) (by omega), show (n : Int) + 1 = ((n + 1 : Nat) : Int) by omega]
    exact ih k (n + 1) (by omega) (by omega)
end

section
variable {v1 v2 w h : Int} {l : List herdsmanlaw25_Ask}
theorem ids_l0 (hs : v1 * v2 ≤ 64) : ∀ (m k : Nat) (i : Int) (c : crowd_Crowd) (L : List api_Unit) (b : List (Int × Int)), i + m = 50 → 0 ≤ i → m < k → CS c v1 v2 6 L → Book b L → c.units.next ≤ i →
    law25_CrowdIds.l0 k w h l v1 v2 c.w c.h c.most c.units.most c.units.next c.units.live c.units.order c.floor.words c.floor.count c.units.next b i = some true := by
  intro m
  induction m with
  | zero =>
    intro k i c L b hi h0 hk hc hb hx
    obtain ⟨k, rfl⟩ := kpos hk
    rw [law25_CrowdIds.l0, if_neg (by simp; omega), told25]; rfl
  | succ m ih =>
    intro k i c L b hi h0 hk hc hb hx
    obtain ⟨k, rfl⟩ := kpos hk
    by_cases hl : (l.length : Int) ≤ i
    · rw [law25_CrowdIds.l0, if_neg (by simp; omega), told25]; rfl
    have hp := may_prod hc.may
    have hnx := hc.next
    have hcn := hc.us.cnt
    obtain ⟨q, q1, q2⟩ := near_f (rd l i) (nx := c.units.next) hc.may (by omega)
    obtain ⟨kk, k1, k2, k3⟩ := within_y (n := q.Kind) (lo := 0) (hi := 9) (by omega) (by omega) (by omega) (by omega)
    rw [law25_CrowdIds.l0, if_pos (by simp; omega), if_pos (by omega)]
    simp only [q1, k1, Option.bind_some, eta28]
    have next : ∀ (c' : crowd_Crowd) (L' : List api_Unit) (b' : List (Int × Int)), CS c' v1 v2 6 L' → Book b' L' → c'.units.next ≤ i + 1 →
        (law25_CrowdIds.l3 fuel c'.w c'.h c'.units.next c'.units.live c'.units.order c'.floor.words c'.most c'.floor.count c'.units.next b' c'.units.most 0 0).bind (fun zz => match zz with | Sum.inl q => some q | Sum.inr (x29, x30, x31, x32, x33, x34, x35, x36, x37, x38, x39) => law25_CrowdIds.l0 k w h l v1 v2 x29 x30 x31 x32 x33 x34 x35 x36 x37 x38 x39 (w64 (i + 1))) = some true := by
      intro c' L' b' hc' hb' hx'
      have hnx' := hc'.next
      have h3 := ids_l3 hc' hb' (by omega) c'.units.next.toNat fuel 0 (by omega) (by rw [fuelv]; omega)
      rw [show ((cntH L' 0 : Nat) : Int) = 0 from rfl, show ((0 : Nat) : Int) = 0 from rfl] at h3
      rw [h3]
      simp only [Option.bind_some]
      rw [wi (by omega) (by omega)]
      exact ih k (i + 1) c' L' b' (by omega) (by omega) (by omega) hc' hb' hx'
    have hzero : ∀ k, (mval b k == 0) = !uHas L k := by
      intro k; rw [hb k]
      cases uHas L k <;> rfl
    have hone : ∀ k, (mval b k == 1) = uHas L k := by
      intro k; rw [hb k]
      cases uHas L k <;> rfl
    by_cases a5 : kk = 5
    · obtain ⟨c', e1, e2, e3⟩ := cretarget_f hc q.A q.B
      rw [if_pos (by simpa using a5), e1]
      simp only [Option.bind_some, hzero]
      have hx' : c'.units.next ≤ i + 1 := by omega
      rw [← e3]
      cases hf : uFind L q.A with
      | none =>
        rw [rt_1 hf] at e2 ⊢
        have : uHas L q.A = false := by unfold uHas; rw [hf]; rfl
        rw [this]
        exact next c' L b e2 hb hx'
      | some x =>
        have : uHas L q.A = true := by unfold uHas; rw [hf]; rfl
        rw [this]
        by_cases z : CellS v1 v2 q.B
        · by_cases g : x.Cell = q.B
          · rw [rt_3 hf z g] at e2 ⊢
            refine next c' _ _ e2 (fun y => ?_) hx'
            rw [mval_mset, hb y]
            have hd := uHas_drop (L := L) (k := q.A) (q := y)
            by_cases t : q.A = y
            · rw [if_pos t, if_neg (fun u => (hd.1 u).2 t.symm)]
            · rw [if_neg t]
              by_cases u : uHas L y = true
              · rw [if_pos u, if_pos (hd.2 ⟨u, fun r => t r.symm⟩)]
              · rw [if_neg u, if_neg (fun r => u (hd.1 r).1)]
          · rw [rt_4 hf z g] at e2 ⊢
            refine next c' _ b e2 (fun y => ?_) hx'
            rw [hb y]; simp only; rw [uHas_turn (L := L) (k := q.A) (q := y) (f := fun x => ⟨x.Id, x.Cell, q.B⟩) (fun x _ => rfl)]
        · rw [rt_2 hf z] at e2 ⊢
          exact next c' L b e2 hb hx'
    rw [if_neg (by simpa using a5)]
    by_cases a6 : kk = 6
    · obtain ⟨c', e1, e2, e3⟩ := cdespawn_f hc q.A
      rw [if_pos (by simpa using a6), e1]
      simp only [Option.bind_some, hone]
      rw [← e3]
      unfold cDespawn at e2 ⊢
      by_cases t : uHas L q.A = true
      · rw [if_pos t] at e2 ⊢
        rw [t]
        refine next c' _ _ e2 (fun y => ?_) (by omega)
        rw [mval_mset, hb y]
        have hd := uHas_drop (L := L) (k := q.A) (q := y)
        by_cases r : q.A = y
        · rw [if_pos r, if_neg (fun u => (hd.1 u).2 r.symm)]
        · rw [if_neg r]
          by_cases u : uHas L y = true
          · rw [if_pos u, if_pos (hd.2 ⟨u, fun s => r s.symm⟩)]
          · rw [if_neg u, if_neg (fun s => u (hd.1 s).1)]
      · rw [if_neg t] at e2 ⊢
        have t' : uHas L q.A = false := by simpa using t
        rw [t']
        refine next c' _ _ e2 (fun y => ?_) (by omega)
        rw [mval_mset, hb y]
        by_cases r : q.A = y
        · rw [if_pos r, ← r, if_neg t]
        · rw [if_neg r]
    rw [if_neg (by simpa using a6)]
    by_cases a7 : 7 ≤ kk
    · have : ((if (kk == 7) = true then (some (kk == 7)) else (if (kk == 8) = true then (some (kk == 8)) else (some (kk == 9)))) : Option Bool) = some true := by
        have : kk = 7 ∨ kk = 8 ∨ kk = 9 := by omega
        rcases this with rfl | rfl | rfl <;> rfl
      obtain ⟨d, d1, d2⟩ := dirs25_f (n := L.length) (by omega) q.A q.B
      obtain ⟨c', e1, e2, e3⟩ := ctick_ok hc d2
      rw [this]
      simp only [Option.bind_some, if_true, cunits_f hc, d1, e1, bne_self_eq_false, Bool.false_eq_true, if_false]
      have hm := hc.mayu
      have hi' := gInv hm d L.length (Nat.le_refl _)
      have hml : (gGo v1 v2 L d).2.1.length ≤ L.length := hi'.mlen
      have hgl : (gGo v1 v2 L d).2.2.length ≤ L.length := hi'.glen
      obtain ⟨n1, n2, n3⟩ := has_ln (dirs := d) hm L.length (Nat.le_refl _)
      have eg : (gFold v1 v2 L d L.length).2.2 = (gGo v1 v2 L d).2.2 := rfl
      have ea : Ln v1 v2 L d L.length = (gGo v1 v2 L d).1 := rfl
      rw [eg] at n1 n2 n3
      rw [ea] at n1
      have hgs : ∀ g ∈ (gGo v1 v2 L d).2.2, uHas L g = true := by
        intro g hg
        obtain ⟨j, j0, j1, e⟩ := n3 g hg
        rw [uHas_iff, e]; exact List.mem_map.2 ⟨_, rdmem j0 (by omega), rfl⟩
      rw [ids_l1 hb (by omega) (fun x hx => move_has hm hx) (gGo v1 v2 L d).2.1.length fuel 0 (by omega) (by omega) (by rw [fuelv]; omega)]
      obtain ⟨b', f1, f2⟩ := ids_l2 (w := w) (h := h) (c := c') (nx := c.units.next) (mv := (gGo v1 v2 L d).2.1) (cd := 0) n2 (by omega) hgs n1 (gGo v1 v2 L d).2.2.length fuel 0 b (by omega) (by rw [fuelv]; omega) (fun y => by rw [hb y]; simp)
      rw [show ((0 : Nat) : Int) = 0 from rfl] at f1
      rw [f1]
      simp only [Option.bind_some]
      rw [← e3]
      exact next c' _ b' e2 f2 (by omega)
    · have : ((if (kk == 7) = true then (some (kk == 7)) else (if (kk == 8) = true then (some (kk == 8)) else (some (kk == 9)))) : Option Bool) = some false := by
        rw [if_neg (by simp; omega), if_neg (by simp; omega)]; congr 1; simp; omega
      obtain ⟨c', e1, e2, e3⟩ := cspawn_f hc (by omega) q.A q.B
      rw [this]
      simp only [Option.bind_some, Bool.false_eq_true, if_false, e1]
      have hcases : ((cSpawn v1 v2 6 L c.units.next q.A q.B).2.1 = 0 ∧ (cSpawn v1 v2 6 L c.units.next q.A q.B).1 = c.units.next ∧ (cSpawn v1 v2 6 L c.units.next q.A q.B).2.2 = L ++ [⟨c.units.next, q.A, q.B⟩]) ∨
          ((cSpawn v1 v2 6 L c.units.next q.A q.B).2.1 ≠ 0 ∧ (cSpawn v1 v2 6 L c.units.next q.A q.B).1 = -1 ∧ (cSpawn v1 v2 6 L c.units.next q.A q.B).2.2 = L) := by
        unfold cSpawn
        split
        · exact .inr ⟨by simp, rfl, rfl⟩
        · split
          · exact .inr ⟨by simp, rfl, rfl⟩
          · split
            · exact .inr ⟨by simp, rfl, rfl⟩
            · split
              · exact .inr ⟨by simp, rfl, rfl⟩
              · exact .inl ⟨rfl, rfl, rfl⟩
      rcases hcases with ⟨s1, s2, s3⟩ | ⟨s1, s2, s3⟩
      · rw [s1, if_pos rfl] at e3
        rw [s3] at e2
        rw [if_pos (by rw [s1]; rfl), s2, if_neg (by simp), wi (x := c.units.next + 1) (by omega) (by omega), ← e3]
        simp only [Option.bind_some]
        refine next c' _ _ e2 (fun y => ?_) (by omega)
        rw [mval_mset, hb y]
        have : uHas (L ++ [⟨c.units.next, q.A, q.B⟩]) y = true ↔ uHas L y = true ∨ y = c.units.next := by
          rw [uHas_iff, uHas_iff]; simp
        by_cases t : c.units.next = y
        · rw [if_pos t, if_pos (this.2 (.inr t.symm))]
        · rw [if_neg t]
          by_cases u : uHas L y = true
          · rw [if_pos u, if_pos (this.2 (.inl u))]
          · rw [if_neg u, if_neg (fun r => (this.1 r).elim u (fun z => t z.symm))]
      · rw [if_neg s1] at e3
        rw [s3] at e2
        rw [if_neg (by simpa using s1), s2, if_neg (by simp)]
        simp only [Option.bind_some]
        rw [show c.units.next = c'.units.next by omega]
        exact next c' L b e2 hb (by omega)
end

theorem CrowdIds_pure : law25_CrowdIds.Pure := by
  intro w h l _ _ _ _
  unfold law25_CrowdIds.f
  obtain ⟨v1, e1, a1, a2⟩ := within_y (n := w) (lo := 1) (hi := 8) (by omega) (by omega) (by omega) (by omega)
  obtain ⟨v2, e2, b1, b2⟩ := within_y (n := h) (lo := 1) (hi := 8) (by omega) (by omega) (by omega) (by omega)
  obtain ⟨c, e4, hc, hn⟩ := new_ok (w := v1) (h := v2) (most := 6) ⟨by omega, by omega, by omega, by omega⟩ (by omega) (by omega)
  rw [e1, Option.bind_some, e2, Option.bind_some, e4, Option.bind_some]
  simp only [optm]
  have hs : v1 * v2 ≤ 8 * 8 := mul_le (by omega) (by omega) a2 b2
  have key := ids_l0 (w := w) (h := h) (l := l) hs 50 fuel 0 c [] [] (by omega) (by omega) (by rw [fuelv]; omega) hc (fun k => by simp [mval, mget, uHas, uFind]) (by omega)
  rw [hn] at key ⊢
  exact key
end Go.Proofs.Ytkidcebfpengmaa
