import Derived.Test.YtkidcebfpengmaaPcrowd
namespace Go.Proofs.Ytkidcebfpengmaa
open Go.Hx
set_option linter.unusedVariables false
set_option linter.unusedSimpArgs false

variable {c : crowd_Crowd} {w h most : Int} {L : List api_Unit}
theorem CS.mayu (hc : CS c w h most L) : MayU w h L := by
  refine ⟨hc.may, fun j j0 j1 => ?_⟩
  have hm := rdmem j0 j1
  obtain ⟨a, b, d⟩ := hc.ok _ hm
  refine ⟨?_, a, b, fun q q0 q1 e => ?_⟩
  · split
    · have := (hc.us.idr hm).1; omega
    · have := pairrd hc.us.up (i := j - 1) (j := j) (by omega) (by omega) (by simp; omega)
      rwa [rdmap (by omega) (by omega), rdmap (by omega) (by omega)] at this
  · have h1 := hc.inj (rdmem q0 (by omega)) hm e
    have := pairrd hc.us.up (i := q) (j := j) q0 q1 (by simp; omega)
    rw [rdmap (by omega) (by omega), rdmap (by omega) (by omega), h1] at this
    omega

theorem turn_filter_no {k : Int} {v : api_Unit} {p : api_Unit → Bool} (hv : p v = false) (l : List api_Unit) : (uTurn l k (fun _ => v)).filter p = uDrop (l.filter p) k := by
  unfold uTurn uDrop
  induction l with
  | nil => rfl
  | cons x r ih =>
    rw [List.map_cons]
    by_cases e : x.Id = k
    · rw [if_pos e, List.filter_cons, hv, ih]
      by_cases q : p x = true
      · simp [q, e]
      · simp [q]
    · rw [if_neg e, List.filter_cons, ih]
      by_cases q : p x = true
      · rw [if_pos q, List.filter_cons, if_pos q, List.filter_cons, if_pos (by simpa using e)]
      · rw [if_neg q, List.filter_cons, if_neg q]
theorem turn_filter_yes {k : Int} {v : api_Unit} {p : api_Unit → Bool} (hv : p v = true) (l : List api_Unit) (hl : ∀ x ∈ l, x.Id = k → p x = true) : (uTurn l k (fun _ => v)).filter p = uTurn (l.filter p) k (fun _ => v) := by
  unfold uTurn
  induction l with
  | nil => rfl
  | cons x r ih =>
    have ih' := ih (fun y hy => hl y (by simp [hy]))
    rw [List.map_cons]
    by_cases e : x.Id = k
    · rw [if_pos e, List.filter_cons, if_pos hv, ih', List.filter_cons, if_pos (hl x (by simp) e), List.map_cons, if_pos e]
    · rw [if_neg e, List.filter_cons, ih']
      by_cases q : p x = true
      · rw [if_pos q, List.filter_cons, if_pos q, List.map_cons, if_neg e]
      · rw [if_neg q, List.filter_cons, if_neg q]

abbrev Ln (w h : Int) (L : List api_Unit) (dirs : List Int) (n : Nat) : List api_Unit := (gFold w h L dirs n).1.filter (fun x => decide (0 ≤ x.Cell))

theorem set_turn {l : List api_Unit} {n : Nat} (hn : n < l.length) (hid : ∀ i j : Int, 0 ≤ i → i < l.length → 0 ≤ j → j < l.length → i ≠ j → (rd l i).Id ≠ (rd l j).Id) (v : api_Unit) : l.set n v = uTurn l (rd l (n : Int)).Id (fun _ => v) := by
  refine rdext (by simp [uTurn]) (fun i i0 i1 => ?_)
  rw [List.length_set] at i1
  unfold uTurn
  rw [rdmap i0 i1]
  have := rds (L := l) (i := (n : Int)) (c := i) (v := v) (by omega) (by omega) i0
  rw [show ((n : Int)).toNat = n by simp] at this
  rw [this]
  by_cases e : i = n
  · rw [if_pos e, e, if_pos rfl]
  · rw [if_neg e, if_neg (hid i n i0 i1 (by omega) (by omega) e)]

theorem ln_step (hm : MayU w h L) (dirs : List Int) {n : Nat} (hn : n < L.length) : Ln w h L dirs (n + 1) =
    if nCan w h L dirs n then (if nTo w h L dirs n = (rd L (n : Int)).Goal then uDrop (Ln w h L dirs n) (rd L (n : Int)).Id else uTurn (Ln w h L dirs n) (rd L (n : Int)).Id (fun _ => ⟨(rd L (n : Int)).Id, nTo w h L dirs n, (rd L (n : Int)).Goal⟩)) else Ln w h L dirs n := by
  have hi := gInv hm dirs n (by omega)
  have hl := hi.len
  show (gStep w h (gFold w h L dirs n) n (rd L (n : Int)) (rd dirs (n : Int))).1.filter _ = _
  unfold gStep
  have hid : ∀ i j : Int, 0 ≤ i → i < (gFold w h L dirs n).1.length → 0 ≤ j → j < (gFold w h L dirs n).1.length → i ≠ j → (rd (gFold w h L dirs n).1 i).Id ≠ (rd (gFold w h L dirs n).1 j).Id := by
    intro i j i0 i1 j0 j1 hij
    rw [(hi.same i i0 (by omega)).1, (hi.same j j0 (by omega)).1]
    rcases Int.lt_or_gt_of_ne hij with q | q
    · have := hm.id_lt i0 q (by omega); omega
    · have := hm.id_lt j0 q (by omega); omega
  by_cases z : nCan w h L dirs n
  · rw [if_pos z, if_pos z]
    simp only
    rw [show ((n : Int)).toNat = n by simp, set_turn (by omega) hid, hi.rest n (by omega) (by omega)]
    by_cases g : nTo w h L dirs n = (rd L (n : Int)).Goal
    · rw [if_pos g, if_pos g]
      exact turn_filter_no (by simp) _
    · rw [if_neg g, if_neg g]
      have hto : 0 ≤ nTo w h L dirs n := z.1
      refine turn_filter_yes (by simpa using hto) _ (fun x hx e => ?_)
      obtain ⟨j, j0, j1, rfl⟩ := memrd hx
      have : j = n := Classical.byContradiction fun q => by
        have := hid j n j0 j1 (by omega) (by omega) q
        rw [hi.rest n (by omega) (by omega)] at this
        exact this e
      subst this
      rw [hi.rest n (by omega) (by omega)]
      simpa using (hm.cell (by omega) (by omega)).2.1
  · rw [if_neg z, if_neg z]

theorem fshift_s {f : floor_Floor} {n : Int} (hf : FS f n L) (hup : (L.map (·.Id)).Pairwise (· < ·)) {x : api_Unit} (hx : x ∈ L) (i0 : 0 ≤ x.Id) {to : Int} (t0 : 0 ≤ to) (t1 : to < n) (hno : ∀ y ∈ L, y.Cell ≠ to) :
    FS (fSet (fSet f x.Cell 0 (-1)) to (x.Id + 1) 1) n (uTurn L x.Id (fun _ => ⟨x.Id, to, x.Goal⟩)) := by
  obtain ⟨h0, h1, h2⟩ := hf.at_ x hx
  have hr := hf.fl.2 x.Cell h0 h1
  have hf1 : FloorS n (fSet f x.Cell 0 (-1)) := set_s hf.fl h0 h1 (by omega) (by omega)
  have hrr : ∀ d, 0 ≤ d → rd (fSet (fSet f x.Cell 0 (-1)) to (x.Id + 1) 1).words d = if d = to then x.Id + 1 else if d = x.Cell then 0 else rd f.words d := by
    intro d d0; rw [rd_fset hf1 t0 t1 d0, rd_fset hf.fl h0 h1 d0]
  refine ⟨set_s hf1 t0 t1 (by omega) (by omega), by simp [fSet, hf.cnt, uTurn]; omega, fun y hy => ?_, fun d d0 d1 hd => ?_⟩
  · unfold uTurn at hy
    obtain ⟨z, hz, rfl⟩ := List.mem_map.1 hy
    obtain ⟨a, b, e⟩ := hf.at_ z hz
    by_cases q : z.Id = x.Id
    · rw [if_pos q]
      exact ⟨t0, t1, by rw [hrr to t0, if_pos rfl]⟩
    · rw [if_neg q]
      refine ⟨a, b, ?_⟩
      rw [hrr _ a, if_neg (hno z hz), if_neg]
      · exact e
      · intro y; rw [y, h2] at e; omega
  · rw [hrr d d0] at hd
    by_cases q : d = to
    · refine ⟨⟨x.Id, to, x.Goal⟩, List.mem_map.2 ⟨x, hx, by rw [if_pos rfl]⟩, q.symm⟩
    · rw [if_neg q] at hd
      by_cases z : d = x.Cell
      · rw [if_pos z] at hd; exact absurd rfl hd
      · rw [if_neg z] at hd
        obtain ⟨y, hy, e⟩ := hf.only d d0 d1 hd
        refine ⟨y, List.mem_map.2 ⟨y, hy, ?_⟩, e⟩
        rw [if_neg (fun k => z (by rw [← e, id_inj hup hy hx k]))]

theorem tick_l (hm : MayU w h L) (hb : L.length ≤ 1000000) {dirs : List Int} (nx : Int) : ∀ (m k n : Nat) (c : crowd_Crowd), n + m = L.length → m < k → CS c w h most (Ln w h L dirs n) → c.units.next = nx →
    ∃ c', crowd_Crowd_Tick.l0 k ((gGo w h L dirs).1, (gGo w h L dirs).2.1, (gGo w h L dirs).2.2, 0) c.w c.h c.most c.units.most c.units.next c.units.live c.units.order c.floor.words c.floor.count ((gFold w h L dirs n).2.1.length : Int) =
      some ((gGo w h L dirs).2.1, (gGo w h L dirs).2.2, 0, c') ∧ CS c' w h most (gGo w h L dirs).1 ∧ c'.units.next = nx := by
  intro m
  induction m with
  | zero =>
    intro k n c hn hk hc hx
    obtain ⟨k, rfl⟩ := kpos hk
    have : n = L.length := by omega
    subst this
    refine ⟨c, ?_, hc, hx⟩
    rw [crowd_Crowd_Tick.l0, if_neg (by simp [gGo])]
  | succ m ih =>
    intro k n c hn hk hc hx
    have hlt : n < L.length := by omega
    have hi := gInv hm dirs n (by omega)
    obtain ⟨m1, m2⟩ := move_is (dirs := dirs) hm (n := n) hlt
    have hmvs := mv_step (w := w) (h := h) (l := L) (dirs := dirs) n
    have hls := ln_step hm dirs hlt
    have hml := hi.mlen
    by_cases z : nCan w h L dirs n
    · obtain ⟨k, rfl⟩ := kpos hk
      have hr := m2 z
      have hlt' := (m1.2 z).1
      rw [if_pos z] at hmvs hls
      have hlen' : ((gFold w h L dirs (n + 1)).2.1.length : Int) = ((gFold w h L dirs n).2.1.length : Int) + 1 := by rw [hmvs]; simp
      have hxm : rd L (n : Int) ∈ Ln w h L dirs n := by
        rw [List.mem_filter]
        have : rd (gFold w h L dirs n).1 (n : Int) = rd L (n : Int) := hi.rest n (by omega) (by omega)
        refine ⟨by rw [← this]; exact rdmem (by omega) (by rw [hi.len]; omega), ?_⟩
        simpa using (hm.cell (by omega) (by omega)).2.1
      have hfind := uFind_mem hc.us.up hxm
      have hget : uGet (Ln w h L dirs n) (rd L (n : Int)).Id = (rd L (n : Int), true) := by unfold uGet; rw [hfind]
      have eta : crowd_Crowd.mk c.w c.h c.most (units_Units.mk c.units.most c.units.next c.units.live c.units.order) (floor_Floor.mk c.floor.words c.floor.count) = c := rfl
      have eta2 : units_Units.mk c.units.most c.units.next c.units.live c.units.order = c.units := rfl
      have eta3 : floor_Floor.mk c.floor.words c.floor.count = c.floor := rfl
      have eta4 : api_Unit.mk (rd L (n : Int)).Id (rd L (n : Int)).Cell (rd L (n : Int)).Goal = rd L (n : Int) := rfl
      rw [crowd_Crowd_Tick.l0, if_pos (by simp only; omega), if_pos (by simp only; omega)]
      simp only [hr, eta2, get_f hc.us, hget, Option.bind_some]
      rw [wi (by omega) (by omega), ← hlen', eta3, eta4]
      have hidr := hc.us.idr hxm
      by_cases g : nTo w h L dirs n = (rd L (n : Int)).Goal
      · rw [if_pos g] at hls
        obtain ⟨c', e1, e2, e3⟩ := cdrop_f hc hxm
        rw [if_pos (by simpa using g)]
        have eta5 : crowd_Crowd.mk c.w c.h c.most c.units c.floor = c := rfl
        rw [eta5, e1, Option.bind_some]
        exact ih k (n + 1) c' (by omega) (by omega) (by rw [hls]; exact e2) (by omega)
      · rw [if_neg g] at hls
        rw [if_neg (by simpa using g)]
        obtain ⟨u', a1, a2, a3⟩ := move_f hc.us (rd L (n : Int)).Id (nTo w h L dirs n)
        have hto := gto_cell z.1
        have hno : ∀ y ∈ Ln w h L dirs n, y.Cell ≠ nTo w h L dirs n := fun y hy => z.2 y (List.mem_filter.1 hy).1
        have hcnt := hc.fl.cnt
        have hpos : 0 < (Ln w h L dirs n).length := List.length_pos_iff.2 (List.ne_nil_of_mem hxm)
        have hle : (Ln w h L dirs n).length ≤ L.length := by
          have := List.length_filter_le (fun x : api_Unit => decide (0 ≤ x.Cell)) (gFold w h L dirs n).1
          rw [hi.len] at this; exact this
        have hw : fWho (w * h) c.floor (rd L (n : Int)).Cell = (rd L (n : Int)).Id := by rw [who_c hc, cWho_some hc hxm]
        have hfr : fFree (w * h) c.floor (nTo w h L dirs n) := by
          refine ⟨hto.2.1, hto.2.2, Classical.byContradiction fun y => ?_⟩
          obtain ⟨x, hx', e⟩ := hc.fl.only _ hto.2.1 hto.2.2 y
          exact hno x hx' e
        have es : fShift (w * h) c.floor (rd L (n : Int)).Cell (nTo w h L dirs n) = (true, fSet (fSet c.floor (rd L (n : Int)).Cell 0 (-1)) (nTo w h L dirs n) ((rd L (n : Int)).Id + 1) 1) := by
          unfold fShift; rw [hw, if_pos ⟨by omega, hfr⟩]
        rw [shift_f hc.fl.fl (by omega), es, a1]
        simp only [Option.bind_some]
        have hturn : uTurn (Ln w h L dirs n) (rd L (n : Int)).Id (fun x => ⟨x.Id, nTo w h L dirs n, x.Goal⟩) = uTurn (Ln w h L dirs n) (rd L (n : Int)).Id (fun _ => ⟨(rd L (n : Int)).Id, nTo w h L dirs n, (rd L (n : Int)).Goal⟩) := by
          unfold uTurn
          refine List.map_congr_left fun y hy => ?_
          by_cases q : y.Id = (rd L (n : Int)).Id
          · rw [if_pos q, if_pos q, id_inj hc.us.up hy hxm q]
          · rw [if_neg q, if_neg q]
        rw [hturn] at a3
        refine ih k (n + 1) ⟨c.w, c.h, c.most, u', fSet (fSet c.floor (rd L (n : Int)).Cell 0 (-1)) (nTo w h L dirs n) ((rd L (n : Int)).Id + 1) 1⟩ (by omega) (by omega) ?_ (by simp only; omega)
        rw [hls]
        refine ⟨hc.w_, hc.h_, hc.m_, hc.may, a3, fshift_s hc.fl hc.us.up hxm hidr.1 hto.2.1 hto.2.2 hno, fun y hy => ?_, by simpa [uTurn] using hc.few⟩
        unfold uTurn at hy
        obtain ⟨y', hy', rfl⟩ := List.mem_map.1 hy
        have hok := hc.ok y' hy'
        split
        · exact ⟨hto, (hc.ok _ hxm).2.1, g⟩
        · exact hok
    · rw [if_neg z, List.append_nil] at hmvs
      rw [if_neg z] at hls
      rw [← hmvs]
      exact ih k (n + 1) c (by omega) (by omega) (by rw [hls]; exact hc) hx

theorem ctick_ok (hc : CS c w h most L) {dirs : List Int} (hd : DirsOk dirs L.length) : ∃ c', crowd_Crowd_Tick.f c dirs = some ((gGo w h L dirs).2.1, (gGo w h L dirs).2.2, 0, c') ∧ CS c' w h most (gGo w h L dirs).1 ∧ c'.units.next = c.units.next := by
  unfold crowd_Crowd_Tick.f
  have hm := hc.mayu
  have hcn := hc.us.cnt
  have hnx := hc.next
  rw [cunits_f hc, hc.w_, hc.h_]
  simp only [Option.bind_some, go_ok hm (by omega) hd]
  rw [if_neg (by simp)]
  have h0 : Ln w h L dirs 0 = L := by
    show L.filter _ = L
    rw [List.filter_eq_self]
    intro x hx; simpa using (hc.ok x hx).1.2.1
  obtain ⟨c', e1, e2, e3⟩ := tick_l (most := most) hm (by omega) (dirs := dirs) c.units.next L.length fuel 0 c (by omega) (by rw [fuelv]; omega) (by rw [h0]; exact hc) rfl
  rw [hc.w_, hc.h_] at e1
  exact ⟨c', e1, e2, e3⟩
theorem ctick_bad (hc : CS c w h most L) {dirs : List Int} (hb : dirs.length ≤ 1000000) (hd : ¬ DirsOk dirs L.length) : crowd_Crowd_Tick.f c dirs = some ([], [], 1, c) := by
  unfold crowd_Crowd_Tick.f
  have hcn := hc.us.cnt
  have hnx := hc.next
  rw [cunits_f hc, hc.w_, hc.h_]
  simp only [Option.bind_some, go_bad (w := w) (h := h) (l := L) (dirs := dirs) (by omega) hb (fun q => hd q.2)]
  rw [if_pos (by simp)]
theorem cwords_f (hc : CS c w h most L) : crowd_Crowd_Words.f c = some c.floor.words := by
  unfold crowd_Crowd_Words.f
  have := may_prod hc.may
  rw [words_f hc.fl.fl (by omega)]; rfl
end Go.Proofs.Ytkidcebfpengmaa
