import Derived.Test.YtkidcebfpengmaaPunits
import Derived.Test.YtkidcebfpengmaaPfloor
import Derived.Test.YtkidcebfpengmaaPparts
import Derived.Test.YtkidcebfpengmaaFcrowd
namespace Go.Proofs.Ytkidcebfpengmaa
open Go.Hx
set_option linter.unusedVariables false
set_option linter.unusedSimpArgs false

/-- the floor tells who stands where -/
structure FS (f : floor_Floor) (n : Int) (L : List api_Unit) : Prop where
  fl : FloorS n f
  cnt : f.count = L.length
  at_ : ∀ x ∈ L, 0 ≤ x.Cell ∧ x.Cell < n ∧ rd f.words x.Cell = x.Id + 1
  only : ∀ c, 0 ≤ c → c < n → rd f.words c ≠ 0 → ∃ x ∈ L, x.Cell = c

structure CS (c : crowd_Crowd) (w h most : Int) (L : List api_Unit) : Prop where
  w_ : c.w = w
  h_ : c.h = h
  m_ : c.most = most
  may : MayS w h
  us : US c.units most L
  fl : FS c.floor (w * h) L
  ok : ∀ x ∈ L, CellS w h x.Cell ∧ CellS w h x.Goal ∧ x.Cell ≠ x.Goal
  few : (L.length : Int) ≤ most

def cWho (L : List api_Unit) (c : Int) : Int := match L.find? (fun x => x.Cell == c) with
  | some x => x.Id
  | none => -1

variable {c : crowd_Crowd} {w h most : Int} {L : List api_Unit}
theorem US.idr {u : units_Units} (hu : US u most L) {x : api_Unit} (hx : x ∈ L) : 0 ≤ x.Id ∧ x.Id < u.next := by
  have : x.Id ∈ u.order.filter (fun k => mhas u.live k) := by rw [hu.ord]; exact List.mem_map.2 ⟨x, hx, rfl⟩
  exact hu.old _ (List.mem_filter.1 this).1
theorem CS.inj (hc : CS c w h most L) {x y : api_Unit} (hx : x ∈ L) (hy : y ∈ L) (e : x.Cell = y.Cell) : x = y := by
  have h1 := (hc.fl.at_ x hx).2.2
  have h2 := (hc.fl.at_ y hy).2.2
  rw [e] at h1
  exact id_inj hc.us.up hx hy (by omega)
theorem cWho_some (hc : CS c w h most L) {x : api_Unit} (hx : x ∈ L) : cWho L x.Cell = x.Id := by
  unfold cWho
  cases hf : L.find? (fun y => y.Cell == x.Cell) with
  | none => have := List.find?_eq_none.1 hf x hx; simp at this
  | some y =>
    have h1 := List.mem_of_find?_eq_some hf
    have h2 : y.Cell = x.Cell := by simpa using List.find?_some hf
    simp only
    rw [hc.inj h1 hx h2]
theorem cWho_none {cell : Int} (h0 : ∀ x ∈ L, x.Cell ≠ cell) : cWho L cell = -1 := by
  unfold cWho
  cases hf : L.find? (fun y => y.Cell == cell) with
  | none => rfl
  | some y =>
    have h1 := List.mem_of_find?_eq_some hf
    have h2 : y.Cell = cell := by simpa using List.find?_some hf
    exact absurd h2 (h0 y h1)
theorem cWho_neg (hc : CS c w h most L) {cell : Int} : cWho L cell = -1 ↔ ∀ x ∈ L, x.Cell ≠ cell := by
  constructor
  · intro q x hx e
    rw [← e, cWho_some hc hx] at q
    have := (hc.us.idr hx).1; omega
  · exact cWho_none
theorem who_c (hc : CS c w h most L) (cell : Int) : fWho (w * h) c.floor cell = cWho L cell := by
  unfold fWho
  by_cases q : 0 ≤ cell ∧ cell < w * h
  · rw [if_pos q]
    by_cases z : ∃ x ∈ L, x.Cell = cell
    · obtain ⟨x, hx, rfl⟩ := z
      rw [cWho_some hc hx, (hc.fl.at_ x hx).2.2]; omega
    · have hn : ∀ x ∈ L, x.Cell ≠ cell := fun x hx e => z ⟨x, hx, e⟩
      rw [cWho_none hn]
      have : rd c.floor.words cell = 0 := Classical.byContradiction fun y => z (hc.fl.only cell q.1 q.2 y)
      omega
  · rw [if_neg q, cWho_none]
    intro x hx e
    have := hc.fl.at_ x hx
    exact q ⟨by omega, by omega⟩
theorem cwho_f (hc : CS c w h most L) (cell : Int) : crowd_Crowd_Who.f c cell = some (cWho L cell) := by
  unfold crowd_Crowd_Who.f
  rw [who_f hc.fl.fl, who_c hc]; rfl
theorem cunits_f (hc : CS c w h most L) : crowd_Crowd_Units.f c = some L := by
  unfold crowd_Crowd_Units.f
  rw [all_f hc.us]; rfl
theorem cis_f (hc : CS c w h most L) (cell : Int) : crowd_Crowd_is.f c cell = some (decide (CellS w h cell)) := by
  unfold crowd_Crowd_is.f
  rw [hc.w_, hc.h_, sector_f, Option.bind_some]
  congr 1
  by_cases q : CellS w h cell
  · rw [decide_eq_true q, decide_eq_true_iff]
    have : ¬ sSector w h cell < 0 := fun z => sector_neg.1 z q
    omega
  · rw [decide_eq_false q, decide_eq_false_iff_not]
    have := sector_neg.2 q
    omega

theorem cnew_f (w h most : Int) : ∃ r, crowd_New.f w h most = some r ∧ (r.isSome = true ↔ MayS w h ∧ 1 ≤ most ∧ most ≤ 65536) ∧ ∀ c, r = some c → CS c w h most [] ∧ c.units.next = 0 := by
  unfold crowd_New.f
  rw [may_f, Option.bind_some]
  by_cases q : MayS w h ∧ 1 ≤ most ∧ most ≤ 65536
  · obtain ⟨q1, q2, q3⟩ := q
    have hp := may_prod q1
    rw [if_neg (by rw [decide_eq_true q1]; simp; omega), new_f, if_pos ⟨q2, q3⟩, Option.bind_some, wi (by omega) (by omega)]
    simp only [optm, fnew_f]
    rw [if_pos hp]
    refine ⟨_, rfl, ⟨fun _ => ⟨q1, q2, q3⟩, fun _ => rfl⟩, fun c e => ?_⟩
    simp only [Option.some.injEq] at e
    subst e
    refine ⟨⟨rfl, rfl, rfl, q1, new_us ⟨q2, q3⟩, ⟨fnew_s hp.1, rfl, by simp, fun d d0 d1 hd => ?_⟩, by simp, by simp; omega⟩, rfl⟩
    exact absurd (rdrep d0 (by omega)) hd
  · refine ⟨none, ?_, ⟨fun z => by simp at z, fun z => absurd z q⟩, fun c e => by cases e⟩
    rw [if_pos]
    by_cases z : MayS w h
    · rw [decide_eq_true z]; simp; omega
    · rw [decide_eq_false z]; simp

/-! ### putting and taking -/
theorem CS.next (hc : CS c w h most L) : 0 ≤ c.units.next ∧ c.units.next ≤ 1000000 := hc.us.next
theorem fput_s {f : floor_Floor} {n : Int} (hf : FS f n L) {x : api_Unit} (h0 : 0 ≤ x.Cell) (h1 : x.Cell < n) (hno : ∀ y ∈ L, y.Cell ≠ x.Cell) (i0 : 0 ≤ x.Id) (i1 : x.Id < 4294967295) : FS (fSet f x.Cell (x.Id + 1) 1) n (L ++ [x]) := by
  refine ⟨set_s hf.fl h0 h1 (by omega) (by omega), by simp [fSet, hf.cnt], fun y hy => ?_, fun d d0 d1 hd => ?_⟩
  · rcases List.mem_append.1 hy with q | q
    · obtain ⟨a, b, e⟩ := hf.at_ y q
      refine ⟨a, b, ?_⟩
      rw [rd_fset hf.fl h0 h1 a, if_neg (hno y q)]; exact e
    · simp at q; subst q
      exact ⟨h0, h1, by rw [rd_fset hf.fl h0 h1 h0, if_pos rfl]⟩
  · rw [rd_fset hf.fl h0 h1 d0] at hd
    by_cases q : d = x.Cell
    · exact ⟨x, by simp, q.symm⟩
    · rw [if_neg q] at hd
      obtain ⟨y, hy, e⟩ := hf.only d d0 d1 hd
      exact ⟨y, by simp [hy], e⟩
theorem ftake_s {f : floor_Floor} {n : Int} (hf : FS f n L) (hup : (L.map (·.Id)).Pairwise (· < ·)) {x : api_Unit} (hx : x ∈ L) : FS (fSet f x.Cell 0 (-1)) n (uDrop L x.Id) := by
  obtain ⟨h0, h1, h2⟩ := hf.at_ x hx
  have hl := uDrop_len hup (uFind_mem hup hx)
  refine ⟨set_s hf.fl h0 h1 (by omega) (by omega), by simp [fSet, hf.cnt]; omega, fun y hy => ?_, fun d d0 d1 hd => ?_⟩
  · unfold uDrop at hy
    obtain ⟨q1, q2⟩ := List.mem_filter.1 hy
    have hne : y.Id ≠ x.Id := by simpa using q2
    obtain ⟨a, b, e⟩ := hf.at_ y q1
    refine ⟨a, b, ?_⟩
    rw [rd_fset hf.fl h0 h1 a, if_neg]
    · exact e
    · intro z; rw [z, h2] at e; omega
  · rw [rd_fset hf.fl h0 h1 d0] at hd
    by_cases q : d = x.Cell
    · rw [if_pos q] at hd; exact absurd rfl hd
    · rw [if_neg q] at hd
      obtain ⟨y, hy, e⟩ := hf.only d d0 d1 hd
      refine ⟨y, ?_, e⟩
      unfold uDrop
      rw [List.mem_filter]
      refine ⟨hy, ?_⟩
      have : y.Id ≠ x.Id := fun z => q (by rw [← e, id_inj hup hy hx z])
      simpa using this
theorem drop_mem {k : Int} {x : api_Unit} (hx : x ∈ uDrop L k) : x ∈ L := (List.mem_filter.1 hx).1

/-- one goes -/
theorem cdrop_f (hc : CS c w h most L) {x : api_Unit} (hx : x ∈ L) : ∃ c', crowd_Crowd_drop.f c x = some c' ∧ CS c' w h most (uDrop L x.Id) ∧ c'.units.next = c.units.next := by
  unfold crowd_Crowd_drop.f
  obtain ⟨u', e1, e2, e3⟩ := drop_f hc.us x.Id
  have hid := hc.us.idr hx
  have hw : fWho (w * h) c.floor x.Cell = x.Id := by rw [who_c hc, cWho_some hc hx]
  have hcn := hc.us.cnt
  have hnx := hc.next
  have hcnt := hc.fl.cnt
  have et : fTake (w * h) c.floor x.Cell = (x.Id, fSet c.floor x.Cell 0 (-1)) := by unfold fTake; rw [hw, if_neg (by omega)]
  rw [e1, Option.bind_some, take_f hc.fl.fl (by omega), et]
  refine ⟨_, rfl, ⟨hc.w_, hc.h_, hc.m_, hc.may, e3, ftake_s hc.fl hc.us.up hx, fun y hy => hc.ok y (drop_mem hy), ?_⟩, e2⟩
  have := uDrop_len hc.us.up (uFind_mem hc.us.up hx)
  have := hc.few; omega

/-! ### the calls -/
def cSpawn (w h most : Int) (L : List api_Unit) (next cell goal : Int) : Int × Int × List api_Unit :=
  if ¬ CellS w h cell ∨ ¬ CellS w h goal then (-1, 7, L) else if cWho L cell ≠ -1 then (-1, 10, L) else if most ≤ L.length then (-1, 11, L) else if cell = goal then (-1, 13, L) else (next, 0, L ++ [⟨next, cell, goal⟩])
theorem wrong3_f (hc : CS c w h most L) (cell goal : Int) : crowd_Crowd_wrong.f c 3 cell goal = some (if cell = goal then 13 else 0) := by
  unfold crowd_Crowd_wrong.f
  rw [if_neg (by simp), if_neg (by simp), if_neg (by simp), if_pos (by simp)]
  by_cases q : cell = goal
  · rw [if_pos (by simpa using q), if_pos q]
  · rw [if_neg (by simpa using q), if_neg q]
theorem cs_1 {next cell goal : Int} (a : ¬ CellS w h cell ∨ ¬ CellS w h goal) : cSpawn w h most L next cell goal = (-1, 7, L) := by unfold cSpawn; rw [if_pos a]
theorem cs_2 {next cell goal : Int} (a : CellS w h cell) (b : CellS w h goal) (d : cWho L cell ≠ -1) : cSpawn w h most L next cell goal = (-1, 10, L) := by
  unfold cSpawn; rw [if_neg (fun q => q.elim (fun z => z a) (fun z => z b)), if_pos d]
theorem cs_3 {next cell goal : Int} (a : CellS w h cell) (b : CellS w h goal) (d : cWho L cell = -1) (e : most ≤ L.length) : cSpawn w h most L next cell goal = (-1, 11, L) := by
  unfold cSpawn; rw [if_neg (fun q => q.elim (fun z => z a) (fun z => z b)), if_neg (fun q => q d), if_pos e]
theorem cs_4 {next cell goal : Int} (a : CellS w h cell) (b : CellS w h goal) (d : cWho L cell = -1) (e : ¬ most ≤ L.length) (g : cell = goal) : cSpawn w h most L next cell goal = (-1, 13, L) := by
  unfold cSpawn; rw [if_neg (fun q => q.elim (fun z => z a) (fun z => z b)), if_neg (fun q => q d), if_neg e, if_pos g]
theorem cs_5 {next cell goal : Int} (a : CellS w h cell) (b : CellS w h goal) (d : cWho L cell = -1) (e : ¬ most ≤ L.length) (g : ¬ cell = goal) : cSpawn w h most L next cell goal = (next, 0, L ++ [⟨next, cell, goal⟩]) := by
  unfold cSpawn; rw [if_neg (fun q => q.elim (fun z => z a) (fun z => z b)), if_neg (fun q => q d), if_neg e, if_neg g]
theorem wrong0_f (hc : CS c w h most L) (cell goal next : Int) : crowd_Crowd_wrong.f c 0 cell goal = some (cSpawn w h most L next cell goal).2.1 := by
  unfold crowd_Crowd_wrong.f
  rw [if_pos (by simp), cis_f hc, cis_f hc]
  simp only [Option.bind_some, who_f hc.fl.fl, who_c hc, len_f hc.us, hc.m_]
  by_cases a : CellS w h cell
  · by_cases b : CellS w h goal
    · simp only [decide_eq_true a, decide_eq_true b, Bool.not_true, Option.bind_some, Bool.false_eq_true, if_false]
      by_cases d : cWho L cell = -1
      · rw [if_neg (by simpa using d)]
        by_cases e : most ≤ (L.length : Int)
        · rw [if_pos (by omega), cs_3 a b d e]
        · rw [if_neg (by omega)]
          by_cases g : cell = goal
          · rw [if_pos (by simpa using g), cs_4 a b d e g]
          · rw [if_neg (by simpa using g), cs_5 a b d e g]
      · rw [if_pos (by simpa using d), cs_2 a b d]
    · rw [cs_1 (.inr b)]
      simp only [decide_eq_true a, decide_eq_false b, Bool.not_true, Bool.not_false, Option.bind_some, Bool.false_eq_true, if_false, if_true]
  · rw [cs_1 (.inl a)]
    simp only [decide_eq_false a, Bool.not_false, Option.bind_some, if_true]
theorem cspawn_f (hc : CS c w h most L) (hn : c.units.next < 1000000) (cell goal : Int) : ∃ c', crowd_Crowd_Spawn.f c cell goal = some ((cSpawn w h most L c.units.next cell goal).1, (cSpawn w h most L c.units.next cell goal).2.1, c') ∧
    CS c' w h most (cSpawn w h most L c.units.next cell goal).2.2 ∧ c'.units.next = c.units.next + (if (cSpawn w h most L c.units.next cell goal).2.1 = 0 then 1 else 0) := by
  unfold crowd_Crowd_Spawn.f
  rw [wrong0_f hc cell goal c.units.next, Option.bind_some]
  have hnx := hc.next
  unfold cSpawn
  by_cases a : ¬ CellS w h cell ∨ ¬ CellS w h goal
  · simp only [if_pos a]
    rw [if_pos (by simp)]
    exact ⟨c, rfl, hc, by simp⟩
  · simp only [if_neg a]
    by_cases b : cWho L cell ≠ -1
    · simp only [if_pos b]
      rw [if_pos (by simp)]
      exact ⟨c, rfl, hc, by simp⟩
    · simp only [if_neg b]
      by_cases d : most ≤ (L.length : Int)
      · simp only [if_pos d]
        rw [if_pos (by simp)]
        exact ⟨c, rfl, hc, by simp⟩
      · simp only [if_neg d]
        by_cases e : cell = goal
        · simp only [if_pos e]
          rw [if_pos (by simp)]
          exact ⟨c, rfl, hc, by simp⟩
        · simp only [if_neg e]
          rw [if_neg (by simp)]
          obtain ⟨u', a1, a2, a3⟩ := (add_f hc.us hn cell goal).2 (by omega)
          have hcell : CellS w h cell := Classical.byContradiction fun z => a (.inl z)
          have hgoal : CellS w h goal := Classical.byContradiction fun z => a (.inr z)
          have hw : cWho L cell = -1 := Classical.byContradiction fun z => b z
          have hno := (cWho_neg hc).1 hw
          have hfr : fFree (w * h) c.floor cell := by
            refine ⟨hcell.2.1, hcell.2.2, Classical.byContradiction fun z => ?_⟩
            obtain ⟨x, hx, q⟩ := hc.fl.only cell hcell.2.1 hcell.2.2 z
            exact hno x hx q
          have hcnt := hc.fl.cnt
          have hcn := hc.us.cnt
          have ep : fPut (w * h) c.floor cell c.units.next = (true, fSet c.floor cell (c.units.next + 1) 1) := by
            unfold fPut; rw [if_pos ⟨hfr, by omega, by omega⟩]
          rw [a1, Option.bind_some, put_f hc.fl.fl (by omega), ep]
          refine ⟨_, rfl, ⟨hc.w_, hc.h_, hc.m_, hc.may, a3, ?_, fun y hy => ?_, by simp; omega⟩, by simp [a2]⟩
          · exact fput_s (x := ⟨c.units.next, cell, goal⟩) hc.fl hcell.2.1 hcell.2.2 hno (by simp only; omega) (by simp only; omega)
          · rcases List.mem_append.1 hy with q | q
            · exact hc.ok y q
            · simp at q; subst q; exact ⟨hcell, hgoal, e⟩

def cDespawn (L : List api_Unit) (id : Int) : Int × List api_Unit := if uHas L id = true then (0, uDrop L id) else (12, L)
theorem cdespawn_f (hc : CS c w h most L) (id : Int) : ∃ c', crowd_Crowd_Despawn.f c id = some ((cDespawn L id).1, c') ∧ CS c' w h most (cDespawn L id).2 ∧ c'.units.next = c.units.next := by
  unfold crowd_Crowd_Despawn.f cDespawn uHas
  rw [get_f hc.us, Option.bind_some]
  unfold uGet
  cases hf : uFind L id with
  | none =>
    exact ⟨c, rfl, by simpa using hc, rfl⟩
  | some x =>
    obtain ⟨h1, h2⟩ := uFind_some hf
    obtain ⟨c', e1, e2, e3⟩ := cdrop_f hc h1
    simp only [Bool.not_true, Bool.false_eq_true, if_false, e1, Option.bind_some]
    rw [h2] at e2
    exact ⟨c', rfl, by simpa using e2, e3⟩

def cRetarget (w h : Int) (L : List api_Unit) (id goal : Int) : Int × List api_Unit :=
  match uFind L id with
  | none => (12, L)
  | some x => if ¬ CellS w h goal then (7, L) else if x.Cell = goal then (13, uDrop L id) else (0, uTurn L id (fun x => ⟨x.Id, x.Cell, goal⟩))
theorem cretarget_f (hc : CS c w h most L) (id goal : Int) : ∃ c', crowd_Crowd_Retarget.f c id goal = some ((cRetarget w h L id goal).1, c') ∧ CS c' w h most (cRetarget w h L id goal).2 ∧ c'.units.next = c.units.next := by
  unfold crowd_Crowd_Retarget.f cRetarget
  rw [get_f hc.us, Option.bind_some]
  unfold uGet
  cases hf : uFind L id with
  | none =>
    exact ⟨c, rfl, by simpa using hc, rfl⟩
  | some x =>
    obtain ⟨h1, h2⟩ := uFind_some hf
    simp only [Bool.not_true, Bool.false_eq_true, if_false, cis_f hc, Option.bind_some, wrong3_f hc]
    by_cases q : CellS w h goal
    · simp only [decide_eq_true q, Bool.not_true, Bool.false_eq_true, if_false]
      by_cases g : x.Cell = goal
      · obtain ⟨c', e1, e2, e3⟩ := cdrop_f hc h1
        rw [h2] at e2
        simp only [if_pos g, e1, Option.bind_some, if_neg (fun z : ¬ CellS w h goal => z q)]
        exact ⟨c', rfl, e2, e3⟩
      · obtain ⟨u', e1, e2, e3⟩ := aim_f hc.us id goal
        simp only [if_neg g, e1, Option.bind_some, if_neg (fun z : ¬ CellS w h goal => z q)]
        refine ⟨_, rfl, ⟨hc.w_, hc.h_, hc.m_, hc.may, e3, ⟨hc.fl.fl, by simp [uTurn, hc.fl.cnt], fun y hy => ?_, fun d d0 d1 hd => ?_⟩, fun y hy => ?_, by simpa [uTurn] using hc.few⟩, e2⟩
        · unfold uTurn at hy
          obtain ⟨z, hz, rfl⟩ := List.mem_map.1 hy
          have := hc.fl.at_ z hz
          split <;> exact this
        · obtain ⟨z, hz, e⟩ := hc.fl.only d d0 d1 hd
          refine ⟨if z.Id = id then ⟨z.Id, z.Cell, goal⟩ else z, List.mem_map.2 ⟨z, hz, rfl⟩, ?_⟩
          split <;> exact e
        · unfold uTurn at hy
          obtain ⟨z, hz, rfl⟩ := List.mem_map.1 hy
          have hzk := hc.ok z hz
          split
          · rename_i y
            have : z = x := id_inj hc.us.up hz h1 (y.trans h2.symm)
            exact ⟨hzk.1, q, by rw [this]; exact g⟩
          · exact hzk
    · simp only [decide_eq_false q, Bool.not_false, if_true, if_pos q]
      exact ⟨c, rfl, hc, rfl⟩
end Go.Proofs.Ytkidcebfpengmaa
