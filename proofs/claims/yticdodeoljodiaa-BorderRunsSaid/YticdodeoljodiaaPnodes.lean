import Derived.Test.YticdodeoljodiaaPborder
import Derived.Test.YticdodeoljodiaaPgrid2
namespace Go.Proofs.Yticdodeoljodiaa
open Go.Hx
set_option linter.unusedVariables false
set_option linter.unusedSimpArgs false

def sOpen (m : api_Map) (c : Int) : Bool := decide (inMap m c) && decide (rd m.C c ≠ 255)
theorem sopen_iff {m : api_Map} {c : Int} : sOpen m c = true ↔ inMap m c ∧ rd m.C c ≠ 255 := by simp [sOpen]
theorem open_f {g : grid_Grid} {more : Int} (h : GridS g more) (c : Int) : border_open.f g c = some (sOpen g.m c) := by
  unfold border_open.f
  rw [cost_f h, Option.bind_some]
  unfold gCost sOpen
  by_cases hc : inMap g.m c
  · have := h.by_ c hc.1 hc.2
    rw [if_pos hc, decide_eq_true hc]
    congr 1
    rw [Bool.eq_iff_iff]; simp; omega
  · rw [if_neg hc, decide_eq_false hc]; simp
theorem ropen_f {m : api_Map} (hm : MapOk m) (c : Int) : ref11_open.f m c = some (sOpen m c) := by
  unfold ref11_open.f sOpen
  have hl := hm.2.1
  by_cases hc : inMap m c
  · obtain ⟨c0, c1⟩ := hc
    have hc : inMap m c := ⟨c0, c1⟩
    rw [if_pos c0, if_pos (by omega), if_pos (by omega), decide_eq_true hc]
    simp [bne]
    rfl
  · rw [decide_eq_false hc]
    unfold inMap at hc
    by_cases c0 : c ≥ 0
    · rw [if_pos c0, if_neg (by omega)]; rfl
    · rw [if_neg c0]; rfl
theorem sopen_neg (m : api_Map) {c : Int} (hc : c < 0) : sOpen m c = false := by
  unfold sOpen; rw [decide_eq_false (fun q => by have := q.1; omega)]; rfl

def sNodes (m : api_Map) (s : Int) : List Int := (sCells m.W m.H s).filter (sOpen m)
theorem cells_len (w h s : Int) : (sCells w h s).length ≤ 256 := by
  have := size_prod w h s
  have := cellsTo_length w h s ((sSize w h s).1 * (sSize w h s).2).toNat
  unfold sCells; omega
theorem nodes_l {g : grid_Grid} {more : Int} (h : GridS g more) (v : List Int) (hv : v.length ≤ 1000) : ∀ (n k : Nat) (i : Int) (x : List Int), i + n = v.length → 0 ≤ i → n < k → x.length ≤ i.toNat →
    border_Nodes.l0 k g v x i = some (x ++ (v.drop i.toNat).filter (sOpen g.m)) := by
  intro n
  induction n with
  | zero =>
    intro k i x hi h0 hk hx
    obtain ⟨k, rfl⟩ := kpos hk
    rw [border_Nodes.l0, if_neg (by omega), List.drop_of_length_le (by omega)]; simp
  | succ n ih =>
    intro k i x hi h0 hk hx
    obtain ⟨k, rfl⟩ := kpos hk
    rw [border_Nodes.l0, if_pos (by omega), if_pos (by omega), open_f h, Option.bind_some, w64_id (by omega) (by omega), dropc h0 (by omega)]
    by_cases ho : sOpen g.m (rd v i) = true
    · rw [if_pos ho, if_pos (by omega), ih k (i + 1) _ (by omega) (by omega) (by omega) (by simp; omega), List.filter_cons_of_pos ho]; simp
    · rw [if_neg ho, ih k (i + 1) _ (by omega) (by omega) (by omega) (by omega), List.filter_cons_of_neg ho]
theorem nodes_f {g : grid_Grid} {more : Int} (h : GridS g more) (s : Int) : border_Nodes.f g s = some (sNodes g.m s) := by
  unfold border_Nodes.f
  have e0 : grid_Grid_Size.f g = some (g.m.W, g.m.H) := rfl
  have hl := cells_len g.m.W g.m.H s
  rw [e0, Option.bind_some, cells_f, Option.bind_some]
  have := nodes_l h (sCells g.m.W g.m.H s) (by omega) (sCells g.m.W g.m.H s).length fuel 0 [] (by omega) (by omega) (by rw [fuelv]; omega) (by simp)
  exact this
theorem rnodes_l {m : api_Map} (h : MapOk m) (v : List Int) (hv : v.length ≤ 1000) : ∀ (n k : Nat) (i : Int) (x : List Int), i + n = v.length → 0 ≤ i → n < k → x.length ≤ i.toNat →
    ref11_Nodes.l0 k m v x i = some (x ++ (v.drop i.toNat).filter (sOpen m)) := by
  intro n
  induction n with
  | zero =>
    intro k i x hi h0 hk hx
    obtain ⟨k, rfl⟩ := kpos hk
    rw [ref11_Nodes.l0, if_neg (by omega), List.drop_of_length_le (by omega)]; simp
  | succ n ih =>
    intro k i x hi h0 hk hx
    obtain ⟨k, rfl⟩ := kpos hk
    rw [ref11_Nodes.l0, if_pos (by omega), if_pos (by omega), ropen_f h, Option.bind_some, w64_id (by omega) (by omega), dropc h0 (by omega)]
    by_cases ho : sOpen m (rd v i) = true
    · rw [if_pos ho, if_pos (by omega), ih k (i + 1) _ (by omega) (by omega) (by omega) (by simp; omega), List.filter_cons_of_pos ho]; simp
    · rw [if_neg ho, ih k (i + 1) _ (by omega) (by omega) (by omega) (by omega), List.filter_cons_of_neg ho]
theorem rnodes_f {m : api_Map} (h : MapOk m) (s : Int) : ref11_Nodes.f m s = some (sNodes m s) := by
  unfold ref11_Nodes.f
  have hl := cells_len m.W m.H s
  rw [rcells_f, Option.bind_some, rnodes_l h _ (by omega) (sCells m.W m.H s).length fuel 0 [] (by omega) (by omega) (by rw [fuelv]; omega) (by simp)]
  rfl

/-- who crosses from a cell -/
def sCrossTo (m : api_Map) (c : Int) (n : Nat) : List api_Edge := ((List.range n).filter (fun j : Nat => sOpen m (sOver m.W m.H c (j : Int)))).map (fun j : Nat => api_Edge.mk (sOver m.W m.H c (j : Int)) (rd m.C (sOver m.W m.H c (j : Int))))
def sCross (m : api_Map) (c : Int) : List api_Edge := if sOpen m c = true then sCrossTo m c 4 else []
theorem crossTo_succ (m : api_Map) (c : Int) (n : Nat) : sCrossTo m c (n + 1) = if sOpen m (sOver m.W m.H c (n : Int)) = true then sCrossTo m c n ++ [api_Edge.mk (sOver m.W m.H c (n : Int)) (rd m.C (sOver m.W m.H c (n : Int)))] else sCrossTo m c n := by
  unfold sCrossTo
  rw [List.range_succ, List.filter_append, List.map_append]
  by_cases h : sOpen m (sOver m.W m.H c (n : Int)) = true
  · rw [if_pos h]; simp [h]
  · rw [if_neg h]; simp [h]
theorem crossTo_length (m : api_Map) (c : Int) (n : Nat) : (sCrossTo m c n).length ≤ n := by
  unfold sCrossTo
  rw [List.length_map]
  have := List.length_filter_le (fun j : Nat => sOpen m (sOver m.W m.H c (j : Int))) (List.range n)
  simpa using this
theorem cross_f {g : grid_Grid} {more : Int} (h : GridS g more) (c : Int) : border_Cross.f g c = some (sCross g.m c) := by
  unfold border_Cross.f sCross
  have e0 : grid_Grid_Size.f g = some (g.m.W, g.m.H) := rfl
  have e : border_sides.f = some [0, 1, 2, 3] := rfl
  rw [e0, Option.bind_some, open_f h, Option.bind_some]
  by_cases ho : sOpen g.m c = true
  · rw [if_neg (by rw [ho]; simp), e, Option.bind_some, if_pos ho]
    have key : ∀ (n k : Nat) (j : Int), j + n = 4 → 0 ≤ j → n < k → border_Cross.l0 k g c (g.m.W, g.m.H) [0, 1, 2, 3] (sCrossTo g.m c j.toNat) j = some (sCrossTo g.m c 4) := by
      intro n
      induction n with
      | zero =>
        intro k j hj h0 hk
        obtain ⟨k, rfl⟩ := kpos hk
        rw [border_Cross.l0, if_neg (by omega)]
        rw [show j.toNat = 4 by omega]
      | succ n ih =>
        intro k j hj h0 hk
        obtain ⟨k, rfl⟩ := kpos hk
        have hle := crossTo_length g.m c j.toNat
        have := ih k (j + 1) (by omega) (by omega) (by omega)
        rw [show (j + 1).toNat = j.toNat + 1 by omega, crossTo_succ, show ((j.toNat : Nat) : Int) = j by omega] at this
        rw [border_Cross.l0, if_pos (by omega), side_at h0 (by omega), over_f, if_pos (by simp; omega), Option.bind_some, w64_id (by omega) (by omega)]
        have e2 : (if sOver g.m.W g.m.H c j ≥ 0 then ((border_open.f g (sOver g.m.W g.m.H c j)).bind fun v12 => some v12) else (some false)) = some (sOpen g.m (sOver g.m.W g.m.H c j)) := by
          by_cases hn : sOver g.m.W g.m.H c j ≥ 0
          · rw [if_pos hn, open_f h]; rfl
          · rw [if_neg hn, sopen_neg _ (by omega)]
        rw [e2, Option.bind_some]
        by_cases hq : sOpen g.m (sOver g.m.W g.m.H c j) = true
        · rw [if_pos hq] at this
          have hcost : gCost g (sOver g.m.W g.m.H c j) = rd g.m.C (sOver g.m.W g.m.H c j) := by unfold gCost; rw [if_pos (sopen_iff.mp hq).1]
          rw [if_pos hq, cost_f h, Option.bind_some, if_pos (by omega), hcost]
          exact this
        · rw [if_neg hq] at this
          rw [if_neg hq]
          exact this
    exact key 4 fuel 0 (by omega) (by omega) (by rw [fuelv]; omega)
  · rw [if_pos (by simpa using ho), if_neg ho]
theorem rcross_f {m : api_Map} (h : MapOk m) (hb : ∀ c : Int, inMap m c → 0 ≤ rd m.C c ∧ rd m.C c ≤ 255) (c : Int) : ref11_Cross.f m c = some (sCross m c) := by
  unfold ref11_Cross.f sCross
  have hl := h.2.1
  have hp := may_prod h.1
  by_cases ho : sOpen m c = true
  · rw [if_pos ho]
    have key : ∀ (n k : Nat) (j : Int), j + n = 4 → 0 ≤ j → n < k → ref11_Cross.l0 k m c (sCrossTo m c j.toNat) j = some (sCrossTo m c 4) := by
      intro n
      induction n with
      | zero =>
        intro k j hj h0 hk
        obtain ⟨k, rfl⟩ := kpos hk
        rw [ref11_Cross.l0, if_neg (c := j ≤ 3) (by omega), Option.bind_some, if_neg (by simp)]
        rw [show j.toNat = 4 by omega]
      | succ n ih =>
        intro k j hj h0 hk
        obtain ⟨k, rfl⟩ := kpos hk
        have hle := crossTo_length m c j.toNat
        have := ih k (j + 1) (by omega) (by omega) (by omega)
        rw [show (j + 1).toNat = j.toNat + 1 by omega, crossTo_succ, show ((j.toNat : Nat) : Int) = j by omega] at this
        rw [ref11_Cross.l0, if_pos (c := j ≤ 3) (by omega), ropen_f h, Option.bind_some, Option.bind_some, if_pos ho, rover_f, Option.bind_some, ropen_f h, Option.bind_some, w64_id (x := j + 1) (by omega) (by omega)]
        by_cases hq : sOpen m (sOver m.W m.H c j) = true
        · rw [if_pos hq] at this
          have hin := (sopen_iff.mp hq).1
          have hbb := hb _ hin
          have hin2 := hin.2
          rw [if_pos hq, if_pos ⟨hin.1, by omega⟩, if_pos (by omega), w64_id (by omega) (by omega)]
          exact this
        · rw [if_neg hq] at this
          rw [if_neg hq]
          exact this
    exact key 4 fuel 0 (by omega) (by omega) (by rw [fuelv]; omega)
  · rw [if_neg ho]
    obtain ⟨k, hk⟩ : ∃ k, fuel = k + 1 := ⟨fuel - 1, by rw [fuelv]⟩
    rw [hk, ref11_Cross.l0, if_pos (c := _ ≤ _) (by omega), ropen_f h, Option.bind_some, Option.bind_some, if_neg ho]

/-- runs of what is good -/
def runsSt (good : Nat → Bool) : Nat → List api_Run × Int
  | 0 => ([], 0)
  | i + 1 => if good i = true then ((runsSt good i).1, (runsSt good i).2 + 1) else if (runsSt good i).2 > 0 then ((runsSt good i).1 ++ [api_Run.mk ((i : Int) - (runsSt good i).2) (runsSt good i).2], 0) else ((runsSt good i).1, 0)
theorem runsSt_in (good : Nat → Bool) : ∀ i : Nat, 0 ≤ (runsSt good i).2 ∧ (runsSt good i).2 ≤ (i : Int) ∧ (runsSt good i).1.length ≤ i := by
  intro i
  induction i with
  | zero => simp [runsSt]
  | succ i ih =>
    rw [runsSt]
    split
    · simp only; omega
    · split
      · simp; omega
      · simp only; omega
def sGoodAt (m : api_Map) (s side i : Int) : Bool := sOpen m (sGlobal m.W m.H s (sPos (sSize m.W m.H s).1 (sSize m.W m.H s).2 side i)) && sOpen m (sOver m.W m.H (sGlobal m.W m.H s (sPos (sSize m.W m.H s).1 (sSize m.W m.H s).2 side i)) side)
def sGood (m : api_Map) (s side : Int) (i : Nat) : Bool := decide ((i : Int) < sLen (sSize m.W m.H s).1 (sSize m.W m.H s).2 side) && sGoodAt m s side (i : Int)
def sRuns (m : api_Map) (s side : Int) : List api_Run := (runsSt (sGood m s side) ((sLen (sSize m.W m.H s).1 (sSize m.W m.H s).2 side).toNat + 1)).1
/-- the runs so far, the last one open -/
def runsOpen (st : List api_Run × Int) (i : Int) : List api_Run := if st.2 = 0 then st.1 else st.1 ++ [api_Run.mk (i - st.2) st.2]
theorem rd_last {α : Type} [Inhabited α] (l : List α) (a : α) : rd (l ++ [a]) (l.length : Int) = a := by
  rw [rda (by omega) (by omega), if_pos rfl]
theorem set_last {α : Type} (l : List α) (a b : α) : List.set (l ++ [a]) l.length b = l ++ [b] := by
  rw [List.set_append_right _ _ (by omega)]; simp
theorem along_rd {tw th side i : Int} (i0 : 0 ≤ i) (i1 : i < sLen tw th side) : rd (sAlong tw th side) i = sPos tw th side i := by
  unfold sAlong sAlongTo
  rw [rdmap (L := List.range (sLen tw th side).toNat) (f := fun i : Nat => sPos tw th side (i : Int)) (c := i) i0 (by simp; omega)]
  have : rd (List.range (sLen tw th side).toNat) i = i.toNat := by
    unfold rd; simp [List.getD]
    rw [List.getElem?_eq_getElem (by simp; omega)]
    simp
  rw [this, show ((i.toNat : Nat) : Int) = i by omega]
theorem len_in {tw th side : Int} (t0 : 0 ≤ tw) (t1 : tw ≤ 16) (u0 : 0 ≤ th) (u1 : th ≤ 16) : 0 ≤ sLen tw th side ∧ sLen tw th side ≤ 16 := by
  unfold sLen; split
  · omega
  · split <;> omega
theorem along_len {tw th side : Int} (t0 : 0 ≤ tw) (t1 : tw ≤ 16) (u0 : 0 ≤ th) (u1 : th ≤ 16) : ((sAlong tw th side).length : Int) = sLen tw th side := by
  have := len_in (side := side) t0 t1 u0 u1
  unfold sAlong; rw [alongTo_length]; omega
theorem good_end (m : api_Map) (s side : Int) (i : Nat) (hi : ¬ (i : Int) < sLen (sSize m.W m.H s).1 (sSize m.W m.H s).2 side) : sGood m s side i = false := by
  unfold sGood; rw [decide_eq_false hi]; rfl
theorem runs_f {g : grid_Grid} {more : Int} (h : GridS g more) (s side : Int) : border_Runs.f g s side = some (sRuns g.m s side) := by
  unfold border_Runs.f
  have e0 : grid_Grid_Size.f g = some (g.m.W, g.m.H) := rfl
  have hz := size_le g.m.W g.m.H s
  have hL := len_in (side := side) hz.1 hz.2.1 hz.2.2.1 hz.2.2.2
  have hA := along_len (side := side) hz.1 hz.2.1 hz.2.2.1 hz.2.2.2
  rw [e0, Option.bind_some, size_f, Option.bind_some, along_f side hz.1 hz.2.1 hz.2.2.1 hz.2.2.2, Option.bind_some]
  have key : ∀ (n k : Nat) (i : Int), i + n = sLen (sSize g.m.W g.m.H s).1 (sSize g.m.W g.m.H s).2 side → 0 ≤ i → n < k →
      border_Runs.l0 k g s side (g.m.W, g.m.H) (sAlong (sSize g.m.W g.m.H s).1 (sSize g.m.W g.m.H s).2 side) (runsOpen (runsSt (sGood g.m s side) i.toNat) i) (runsSt (sGood g.m s side) i.toNat).2 i = some (sRuns g.m s side) := by
    intro n
    induction n with
    | zero =>
      intro k i hi h0 hk
      obtain ⟨k, rfl⟩ := kpos hk
      rw [border_Runs.l0, if_neg (by omega)]
      unfold sRuns
      rw [show (sLen (sSize g.m.W g.m.H s).1 (sSize g.m.W g.m.H s).2 side).toNat = i.toNat by omega, runsSt, good_end _ _ _ _ (by omega), if_neg (by simp)]
      have := runsSt_in (sGood g.m s side) i.toNat
      unfold runsOpen
      by_cases hq : (runsSt (sGood g.m s side) i.toNat).2 = 0
      · rw [if_pos hq, if_neg (by omega)]
      · rw [if_neg hq, if_pos (by omega), show ((i.toNat : Nat) : Int) = i by omega]
    | succ n ih =>
      intro k i hi h0 hk
      obtain ⟨k, rfl⟩ := kpos hk
      have hr := ih k (i + 1) (by omega) (by omega) (by omega)
      have hst := runsSt_in (sGood g.m s side) i.toNat
      rw [border_Runs.l0, if_pos (by omega), if_pos (by omega), along_rd h0 (by omega), global_f, Option.bind_some, over_f, Option.bind_some]
      have e2 : (if sOver g.m.W g.m.H (sGlobal g.m.W g.m.H s (sPos (sSize g.m.W g.m.H s).1 (sSize g.m.W g.m.H s).2 side i)) side < 0 then (some true) else ((border_open.f g (sOver g.m.W g.m.H (sGlobal g.m.W g.m.H s (sPos (sSize g.m.W g.m.H s).1 (sSize g.m.W g.m.H s).2 side i)) side)).bind fun v15 => if (!v15) = true then (some true) else ((border_open.f g (sGlobal g.m.W g.m.H s (sPos (sSize g.m.W g.m.H s).1 (sSize g.m.W g.m.H s).2 side i))).bind fun v16 => some (!v16)))) = some (!sGood g.m s side i.toNat) := by
        have e3 : sGood g.m s side i.toNat = sGoodAt g.m s side i := by unfold sGood; rw [decide_eq_true (by omega), show ((i.toNat : Nat) : Int) = i by omega]; rfl
        rw [e3]
        unfold sGoodAt
        by_cases hn : sOver g.m.W g.m.H (sGlobal g.m.W g.m.H s (sPos (sSize g.m.W g.m.H s).1 (sSize g.m.W g.m.H s).2 side i)) side < 0
        · rw [if_pos hn, sopen_neg _ hn]; simp
        · rw [if_neg hn, open_f h, Option.bind_some, open_f h, Option.bind_some]
          cases sOpen g.m (sOver g.m.W g.m.H (sGlobal g.m.W g.m.H s (sPos (sSize g.m.W g.m.H s).1 (sSize g.m.W g.m.H s).2 side i)) side) <;> simp
      rw [e2, Option.bind_some]
      rw [show (i + 1).toNat = i.toNat + 1 by omega, runsSt, show ((i.toNat : Nat) : Int) = i by omega] at hr
      have hop : (runsOpen (runsSt (sGood g.m s side) i.toNat) i).length ≤ 17 := by
        unfold runsOpen
        split
        · omega
        · simp; omega
      by_cases hg : sGood g.m s side i.toNat = true
      · rw [if_pos hg] at hr
        rw [if_neg (by rw [hg]; simp)]
        by_cases hq : (runsSt (sGood g.m s side) i.toNat).2 = 0
        · have e5 : runsOpen (runsSt (sGood g.m s side) i.toNat) i = (runsSt (sGood g.m s side) i.toNat).1 := by unfold runsOpen; rw [if_pos hq]
          rw [if_pos (by simpa using hq), if_pos (by omega), Option.bind_some, e5, List.length_append]
          simp only [List.length_cons, List.length_nil]
          rw [w64_id (x := (((runsSt (sGood g.m s side) i.toNat).1.length + (0 + 1) : Nat) : Int) - 1) (by omega) (by omega)]
          rw [show (((runsSt (sGood g.m s side) i.toNat).1.length + (0 + 1) : Nat) : Int) - 1 = ((runsSt (sGood g.m s side) i.toNat).1.length : Int) by omega, rd_last, if_pos (by omega), Int.toNat_natCast, set_last, w64_id (x := (runsSt (sGood g.m s side) i.toNat).2 + 1) (by omega) (by omega), w64_id (x := i + 1) (by omega) (by omega)]
          unfold runsOpen at hr
          simp only at hr
          rw [if_neg (by omega), hq] at hr
          rw [hq]
          rw [show i + 1 - (0 + 1) = i by omega] at hr
          exact hr
        · have e5 : runsOpen (runsSt (sGood g.m s side) i.toNat) i = (runsSt (sGood g.m s side) i.toNat).1 ++ [api_Run.mk (i - (runsSt (sGood g.m s side) i.toNat).2) (runsSt (sGood g.m s side) i.toNat).2] := by unfold runsOpen; rw [if_neg hq]
          rw [if_neg (by simpa using hq), Option.bind_some, e5, List.length_append]
          simp only [List.length_cons, List.length_nil]
          rw [w64_id (x := (((runsSt (sGood g.m s side) i.toNat).1.length + (0 + 1) : Nat) : Int) - 1) (by omega) (by omega)]
          rw [show (((runsSt (sGood g.m s side) i.toNat).1.length + (0 + 1) : Nat) : Int) - 1 = ((runsSt (sGood g.m s side) i.toNat).1.length : Int) by omega, rd_last, if_pos (by omega), Int.toNat_natCast, set_last, w64_id (x := (runsSt (sGood g.m s side) i.toNat).2 + 1) (by omega) (by omega), w64_id (x := i + 1) (by omega) (by omega)]
          unfold runsOpen at hr
          simp only at hr
          rw [if_neg (by omega)] at hr
          rw [show i + 1 - ((runsSt (sGood g.m s side) i.toNat).2 + 1) = i - (runsSt (sGood g.m s side) i.toNat).2 by omega] at hr
          exact hr
      · rw [if_neg hg] at hr
        rw [if_pos (by simpa using hg), w64_id (x := i + 1) (by omega) (by omega)]
        by_cases hq : (runsSt (sGood g.m s side) i.toNat).2 = 0
        · have e5 : runsOpen (runsSt (sGood g.m s side) i.toNat) i = (runsSt (sGood g.m s side) i.toNat).1 := by unfold runsOpen; rw [if_pos hq]
          rw [if_neg (by omega)] at hr
          rw [e5]
          exact hr
        · have e5 : runsOpen (runsSt (sGood g.m s side) i.toNat) i = (runsSt (sGood g.m s side) i.toNat).1 ++ [api_Run.mk (i - (runsSt (sGood g.m s side) i.toNat).2) (runsSt (sGood g.m s side) i.toNat).2] := by unfold runsOpen; rw [if_neg hq]
          rw [if_pos (by omega)] at hr
          rw [e5]
          exact hr
  exact key (sLen (sSize g.m.W g.m.H s).1 (sSize g.m.W g.m.H s).2 side).toNat fuel 0 (by omega) (by omega) (by rw [fuelv]; omega)
theorem rruns_f {m : api_Map} (h : MapOk m) (s side : Int) : ref11_Runs.f m s side = some (sRuns m s side) := by
  unfold ref11_Runs.f
  have hz := size_le m.W m.H s
  have hL := len_in (side := side) hz.1 hz.2.1 hz.2.2.1 hz.2.2.2
  have hnone : sLen (sSize m.W m.H s).1 (sSize m.W m.H s).2 side = 0 → sRuns m s side = [] := fun e => by
    unfold sRuns; rw [e]
    show (runsSt (sGood m s side) (0 + 1)).1 = []
    rw [runsSt, good_end _ _ _ _ (by omega)]; rfl
  have hz0 : (sSize m.W m.H s).1 = 0 → (sSize m.W m.H s).2 = 0 := fun e => by
    by_cases hs : SecS m.W m.H s
    · have := size_in hs; omega
    · unfold sSize; rw [if_neg hs]
  rw [rsize_f, Option.bind_some]
  by_cases h1 : (sSize m.W m.H s).1 = 0
  · have h2 := hz0 h1
    rw [if_pos (c := (_ == _) = true) (by simpa using h1), Option.bind_some, if_pos rfl, hnone]
    unfold sLen; rw [h1, h2]; split <;> simp
  rw [if_neg (c := (_ == _) = true) (by simpa using h1), in_f, Option.bind_some, Option.bind_some]
  by_cases hsd : 0 ≤ side ∧ side ≤ 3
  · rw [decide_eq_true hsd, if_neg (by simp)]
    have hb : ∀ i : Int, 0 ≤ i → i ≤ 16 → 0 ≤ i * (sSize m.W m.H s).1 ∧ i * (sSize m.W m.H s).1 ≤ 256 := fun i i0 i1 => ⟨mul_nn i0 hz.1, by have := mul_le i0 hz.1 i1 hz.2.1; omega⟩
    have elen : (if ((side == 1) || (side == 3)) = true then (some (sSize m.W m.H s).2) else (some (sSize m.W m.H s).1)) = some (sLen (sSize m.W m.H s).1 (sSize m.W m.H s).2 side) := by
      have : side = 0 ∨ side = 1 ∨ side = 2 ∨ side = 3 := by omega
      rcases this with rfl | rfl | rfl | rfl <;> rfl
    rw [elen, Option.bind_some]
    have key : ∀ (n k : Nat) (i : Int), i + n = sLen (sSize m.W m.H s).1 (sSize m.W m.H s).2 side + 1 → 0 ≤ i → n < k →
        ref11_Runs.l0 k m s side (sSize m.W m.H s) (sLen (sSize m.W m.H s).1 (sSize m.W m.H s).2 side) (runsSt (sGood m s side) i.toNat).1 (runsSt (sGood m s side) i.toNat).2 i = some (sRuns m s side) := by
      intro n
      induction n with
      | zero =>
        intro k i hi h0 hk
        obtain ⟨k, rfl⟩ := kpos hk
        rw [ref11_Runs.l0, if_neg (c := i ≤ _) (by omega)]
        unfold sRuns
        rw [show i.toNat = (sLen (sSize m.W m.H s).1 (sSize m.W m.H s).2 side).toNat + 1 by omega]
      | succ n ih =>
        intro k i hi h0 hk
        obtain ⟨k, rfl⟩ := kpos hk
        have hr := ih k (i + 1) (by omega) (by omega) (by omega)
        have hst := runsSt_in (sGood m s side) i.toNat
        rw [show (i + 1).toNat = i.toNat + 1 by omega, runsSt, show ((i.toNat : Nat) : Int) = i by omega] at hr
        rw [ref11_Runs.l0, if_pos (c := i ≤ _) (by omega)]
        have hpos : (if (side == 2) = true then (some (w64 ((w64 ((w64 ((sSize m.W m.H s).2 - 1)) * (sSize m.W m.H s).1)) + i))) else (if (side == 3) = true then (some (w64 (i * (sSize m.W m.H s).1))) else (if (side == 1) = true then (some (w64 ((w64 ((w64 (i * (sSize m.W m.H s).1)) + (sSize m.W m.H s).1)) - 1))) else (some i)))) = some (sPos (sSize m.W m.H s).1 (sSize m.W m.H s).2 side i) := by
          have b1 := hb i h0 (by omega)
          have b2 : -16 ≤ ((sSize m.W m.H s).2 - 1) * (sSize m.W m.H s).1 ∧ ((sSize m.W m.H s).2 - 1) * (sSize m.W m.H s).1 ≤ 256 := by
            have := hb (sSize m.W m.H s).2 hz.2.2.1 hz.2.2.2
            rw [Int.sub_mul, Int.one_mul]; omega
          have : side = 0 ∨ side = 1 ∨ side = 2 ∨ side = 3 := by omega
          unfold sPos
          rcases this with rfl | rfl | rfl | rfl
          · rfl
          · simp only [show ((1 : Int) == 2) = false from rfl, show ((1 : Int) == 3) = false from rfl, show ((1 : Int) == 1) = true from rfl, Bool.false_eq_true, if_false, if_true]
            rw [w64_id (x := i * _) (by omega) (by omega), w64_id (x := _ + _) (by omega) (by omega), w64_id (by omega) (by omega)]
            simp; omega
          · simp only [show ((2 : Int) == 2) = true from rfl, if_true]
            rw [w64_id (x := (sSize m.W m.H s).2 - 1) (by omega) (by omega), w64_id (x := _ * _) (by omega) (by omega), w64_id (by omega) (by omega)]
          · simp only [show ((3 : Int) == 2) = false from rfl, show ((3 : Int) == 3) = true from rfl, Bool.false_eq_true, if_false, if_true]
            rw [w64_id (x := i * _) (by omega) (by omega)]
            simp
        have hgood : (if i < sLen (sSize m.W m.H s).1 (sSize m.W m.H s).2 side then ((if (side == 2) = true then (some (w64 ((w64 ((w64 ((sSize m.W m.H s).2 - 1)) * (sSize m.W m.H s).1)) + i))) else (if (side == 3) = true then (some (w64 (i * (sSize m.W m.H s).1))) else (if (side == 1) = true then (some (w64 ((w64 ((w64 (i * (sSize m.W m.H s).1)) + (sSize m.W m.H s).1)) - 1))) else (some i)))).bind fun x19 => (ref1_Global.f m.W m.H s x19).bind fun v21 => (ref11_open.f m v21).bind fun v22 => if v22 = true then ((ref11_Over.f m.W m.H v21 side).bind fun v23 => (ref11_open.f m v23).bind fun v24 => some v24) else (some false)) else (some false)) = some (sGood m s side i.toNat) := by
          by_cases hil : i < sLen (sSize m.W m.H s).1 (sSize m.W m.H s).2 side
          · rw [if_pos hil, hpos]
            have e3 : sGood m s side i.toNat = sGoodAt m s side i := by unfold sGood; rw [decide_eq_true (by omega), show ((i.toNat : Nat) : Int) = i by omega]; rfl
            rw [e3]
            unfold sGoodAt
            simp only [Option.bind_some, rglobal_f, ropen_f h, rover_f]
            cases sOpen m (sGlobal m.W m.H s (sPos (sSize m.W m.H s).1 (sSize m.W m.H s).2 side i)) <;> simp
          · rw [if_neg hil, good_end _ _ _ _ (by omega)]
        rw [hgood, Option.bind_some]
        by_cases hg : sGood m s side i.toNat = true
        · rw [if_pos hg] at hr
          rw [if_pos hg]
          simp only [Option.bind_some]
          rw [w64_id (x := _ + 1) (by omega) (by omega), w64_id (x := i + 1) (by omega) (by omega)]
          exact hr
        · rw [if_neg hg] at hr
          rw [if_neg hg]
          by_cases hq : (runsSt (sGood m s side) i.toNat).2 > 0
          · rw [if_pos hq] at hr
            rw [if_pos hq, if_pos (by omega)]
            simp only [Option.bind_some]
            rw [w64_id (x := i - _) (by omega) (by omega), w64_id (x := i + 1) (by omega) (by omega)]
            exact hr
          · rw [if_neg hq] at hr
            rw [if_neg hq]
            simp only [Option.bind_some]
            have e9 : (runsSt (sGood m s side) i.toNat).2 = 0 := by omega
            rw [e9, w64_id (x := i + 1) (by omega) (by omega)]
            exact hr
    exact key ((sLen (sSize m.W m.H s).1 (sSize m.W m.H s).2 side).toNat + 1) fuel 0 (by omega) (by omega) (by rw [fuelv]; omega)
  · rw [decide_eq_false hsd, if_pos (by simp), hnone]
    unfold sLen; rw [if_neg (by omega), if_neg (by omega)]

theorem edges_self (a : List api_Edge) (hb : a.length ≤ 1000000) : ref11_Edges.f a a = some true := by
  unfold ref11_Edges.f
  rw [if_neg (by simp)]
  have key : ∀ (n k : Nat) (i : Int), i + n = a.length → 0 ≤ i → n < k → ref11_Edges.l0 k a a i = some true := by
    intro n
    induction n with
    | zero =>
      intro k i hi h0 hk
      obtain ⟨k, rfl⟩ := kpos hk
      rw [ref11_Edges.l0, if_neg (by omega)]
    | succ n ih =>
      intro k i hi h0 hk
      obtain ⟨k, rfl⟩ := kpos hk
      rw [ref11_Edges.l0, if_pos (by omega), if_pos (by omega), if_pos (by omega), if_neg (by simp), w64_id (by omega) (by omega)]
      exact ih k (i + 1) (by omega) (by omega) (by omega)
  exact key a.length fuel 0 (by omega) (by omega) (by rw [fuelv]; omega)
theorem runs_self (a : List api_Run) (hb : a.length ≤ 1000000) : ref11_SameRuns.f a a = some true := by
  unfold ref11_SameRuns.f
  rw [if_neg (by simp)]
  have key : ∀ (n k : Nat) (i : Int), i + n = a.length → 0 ≤ i → n < k → ref11_SameRuns.l0 k a a i = some true := by
    intro n
    induction n with
    | zero =>
      intro k i hi h0 hk
      obtain ⟨k, rfl⟩ := kpos hk
      rw [ref11_SameRuns.l0, if_neg (by omega)]
    | succ n ih =>
      intro k i hi h0 hk
      obtain ⟨k, rfl⟩ := kpos hk
      rw [ref11_SameRuns.l0, if_pos (by omega), if_pos (by omega), if_pos (by omega), if_neg (by simp), w64_id (by omega) (by omega)]
      exact ih k (i + 1) (by omega) (by omega) (by omega)
  exact key a.length fuel 0 (by omega) (by omega) (by rw [fuelv]; omega)
theorem runs_len (m : api_Map) (s side : Int) : (sRuns m s side).length ≤ 17 := by
  have hz := size_le m.W m.H s
  have hL := len_in (side := side) hz.1 hz.2.1 hz.2.2.1 hz.2.2.2
  have := (runsSt_in (sGood m s side) ((sLen (sSize m.W m.H s).1 (sSize m.W m.H s).2 side).toNat + 1)).2.2
  unfold sRuns; omega
theorem cross_len (m : api_Map) (c : Int) : (sCross m c).length ≤ 4 := by
  unfold sCross; split
  · exact crossTo_length m c 4
  · simp
end Go.Proofs.Yticdodeoljodiaa
