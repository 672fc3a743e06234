import Derived.Test.YticdodeoljodiaaPtrail
namespace Go.Proofs.Yticdodeoljodiaa
open Go.Hx
set_option linter.unusedVariables false
set_option linter.unusedSimpArgs false

/-- how far a cell is from a goal -/
noncomputable def dst (m : api_Map) (g c : Int) : Int := open Classical in if h : ∃ D, Far m g D then rd (Classical.choose h) c else 0
theorem dst_far {m : api_Map} (hm : MapOk m) {g : Int} {D : List Int} (h : Far m g D) (c : Int) : dst m g c = rd D c := by
  unfold dst
  have hh : ∃ D, Far m g D := ⟨D, h⟩
  rw [dif_pos hh, far_eq hm (Classical.choose_spec hh) h]
def UnitOk (m : api_Map) (u : api_Unit) : Prop := CellS m.W m.H u.Cell ∧ CellS m.W m.H u.Goal
instance (m : api_Map) (u : api_Unit) : Decidable (UnitOk m u) := by unfold UnitOk; infer_instance
noncomputable def leftP (m : api_Map) (l : List api_Unit) : List Int := l.map (fun u => dst m u.Goal u.Cell)
theorem leftP_rd (m : api_Map) (l : List api_Unit) {j : Int} (h0 : 0 ≤ j) (h1 : j < l.length) : rd (leftP m l) j = dst m (rd l j).Goal (rd l j).Cell := rdmap h0 h1
/-- maps of lists -/
theorem mset_mem {α : Type} (x : Int) (v : α) : ∀ (m : List (Int × α)) (e : Int × α), e ∈ mset m x v → e = (x, v) ∨ e ∈ m
  | [], e, h => by simp [mset] at h; exact .inl h
  | a :: r, e, h => by
    unfold mset at h
    split at h
    · rcases List.mem_cons.mp h with h | h
      · exact .inl h
      · exact .inr (List.mem_cons_of_mem _ h)
    · rcases List.mem_cons.mp h with h | h
      · exact .inr (h ▸ List.mem_cons_self ..)
      · rcases mset_mem x v r e h with q | q
        · exact .inl q
        · exact .inr (List.mem_cons_of_mem _ q)
theorem mset_new {α : Type} (x : Int) (v : α) : ∀ (m : List (Int × α)), (x, v) ∈ mset m x v
  | [] => by simp [mset]
  | a :: r => by
    unfold mset
    split
    · exact List.mem_cons_self ..
    · exact List.mem_cons_of_mem _ (mset_new x v r)
theorem mset_old {α : Type} [Inhabited α] (x : Int) (v : α) : ∀ (m : List (Int × α)) (e : Int × α), e ∈ m → e ∈ mset m x v ∨ (e.1 = x ∧ e.2 = mval m x)
  | [], e, h => by cases h
  | a :: r, e, h => by
    by_cases hk : a.1 = x
    · rcases List.mem_cons.mp h with rfl | h
      · right; exact ⟨hk, by simp [mval, mget, hk]⟩
      · left; simp only [mset, hk, if_true]; exact List.mem_cons_of_mem _ h
    · simp only [mset, hk, if_false]
      rcases List.mem_cons.mp h with rfl | h
      · left; exact List.mem_cons_self ..
      · rcases mset_old x v r e h with q | ⟨q1, q2⟩
        · left; exact List.mem_cons_of_mem _ q
        · right; exact ⟨q1, by rw [q2]; simp [mval, mget, hk]⟩
theorem mval_mem {α : Type} [Inhabited α] (x : Int) : ∀ (m : List (Int × α)), mval m x = default ∨ ∃ e ∈ m, e.1 = x ∧ e.2 = mval m x
  | [] => .inl rfl
  | a :: r => by
    by_cases hk : a.1 = x
    · right; exact ⟨a, List.mem_cons_self .., hk, by simp [mval, mget, hk]⟩
    · have e1 : mval (a :: r) x = mval r x := by simp [mval, mget, hk]
      rw [e1]
      rcases mval_mem x r with q | ⟨e, q1, q2, q3⟩
      · exact .inl q
      · exact .inr ⟨e, List.mem_cons_of_mem _ q1, q2, q3⟩
theorem pickd_mem {ε : Type} {l l' : List ε} {e : ε} (h : Pickd l e l') : e ∈ l ∧ (∀ x ∈ l, x = e ∨ x ∈ l') ∧ (∀ x ∈ l', x ∈ l) ∧ l'.length + 1 = l.length := by
  obtain ⟨j, h1, rfl⟩ := h
  have hj := (List.getElem?_eq_some_iff.1 h1).1
  refine ⟨List.mem_of_getElem? h1, fun x hx => ?_, fun x hx => List.mem_of_mem_eraseIdx hx, by rw [List.length_eraseIdx_of_lt hj]; omega⟩
  obtain ⟨i, hi⟩ := List.getElem?_of_mem hx
  by_cases hij : i = j
  · left; rw [hij] at hi; rw [hi] at h1; exact Option.some.inj h1
  · right; rw [List.mem_eraseIdx_iff_getElem?]; exact ⟨i, hij, hi⟩

variable {m : api_Map}
theorem left_l2 (hm : MapOk m) {l : List api_Unit} (hok : ∀ y ∈ l, UnitOk m y) (v16 : Int × List Int) {D : List Int} (hf : Far m v16.1 D) (hv : ∀ j ∈ v16.2, 0 ≤ j ∧ j < (l.length : Int) ∧ (rd l j).Goal = v16.1) (hvl : v16.2.length ≤ 1000000) : ∀ (n k : Nat) (x : List Int) (i : Int), i + n = v16.2.length → 0 ≤ i → n < k → x.length = l.length →
    ∃ x', trail_left.l2 k l v16 (D, 0) x i = some x' ∧ x'.length = l.length ∧ (∀ j ∈ v16.2.drop i.toNat, rd x' j = dst m (rd l j).Goal (rd l j).Cell) ∧ (∀ j : Int, 0 ≤ j → rd x j = dst m (rd l j).Goal (rd l j).Cell → rd x' j = dst m (rd l j).Goal (rd l j).Cell) := by
  have hl := hm.2.1
  have hD := hf.len
  intro n
  induction n with
  | zero =>
    intro k x i hi h0 hk hx
    obtain ⟨k, rfl⟩ := kpos hk
    refine ⟨x, by rw [trail_left.l2, if_neg (by omega)], hx, fun j hj => ?_, fun j _ h => h⟩
    rw [List.drop_of_length_le (by omega)] at hj; cases hj
  | succ n ih =>
    intro k x i hi h0 hk hx
    obtain ⟨k, rfl⟩ := kpos hk
    have hil : i < (v16.2.length : Int) := by omega
    obtain ⟨a1, a2, a3⟩ := hv _ (rdmem h0 hil)
    obtain ⟨c1, c2⟩ := hok _ (rdmem a1 a2)
    have c3 := c1.2.1
    have c4 := c1.2.2
    have hrd : ∀ j : Int, 0 ≤ j → rd (List.set x (rd v16.2 i).toNat (rd D (rd l (rd v16.2 i)).Cell)) j = if j = rd v16.2 i then rd D (rd l (rd v16.2 i)).Cell else rd x j := fun j j0 => rds a1 (by omega) j0
    have hdv : rd D (rd l (rd v16.2 i)).Cell = dst m (rd l (rd v16.2 i)).Goal (rd l (rd v16.2 i)).Cell := by rw [a3, dst_far hm hf]
    obtain ⟨x', e, h1, h2, h3⟩ := ih k (List.set x (rd v16.2 i).toNat (rd D (rd l (rd v16.2 i)).Cell)) (i + 1) (by omega) (by omega) (by omega) (by simpa using hx)
    refine ⟨x', ?_, h1, fun j hj => ?_, fun j j0 h => ?_⟩
    · rw [trail_left.l2, if_pos hil, if_pos ⟨h0, hil⟩, if_pos ⟨a1, a2⟩, if_pos ⟨c3, by simp only; omega⟩, if_pos ⟨a1, by omega⟩, w64_id (by omega) (by omega)]
      exact e
    · rw [dropc h0 hil] at hj
      rcases List.mem_cons.mp hj with rfl | hj
      · exact h3 _ a1 (by rw [hrd _ a1, if_pos rfl]; exact hdv)
      · exact h2 j hj
    · refine h3 j j0 ?_
      rw [hrd j j0]
      split
      · rename_i q; rw [q]; exact hdv
      · exact h
theorem left_l1 (hm : MapOk m) (hc : CostOk m) {l : List api_Unit} (hok : ∀ y ∈ l, UnitOk m y) (hb : l.length ≤ 1000) : ∀ (n k : Nat) (x : List Int) (left : List (Int × List Int)), left.length = n → n < k → x.length = l.length →
    (∀ e ∈ left, CellS m.W m.H e.1 ∧ e.2.length ≤ 1000 ∧ ∀ j ∈ e.2, 0 ≤ j ∧ j < (l.length : Int) ∧ (rd l j).Goal = e.1) →
    (∀ j : Int, 0 ≤ j → j < l.length → rd x j = dst m (rd l j).Goal (rd l j).Cell ∨ ∃ e ∈ left, j ∈ e.2) →
    trail_left.l1 k m l x left = some (leftP m l, true) := by
  intro n
  induction n with
  | zero =>
    intro k x left hn hk hx h1 h2
    obtain ⟨k, rfl⟩ := kpos hk
    have hnil : left = [] := List.length_eq_zero_iff.mp hn
    rw [trail_left.l1]
    refine rangeP_all (fun _ => ?_) (fun e l' hp => ?_)
    · congr 2
      apply rdext (by simp [leftP, hx])
      intro j j0 j1
      rw [leftP_rd m l j0 (by omega)]
      rcases h2 j j0 (by omega) with q | ⟨e, q, _⟩
      · exact q
      · rw [hnil] at q; cases q
    · have := (pickd_mem hp).1
      rw [hnil] at this; cases this
  | succ n ih =>
    intro k x left hn hk hx h1 h2
    obtain ⟨k, rfl⟩ := kpos hk
    rw [trail_left.l1]
    refine rangeP_all (fun q => ?_) (fun e l' hp => ?_)
    · rw [q] at hn; simp at hn
    · obtain ⟨p1, p2, p3, p4⟩ := pickd_mem hp
      obtain ⟨c1, c2, c3⟩ := h1 e p1
      obtain ⟨D, hlk, hf⟩ := look_f hm hc (t := e.1) ⟨c1.2.1, c1.2.2⟩
      have hd : flat_Dist.f m e.1 = some (D, 0) := by
        unfold flat_Dist.f
        rw [hlk, Option.bind_some]; rfl
      obtain ⟨x', e1, g1, g2, g3⟩ := left_l2 hm hok e hf c3 (by omega) e.2.length fuel x 0 (by omega) (by omega) (by rw [fuelv]; omega) hx
      rw [hd, Option.bind_some, e1, Option.bind_some]
      refine ih k x' l' (by omega) (by omega) g1 (fun y hy => h1 y (p3 y hy)) (fun j j0 j1 => ?_)
      rcases h2 j j0 j1 with q | ⟨y, q1, q2⟩
      · exact .inl (g3 j j0 q)
      · rcases p2 y q1 with rfl | q3
        · exact .inl (g2 j (by simpa using q2))
        · exact .inr ⟨y, q3, q2⟩
theorem left_l0 (hm : MapOk m) (hc : CostOk m) (l : List api_Unit) (hb : l.length ≤ 1000) : ∀ (n k : Nat) (i : Int) (x4 : List (Int × List Int)), i + n = l.length → 0 ≤ i → n < k →
    (∀ j : Int, 0 ≤ j → j < i → UnitOk m (rd l j)) → x4.length ≤ i.toNat →
    (∀ e ∈ x4, CellS m.W m.H e.1 ∧ e.2.length ≤ i.toNat ∧ ∀ j ∈ e.2, 0 ≤ j ∧ j < i ∧ (rd l j).Goal = e.1) →
    (∀ j : Int, 0 ≤ j → j < i → ∃ e ∈ x4, j ∈ e.2) →
    ((∀ y ∈ l, UnitOk m y) → trail_left.l0 k m l x4 i = some (leftP m l, true)) ∧ ((∃ j : Int, i ≤ j ∧ j < l.length ∧ ¬ UnitOk m (rd l j)) → trail_left.l0 k m l x4 i = some ([], false)) := by
  intro n
  induction n with
  | zero =>
    intro k i x4 hi h0 hk hu hx h1 h2
    obtain ⟨k, rfl⟩ := kpos hk
    refine ⟨fun hok => ?_, fun ⟨j, q1, q2, _⟩ => by omega⟩
    rw [trail_left.l0, if_neg (by omega), if_pos (by omega), Int.toNat_natCast]
    refine left_l1 hm hc hok hb x4.length fuel _ x4 rfl (by rw [fuelv]; omega) (by simp) (fun e he => ?_) (fun j j0 j1 => .inr (h2 j j0 (by omega)))
    obtain ⟨a, b, c⟩ := h1 e he
    exact ⟨a, by omega, fun j hj => by have := c j hj; exact ⟨this.1, by omega, this.2.2⟩⟩
  | succ n ih =>
    intro k i x4 hi h0 hk hu hx h1 h2
    obtain ⟨k, rfl⟩ := kpos hk
    have hil : i < (l.length : Int) := by omega
    have hcond : ((where_Sector.f m.W m.H ((rd l i).Cell)).bind fun v9 => if v9 < 0 then (some true) else ((where_Sector.f m.W m.H ((rd l i).Goal)).bind fun v10 => some (decide (v10 < 0)))) = some (!decide (UnitOk m (rd l i))) := by
      rw [sector_f, Option.bind_some, sector_f]
      by_cases q1 : CellS m.W m.H (rd l i).Cell
      · rw [if_neg (fun q => sector_neg.mp q q1), Option.bind_some]
        by_cases q2 : CellS m.W m.H (rd l i).Goal
        · rw [decide_eq_false (fun q => sector_neg.mp q q2), decide_eq_true (show UnitOk m (rd l i) from ⟨q1, q2⟩)]; rfl
        · rw [decide_eq_true (sector_neg.mpr q2), decide_eq_false (show ¬ UnitOk m (rd l i) from fun q => q2 q.2)]; rfl
      · rw [if_pos (sector_neg.mpr q1), decide_eq_false (show ¬ UnitOk m (rd l i) from fun q => q1 q.1)]; rfl
    rw [trail_left.l0, if_pos hil, if_pos ⟨h0, hil⟩, hcond, Option.bind_some]
    by_cases hok : UnitOk m (rd l i)
    · have hvl : (mval x4 (rd l i).Goal).length ≤ i.toNat ∧ ∀ j ∈ mval x4 (rd l i).Goal, 0 ≤ j ∧ j < i ∧ (rd l j).Goal = (rd l i).Goal := by
        rcases mval_mem (rd l i).Goal x4 with q | ⟨e, q1, q2, q3⟩
        · rw [q]; exact ⟨by simp [default], fun j hj => by cases hj⟩
        · obtain ⟨_, b, c⟩ := h1 e q1
          rw [q3] at b c
          exact ⟨b, fun j hj => by have := c j hj; rw [q2] at this; exact this⟩
      rw [decide_eq_true hok, if_neg (by simp), if_pos (by omega), w64_id (by omega) (by omega)]
      have hnew := ih k (i + 1) (mset x4 (rd l i).Goal (mval x4 (rd l i).Goal ++ [i])) (by omega) (by omega) (by omega) (fun j j0 j1 => by
          by_cases hj : j = i
          · rw [hj]; exact hok
          · exact hu j j0 (by omega)) (by rw [mset_length]; split <;> omega) (fun e he => ?_) (fun j j0 j1 => ?_)
      · refine ⟨hnew.1, fun ⟨j, q1, q2, q3⟩ => hnew.2 ⟨j, ?_, q2, q3⟩⟩
        by_cases hj : j = i
        · rw [hj] at q3; exact absurd hok q3
        · omega
      · rcases mset_mem _ _ x4 e he with rfl | he
        · refine ⟨hok.2, by simp; omega, fun j hj => ?_⟩
          rcases List.mem_append.mp hj with hj | hj
          · have := hvl.2 j hj; exact ⟨this.1, by omega, this.2.2⟩
          · rw [List.mem_singleton] at hj; subst hj; exact ⟨h0, by omega, rfl⟩
        · obtain ⟨a, b, c⟩ := h1 e he
          exact ⟨a, by omega, fun j hj => by have := c j hj; exact ⟨this.1, by omega, this.2.2⟩⟩
      · by_cases hj : j = i
        · exact ⟨_, mset_new _ _ x4, by rw [hj]; simp⟩
        · obtain ⟨e, q1, q2⟩ := h2 j j0 (by omega)
          rcases mset_old (rd l i).Goal (mval x4 (rd l i).Goal ++ [i]) x4 e q1 with q | ⟨_, q4⟩
          · exact ⟨e, q, q2⟩
          · exact ⟨_, mset_new _ _ x4, List.mem_append_left _ (by rw [← q4]; exact q2)⟩
    · rw [decide_eq_false hok, if_pos (by rfl)]
      exact ⟨fun q => absurd (q _ (rdmem h0 hil)) hok, fun _ => rfl⟩
theorem left_f (hm : MapOk m) (hc : CostOk m) (l : List api_Unit) (hb : l.length ≤ 1000) : ((∀ y ∈ l, UnitOk m y) → trail_left.f m l = some (leftP m l, true)) ∧ ((∃ y ∈ l, ¬ UnitOk m y) → trail_left.f m l = some ([], false)) := by
  have hl := hm.2.1
  have hpp := may_prod hm.1
  obtain ⟨h1, h2⟩ := left_l0 hm hc l hb l.length fuel 0 [] (by omega) (by omega) (by rw [fuelv]; omega) (fun j q1 q2 => by omega) (by simp) (fun e he => by cases he) (fun j q1 q2 => by omega)
  unfold trail_left.f
  rw [atlas_may_f m (by omega), Option.bind_some, decide_eq_true hm, if_neg (by simp)]
  refine ⟨h1, fun ⟨y, q1, q2⟩ => h2 ?_⟩
  obtain ⟨j, j0, j1, rfl⟩ := memrd q1
  exact ⟨j, j0, j1, q2⟩
theorem rleft_f (hm : MapOk m) (hc : CostOk m) (hmb : m.C.length ≤ 10000) (l : List api_Unit) (hb : l.length ≤ 1000) : ((∀ y ∈ l, UnitOk m y) → ref27_Left.f m l = some (leftP m l, true)) ∧ ((∃ y ∈ l, ¬ UnitOk m y) → ref27_Left.f m l = some ([], false)) := by
  have hl := hm.2.1
  have hpp := may_prod hm.1
  have key : ∀ (n k : Nat) (i : Int), i + n = l.length → 0 ≤ i → n < k →
      ((∀ y ∈ l, UnitOk m y) → ref27_Left.l0 k m l ((leftP m l).take i.toNat) i = some (leftP m l, true)) ∧ ((∃ j : Int, i ≤ j ∧ j < l.length ∧ ¬ UnitOk m (rd l j)) → ref27_Left.l0 k m l ((leftP m l).take i.toNat) i = some ([], false)) := by
    intro n
    induction n with
    | zero =>
      intro k i hi h0 hk
      obtain ⟨k, rfl⟩ := kpos hk
      refine ⟨fun _ => ?_, fun ⟨j, q1, q2, _⟩ => by omega⟩
      rw [ref27_Left.l0, if_neg (by omega), List.take_of_length_le (by simp [leftP]; omega)]
    | succ n ih =>
      intro k i hi h0 hk
      obtain ⟨k, rfl⟩ := kpos hk
      have hil : i < (l.length : Int) := by omega
      have hcond : (if (0 ≤ i ∧ i < (List.length l : Int)) then ((ref1_IsCell.f m.W m.H ((rd l i).Cell)).bind fun v9 => if (!v9) = true then (some true) else ((ref1_IsCell.f m.W m.H ((rd l i).Goal)).bind fun v10 => some (!v10))) else none) = some (!decide (UnitOk m (rd l i))) := by
        rw [if_pos ⟨h0, hil⟩, riscell_f, Option.bind_some, riscell_f]
        by_cases q1 : CellS m.W m.H (rd l i).Cell
        · rw [decide_eq_true q1, if_neg (by simp), Option.bind_some]
          by_cases q2 : CellS m.W m.H (rd l i).Goal
          · rw [decide_eq_true q2, decide_eq_true (show UnitOk m (rd l i) from ⟨q1, q2⟩)]
          · rw [decide_eq_false q2, decide_eq_false (show ¬ UnitOk m (rd l i) from fun q => q2 q.2)]
        · rw [decide_eq_false q1, if_pos (by rfl), decide_eq_false (show ¬ UnitOk m (rd l i) from fun q => q1 q.1)]; rfl
      rw [ref27_Left.l0, if_pos hil, hcond, Option.bind_some]
      by_cases hok : UnitOk m (rd l i)
      · obtain ⟨c1, c2⟩ := hok
        obtain ⟨D, e, hf⟩ := flat_ref hm hc (t := (rd l i).Goal) ⟨c2.2.1, c2.2.2⟩ hmb
        have hD := hf.len
        have c3 := c1.2.1
        have c4 := c1.2.2
        have hlen : (leftP m l).length = l.length := by simp [leftP]
        rw [decide_eq_true (show UnitOk m (rd l i) from ⟨c1, c2⟩), if_neg (by simp), if_pos ⟨h0, hil⟩, e, Option.bind_some, if_pos ⟨c3, by omega⟩, if_pos (by rw [List.length_take]; omega), w64_id (by omega) (by omega)]
        have hn := ih k (i + 1) (by omega) (by omega) (by omega)
        rw [takec h0 (by omega : i < ((leftP m l).length : Int)), leftP_rd m l h0 hil, dst_far hm hf] at hn
        refine ⟨hn.1, fun ⟨j, q1, q2, q3⟩ => hn.2 ⟨j, ?_, q2, q3⟩⟩
        by_cases hj : j = i
        · rw [hj] at q3; exact absurd ⟨c1, c2⟩ q3
        · omega
      · rw [decide_eq_false hok, if_pos (by rfl)]
        exact ⟨fun q => absurd (q _ (rdmem h0 hil)) hok, fun _ => rfl⟩
  obtain ⟨h1, h2⟩ := key l.length fuel 0 (by omega) (by omega) (by rw [fuelv]; omega)
  unfold ref27_Left.f
  rw [ref_may_f m (by omega), Option.bind_some, decide_eq_true hm, if_neg (by simp)]
  refine ⟨h1, fun ⟨y, q1, q2⟩ => h2 ?_⟩
  obtain ⟨j, j0, j1, rfl⟩ := memrd q1
  exact ⟨j, j0, j1, q2⟩
end Go.Proofs.Yticdodeoljodiaa
