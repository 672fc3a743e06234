import Derived.Test.YtkidcebfpengmaaFunits
namespace Go.Proofs.Ytkidcebfpengmaa
open Go.Hx
set_option linter.unusedVariables false
set_option linter.unusedSimpArgs false

/-- who lives is L, of so many at most; nobody's number, nor any in the order, is as great as the next one -/
structure US (u : units_Units) (most : Int) (L : List api_Unit) : Prop where
  most_ : u.most = most
  mb : 1 ≤ most ∧ most ≤ 65536
  next : 0 ≤ u.next ∧ u.next ≤ 1000000
  keys : (u.live.map (·.1)).Nodup
  len : u.live.length = L.length
  has : ∀ k, mhas u.live k = true → ∃ x ∈ L, x.Id = k
  val : ∀ x ∈ L, mget u.live x.Id = some x
  ord : u.order.filter (fun k => mhas u.live k) = L.map (·.Id)
  old : ∀ k ∈ u.order, 0 ≤ k ∧ k < u.next
  olen : (u.order.length : Int) ≤ u.next
  up : (L.map (·.Id)).Pairwise (· < ·)

def uFind (L : List api_Unit) (k : Int) : Option api_Unit := L.find? (fun x => x.Id == k)
def uGet (L : List api_Unit) (k : Int) : api_Unit × Bool := match uFind L k with
  | some x => (x, true)
  | none => (⟨0, 0, 0⟩, false)
def uHas (L : List api_Unit) (k : Int) : Bool := (uFind L k).isSome
def uDrop (L : List api_Unit) (k : Int) : List api_Unit := L.filter (fun x => x.Id != k)
def uTurn (L : List api_Unit) (k : Int) (f : api_Unit → api_Unit) : List api_Unit := L.map (fun x => if x.Id = k then f x else x)

theorem uFind_some {L : List api_Unit} {k : Int} {x : api_Unit} (h : uFind L k = some x) : x ∈ L ∧ x.Id = k :=
  ⟨List.mem_of_find?_eq_some h, by simpa using List.find?_some h⟩
theorem uFind_none {L : List api_Unit} {k : Int} (h : uFind L k = none) : ∀ x ∈ L, x.Id ≠ k := by
  intro x hx e
  have := List.find?_eq_none.1 h x hx
  simp [e] at this
theorem id_inj {L : List api_Unit} (h : (L.map (·.Id)).Pairwise (· < ·)) {x y : api_Unit} (hx : x ∈ L) (hy : y ∈ L) (e : x.Id = y.Id) : x = y := by
  obtain ⟨i, hi, rfl⟩ := List.mem_iff_getElem.1 hx
  obtain ⟨j, hj, rfl⟩ := List.mem_iff_getElem.1 hy
  have key := List.pairwise_iff_getElem.1 h
  have : i = j := by
    rcases Nat.lt_trichotomy i j with q | q | q
    · have := key i j (by simpa using hi) (by simpa using hj) q
      simp at this; omega
    · exact q
    · have := key j i (by simpa using hj) (by simpa using hi) q
      simp at this; omega
  subst this; rfl
theorem uFind_mem {L : List api_Unit} (h : (L.map (·.Id)).Pairwise (· < ·)) {x : api_Unit} (hx : x ∈ L) : uFind L x.Id = some x := by
  cases hf : uFind L x.Id with
  | none => exact absurd rfl (uFind_none hf x hx)
  | some y =>
    obtain ⟨h1, h2⟩ := uFind_some hf
    rw [id_inj h h1 hx h2]

variable {u : units_Units} {most : Int} {L : List api_Unit}
theorem US.get (h : US u most L) (k : Int) : mget u.live k = uFind L k := by
  cases hf : uFind L k with
  | some x =>
    obtain ⟨h1, h2⟩ := uFind_some hf
    rw [← h2]; exact h.val x h1
  | none =>
    cases hg : mget u.live k with
    | none => rfl
    | some v =>
      obtain ⟨x, hx, e⟩ := h.has k (mhas_some hg)
      exact absurd e (uFind_none hf x hx)
theorem US.cnt (h : US u most L) : (L.length : Int) ≤ u.next := by
  have h1 : (L.map (·.Id)).length ≤ u.order.length := by rw [← h.ord]; exact List.length_filter_le ..
  have := h.olen
  simp at h1; omega

theorem new_f (most : Int) : units_New.f most = some (if 1 ≤ most ∧ most ≤ 65536 then some (units_Units.mk most 0 [] []) else none) := by
  unfold units_New.f
  by_cases h : 1 ≤ most ∧ most ≤ 65536
  · rw [if_neg (by simp; omega), if_pos h]
  · rw [if_pos (by simp; omega), if_neg h]
theorem new_us (h : 1 ≤ most ∧ most ≤ 65536) : US (units_Units.mk most 0 [] []) most [] :=
  ⟨rfl, h, by simp, by simp, rfl, by simp [mhas, mget], by simp, by simp, by simp, by simp, by simp⟩

theorem alive_l (hb : u.order.length ≤ 1000000) : ∀ (n k : Nat) (i : Int) (xs : List Int), i + n = u.order.length → 0 ≤ i → n < k → (xs.length : Int) ≤ i →
    units_Units_alive.l0 k u xs i = some (xs ++ (u.order.drop i.toNat).filter (fun q => mhas u.live q)) := by
  intro n
  induction n with
  | zero =>
    intro k i xs hi h0 hk hx
    obtain ⟨k, rfl⟩ := kpos hk
    rw [units_Units_alive.l0, if_neg (by omega), List.drop_of_length_le (by omega)]; simp
  | succ n ih =>
    intro k i xs hi h0 hk hx
    obtain ⟨k, rfl⟩ := kpos hk
    rw [units_Units_alive.l0, if_pos (by omega), if_pos (by omega), wi (by omega) (by omega), dropc h0 (by omega)]
    by_cases hm : mhas u.live (rd u.order i) = true
    · rw [if_pos hm, if_pos (by omega), ih k (i + 1) _ (by omega) (by omega) (by omega) (by simp; omega)]
      simp [hm]
    · rw [if_neg hm, ih k (i + 1) _ (by omega) (by omega) (by omega) (by omega)]
      simp [hm]
theorem alive_f' (hb : u.order.length ≤ 1000000) : units_Units_alive.f u = some (u.order.filter (fun q => mhas u.live q)) := by
  unfold units_Units_alive.f
  rw [alive_l hb u.order.length fuel 0 [] (by omega) (by omega) (by rw [fuelv]; omega) (by simp)]; simp
theorem US.ob (h : US u most L) : u.order.length ≤ 1000000 := by have := h.olen; have := h.next; omega
theorem alive_f (h : US u most L) : units_Units_alive.f u = some (L.map (·.Id)) := by rw [alive_f' h.ob, h.ord]

theorem all_l {v : List Int} (hb : v.length ≤ 1000000) : ∀ (n k : Nat) (i : Int) (xs : List api_Unit), i + n = v.length → 0 ≤ i → n < k → (xs.length : Int) ≤ i →
    units_Units_All.l0 k u v xs i = some (xs ++ (v.drop i.toNat).map (fun q => mval u.live q)) := by
  intro n
  induction n with
  | zero =>
    intro k i xs hi h0 hk hx
    obtain ⟨k, rfl⟩ := kpos hk
    rw [units_Units_All.l0, if_neg (by omega), List.drop_of_length_le (by omega)]; simp
  | succ n ih =>
    intro k i xs hi h0 hk hx
    obtain ⟨k, rfl⟩ := kpos hk
    rw [units_Units_All.l0, if_pos (by omega), if_pos (by omega), if_pos (by omega), wi (by omega) (by omega), dropc h0 (by omega), ih k (i + 1) _ (by omega) (by omega) (by omega) (by simp; omega)]
    simp
theorem all_f (h : US u most L) : units_Units_All.f u = some L := by
  unfold units_Units_All.f
  have hc := h.cnt
  have hn := h.next
  rw [alive_f h, Option.bind_some, all_l (by simp; omega) L.length fuel 0 [] (by simp) (by omega) (by rw [fuelv]; omega) (by simp)]
  simp only [List.nil_append, Int.toNat_zero, List.drop_zero, List.map_map]
  congr 1
  conv => rhs; rw [← List.map_id L]
  refine List.map_congr_left fun x hx => ?_
  simp only [Function.comp, id]
  exact mval_some (h.val x hx)
theorem len_f (h : US u most L) : units_Units_Len.f u = some (L.length : Int) := by unfold units_Units_Len.f; rw [h.len]
theorem get_f (h : US u most L) (k : Int) : units_Units_Get.f u k = some (uGet L k) := by
  unfold units_Units_Get.f uGet
  have hg := h.get k
  cases hf : uFind L k with
  | some x => rw [hf] at hg; simp [mval, mhas, hg]
  | none => rw [hf] at hg; simp [mval, mhas, hg]; exact ⟨rfl, rfl, rfl⟩

theorem add_f (h : US u most L) (hn : u.next < 1000000) (c g : Int) : (most ≤ L.length → units_Units_Add.f u c g = some (0, false, u)) ∧
    ((L.length : Int) < most → ∃ u', units_Units_Add.f u c g = some (u.next, true, u') ∧ u'.next = u.next + 1 ∧ US u' most (L ++ [⟨u.next, c, g⟩])) := by
  have hb := h.next
  have ho := h.ob
  unfold units_Units_Add.f
  rw [h.len, h.most_]
  refine ⟨fun hl => by rw [if_pos hl], fun hl => ?_⟩
  have hcnt := h.cnt
  have hno : mget u.live u.next = none := by
    rw [h.get]
    cases hf : uFind L u.next with
    | none => rfl
    | some x =>
      obtain ⟨h1, h2⟩ := uFind_some hf
      have : x.Id ∈ u.order.filter (fun k => mhas u.live k) := by rw [h.ord]; exact List.mem_map.2 ⟨x, h1, rfl⟩
      have := h.old _ (List.mem_filter.1 this).1
      omega
  have hhas : ∀ k, mhas (mset u.live u.next ⟨u.next, c, g⟩) k = (decide (u.next = k) || mhas u.live k) := fun k => mhas_mset ..
  refine ⟨_, by rw [if_neg (by omega), if_pos (by omega)], by simp only; rw [wi (by omega) (by omega)], ?_⟩
  rw [wi (by omega) (by omega)]
  refine ⟨rfl, h.mb, by simp only; omega, mkeys_nodup h.keys _ _, ?_, ?_, ?_, ?_, ?_, ?_, ?_⟩
  · simp only
    rw [mset_length, if_neg (by simp [mhas, hno]), h.len]; simp
  · intro k hk
    rw [hhas] at hk
    rcases Bool.or_eq_true_iff.1 hk with hk | hk
    · exact ⟨⟨u.next, c, g⟩, by simp, by simpa using hk⟩
    · obtain ⟨x, hx, e⟩ := h.has k hk
      exact ⟨x, by simp [hx], e⟩
  · intro x hx
    simp only [mget_mset]
    rcases List.mem_append.1 hx with hx | hx
    · rw [if_neg (fun e => by rw [e, h.val x hx] at hno; cases hno)]; exact h.val x hx
    · simp at hx; subst hx; simp
  · simp only [hhas, List.filter_append, List.map_append]
    congr 1
    · rw [← h.ord]
      refine List.filter_congr fun k hk => ?_
      have := h.old k hk
      have : decide (u.next = k) = false := by simp; omega
      rw [this]; rfl
    · simp
  · intro k hk
    simp only at hk ⊢
    rcases List.mem_append.1 hk with hk | hk
    · have := h.old k hk; omega
    · simp at hk; omega
  · have := h.olen; simp; omega
  · rw [List.map_append, List.pairwise_append]
    refine ⟨h.up, by simp, fun a ha b hb' => ?_⟩
    simp at hb'
    rw [← h.ord] at ha
    have := h.old a (List.mem_filter.1 ha).1
    omega

theorem uFind_turn {f : api_Unit → api_Unit} (hf : ∀ x, (f x).Id = x.Id) (k : Int) : (uTurn L k f).map (·.Id) = L.map (·.Id) := by
  unfold uTurn
  rw [List.map_map]
  refine List.map_congr_left fun x _ => ?_
  simp only [Function.comp]
  split
  · exact hf x
  · rfl

/-- one that lives is otherwise -/
theorem turn_us (h : US u most L) {k : Int} {x : api_Unit} (hx : uFind L k = some x) (f : api_Unit → api_Unit) (hf : ∀ x, (f x).Id = x.Id) :
    US (units_Units.mk u.most u.next (mset u.live k (f x)) u.order) most (uTurn L k f) := by
  obtain ⟨h1, h2⟩ := uFind_some hx
  have hg : mget u.live k = some x := by rw [h.get, hx]
  have hh : ∀ q, mhas (mset u.live k (f x)) q = mhas u.live q := fun q => by
    rw [mhas_mset]
    by_cases e : k = q
    · subst e; simp [mhas_some hg]
    · simp [e]
  have hids := uFind_turn (L := L) hf k
  refine ⟨h.most_, h.mb, h.next, mkeys_nodup h.keys _ _, ?_, ?_, ?_, ?_, h.old, h.olen, by rw [hids]; exact h.up⟩
  · simp only
    rw [mset_length, if_pos (mhas_some hg), h.len]; simp [uTurn]
  · intro q hq
    rw [hh] at hq
    obtain ⟨y, hy, e⟩ := h.has q hq
    have : q ∈ (uTurn L k f).map (·.Id) := by rw [hids]; exact List.mem_map.2 ⟨y, hy, e⟩
    obtain ⟨z, hz, e⟩ := List.mem_map.1 this
    exact ⟨z, hz, e⟩
  · intro y hy
    unfold uTurn at hy
    obtain ⟨z, hz, rfl⟩ := List.mem_map.1 hy
    simp only [mget_mset]
    by_cases e : z.Id = k
    · rw [if_pos e, hf, e, if_pos rfl]
      have : z = x := id_inj h.up hz h1 (e.trans h2.symm)
      rw [this]
    · rw [if_neg e, if_neg (fun q => e q.symm)]; exact h.val z hz
  · simp only [hh]; rw [h.ord, hids]

theorem aim_f (h : US u most L) (k g : Int) : ∃ u', units_Units_Aim.f u k g = some (uHas L k, u') ∧ u'.next = u.next ∧ US u' most (uTurn L k (fun x => ⟨x.Id, x.Cell, g⟩)) := by
  unfold units_Units_Aim.f uHas
  first | unfold units_Units_set.f | unfold units_Units_set_2.f
  rw [get_f h]
  unfold uGet
  cases hf : uFind L k with
  | some x => exact ⟨_, rfl, rfl, turn_us h hf (fun x => ⟨x.Id, x.Cell, g⟩) (fun _ => rfl)⟩
  | none =>
    refine ⟨u, rfl, rfl, ?_⟩
    have : uTurn L k (fun x => ⟨x.Id, x.Cell, g⟩) = L := by
      unfold uTurn
      conv => rhs; rw [← List.map_id L]
      refine List.map_congr_left fun x hx => ?_
      rw [if_neg (uFind_none hf x hx)]; rfl
    rw [this]; exact h
theorem move_f (h : US u most L) (k g : Int) : ∃ u', units_Units_Move.f u k g = some (uHas L k, u') ∧ u'.next = u.next ∧ US u' most (uTurn L k (fun x => ⟨x.Id, g, x.Goal⟩)) := by
  unfold units_Units_Move.f uHas
  first | unfold units_Units_set_2.f | unfold units_Units_set.f
  rw [get_f h]
  unfold uGet
  cases hf : uFind L k with
  | some x => exact ⟨_, rfl, rfl, turn_us h hf (fun x => ⟨x.Id, g, x.Goal⟩) (fun _ => rfl)⟩
  | none =>
    refine ⟨u, rfl, rfl, ?_⟩
    have : uTurn L k (fun x => ⟨x.Id, g, x.Goal⟩) = L := by
      unfold uTurn
      conv => rhs; rw [← List.map_id L]
      refine List.map_congr_left fun x hx => ?_
      rw [if_neg (uFind_none hf x hx)]; rfl
    rw [this]; exact h

theorem uDrop_none {k : Int} (hf : uFind L k = none) : uDrop L k = L := by
  unfold uDrop
  rw [List.filter_eq_self]
  intro x hx; simpa using uFind_none hf x hx
theorem uDrop_len (h : (L.map (·.Id)).Pairwise (· < ·)) {k : Int} {x : api_Unit} (hx : uFind L k = some x) : (uDrop L k).length + 1 = L.length := by
  obtain ⟨h1, h2⟩ := uFind_some hx
  clear hx
  induction L with
  | nil => cases h1
  | cons y r ih =>
    rw [List.map_cons, List.pairwise_cons] at h
    unfold uDrop at ih ⊢
    by_cases e : y.Id = k
    · have : r.filter (fun z => z.Id != k) = r := by
        rw [List.filter_eq_self]
        intro z hz
        have := h.1 z.Id (List.mem_map.2 ⟨z, hz, rfl⟩)
        simp; omega
      simp [e, this]
    · have hxr : x ∈ r := by
        rcases List.mem_cons.1 h1 with q | q
        · subst q; exact absurd h2 e
        · exact q
      have := ih h.2 hxr
      simp [e]; omega

theorem drop_f (h : US u most L) (k : Int) : ∃ u', units_Units_Drop.f u k = some (uHas L k, u') ∧ u'.next = u.next ∧ US u' most (uDrop L k) := by
  unfold units_Units_Drop.f uHas
  rw [get_f h]
  unfold uGet
  cases hf : uFind L k with
  | none => rw [uDrop_none hf]; exact ⟨u, rfl, rfl, h⟩
  | some x =>
    obtain ⟨h1, h2⟩ := uFind_some hf
    have hg : mget u.live k = some x := by rw [h.get, hf]
    have hh : ∀ q, mhas (mdel u.live k) q = (!decide (k = q) && mhas u.live q) := fun q => mhas_mdel h.keys ..
    have hord : u.order.filter (fun q => mhas (mdel u.live k) q) = (uDrop L k).map (·.Id) := by
      simp only [hh]
      rw [← List.filter_filter, h.ord]
      unfold uDrop
      rw [List.filter_map]
      congr 1
      refine List.filter_congr fun y _ => ?_
      simp only [Function.comp]
      by_cases e : y.Id = k
      · simp [e]
      · have : ¬ k = y.Id := fun q => e q.symm
        simp [e, this]
    have hus : US (units_Units.mk u.most u.next (mdel u.live k) u.order) most (uDrop L k) := by
      refine ⟨h.most_, h.mb, h.next, mdel_nodup h.keys _, ?_, ?_, ?_, hord, h.old, h.olen, ?_⟩
      · simp only
        rw [mdel_length, if_pos (mhas_some hg), h.len]
        have := uDrop_len h.up hf; omega
      · intro q hq
        rw [hh] at hq
        simp only [Bool.and_eq_true, Bool.not_eq_true', decide_eq_false_iff_not] at hq
        obtain ⟨y, hy, e⟩ := h.has q hq.2
        exact ⟨y, by unfold uDrop; rw [List.mem_filter]; exact ⟨hy, by simp; omega⟩, e⟩
      · intro y hy
        unfold uDrop at hy
        rw [List.mem_filter] at hy
        have : y.Id ≠ k := by simpa using hy.2
        simp only
        rw [mget_mdel h.keys, if_neg (fun q => this q.symm)]; exact h.val y hy.1
      · exact h.up.sublist ((List.filter_sublist).map _)
    have hn := h.next
    have hob := h.ob
    have hc := h.cnt
    have hdl := uDrop_len h.up hf
    simp only [Option.bind_some, Bool.not_true, Bool.false_eq_true, if_false]
    have hml : ((mdel u.live k).length : Int) = (uDrop L k).length := by have := hus.len; simp only at this; omega
    split
    · rw [alive_f hus]
      refine ⟨_, rfl, rfl, ?_⟩
      have hl : ((uDrop L k).length : Int) ≤ u.next := hus.cnt
      refine ⟨h.most_, h.mb, h.next, hus.keys, hus.len, hus.has, hus.val, ?_, ?_, by simpa using hl, hus.up⟩
      · simp only
        rw [List.filter_eq_self]
        intro q hq
        obtain ⟨y, hy, rfl⟩ := List.mem_map.1 hq
        exact mhas_some (hus.val y hy)
      · intro q hq
        simp only at hq ⊢
        rw [← hord] at hq
        exact h.old q (List.mem_filter.1 hq).1
    · exact ⟨_, rfl, rfl, hus⟩

end Go.Proofs.Ytkidcebfpengmaa
