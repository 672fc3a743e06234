import Derived.Test.YtmddmofncblfpaaPsame
namespace Go.Proofs.Ytmddmofncblfpaa
open Go.Hx

variable {w : herdsmanref21_Units}
theorem at_l (hb : w.L.length ≤ 1000000) (id : Int) : ∀ (n k : Nat) (i : Int), i + n = w.L.length → 0 ≤ i → n < k → (∀ j, 0 ≤ j → j < i → (rd w.L j).Id ≠ id) →
    (∃ p : Int, ref21_Units_at.l0 k w id i = some p ∧ 0 ≤ p ∧ p < w.L.length ∧ (rd w.L p).Id = id ∧ ∀ j, 0 ≤ j → j < p → (rd w.L j).Id ≠ id) ∨
      (ref21_Units_at.l0 k w id i = some (-1) ∧ ∀ x ∈ w.L, x.Id ≠ id) := by
  intro n
  induction n with
  | zero =>
    intro k i hi h0 hk hp
    obtain ⟨k, rfl⟩ := kpos hk
    right
    refine ⟨by rw [ref21_Units_at.l0, if_neg (by omega)], fun x hx => ?_⟩
    obtain ⟨j, j0, j1, rfl⟩ := memrd hx
    exact hp j j0 (by omega)
  | succ n ih =>
    intro k i hi h0 hk hp
    obtain ⟨k, rfl⟩ := kpos hk
    rw [ref21_Units_at.l0, if_pos (by omega), if_pos (by omega), wi (by omega) (by omega)]
    by_cases e : (rd w.L i).Id = id
    · rw [if_pos (by simpa using e)]
      exact .inl ⟨i, rfl, h0, by omega, e, hp⟩
    · rw [if_neg (by simpa using e)]
      refine ih k (i + 1) (by omega) (by omega) (by omega) (fun j j0 j1 => ?_)
      by_cases q : j = i
      · rw [q]; exact e
      · exact hp j j0 (by omega)
theorem at_f (hb : w.L.length ≤ 1000000) (id : Int) : (∃ p : Int, ref21_Units_at.f w id = some p ∧ 0 ≤ p ∧ p < w.L.length ∧ (rd w.L p).Id = id ∧ uFind w.L id = some (rd w.L p)) ∨
      (ref21_Units_at.f w id = some (-1) ∧ uFind w.L id = none) := by
  unfold ref21_Units_at.f
  rcases at_l hb id w.L.length fuel 0 (by omega) (by omega) (by rw [fuelv]; omega) (fun j j0 j1 => by omega) with ⟨p, h1, h2, h3, h4, h5⟩ | ⟨h1, h2⟩
  · refine .inl ⟨p, h1, h2, h3, h4, ?_⟩
    unfold uFind
    have hlt : p.toNat < w.L.length := by omega
    rw [List.find?_eq_some_iff_getElem]
    refine ⟨by simpa using h4, p.toNat, hlt, (rd_eq hlt).symm, fun j hj => ?_⟩
    have := h5 (j : Int) (by omega) (by omega)
    rw [rdn (by omega)] at this
    simpa using this
  · refine .inr ⟨h1, ?_⟩
    unfold uFind
    rw [List.find?_eq_none]
    intro x hx; simpa using h2 x hx
theorem rget_f (hb : w.L.length ≤ 1000000) (id : Int) : ref21_Units_Get.f w id = some (uGet w.L id) := by
  unfold ref21_Units_Get.f uGet
  rcases at_f hb id with ⟨p, h1, h2, h3, h4, h5⟩ | ⟨h1, h2⟩
  · rw [h1, h5, Option.bind_some, if_neg (by omega), if_pos (by omega)]
  · rw [h1, h2, Option.bind_some, if_pos (by omega)]
theorem radd_f (hb : w.L.length ≤ 1000000) (hn : 0 ≤ w.Next ∧ w.Next ≤ 1000000) (c g : Int) : ref21_Units_Add.f w c g = some (if w.Most ≤ w.L.length then (0, false, w) else (w.Next, true, ⟨w.Most, w.Next + 1, w.L ++ [⟨w.Next, c, g⟩]⟩)) := by
  unfold ref21_Units_Add.f
  by_cases h : w.Most ≤ w.L.length
  · rw [if_pos h, if_pos h]
  · rw [if_neg h, if_neg h, if_pos (by simp; omega), if_pos (by simp; omega), Option.bind_some, wi (x := w.Next + 1) (by omega) (by omega), wi (by omega) (by omega)]
    simp
theorem rset_f (hb : w.L.length ≤ 1000000) (hu : (w.L.map (·.Id)).Pairwise (· < ·)) (x : api_Unit) : ref21_Units_Set.f w x = some (uHas w.L x.Id, ⟨w.Most, w.Next, uTurn w.L x.Id (fun _ => x)⟩) := by
  unfold ref21_Units_Set.f uHas
  rcases at_f hb x.Id with ⟨p, h1, h2, h3, h4, h5⟩ | ⟨h1, h2⟩
  · rw [h1, h5, Option.bind_some, if_neg (by omega), if_pos (by simp; omega), if_pos (by simp; omega)]
    have : List.set w.L p.toNat x = uTurn w.L x.Id (fun _ => x) := by
      refine rdext (by simp [uTurn]) (fun i i0 i1 => ?_)
      rw [List.length_set] at i1
      unfold uTurn
      rw [rds h2 h3 i0, rdmap i0 i1]
      by_cases e : i = p
      · rw [if_pos e, e, h4, if_pos rfl]
      · rw [if_neg e, if_neg]
        intro q
        have hi : i.toNat < w.L.length := by omega
        have hp : p.toNat < w.L.length := by omega
        have key := List.pairwise_iff_getElem.1 hu
        rw [rd_eq hi] at q
        rw [rd_eq hp] at h4
        rcases Nat.lt_or_ge i.toNat p.toNat with z | z
        · have := key i.toNat p.toNat (by simpa using hi) (by simpa using hp) z
          simp at this; omega
        · have := key p.toNat i.toNat (by simpa using hp) (by simpa using hi) (by omega)
          simp at this; omega
    simp [this]
  · rw [h1, h2, Option.bind_some, if_pos (by omega)]
    have : uTurn w.L x.Id (fun _ => x) = w.L := by
      unfold uTurn
      conv => rhs; rw [← List.map_id w.L]
      refine List.map_congr_left fun y hy => ?_
      rw [if_neg (uFind_none h2 y hy)]; rfl
    rw [this]; rfl
theorem rdrop_f (hb : w.L.length ≤ 1000000) (hu : (w.L.map (·.Id)).Pairwise (· < ·)) (id : Int) : ref21_Units_Drop.f w id = some (uHas w.L id, ⟨w.Most, w.Next, uDrop w.L id⟩) := by
  unfold ref21_Units_Drop.f uHas
  rcases at_f hb id with ⟨p, h1, h2, h3, h4, h5⟩ | ⟨h1, h2⟩
  · rw [h1, h5, Option.bind_some, if_neg (by omega), if_pos (by omega), wi (by omega) (by omega), if_pos (by omega)]
    have e1 : sub' w.L 0 p = w.L.take p.toNat := by simp [sub']
    have e2 : sub' w.L (p + 1) (w.L.length : Int) = w.L.drop (p + 1).toNat := by
      unfold sub'; rw [List.take_of_length_le]; simp
    have e3 : w.L.take p.toNat ++ w.L.drop (p + 1).toNat = uDrop w.L id := by
      have hs : w.L = w.L.take p.toNat ++ (rd w.L p :: w.L.drop (p + 1).toNat) := by rw [← dropc h2 h3, List.take_append_drop]
      unfold uDrop
      conv => rhs; rw [hs]
      rw [hs, List.map_append, List.map_cons, List.pairwise_append, List.pairwise_cons] at hu
      obtain ⟨_, ⟨u1, _⟩, u2⟩ := hu
      rw [List.filter_append, List.filter_cons, if_neg (by simp [h4])]
      congr 1
      · symm; rw [List.filter_eq_self]
        intro y hy
        have := u2 y.Id (List.mem_map.2 ⟨y, hy, rfl⟩) _ (List.mem_cons_self ..)
        simp; omega
      · symm; rw [List.filter_eq_self]
        intro y hy
        have := u1 y.Id (List.mem_map.2 ⟨y, hy, rfl⟩)
        simp; omega
    rw [if_pos (by rw [e1]; simp; omega), if_pos (by rw [e1, e2]; simp; omega), e1, e2]
    simp [e3]
  · rw [h1, h2, Option.bind_some, if_pos (by omega), uDrop_none h2]; rfl
end Go.Proofs.Ytmddmofncblfpaa
