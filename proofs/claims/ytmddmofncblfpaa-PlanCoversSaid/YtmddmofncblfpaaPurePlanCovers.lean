/- Each unit is in just one pair, that of its goal and its sector; pairs of one goal stand together, in Goals' order, no two alike: any units of numbers (at most 12). No condition. -/
import Derived.Test.YtmddmofncblfpaaFLPlanCovers
import Derived.Test.YtmddmofncblfpaaPrpairs
namespace Go.Proofs.Ytmddmofncblfpaa
open Go.Hx

/-- what is known of a goal's pairs behind some units -/
structure GI (w h g : Int) (l : List api_Unit) (ps : List api_Pair) : Prop where
  goal : ∀ p ∈ ps, p.Goal = g
  apart : ps.Pairwise fun a b => a.Sector ≠ b.Sector
  some_ : ∀ p ∈ ps, p.Ids ≠ []
  of : ∀ p ∈ ps, ∀ id ∈ p.Ids, ∃ u ∈ l, u.Id = id ∧ u.Goal = g ∧ sSector w h u.Cell = p.Sector
  up : ∀ p ∈ ps, p.Ids.Pairwise (· < ·)
theorem addP_mem : ∀ (ps : List api_Pair) (g s id : Int) (p : api_Pair), p ∈ addP ps g s id → p ∈ ps ∨ p = ⟨g, s, [id]⟩ ∨ ∃ q ∈ ps, q.Sector = s ∧ p = ⟨q.Goal, q.Sector, q.Ids ++ [id]⟩
  | [], g, s, id, p, h => by simp only [addP, List.mem_singleton] at h; exact .inr (.inl h)
  | q :: r, g, s, id, p, h => by
    simp only [addP] at h
    split at h
    · rename_i e
      rcases List.mem_cons.1 h with h | h
      · exact .inr (.inr ⟨q, List.mem_cons_self .., e, h⟩)
      · exact .inl (List.mem_cons_of_mem _ h)
    · rcases List.mem_cons.1 h with h | h
      · exact .inl (h ▸ List.mem_cons_self ..)
      · rcases addP_mem r g s id p h with h | h | ⟨z, h1, h2⟩
        · exact .inl (List.mem_cons_of_mem _ h)
        · exact .inr (.inl h)
        · exact .inr (.inr ⟨z, List.mem_cons_of_mem _ h1, h2⟩)
theorem addP_secs : ∀ (ps : List api_Pair) (g s id : Int), (addP ps g s id).map (·.Sector) = if s ∈ ps.map (·.Sector) then ps.map (·.Sector) else ps.map (·.Sector) ++ [s]
  | [], g, s, id => by simp [addP]
  | q :: r, g, s, id => by
    have := addP_secs r g s id
    simp only [addP]
    by_cases e : q.Sector = s
    · rw [if_pos e]; simp [e]
    · rw [if_neg e]
      simp only [List.map_cons, this, List.mem_cons]
      by_cases z : s ∈ r.map (·.Sector)
      · rw [if_pos z, if_pos (.inr z)]
      · rw [if_neg z, if_neg (by rintro (y | y); exact e y.symm; exact z y)]; rfl
theorem GI.step {w h g : Int} {l : List api_Unit} {ps : List api_Pair} {u : api_Unit} (hi : GI w h g l ps) (hu : ∀ x ∈ l, x.Id < u.Id) (hg : u.Goal = g) : GI w h g (l ++ [u]) (addP ps g (sSector w h u.Cell) u.Id) := by
  refine ⟨fun p hp => ?_, ?_, fun p hp => ?_, fun p hp id hid => ?_, fun p hp => ?_⟩
  · rcases addP_mem _ _ _ _ _ hp with q | q | ⟨z, z1, z2, z3⟩
    · exact hi.goal p q
    · rw [q]
    · rw [z3]; exact hi.goal z z1
  · have h1 : (ps.map (·.Sector)).Pairwise (· ≠ ·) := List.pairwise_map.2 hi.apart
    have h2 : ((addP ps g (sSector w h u.Cell) u.Id).map (·.Sector)).Pairwise (· ≠ ·) := by
      rw [addP_secs]
      split
      · exact h1
      · rename_i z
        rw [List.pairwise_append]
        exact ⟨h1, by simp, fun a ha b hb => by simp at hb; subst hb; intro e; subst e; exact z ha⟩
    exact List.pairwise_map.1 h2
  · rcases addP_mem _ _ _ _ _ hp with q | q | ⟨z, z1, z2, z3⟩
    · exact hi.some_ p q
    · rw [q]; simp
    · rw [z3]; simp
  · rcases addP_mem _ _ _ _ _ hp with q | q | ⟨z, z1, z2, z3⟩
    · obtain ⟨x, x1, x2⟩ := hi.of p q id hid
      exact ⟨x, List.mem_append_left _ x1, x2⟩
    · subst q
      simp only [List.mem_singleton] at hid
      exact ⟨u, by simp, hid.symm, hg, rfl⟩
    · subst z3
      rcases List.mem_append.1 hid with y | y
      · obtain ⟨x, x1, x2⟩ := hi.of z z1 id y
        exact ⟨x, List.mem_append_left _ x1, x2⟩
      · simp only [List.mem_singleton] at y
        exact ⟨u, by simp, y.symm, hg, z2.symm⟩
  · rcases addP_mem _ _ _ _ _ hp with q | q | ⟨z, z1, z2, z3⟩
    · exact hi.up p q
    · rw [q]; simp
    · rw [z3]
      simp only
      rw [List.pairwise_append]
      refine ⟨hi.up z z1, by simp, fun a ha b hb => ?_⟩
      simp at hb; subst hb
      obtain ⟨x, x1, x2, _⟩ := hi.of z z1 a ha
      rw [← x2]; exact hu x x1
theorem GI.more {w h g : Int} {l : List api_Unit} {ps : List api_Pair} (hi : GI w h g l ps) (m : List api_Unit) : GI w h g (l ++ m) ps :=
  ⟨hi.goal, hi.apart, hi.some_, fun p hp id hid => by
    obtain ⟨x, x1, x2⟩ := hi.of p hp id hid
    exact ⟨x, List.mem_append_left _ x1, x2⟩, hi.up⟩
theorem grp_inv {w h g : Int} : ∀ (m l : List api_Unit) (ps : List api_Pair), GI w h g l ps → ((l ++ m).map (·.Id)).Pairwise (· < ·) → GI w h g (l ++ m) (grp w h g m ps)
  | [], l, ps, hi, _ => by simpa [grp] using hi
  | u :: r, l, ps, hi, hp => by
    have hu : ∀ x ∈ l, x.Id < u.Id := fun x hx => by
      rw [List.map_append, List.pairwise_append] at hp
      exact hp.2.2 _ (List.mem_map_of_mem hx) _ (by simp)
    have e : l ++ u :: r = (l ++ [u]) ++ r := by simp
    rw [e] at hp ⊢
    simp only [grp]
    by_cases hg : u.Goal = g
    · rw [if_pos hg]; exact grp_inv r _ _ (hi.step hu hg) hp
    · rw [if_neg hg]; exact grp_inv r _ _ (hi.more [u]) hp
theorem grp_cnt {w h g : Int} : ∀ (m : List api_Unit) (ps : List api_Pair), pTot (grp w h g m ps) = pTot ps + (m.filter fun u => decide (u.Goal = g)).length
  | [], ps => by simp [grp]
  | u :: r, ps => by
    simp only [grp]
    rw [grp_cnt r]
    by_cases hg : u.Goal = g
    · rw [if_pos hg, addP_tot, List.filter_cons_of_pos (by simpa using hg)]; simp; omega
    · rw [if_neg hg, List.filter_cons_of_neg (by simpa using hg)]

theorem MayU.pair {w h : Int} {l : List api_Unit} (hm : MayU w h l) : (l.map (·.Id)).Pairwise (· < ·) := by
  rw [List.pairwise_map]
  exact rdpair (fun i j i0 ij j1 => hm.id_lt i0 ij j1)
theorem prs_gi {w h : Int} {l : List api_Unit} (hm : MayU w h l) (g : Int) : GI w h g l (grp w h g l []) := by
  have := grp_inv (w := w) (h := h) (g := g) l [] [] ⟨by simp, by simp, by simp, by simp, by simp⟩ (by simpa using hm.pair)
  simpa using this

theorem pTot_flat {w h : Int} {l : List api_Unit} : ∀ G : List Int, pTot (G.flatMap fun g => grp w h g l []) = (G.map fun g => (l.filter fun u => decide (u.Goal = g)).length).sum
  | [] => rfl
  | g :: G => by
    simp only [List.flatMap_cons, List.map_cons, List.sum_cons]
    rw [pTot_app, pTot_flat G, grp_cnt]
    simp [pTot]
theorem sum_cnt (G : List Int) (hn : G.Nodup) : ∀ l : List api_Unit, (∀ u ∈ l, u.Goal ∈ G) → (G.map fun g => (l.filter fun u => decide (u.Goal = g)).length).sum = l.length := by
  have one : ∀ (G : List Int) (a : Int), G.Nodup → (G.map fun g => if a = g then 1 else 0).sum = if a ∈ G then 1 else 0 := by
    intro G a
    induction G with
    | nil => simp
    | cons g G ih =>
      intro hn
      rw [List.nodup_cons] at hn
      simp only [List.map_cons, List.sum_cons, ih hn.2, List.mem_cons]
      by_cases e : a = g
      · subst e; simp [hn.1]
      · simp [e]
  intro l
  induction l with
  | nil =>
    intro _
    have z : ∀ G : List Int, (G.map fun g => (([] : List api_Unit).filter fun u => decide (u.Goal = g)).length).sum = 0 := by
      intro G
      induction G with
      | nil => rfl
      | cons g G ih => simp only [List.map_cons, List.sum_cons, ih]; rfl
    exact z G
  | cons u r ih =>
    intro hl
    have h1 := ih (fun x hx => hl x (List.mem_cons_of_mem _ hx))
    have h2 := one G u.Goal hn
    rw [if_pos (hl u (List.mem_cons_self ..))] at h2
    have key : ∀ G : List Int, (G.map fun g => ((u :: r).filter fun u => decide (u.Goal = g)).length).sum = (G.map fun g => if u.Goal = g then 1 else 0).sum + (G.map fun g => (r.filter fun u => decide (u.Goal = g)).length).sum := by
      intro G
      induction G with
      | nil => rfl
      | cons g G ihG =>
        simp only [List.map_cons, List.sum_cons, ihG]
        by_cases e : u.Goal = g
        · rw [List.filter_cons_of_pos (by simpa using e), if_pos e]; simp; omega
        · rw [List.filter_cons_of_neg (by simpa using e), if_neg e]; omega
    rw [key, h1, h2]; simp; omega
theorem prs_tot {w h : Int} {l : List api_Unit} : pTot (prs w h l) = l.length := by
  unfold prs
  rw [pTot_flat, sum_cnt _ (gls_nodup l) l (fun u hu => (gls_mem l _).2 ⟨u, hu, rfl⟩)]
theorem len_tot : ∀ ps : List api_Pair, (∀ p ∈ ps, p.Ids ≠ []) → ps.length ≤ pTot ps
  | [], _ => by simp
  | p :: r, h => by
    have h1 := len_tot r (fun q hq => h q (List.mem_cons_of_mem _ hq))
    have h2 : 0 < p.Ids.length := List.length_pos_iff.2 (h p (List.mem_cons_self ..))
    simp only [List.length_cons, pTot]; omega
theorem flat_ge {w h : Int} {l : List api_Unit} : ∀ G : List Int, (∀ g ∈ G, ∃ u ∈ l, u.Goal = g) → G.length ≤ (G.flatMap fun g => grp w h g l []).length
  | [], _ => by simp
  | g :: G, hG => by
    have h1 := flat_ge (w := w) (h := h) (l := l) G (fun x hx => hG x (List.mem_cons_of_mem _ hx))
    obtain ⟨u, hu, e⟩ := hG g (List.mem_cons_self ..)
    have h2 := grp_cnt (w := w) (h := h) (g := g) l []
    have h3 : 0 < (l.filter fun u => decide (u.Goal = g)).length := List.length_pos_iff.2 (List.ne_nil_of_mem (List.mem_filter.2 ⟨hu, by simpa using e⟩))
    have h4 : 0 < (grp w h g l []).length := by
      rcases Nat.eq_zero_or_pos (grp w h g l []).length with q | q
      · rw [List.length_eq_zero_iff.1 q] at h2; simp [pTot] at h2; rw [← h2] at h3; simp at h3
      · exact q
    simp only [List.flatMap_cons, List.length_append, List.length_cons]; omega

/-- what the law looks for in a list of pairs, given the goals -/
structure Cov (w h : Int) (l : List api_Unit) (G : List Int) (ps : List api_Pair) : Prop where
  goal : ∀ p ∈ ps, p.Goal ∈ G
  some_ : ∀ p ∈ ps, p.Ids ≠ []
  up : ∀ p ∈ ps, p.Ids.Pairwise (· < ·)
  of : ∀ p ∈ ps, ∀ id ∈ p.Ids, ∃ u ∈ l, u.Id = id ∧ u.Goal = p.Goal ∧ sSector w h u.Cell = p.Sector
  order : ps.Pairwise fun a b => G.idxOf a.Goal ≤ G.idxOf b.Goal ∧ ¬ (a.Goal = b.Goal ∧ a.Sector = b.Sector)
theorem prs_cov {w h : Int} {l : List api_Unit} (hm : MayU w h l) : Cov w h l (gls l) (prs w h l) := by
  have mem : ∀ p ∈ prs w h l, ∃ g ∈ gls l, p ∈ grp w h g l [] := fun p hp => by
    unfold prs at hp; exact List.mem_flatMap.1 hp
  refine ⟨fun p hp => ?_, fun p hp => ?_, fun p hp => ?_, fun p hp id hid => ?_, ?_⟩
  · obtain ⟨g, h1, h2⟩ := mem p hp
    rw [(prs_gi hm g).goal p h2]; exact h1
  · obtain ⟨g, h1, h2⟩ := mem p hp
    exact (prs_gi hm g).some_ p h2
  · obtain ⟨g, h1, h2⟩ := mem p hp
    exact (prs_gi hm g).up p h2
  · obtain ⟨g, h1, h2⟩ := mem p hp
    obtain ⟨u, u1, u2, u3, u4⟩ := (prs_gi hm g).of p h2 id hid
    exact ⟨u, u1, u2, by rw [u3, (prs_gi hm g).goal p h2], u4⟩
  · unfold prs
    rw [List.pairwise_flatMap]
    refine ⟨fun g _ => ?_, ?_⟩
    · have hg := prs_gi (w := w) (h := h) hm g
      refine (List.Pairwise.and_mem.1 hg.apart).imp ?_
      rintro a b ⟨ha, hb, q⟩
      rw [hg.goal a ha, hg.goal b hb]
      exact ⟨Nat.le_refl _, fun z => q z.2⟩
    · have hn := gls_nodup l
      rw [List.pairwise_iff_getElem]
      intro i j hi hj hij a ha b hb
      rw [(prs_gi hm _).goal a ha, (prs_gi hm _).goal b hb]
      have e1 : (gls l).idxOf (gls l)[i] = i := hn.idxOf_getElem i hi
      have e2 : (gls l).idxOf (gls l)[j] = j := hn.idxOf_getElem j hj
      rw [e1, e2]
      refine ⟨by omega, fun z => ?_⟩
      have := (List.pairwise_iff_getElem.1 hn) i j hi hj hij
      exact this z.1

/-! ### the law's loops -/
theorem cov_l5 {v u : Int} {x : List api_Unit} (hx : x.length ≤ 12) {ps : List api_Pair} {i j : Int} (hi : 0 ≤ i ∧ i < ps.length) (hj : 0 ≤ j ∧ j < (rd ps i).Ids.length) (hlen : (rd ps i).Ids.length ≤ 1000000)
    (hof : ∃ y ∈ x, y.Id = rd (rd ps i).Ids j ∧ y.Goal = (rd ps i).Goal ∧ sSector v u y.Cell = (rd ps i).Sector) (hup : 0 < j → rd (rd ps i).Ids (j - 1) < rd (rd ps i).Ids j) : ∀ (n k : Nat) (q : Int) (b : Bool), q + n = x.length → 0 ≤ q → n < k →
    (b = true ∨ ∃ z, q ≤ z ∧ z < x.length ∧ (rd x z).Id = rd (rd ps i).Ids j ∧ (rd x z).Goal = (rd ps i).Goal ∧ sSector v u (rd x z).Cell = (rd ps i).Sector) →
    law23_PlanCovers.l5 k v u i j x ps b q = some (Sum.inr ()) := by
  intro n
  induction n with
  | zero =>
    intro k q b hq h0 hk hb
    obtain ⟨k, rfl⟩ := kpos hk
    have hbt : b = true := by
      rcases hb with h | ⟨z, z0, z1, _⟩
      · exact h
      · omega
    subst hbt
    rw [law23_PlanCovers.l5, if_neg (by omega), if_neg (by simp)]
    by_cases hj0 : j > 0
    · have := hup hj0
      rw [if_pos hj0, if_pos hi, wi (x := j - 1) (by omega) (by omega), if_pos (by omega), if_pos hj, decide_eq_false (by omega)]
      rfl
    · rw [if_neg hj0]; rfl
  | succ n ih =>
    intro k q b hq h0 hk hb
    obtain ⟨k, rfl⟩ := kpos hk
    rw [law23_PlanCovers.l5, if_pos (by omega), wi (by omega) (by omega)]
    cases b with
    | true =>
      rw [if_pos rfl]
      exact ih k (q + 1) true (by omega) (by omega) (by omega) (.inl rfl)
    | false =>
      have hz : ∃ z, q ≤ z ∧ z < x.length ∧ (rd x z).Id = rd (rd ps i).Ids j ∧ (rd x z).Goal = (rd ps i).Goal ∧ sSector v u (rd x z).Cell = (rd ps i).Sector := by
        rcases hb with h | h
        · cases h
        · exact h
      obtain ⟨z, z0, z1, z2, z3, z4⟩ := hz
      rw [if_neg (by simp), if_pos (by omega), if_pos hi, if_pos hj]
      have hmore : ¬ ((rd x q).Id = rd (rd ps i).Ids j ∧ (rd x q).Goal = (rd ps i).Goal ∧ sSector v u (rd x q).Cell = (rd ps i).Sector) → ∃ z, q + 1 ≤ z ∧ z < x.length ∧ (rd x z).Id = rd (rd ps i).Ids j ∧ (rd x z).Goal = (rd ps i).Goal ∧ sSector v u (rd x z).Cell = (rd ps i).Sector := by
        intro hno
        refine ⟨z, ?_, z1, z2, z3, z4⟩
        by_cases e : z = q
        · subst e; exact absurd ⟨z2, z3, z4⟩ hno
        · omega
      by_cases e1 : (rd x q).Id = rd (rd ps i).Ids j
      · rw [if_pos (by simpa using e1)]
        by_cases e2 : (rd x q).Goal = (rd ps i).Goal
        · rw [if_pos (by simpa using e2), sector_f, Option.bind_some]
          by_cases e3 : sSector v u (rd x q).Cell = (rd ps i).Sector
          · refine ih k (q + 1) _ (by omega) (by omega) (by omega) (.inl (by simpa using e3))
          · refine ih k (q + 1) _ (by omega) (by omega) (by omega) (.inr (hmore (fun y => e3 y.2.2)))
        · rw [if_neg (by simpa using e2)]
          exact ih k (q + 1) false (by omega) (by omega) (by omega) (.inr (hmore (fun y => e2 y.2.1)))
      · rw [if_neg (by simpa using e1)]
        exact ih k (q + 1) false (by omega) (by omega) (by omega) (.inr (hmore (fun y => e1 y.1)))
theorem cov_l4 {v u : Int} {x : List api_Unit} (hx : x.length ≤ 12) {G : List Int} {ps : List api_Pair} (hc : Cov v u x G ps) {i : Int} (hi : 0 ≤ i ∧ i < ps.length) (hlen : (rd ps i).Ids.length ≤ 1000000) {g : Int} : ∀ (n k : Nat) (j m : Int), j + n = (rd ps i).Ids.length → 0 ≤ j → n < k → 0 ≤ m → m + n ≤ 1000000 →
    law23_PlanCovers.l4 k v u g i x ps m j = some (Sum.inr (m + n, g)) := by
  have hmem := rdmem hi.1 hi.2
  intro n
  induction n with
  | zero =>
    intro k j m hj h0 hk _ _
    obtain ⟨k, rfl⟩ := kpos hk
    rw [law23_PlanCovers.l4, if_pos hi, if_neg (by omega)]; simp
  | succ n ih =>
    intro k j m hj h0 hk m0 m1
    obtain ⟨k, rfl⟩ := kpos hk
    have hjj : 0 ≤ j ∧ j < (rd ps i).Ids.length := by omega
    obtain ⟨y, y1, y2, y3, y4⟩ := hc.of _ hmem _ (rdmem hjj.1 hjj.2)
    have h5 := cov_l5 (v := v) (u := u) hx hi hjj hlen ⟨y, y1, y2, y3, y4⟩ (fun hp => pairrd (hc.up _ hmem) (i := j - 1) (j := j) (by omega) (by omega) (by omega)) x.length fuel 0 false (by omega) (by omega) (by rw [fuelv]; omega)
      (.inr (by
        obtain ⟨z, z0, z1, z2⟩ := memrd y1
        exact ⟨z, z0, z1, by rw [z2]; exact ⟨y2, y3, y4⟩⟩))
    rw [law23_PlanCovers.l4, if_pos hi, if_pos (by omega), h5]
    simp only [Option.bind_some]
    rw [wi (x := m + 1) (by omega) (by omega), wi (x := j + 1) (by omega) (by omega), ih k (j + 1) (m + 1) (by omega) (by omega) (by omega) (by omega) (by omega)]
    congr 3; omega
theorem cov_l3 {v u : Int} {x : List api_Unit} (hx : x.length ≤ 12) {G : List Int} {ps : List api_Pair} (hc : Cov v u x G ps) {i : Int} (hi : 0 ≤ i ∧ i < ps.length) (hps : ps.length ≤ 1000000) {g m : Int} (hm : 0 ≤ m ∧ m + (rd ps i).Ids.length ≤ 1000000) : ∀ (n k : Nat) (j : Int), j + n = i → 0 ≤ j → n < k →
    law23_PlanCovers.l3 k v u g i m x ps j = some (Sum.inr (m + (rd ps i).Ids.length, g)) := by
  intro n
  induction n with
  | zero =>
    intro k j hj h0 hk
    obtain ⟨k, rfl⟩ := kpos hk
    rw [law23_PlanCovers.l3, if_neg (by omega)]
    have := cov_l4 (g := g) hx hc hi (by omega) (rd ps i).Ids.length fuel 0 m (by omega) (by omega) (by rw [fuelv]; omega) hm.1 (by omega)
    exact this
  | succ n ih =>
    intro k j hj h0 hk
    obtain ⟨k, rfl⟩ := kpos hk
    have hne := (pairrd hc.order (i := j) (j := i) h0 (by omega) hi.2).2
    rw [law23_PlanCovers.l3, if_pos (by omega), if_pos (by omega), if_pos hi, wi (by omega) (by omega)]
    by_cases e1 : (rd ps j).Goal = (rd ps i).Goal
    · have e2 : ((rd ps j).Sector == (rd ps i).Sector) = false := by
        rw [Bool.eq_false_iff]; intro q; exact hne ⟨e1, by simpa using q⟩
      rw [if_pos (by simpa using e1), e2]
      exact ih k (j + 1) (by omega) (by omega) (by omega)
    · rw [if_neg (by simpa using e1)]
      exact ih k (j + 1) (by omega) (by omega) (by omega)
theorem cov_l2 {G : List Int} (hn : G.Nodup) (hG : G.length ≤ 1000000) {ps : List api_Pair} {i : Int} (hi : 0 ≤ i ∧ i < ps.length) (hg : (rd ps i).Goal ∈ G) : ∀ (n k : Nat) (q : Int), q + n = (G.idxOf (rd ps i).Goal : Nat) → 0 ≤ q → n < k →
    law23_PlanCovers.l2 k i ps G q = some (G.idxOf (rd ps i).Goal : Int) := by
  have hlt := List.idxOf_lt_length_of_mem hg
  have hat : rd G (G.idxOf (rd ps i).Goal : Int) = (rd ps i).Goal := by
    rw [rdn hlt]; exact List.getElem_idxOf hlt
  intro n
  induction n with
  | zero =>
    intro k q hq h0 hk
    obtain ⟨k, rfl⟩ := kpos hk
    have e : q = (G.idxOf (rd ps i).Goal : Int) := by omega
    rw [law23_PlanCovers.l2, if_pos (by omega), if_pos (by omega), if_pos hi, e, hat]
    simp
  | succ n ih =>
    intro k q hq h0 hk
    obtain ⟨k, rfl⟩ := kpos hk
    have hne : rd G q ≠ (rd ps i).Goal := by
      intro e
      have h1 : G.idxOf (rd G q) = q.toNat := by
        rw [rd_eq (by omega)]; exact hn.idxOf_getElem _ _
      rw [e] at h1; omega
    rw [law23_PlanCovers.l2, if_pos (by omega), if_pos (by omega), if_pos hi, Option.bind_some, if_pos (by simpa using hne), wi (by omega) (by omega)]
    exact ih k (q + 1) (by omega) (by omega) (by omega)
theorem pTot_take : ∀ (ps : List api_Pair) (i : Int), 0 ≤ i → i < ps.length → pTot (ps.take (i + 1).toNat) = pTot (ps.take i.toNat) + (rd ps i).Ids.length := by
  intro ps i h0 h1
  rw [takec h0 h1, pTot_app]; simp [pTot]
theorem pTot_le : ∀ (ps : List api_Pair) (i : Nat), pTot (ps.take i) ≤ pTot ps := by
  intro ps i
  have := pTot_app (ps.take i) (ps.drop i)
  rw [List.take_append_drop] at this; omega
theorem cov_l1 {v u : Int} {x : List api_Unit} (hx : x.length ≤ 12) {G : List Int} (hn : G.Nodup) {ps : List api_Pair} (hc : Cov v u x G ps) (hT : pTot ps = x.length) (h1 : G.length ≤ ps.length) (h2 : ps.length ≤ x.length) : ∀ (n k : Nat) (i q : Int), i + n = ps.length → 0 ≤ i → n < k →
    (0 ≤ q ∧ (i < ps.length → q ≤ (G.idxOf (rd ps i).Goal : Nat))) →
    law23_PlanCovers.l1 k v u x ps G (pTot (ps.take i.toNat) : Int) q i = some true := by
  intro n
  induction n with
  | zero =>
    intro k i q hi h0 hk hq
    obtain ⟨k, rfl⟩ := kpos hk
    rw [law23_PlanCovers.l1, if_neg (by omega), told23, Option.bind_some, List.take_of_length_le (by omega), hT]
    congr 1
    rw [decide_eq_true (show (G.length : Int) ≤ ps.length by omega), decide_eq_true (show (ps.length : Int) ≤ x.length by omega)]
    simp
  | succ n ih =>
    intro k i q hi h0 hk hq
    obtain ⟨k, rfl⟩ := kpos hk
    have hii : 0 ≤ i ∧ i < ps.length := by omega
    have hmem := rdmem hii.1 hii.2
    have hg := hc.goal _ hmem
    have hlt := List.idxOf_lt_length_of_mem hg
    have hs := List.length_pos_iff.2 (hc.some_ _ hmem)
    have hq2 := hq.2 hii.2
    have ht := pTot_take ps i h0 hii.2
    have ht2 := pTot_le ps (i + 1).toNat
    rw [law23_PlanCovers.l1, if_pos (by omega), cov_l2 hn (by omega) hii hg ((G.idxOf (rd ps i).Goal) - q.toNat) fuel q (by omega) hq.1 (by rw [fuelv]; omega)]
    simp only [Option.bind_some]
    rw [if_neg (by simp; omega), if_pos hii]
    simp only [Option.bind_some]
    rw [if_neg (by simp; intro e; rw [e] at hs; simp at hs), cov_l3 hx hc hii (by omega) (by omega) i.toNat fuel 0 (by omega) (by omega) (by rw [fuelv]; omega)]
    simp only [Option.bind_some]
    rw [wi (by omega) (by omega), show ((pTot (ps.take i.toNat) : Int) + ((rd ps i).Ids.length : Int)) = (pTot (ps.take (i + 1).toNat) : Int) by omega]
    exact ih k (i + 1) _ (by omega) (by omega) (by omega) ⟨by omega, fun hlt2 => by
      have := (pairrd hc.order (i := i) (j := i + 1) h0 (by omega) hlt2).1
      omega⟩

theorem covers_all {v u : Int} {x : List api_Unit} (hx : x.length ≤ 12) (hm : MayU v u x) : ((plan_Pairs.f v u x).bind fun v10 => (plan_Goals.f x).bind fun v11 => law23_PlanCovers.l1 fuel v u x v10 v11 0 0 0) = some true := by
  rw [ppairs_ok (by omega) hm, Option.bind_some, pgoals_f (by omega), Option.bind_some]
  have hc := prs_cov hm
  have h2 : (prs v u x).length ≤ x.length := by
    have := len_tot (prs v u x) hc.some_
    rw [prs_tot] at this; exact this
  have h1 : (gls x).length ≤ (prs v u x).length := flat_ge (gls x) (fun g hg => (gls_mem x g).1 hg)
  have := cov_l1 hx (gls_nodup x) hc prs_tot h1 h2 (prs v u x).length fuel 0 0 (by omega) (by omega) (by rw [fuelv]; omega) ⟨by omega, fun _ => by omega⟩
  simpa [pTot] using this
theorem covers_l0 {few : Bool} {v u : Int} (hms : MayS v u) : ∀ (n k : Nat) (i : Int) (x : List api_Unit), x.length ≤ 12 → MayU v u x → i + n = x.length → 0 ≤ i → n < k → law23_PlanCovers.l0 k few v u x i = some true := by
  have hpr := may_prod hms
  intro n
  induction n with
  | zero =>
    intro k i x hx hm hi h0 hk
    obtain ⟨k, rfl⟩ := kpos hk
    rw [law23_PlanCovers.l0, if_neg (by simp; omega)]
    exact covers_all hx hm
  | succ n ih =>
    intro k i x hx hm hi h0 hk
    obtain ⟨k, rfl⟩ := kpos hk
    rw [law23_PlanCovers.l0]
    cases few with
    | false => rw [if_neg (by simp)]; exact covers_all hx hm
    | true =>
      rw [if_pos (by simp; omega), if_pos (by omega), wi (x := v * u) (by omega) (by omega), wi (x := v * u - 1) (by omega) (by omega)]
      have hmin : 0 ≤ (if v * u - 1 < 1 then v * u - 1 else 1) ∧ (if v * u - 1 < 1 then v * u - 1 else 1) ≤ 1 ∧ (if v * u - 1 < 1 then v * u - 1 else 1) < v * u := by split <;> omega
      generalize (if v * u - 1 < 1 then v * u - 1 else 1) = top at *
      obtain ⟨t, t1, t2, t3⟩ := within_y (n := (rd x i).Goal) (lo := 0) (hi := top) (by omega) (by omega) (by omega) (by omega)
      rw [t1, Option.bind_some, wi (by omega) (by omega)]
      refine ih k (i + 1) _ (by simp; omega) ⟨hms, fun j j0 j1 => ?_⟩ (by simp; omega) (by omega) (by omega)
      simp only [List.length_set] at j1
      have hr : ∀ q : Int, 0 ≤ q → (rd (List.set x i.toNat ⟨(rd x i).Id, (rd x i).Cell, t⟩) q).Id = (rd x q).Id ∧ (rd (List.set x i.toNat ⟨(rd x i).Id, (rd x i).Cell, t⟩) q).Cell = (rd x q).Cell ∧ (rd (List.set x i.toNat ⟨(rd x i).Id, (rd x i).Cell, t⟩) q).Goal = if q = i then t else (rd x q).Goal := fun q q0 => by
        rw [rds h0 (by omega) q0]
        by_cases e : q = i
        · rw [if_pos e, if_pos e, e]; exact ⟨rfl, rfl, rfl⟩
        · rw [if_neg e, if_neg e]; exact ⟨rfl, rfl, rfl⟩
      obtain ⟨g1, g2, g3, g4⟩ := hm.2 j j0 (by omega)
      refine ⟨?_, by rw [(hr j j0).2.1]; exact g2, ?_, fun q q0 q1 => by rw [(hr q q0).2.1, (hr j j0).2.1]; exact g4 q q0 q1⟩
      · rw [(hr j j0).1]
        by_cases e : j = 0
        · rw [if_pos e] at g1 ⊢; exact g1
        · rw [if_neg e] at g1 ⊢; rw [(hr (j - 1) (by omega)).1]; exact g1
      · rw [(hr j j0).2.2]
        split
        · exact ⟨hms, t2, by omega⟩
        · exact g3
theorem PlanCovers_pure : law23_PlanCovers.Pure := by
  intro w h k few _ _ _ hk
  unfold law23_PlanCovers.f
  obtain ⟨v, v1, v2, v3⟩ := within_y (n := w) (lo := 1) (hi := 60) (by omega) (by omega) (by omega) (by omega)
  obtain ⟨u, u1, u2, u3⟩ := within_y (n := h) (lo := 1) (hi := 60) (by omega) (by omega) (by omega) (by omega)
  have hms : MayS v u := ⟨by omega, by omega, by omega, by omega⟩
  obtain ⟨m, m1, m2, m3⟩ := made_f hms hk
  rw [v1, Option.bind_some, u1, Option.bind_some, m1, Option.bind_some]
  exact covers_l0 hms m.length fuel 0 m m2 (MInv.may hms m3) (by omega) (by omega) (by rw [fuelv]; omega)
end Go.Proofs.Ytmddmofncblfpaa
