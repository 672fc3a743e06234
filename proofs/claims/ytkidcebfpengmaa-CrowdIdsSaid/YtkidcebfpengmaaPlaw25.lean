import Derived.Test.YtkidcebfpengmaaPtick
import Derived.Test.YtkidcebfpengmaaFlaw25
namespace Go.Proofs.Ytkidcebfpengmaa
open Go.Hx
set_option linter.unusedVariables false
set_option linter.unusedSimpArgs false

theorem near_f (q : herdsmanlaw25_Ask) {w h nx : Int} (hm : MayS w h) (hx : 0 ≤ nx ∧ nx ≤ 1000000) : ∃ r, law25_near.f q w h nx = some r ∧ r.Kind = q.Kind := by
  unfold law25_near.f
  have hp := may_prod hm
  obtain ⟨k, k1, _⟩ := within_y (n := q.Kind) (lo := 0) (hi := 9) (by omega) (by omega) (by omega) (by omega)
  obtain ⟨a, a1, _⟩ := within_y (n := q.A) (lo := -1) (hi := nx) (by omega) (by omega) (by omega) (by omega)
  rw [wi (x := w * h) (by omega) (by omega)]
  obtain ⟨b, b1, _⟩ := within_y (n := q.A) (lo := -1) (hi := w * h) (by omega) (by omega) (by omega) (by omega)
  obtain ⟨d, d1, _⟩ := within_y (n := q.B) (lo := -1) (hi := w * h) (by omega) (by omega) (by omega) (by omega)
  rw [k1, a1, b1, d1]
  have : ((if (k == 5) = true then (some (k == 5)) else (some (k == 6))) : Option Bool) = some (decide (k = 5 ∨ k = 6)) := by
    by_cases e : k = 5
    · subst e; rfl
    · rw [if_neg (by simpa using e)]; congr 1
      by_cases g : k = 6
      · subst g; rfl
      · simp [e, g]
  simp only [Option.bind_some, this]
  split <;> exact ⟨_, rfl, rfl⟩

theorem dirs25_l {n : Nat} (hb : n ≤ 1000000) (a b : Int) : ∀ (m k : Nat) (i : Int) (L : List Int), i + m = n → 0 ≤ i → m < k → (L.length : Int) = i → (∀ d ∈ L, 0 ≤ d ∧ d ≤ 5) →
    ∃ r, law25_dirs.l0 k n a b L i = some r ∧ r.length = n ∧ ∀ d ∈ r, 0 ≤ d ∧ d ≤ 5 := by
  intro m
  induction m with
  | zero =>
    intro k i L hi h0 hk hL hd
    obtain ⟨k, rfl⟩ := kpos hk
    exact ⟨L, by rw [law25_dirs.l0, if_neg (by omega)], by omega, hd⟩
  | succ m ih =>
    intro k i L hi h0 hk hL hd
    obtain ⟨k, rfl⟩ := kpos hk
    rw [law25_dirs.l0, if_pos (by omega), wi (x := i + 1) (by omega) (by omega), wi (x := i + 3) (by omega) (by omega), if_pos (by omega), if_pos (by omega)]
    obtain ⟨v, v1, v2, v3⟩ := within_y (n := w64 ((w64 (Int.tdiv a (i + 1))) + (Int.tmod b (i + 3)))) (lo := 0) (hi := 5) (by omega) (by omega) (by omega) (by omega)
    rw [v1, Option.bind_some, if_pos (by omega)]
    refine ih k (i + 1) _ (by omega) (by omega) (by omega) (by simp; omega) (fun d hdm => ?_)
    rcases List.mem_append.1 hdm with q | q
    · exact hd d q
    · simp at q; omega
theorem dirs25_f {n : Nat} (hb : n ≤ 1000000) (a b : Int) : ∃ r, law25_dirs.f (n : Int) a b = some r ∧ DirsOk r n := by
  unfold law25_dirs.f
  obtain ⟨r, r1, r2, r3⟩ := dirs25_l hb a b n fuel 0 [] (by omega) (by omega) (by rw [fuelv]; omega) rfl (by simp)
  exact ⟨r, r1, r2, r3⟩

theorem new_ok {w h most : Int} (hm : MayS w h) (h1 : 1 ≤ most) (h2 : most ≤ 65536) : ∃ c, crowd_New.f w h most = some (some c) ∧ CS c w h most [] ∧ c.units.next = 0 := by
  obtain ⟨r, r1, r2, r3⟩ := cnew_f w h most
  have := r2.2 ⟨hm, h1, h2⟩
  obtain ⟨c, rfl⟩ := Option.isSome_iff_exists.1 this
  exact ⟨c, r1, (r3 c rfl).1, (r3 c rfl).2⟩

theorem told25 : law25_told.f = some true := by
  unfold law25_told.f
  have hm : MayS 2 1 := by decide
  obtain ⟨c, e1, c1, c2⟩ := new_ok (w := 2) (h := 1) (most := 5) hm (by decide) (by decide)
  obtain ⟨c', e2, c3, c4⟩ := cspawn_f c1 (by rw [c2]; decide) 0 1
  have es : cSpawn 2 1 5 [] c.units.next 0 1 = (0, 0, [⟨0, 0, 1⟩]) := by
    rw [c2]; exact cs_5 (by decide) (by decide) rfl (by decide) (by decide)
  rw [es] at e2 c3
  obtain ⟨c'', e3, c5, c6⟩ := ctick_ok c3 (dirs := [1]) ⟨rfl, by decide⟩
  have eg : gGo 2 1 [⟨0, 0, 1⟩] [1] = ([], [⟨0, 1⟩], [0]) := by rfl
  rw [eg] at e3 c5
  have h1 := moves_self (a := [api_Move.mk 0 1]) (by decide)
  have h2 := ints_self (a := [0]) (by decide)
  simp only [e1, optm, Option.bind_some, e2, e3, h1, h2, cunits_f c5]
  rfl

/-- what stands in a list without repeats, counted over a range -/
theorem count_range {ids : List Int} {n : Nat} (hn : ids.Nodup) (hr : ∀ x ∈ ids, 0 ≤ x ∧ x < n) : ((List.range n).filter (fun i : Nat => decide ((i : Int) ∈ ids))).length = ids.length := by
  have h1 : (((List.range n).filter (fun i : Nat => decide ((i : Int) ∈ ids))).map (fun i : Nat => (i : Int))).Perm ids := by
    rw [List.perm_ext_iff_of_nodup]
    · intro a
      simp only [List.mem_map, List.mem_filter, List.mem_range, decide_eq_true_eq]
      constructor
      · rintro ⟨i, ⟨_, h⟩, rfl⟩; exact h
      · intro h
        have := hr a h
        refine ⟨a.toNat, ⟨by omega, ?_⟩, by omega⟩
        rwa [show (a.toNat : Int) = a by omega]
    · have hd : ((List.range n).filter (fun i : Nat => decide ((i : Int) ∈ ids))).Nodup := List.nodup_range.filter _
      unfold List.Nodup at hd ⊢
      rw [List.pairwise_map]
      exact hd.imp (fun h e => h (by omega))
    · exact hn
  have := h1.length_eq
  simpa using this
end Go.Proofs.Ytkidcebfpengmaa
