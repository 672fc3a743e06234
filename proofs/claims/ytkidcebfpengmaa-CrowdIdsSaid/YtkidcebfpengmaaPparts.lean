import Derived.Test.YtkidcebfpengmaaPrgo
namespace Go.Proofs.Ytkidcebfpengmaa
open Go.Hx
set_option linter.unusedVariables false
set_option linter.unusedSimpArgs false

theorem step_ne {w h c d : Int} (hc : CellS w h c) (h0 : 0 ≤ d) (h3 : d ≤ 3) : sStep w h c d ≠ c := by
  intro e
  have := step_inj (s := d) (t := 4) hc h0 (by omega) (by omega) (by omega) (by rw [e]; exact hc) (by rw [step_here hc, e])
  omega
theorem gto_ne {w h : Int} {u : api_Unit} (hc : CellS w h u.Cell) (d : Int) : gTo w h u d ≠ u.Cell := by
  unfold gTo
  split
  · rename_i q; exact step_ne hc q.1 q.2
  · have := hc.2.1; omega

section
variable {w h : Int} {l : List api_Unit} {dirs : List Int}
abbrev nCan (w h : Int) (l : List api_Unit) (dirs : List Int) (n : Nat) : Prop := gCan w h (gFold w h l dirs n).1 (rd l (n : Int)) (rd dirs (n : Int))
abbrev nTo (w h : Int) (l : List api_Unit) (dirs : List Int) (n : Nat) : Int := gTo w h (rd l (n : Int)) (rd dirs (n : Int))
/-- where unit n is behind its step; -1: gone -/
def nAt (w h : Int) (l : List api_Unit) (dirs : List Int) (n : Nat) : Int := if nCan w h l dirs n then (if nTo w h l dirs n = (rd l (n : Int)).Goal then -1 else nTo w h l dirs n) else (rd l (n : Int)).Cell

theorem mv_step (n : Nat) : (gFold w h l dirs (n + 1)).2.1 = (gFold w h l dirs n).2.1 ++ (if nCan w h l dirs n then [⟨(rd l (n : Int)).Id, nTo w h l dirs n⟩] else []) := by
  show (gStep w h (gFold w h l dirs n) n (rd l (n : Int)) (rd dirs (n : Int))).2.1 = _
  unfold gStep
  by_cases hc : nCan w h l dirs n
  · rw [if_pos hc, if_pos hc]
  · rw [if_neg hc, if_neg hc, List.append_nil]
theorem gn_step (n : Nat) : (gFold w h l dirs (n + 1)).2.2 = (gFold w h l dirs n).2.2 ++ (if nCan w h l dirs n ∧ nTo w h l dirs n = (rd l (n : Int)).Goal then [(rd l (n : Int)).Id] else []) := by
  show (gStep w h (gFold w h l dirs n) n (rd l (n : Int)) (rd dirs (n : Int))).2.2 = _
  unfold gStep
  by_cases hc : nCan w h l dirs n
  · rw [if_pos hc]
    simp only
    by_cases hg : nTo w h l dirs n = (rd l (n : Int)).Goal
    · rw [if_pos hg, if_pos ⟨hc, hg⟩]
    · rw [if_neg hg, if_neg (fun q => hg q.2), List.append_nil]
  · rw [if_neg hc, if_neg (fun q => hc q.1), List.append_nil]
theorem at_step (hm : MayU w h l) {n : Nat} (hn : n < l.length) : rd (gFold w h l dirs (n + 1)).1 (n : Int) = ⟨(rd l (n : Int)).Id, nAt w h l dirs n, (rd l (n : Int)).Goal⟩ :=
  gstep_at (gInv hm dirs n (by omega)) hn _
theorem af_step (hm : MayU w h l) {n : Nat} (hn : n < l.length) : gAft (gFold w h l dirs (n + 1)) (n + 1) = gAft (gFold w h l dirs n) n ++ (if 0 ≤ nAt w h l dirs n then [⟨(rd l (n : Int)).Id, nAt w h l dirs n, (rd l (n : Int)).Goal⟩] else []) := by
  have := gAft_step (gInv hm dirs n (by omega)) hn (rd dirs (n : Int))
  have e : gStep w h (gFold w h l dirs n) n (rd l (n : Int)) (rd dirs (n : Int)) = gFold w h l dirs (n + 1) := rfl
  rw [e, at_step hm hn] at this
  exact this
theorem at_neg (hm : MayU w h l) {n : Nat} (hn : n < l.length) : 0 ≤ nAt w h l dirs n ↔ ¬ (nCan w h l dirs n ∧ nTo w h l dirs n = (rd l (n : Int)).Goal) := by
  unfold nAt
  by_cases hc : nCan w h l dirs n
  · rw [if_pos hc]
    by_cases hg : nTo w h l dirs n = (rd l (n : Int)).Goal
    · rw [if_pos hg]; exact ⟨fun q => by omega, fun q => absurd ⟨hc, hg⟩ q⟩
    · rw [if_neg hg]; exact ⟨fun _ q => hg q.2, fun _ => hc.1⟩
  · rw [if_neg hc]; exact ⟨fun _ q => hc q.1, fun _ => (hm.cell (by omega) (by omega)).2.1⟩

/-- what comes behind the first n -/
theorem tails (hm : MayU w h l) : ∀ (d n : Nat), n + d = l.length → ∃ A M G, (gGo w h l dirs).1 = gAft (gFold w h l dirs n) n ++ A ∧ (gGo w h l dirs).2.1 = (gFold w h l dirs n).2.1 ++ M ∧ (gGo w h l dirs).2.2 = (gFold w h l dirs n).2.2 ++ G ∧
    (∀ m ∈ M, ∃ j : Int, n ≤ j ∧ j < l.length ∧ m.Id = (rd l j).Id) ∧ (∀ g ∈ G, ∃ j : Int, n ≤ j ∧ j < l.length ∧ g = (rd l j).Id) := by
  intro d
  induction d with
  | zero =>
    intro n hn
    have : n = l.length := by omega
    subst this
    have hi := gInv hm dirs l.length (Nat.le_refl _)
    refine ⟨[], [], [], ?_, by simp [gGo], by simp [gGo], by simp, by simp⟩
    unfold gGo gAft
    rw [List.take_of_length_le (by rw [hi.len]; omega), List.append_nil]
  | succ d ih =>
    intro n hn
    obtain ⟨A, M, G, h1, h2, h3, h4, h5⟩ := ih (n + 1) (by omega)
    rw [af_step hm (by omega), List.append_assoc] at h1
    rw [mv_step, List.append_assoc] at h2
    rw [gn_step, List.append_assoc] at h3
    refine ⟨_, _, _, h1, h2, h3, fun m hmm => ?_, fun g hg => ?_⟩
    · rcases List.mem_append.1 hmm with q | q
      · split at q
        · simp at q; subst q; exact ⟨n, by omega, by omega, rfl⟩
        · cases q
      · obtain ⟨j, j0, j1, e⟩ := h4 m q; exact ⟨j, by omega, j1, e⟩
    · rcases List.mem_append.1 hg with q | q
      · split at q
        · simp at q; subst q; exact ⟨n, by omega, by omega, rfl⟩
        · cases q
      · obtain ⟨j, j0, j1, e⟩ := h5 g q; exact ⟨j, by omega, j1, e⟩
theorem parts (hm : MayU w h l) {n : Nat} (hn : n < l.length) : ∃ A M G, (gGo w h l dirs).1 = gAft (gFold w h l dirs n) n ++ ((if 0 ≤ nAt w h l dirs n then [⟨(rd l (n : Int)).Id, nAt w h l dirs n, (rd l (n : Int)).Goal⟩] else []) ++ A) ∧
    (gGo w h l dirs).2.1 = (gFold w h l dirs n).2.1 ++ ((if nCan w h l dirs n then [⟨(rd l (n : Int)).Id, nTo w h l dirs n⟩] else []) ++ M) ∧
    (gGo w h l dirs).2.2 = (gFold w h l dirs n).2.2 ++ ((if nCan w h l dirs n ∧ nTo w h l dirs n = (rd l (n : Int)).Goal then [(rd l (n : Int)).Id] else []) ++ G) ∧
    (∀ m ∈ M, (rd l (n : Int)).Id < m.Id) ∧ (∀ g ∈ G, (rd l (n : Int)).Id < g) := by
  obtain ⟨A, M, G, h1, h2, h3, h4, h5⟩ := tails (dirs := dirs) hm (l.length - (n + 1)) (n + 1) (by omega)
  rw [af_step hm (by omega), List.append_assoc] at h1
  rw [mv_step, List.append_assoc] at h2
  rw [gn_step, List.append_assoc] at h3
  refine ⟨A, M, G, h1, h2, h3, fun m hmm => ?_, fun g hg => ?_⟩
  · obtain ⟨j, j0, j1, e⟩ := h4 m hmm
    rw [e]; exact hm.id_lt (by omega) (by omega) j1
  · obtain ⟨j, j0, j1, e⟩ := h5 g hg
    rw [e]; exact hm.id_lt (by omega) (by omega) j1
theorem counts (hm : MayU w h l) : ∀ n : Nat, n ≤ l.length → (gAft (gFold w h l dirs n) n).length + (gFold w h l dirs n).2.2.length = n ∧ (gFold w h l dirs n).2.2.length ≤ (gFold w h l dirs n).2.1.length := by
  intro n
  induction n with
  | zero => intro _; simp [gAft, gFold]
  | succ n ih =>
    intro hn
    obtain ⟨i1, i2⟩ := ih (by omega)
    have hneg := at_neg (dirs := dirs) hm (n := n) (by omega)
    rw [af_step hm (by omega), gn_step, mv_step]
    simp only [List.length_append]
    by_cases hc : nCan w h l dirs n ∧ nTo w h l dirs n = (rd l (n : Int)).Goal
    · rw [if_pos hc, if_neg (fun q => hneg.1 q hc), if_pos hc.1]; simp; omega
    · rw [if_neg hc, if_pos (hneg.2 hc)]
      split <;> simp <;> omega

/-- is the next move that of unit n -/
theorem move_is (hm : MayU w h l) {n : Nat} (hn : n < l.length) : ((gFold w h l dirs n).2.1.length < (gGo w h l dirs).2.1.length ∧ (rd (gGo w h l dirs).2.1 ((gFold w h l dirs n).2.1.length : Int)).Id = (rd l (n : Int)).Id ↔ nCan w h l dirs n) ∧
    (nCan w h l dirs n → rd (gGo w h l dirs).2.1 ((gFold w h l dirs n).2.1.length : Int) = ⟨(rd l (n : Int)).Id, nTo w h l dirs n⟩) := by
  obtain ⟨A, M, G, _, h2, _, h4, _⟩ := parts (dirs := dirs) hm hn
  rw [h2]
  by_cases hc : nCan w h l dirs n
  · rw [if_pos hc]
    have e : rd ((gFold w h l dirs n).2.1 ++ ([⟨(rd l (n : Int)).Id, nTo w h l dirs n⟩] ++ M)) ((gFold w h l dirs n).2.1.length : Int) = ⟨(rd l (n : Int)).Id, nTo w h l dirs n⟩ := by
      rw [rdr (by omega), Int.sub_self]; rfl
    rw [e]
    exact ⟨⟨fun _ => hc, fun _ => ⟨by simp, rfl⟩⟩, fun _ => rfl⟩
  · rw [if_neg hc, List.nil_append]
    refine ⟨⟨fun q => ?_, fun q => absurd q hc⟩, fun q => absurd q hc⟩
    obtain ⟨q1, q2⟩ := q
    rw [List.length_append] at q1
    rw [rdr (by omega), Int.sub_self] at q2
    have := h4 _ (rdmem (a := M) (i := 0) (by omega) (by omega))
    omega
end
end Go.Proofs.Ytkidcebfpengmaa
