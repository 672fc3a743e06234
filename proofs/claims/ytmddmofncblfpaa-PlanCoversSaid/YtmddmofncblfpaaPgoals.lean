import Derived.Test.YtmddmofncblfpaaPrmay
import Derived.Test.YtmddmofncblfpaaPints
namespace Go.Proofs.Ytmddmofncblfpaa
open Go.Hx

/-- goals, each once, in the order in which they come -/
def glA : List Int → List api_Unit → List Int
  | acc, [] => acc
  | acc, u :: r => glA (if u.Goal ∈ acc then acc else acc ++ [u.Goal]) r
def gls (l : List api_Unit) : List Int := glA [] l

theorem glA_len : ∀ (l : List api_Unit) (acc : List Int), (glA acc l).length ≤ acc.length + l.length
  | [], acc => by simp [glA]
  | u :: r, acc => by
    have := glA_len r (if u.Goal ∈ acc then acc else acc ++ [u.Goal])
    simp only [glA, List.length_cons]
    split at this <;> rename_i h
    · rw [if_pos h]; omega
    · rw [if_neg h]; simp only [List.length_append, List.length_cons, List.length_nil] at this; omega
theorem glA_mem : ∀ (l : List api_Unit) (acc : List Int) (g : Int), g ∈ glA acc l ↔ g ∈ acc ∨ ∃ u ∈ l, u.Goal = g
  | [], acc, g => by simp [glA]
  | u :: r, acc, g => by
    simp only [glA]
    rw [glA_mem r _ g]
    by_cases h : u.Goal ∈ acc
    · rw [if_pos h]
      constructor
      · rintro (q | ⟨x, x1, x2⟩)
        · exact .inl q
        · exact .inr ⟨x, List.mem_cons_of_mem _ x1, x2⟩
      · rintro (q | ⟨x, x1, x2⟩)
        · exact .inl q
        · rcases List.mem_cons.1 x1 with rfl | x1
          · exact .inl (x2 ▸ h)
          · exact .inr ⟨x, x1, x2⟩
    · rw [if_neg h]
      constructor
      · rintro (q | ⟨x, x1, x2⟩)
        · rcases List.mem_append.1 q with q | q
          · exact .inl q
          · exact .inr ⟨u, List.mem_cons_self .., (List.mem_singleton.1 q).symm⟩
        · exact .inr ⟨x, List.mem_cons_of_mem _ x1, x2⟩
      · rintro (q | ⟨x, x1, x2⟩)
        · exact .inl (List.mem_append_left _ q)
        · rcases List.mem_cons.1 x1 with rfl | x1
          · exact .inl (List.mem_append_right _ (by simp [x2]))
          · exact .inr ⟨x, x1, x2⟩
theorem glA_nodup : ∀ (l : List api_Unit) (acc : List Int), acc.Nodup → (glA acc l).Nodup
  | [], acc, h => h
  | u :: r, acc, h => by
    simp only [glA]
    refine glA_nodup r _ ?_
    split
    · exact h
    · rename_i q
      rw [List.nodup_append]
      exact ⟨h, by simp, fun a ha b hb => by simp at hb; subst hb; intro e; subst e; exact q ha⟩
theorem glA_ext : ∀ (l : List api_Unit) (acc : List Int), ∃ t, glA acc l = acc ++ t
  | [], acc => ⟨[], by simp [glA]⟩
  | u :: r, acc => by
    simp only [glA]
    split
    · exact glA_ext r acc
    · obtain ⟨t, h⟩ := glA_ext r (acc ++ [u.Goal])
      exact ⟨u.Goal :: t, by rw [h]; simp⟩
theorem glA_app : ∀ (l m : List api_Unit) (acc : List Int), glA acc (l ++ m) = glA (glA acc l) m
  | [], m, acc => rfl
  | u :: r, m, acc => by simp only [List.cons_append, glA]; exact glA_app r m _

theorem gls_len (l : List api_Unit) : (gls l).length ≤ l.length := by
  have := glA_len l []
  unfold gls; simpa using this
theorem gls_nodup (l : List api_Unit) : (gls l).Nodup := glA_nodup l [] List.nodup_nil
theorem gls_mem (l : List api_Unit) (g : Int) : g ∈ gls l ↔ ∃ u ∈ l, u.Goal = g := by
  have := glA_mem l [] g
  unfold gls; simpa using this
theorem pgoals_l {l : List api_Unit} (hb : l.length ≤ 1000000) : ∀ (n k : Nat) (i : Int) (acc : List Int) (m : List (Int × Bool)), i + n = l.length → 0 ≤ i → n < k → (acc.length : Int) ≤ i →
    (∀ c, mval m c = true ↔ c ∈ acc) → plan_Goals.l0 k l acc m i = some (glA acc (l.drop i.toNat)) := by
  intro n
  induction n with
  | zero =>
    intro k i acc m hi h0 hk ha hm
    obtain ⟨k, rfl⟩ := kpos hk
    rw [plan_Goals.l0, if_neg (by omega), List.drop_of_length_le (by omega)]; rfl
  | succ n ih =>
    intro k i acc m hi h0 hk ha hm
    obtain ⟨k, rfl⟩ := kpos hk
    rw [plan_Goals.l0, if_pos (by omega), if_pos (by omega), dropc h0 (by omega)]
    simp only [glA]
    by_cases h : (rd l i).Goal ∈ acc
    · rw [if_neg (by rw [(hm _).2 h]; decide), if_pos h, wi (by omega) (by omega)]
      exact ih k (i + 1) acc m (by omega) (by omega) (by omega) (by omega) hm
    · have : mval m (rd l i).Goal = false := by rw [Bool.eq_false_iff]; exact fun q => h ((hm _).1 q)
      rw [if_pos (by rw [this]; rfl), if_neg h, if_pos (by omega), wi (by omega) (by omega)]
      refine ih k (i + 1) _ _ (by omega) (by omega) (by omega) (by simp; omega) (fun c => ?_)
      rw [mval_mset]
      by_cases e : (rd l i).Goal = c
      · rw [if_pos e]; simp [e]
      · rw [if_neg e, hm c]; simp [Ne.symm e]
theorem pgoals_f {l : List api_Unit} (hb : l.length ≤ 1000000) : plan_Goals.f l = some (gls l) := by
  unfold plan_Goals.f
  have := pgoals_l hb l.length fuel 0 [] [] (by omega) (by omega) (by rw [fuelv]; omega) (by simp) (fun c => by simp [mval, mget])
  unfold gls; simpa using this

theorem rgoals_l1 {l : List api_Unit} {i : Int} (hi : 0 ≤ i ∧ i < l.length) {acc : List Int} (hb : acc.length ≤ 1000000) : ∀ (n k : Nat) (j : Int) (b : Bool), j + n = acc.length → 0 ≤ j → n < k →
    ref21_Goals.l1 k l acc i b j = some (if b = true ∨ (rd l i).Goal ∈ acc.drop j.toNat then acc else acc ++ [(rd l i).Goal]) := by
  intro n
  induction n with
  | zero =>
    intro k j b hj h0 hk
    obtain ⟨k, rfl⟩ := kpos hk
    rw [ref21_Goals.l1, if_neg (by omega), List.drop_of_length_le (by omega)]
    cases b with
    | true => simp
    | false => simp; omega
  | succ n ih =>
    intro k j b hj h0 hk
    obtain ⟨k, rfl⟩ := kpos hk
    rw [ref21_Goals.l1, if_pos (by omega), wi (by omega) (by omega)]
    cases b with
    | true =>
      rw [if_pos rfl, ih k (j + 1) true (by omega) (by omega) (by omega)]
      simp
    | false =>
      rw [if_neg (by simp), if_pos (by omega), if_pos hi, ih k (j + 1) _ (by omega) (by omega) (by omega), dropc h0 (by omega)]
      by_cases e : rd acc j = (rd l i).Goal
      · simp [e]
      · simp [e, Ne.symm e]
theorem rgoals_l {l : List api_Unit} (hb : l.length ≤ 1000000) : ∀ (n k : Nat) (i : Int) (acc : List Int), i + n = l.length → 0 ≤ i → n < k → (acc.length : Int) ≤ i →
    ref21_Goals.l0 k l acc i = some (glA acc (l.drop i.toNat)) := by
  intro n
  induction n with
  | zero =>
    intro k i acc hi h0 hk ha
    obtain ⟨k, rfl⟩ := kpos hk
    rw [ref21_Goals.l0, if_neg (by omega), List.drop_of_length_le (by omega)]; rfl
  | succ n ih =>
    intro k i acc hi h0 hk ha
    obtain ⟨k, rfl⟩ := kpos hk
    rw [ref21_Goals.l0, if_pos (by omega), rgoals_l1 (by omega) (by omega) acc.length fuel 0 false (by omega) (by omega) (by rw [fuelv]; omega), dropc h0 (by omega)]
    simp only [Option.bind_some, glA, Int.toNat_zero, List.drop_zero, Bool.false_eq_true, false_or]
    rw [wi (by omega) (by omega)]
    refine ih k (i + 1) _ (by omega) (by omega) (by omega) ?_
    split
    · omega
    · simp; omega
theorem rgoals_f {l : List api_Unit} (hb : l.length ≤ 1000000) : ref21_Goals.f l = some (gls l) := by
  unfold ref21_Goals.f
  have := rgoals_l hb l.length fuel 0 [] (by omega) (by omega) (by rw [fuelv]; omega) (by simp)
  unfold gls; simpa using this
end Go.Proofs.Ytmddmofncblfpaa
