import Derived.Test.YtmddmofncblfpaaFref21
namespace Go.Proofs.Ytmddmofncblfpaa
open Go.Hx

theorem unit_ext' {a b : api_Unit} (h1 : a.Id = b.Id) (h2 : a.Cell = b.Cell) (h3 : a.Goal = b.Goal) : a = b := by
  cases a; cases b; simp_all
theorem ueq (a b : api_Unit) : ((a.Id == b.Id) && ((a.Cell == b.Cell) && ((a.Goal == b.Goal) && true))) = true ↔ a = b := by
  simp only [Bool.and_eq_true, beq_iff_eq, and_true]
  exact ⟨fun ⟨h1, h2, h3⟩ => unit_ext' h1 h2 h3, fun h => by subst h; exact ⟨rfl, rfl, rfl⟩⟩

theorem same_l {a b : List api_Unit} (hb : a.length ≤ 4611686018427387904) (hl : b.length = a.length) : ∀ (n k : Nat) (i : Int), i + n = a.length → 0 ≤ i → n < k →
    ∃ r, ref21_Same.l0 k a b i = some r ∧ (r = true ↔ a.drop i.toNat = b.drop i.toNat) := by
  intro n
  induction n with
  | zero =>
    intro k i hi h0 hk
    obtain ⟨k, rfl⟩ := kpos hk
    exact ⟨true, by rw [ref21_Same.l0, if_neg (by omega)], by rw [List.drop_of_length_le (by omega), List.drop_of_length_le (by omega)]; simp⟩
  | succ n ih =>
    intro k i hi h0 hk
    obtain ⟨k, rfl⟩ := kpos hk
    rw [ref21_Same.l0, if_pos (by omega), if_pos (by omega), if_pos (by omega), dropc h0 (by omega : i < (a.length : Int)), dropc h0 (by omega : i < (b.length : Int))]
    by_cases e : rd a i = rd b i
    · rw [if_neg (by rw [(ueq _ _).2 e]; decide), wi (by omega) (by omega)]
      obtain ⟨r, h1, h2⟩ := ih k (i + 1) (by omega) (by omega) (by omega)
      exact ⟨r, h1, by rw [h2, e]; simp⟩
    · have : ((((rd a i).Id == (rd b i).Id) && (((rd a i).Cell == (rd b i).Cell) && (((rd a i).Goal == (rd b i).Goal) && true)))) = false := by
        rw [Bool.eq_false_iff]; exact fun q => e ((ueq _ _).1 q)
      rw [this]
      exact ⟨false, rfl, by simp [e]⟩
theorem same_f {a b : List api_Unit} (hb : a.length < 4611686018427387904) : ∃ r, ref21_Same.f a b = some r ∧ (r = true ↔ a = b) := by
  unfold ref21_Same.f
  by_cases h : a.length = b.length
  · rw [if_neg (by simp [h])]
    obtain ⟨r, h1, h2⟩ := same_l (a := a) (b := b) (by omega) h.symm a.length fuel 0 (by omega) (by omega) (by rw [fuelv]; omega)
    exact ⟨r, h1, by simpa using h2⟩
  · rw [if_pos (by simp; omega)]
    exact ⟨false, rfl, ⟨fun q => (by cases q), fun q => absurd (by rw [q]) h⟩⟩
theorem same_self {a : List api_Unit} (hb : a.length < 4611686018427387904) : ref21_Same.f a a = some true := by
  obtain ⟨r, h1, h2⟩ := same_f (a := a) (b := a) hb
  rw [h1, h2.2 rfl]
end Go.Proofs.Ytmddmofncblfpaa
