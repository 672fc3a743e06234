import Derived.Test.YtmddmofncblfpaaFref1
namespace Go.Proofs.Ytmddmofncblfpaa
open Go.Hx

theorem ints_l {a b : List Int} (hb : a.length ≤ 4611686018427387904) (hl : b.length = a.length) : ∀ (n k : Nat) (i : Int), i + n = a.length → 0 ≤ i → n < k →
    ∃ r, ref1_Ints.l0 k a b i = some r ∧ (r = true ↔ a.drop i.toNat = b.drop i.toNat) := by
  intro n
  induction n with
  | zero =>
    intro k i hi h0 hk
    obtain ⟨k, rfl⟩ := kpos hk
    exact ⟨true, by rw [ref1_Ints.l0, if_neg (by omega)], by rw [List.drop_of_length_le (by omega), List.drop_of_length_le (by omega)]; simp⟩
  | succ n ih =>
    intro k i hi h0 hk
    obtain ⟨k, rfl⟩ := kpos hk
    rw [ref1_Ints.l0, if_pos (by omega), if_pos (by omega), if_pos (by omega), dropc h0 (by omega : i < (a.length : Int)), dropc h0 (by omega : i < (b.length : Int))]
    by_cases e : rd a i = rd b i
    · rw [if_neg (by simpa using e), wi (by omega) (by omega)]
      obtain ⟨r, h1, h2⟩ := ih k (i + 1) (by omega) (by omega) (by omega)
      exact ⟨r, h1, by rw [h2, e]; simp⟩
    · rw [if_pos (by simpa using e)]
      exact ⟨false, rfl, by simp [e]⟩
theorem ints_f {a b : List Int} (hb : a.length < 4611686018427387904) : ∃ r, ref1_Ints.f a b = some r ∧ (r = true ↔ a = b) := by
  unfold ref1_Ints.f
  by_cases h : a.length = b.length
  · rw [if_neg (by simp [h])]
    obtain ⟨r, h1, h2⟩ := ints_l (a := a) (b := b) (by omega) h.symm a.length fuel 0 (by omega) (by omega) (by rw [fuelv]; omega)
    exact ⟨r, h1, by simpa using h2⟩
  · rw [if_pos (by simp; omega)]
    exact ⟨false, rfl, ⟨fun q => (by cases q), fun q => absurd (by rw [q]) h⟩⟩
theorem ints_self {a : List Int} (hb : a.length < 4611686018427387904) : ref1_Ints.f a a = some true := by
  obtain ⟨r, h1, h2⟩ := ints_f (a := a) (b := a) hb
  rw [h1, h2.2 rfl]
end Go.Proofs.Ytmddmofncblfpaa
