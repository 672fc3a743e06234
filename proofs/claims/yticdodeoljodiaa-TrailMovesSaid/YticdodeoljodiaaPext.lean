import Derived.Test.YticdodeoljodiaaPwhere
import Derived.Test.YticdodeoljodiaaFatlas
namespace Go.Proofs.Yticdodeoljodiaa
open Go.Hx
set_option linter.unusedVariables false
set_option linter.unusedSimpArgs false

theorem wu8_id {x : Int} (h1 : 0 ≤ x) (h2 : x ≤ 255) : wu8 x = x := by
  unfold wu8 IntKind.wrap IntKind.signed IntKind.bits
  simp
  omega
theorem fuel_eq : fuel = 18446744073709551616 := by unfold fuel; rfl
theorem rd_set {α : Type} [Inhabited α] {L : List α} {i c : Int} {v : α} (h0 : 0 ≤ i) (h1 : i < L.length) (c0 : 0 ≤ c) : rd (List.set L i.toNat v) c = if c = i then v else rd L c := by
  unfold rd
  by_cases hc : c = i
  · subst hc; rw [if_pos rfl]; simp [List.getD, show c.toNat < L.length by omega]
  · rw [if_neg hc]
    have : i.toNat ≠ c.toNat := by omega
    simp [List.getD, this]
theorem rd_append {α : Type} [Inhabited α] {L : List α} {v : α} {c : Int} (c0 : 0 ≤ c) (h : c ≤ L.length) : rd (L ++ [v]) c = if c = L.length then v else rd L c := by
  unfold rd
  by_cases hc : c = L.length
  · rw [if_pos hc, hc]; simp [List.getD]
  · rw [if_neg hc]
    simp [List.getD, List.getElem?_append_left (show c.toNat < L.length by omega)]
theorem rd_rep {α : Type} [Inhabited α] {n : Nat} {v : α} {c : Int} (c0 : 0 ≤ c) (h : c < n) : rd (List.replicate n v) c = v := by
  unfold rd
  simp [List.getD, show c.toNat < n by omega]
theorem drop_rd {α : Type} [Inhabited α] {a : List α} {i : Int} (h0 : 0 ≤ i) (h1 : i < a.length) : a.drop i.toNat = rd a i :: a.drop (i + 1).toNat := by
  have hlt : i.toNat < a.length := by omega
  rw [rd_eq hlt, show (i + 1).toNat = i.toNat + 1 by omega]
  exact List.drop_eq_getElem_cons hlt
theorem rd_mem {α : Type} [Inhabited α] {a : List α} {i : Int} (h0 : 0 ≤ i) (h1 : i < a.length) : rd a i ∈ a := by
  rw [rd_eq (by omega)]; exact List.getElem_mem _
theorem index_l (s : List Int) (v : Int) (hb : s.length ≤ 4611686018427387904) : ∀ (n k : Nat) (i : Int), i + n = s.length → 0 ≤ i → n < k →
    ∃ r, slices_Index_byte_byte.l0 k s v i = some r ∧ (0 ≤ r ↔ v ∈ s.drop i.toNat) := by
  intro n
  induction n with
  | zero =>
    intro k i hi h0 hk
    obtain ⟨k, rfl⟩ : ∃ q, k = q + 1 := ⟨k - 1, by omega⟩
    rw [slices_Index_byte_byte.l0, if_neg (by omega), List.drop_of_length_le (by omega)]
    exact ⟨_, rfl, by simp⟩
  | succ n ih =>
    intro k i hi h0 hk
    obtain ⟨k, rfl⟩ : ∃ q, k = q + 1 := ⟨k - 1, by omega⟩
    rw [slices_Index_byte_byte.l0, if_pos (by omega), if_pos (by omega), drop_rd h0 (by omega)]
    by_cases he : v = rd s i
    · rw [if_pos (by simpa using he)]
      exact ⟨_, rfl, by simp [he, h0]⟩
    · rw [if_neg (by simpa using he), w64_id (by omega) (by omega)]
      obtain ⟨r, h1, h2⟩ := ih k (i + 1) (by omega) (by omega) (by omega)
      exact ⟨r, h1, by rw [h2]; simp [he]⟩
theorem contains_f (s : List Int) (v : Int) (hb : s.length < 4611686018427387904) : slices_Contains_byte_byte.f s v = some (decide (v ∈ s)) := by
  unfold slices_Contains_byte_byte.f slices_Index_byte_byte.f
  obtain ⟨r, h1, h2⟩ := index_l s v (by omega) s.length fuel 0 (by omega) (by omega) (by rw [fuel_eq]; omega)
  rw [h1, Option.bind_some]
  congr 1
  rw [Bool.eq_iff_iff]; simpa using h2
theorem full_l (s : List Int) (hb : s.length ≤ 4611686018427387904) : ∀ (n k : Nat) (i : Int), i + n = s.length → 0 ≤ i → n < k → ref1_full.l0 k s i = some (decide (0 ∉ s.drop i.toNat)) := by
  intro n
  induction n with
  | zero =>
    intro k i hi h0 hk
    obtain ⟨k, rfl⟩ : ∃ q, k = q + 1 := ⟨k - 1, by omega⟩
    rw [ref1_full.l0, if_neg (by omega), List.drop_of_length_le (by omega)]; simp
  | succ n ih =>
    intro k i hi h0 hk
    obtain ⟨k, rfl⟩ : ∃ q, k = q + 1 := ⟨k - 1, by omega⟩
    rw [ref1_full.l0, if_pos (by omega), if_pos (by omega), drop_rd h0 (by omega)]
    by_cases he : rd s i = 0
    · rw [if_pos (by simpa using he)]; simp [he]
    · rw [if_neg (by simpa using he), w64_id (by omega) (by omega), ih k (i + 1) (by omega) (by omega) (by omega)]
      congr 1
      rw [Bool.eq_iff_iff]; simp; intro _ h; exact he h.symm
theorem full_f (s : List Int) (hb : s.length < 4611686018427387904) : ref1_full.f s = some (decide (0 ∉ s)) := by
  unfold ref1_full.f
  rw [full_l s (by omega) s.length fuel 0 (by omega) (by omega) (by rw [fuel_eq]; omega)]; simp
end Go.Proofs.Yticdodeoljodiaa
