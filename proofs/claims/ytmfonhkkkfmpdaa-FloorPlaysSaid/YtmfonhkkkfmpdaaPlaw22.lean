import Derived.Test.YtmfonhkkkfmpdaaFlaw22
import Derived.Test.YtmfonhkkkfmpdaaPfloor
namespace Go.Proofs.Ytmfonhkkkfmpdaa
open Go.Hx

theorem drop_rd {α : Type} [Inhabited α] {a : List α} {i : Int} (h0 : 0 ≤ i) (h1 : i < a.length) : a.drop i.toNat = rd a i :: a.drop (i + 1).toNat := by
  have hlt : i.toNat < a.length := by omega
  rw [rd_eq hlt, show (i + 1).toNat = i.toNat + 1 by omega]
  exact List.drop_eq_getElem_cons hlt
theorem same_l {a b : List Int} (hl : a.length = b.length) (hb : a.length ≤ 4611686018427387904) : ∀ (n k : Nat) (i : Int), i + n = a.length → 0 ≤ i → n < k → ref21_SameWords.l0 k a b i = some (decide (a.drop i.toNat = b.drop i.toNat)) := by
  intro n
  induction n with
  | zero =>
    intro k i hi h0 hk
    obtain ⟨k, rfl⟩ : ∃ q, k = q + 1 := ⟨k - 1, by omega⟩
    rw [ref21_SameWords.l0, if_neg (by omega), List.drop_of_length_le (by omega), List.drop_of_length_le (by omega)]; rfl
  | succ n ih =>
    intro k i hi h0 hk
    obtain ⟨k, rfl⟩ : ∃ q, k = q + 1 := ⟨k - 1, by omega⟩
    have hk' := ih k (i + 1) (by omega) (by omega) (by omega)
    rw [ref21_SameWords.l0, if_pos (by omega), if_pos (by omega), if_pos (by omega), drop_rd (a := a) h0 (by omega), drop_rd (a := b) h0 (by omega)]
    by_cases he : rd a i = rd b i
    · rw [if_neg (by simpa using he), w64_id (by omega) (by omega), hk', he]
      congr 1
      simp
    · rw [if_pos (by simpa using he)]
      simp [he]
theorem same_f (a b : List Int) (hb : a.length < 4611686018427387904) : ref21_SameWords.f a b = some (decide (a = b)) := by
  unfold ref21_SameWords.f
  by_cases h : a.length = b.length
  · rw [if_neg (by simp [h]), same_l h (by omega) a.length fuel 0 (by omega) (by omega) (by rw [fuel_eq]; omega)]
    simp
  · rw [if_pos (by simp; omega)]
    have : a ≠ b := fun e => h (by rw [e])
    simp [this]
theorem told22 : law22_told.f = some true := by
  unfold law22_told.f
  have e1 : floor_New.f 3 = some (some (floor_Floor.mk [0, 0, 0] 0)) := by rfl
  have e2 : floor_Floor_Put.f (floor_Floor.mk [0, 0, 0] 0) 1 0 = some (true, floor_Floor.mk [0, 1, 0] 1) := by rfl
  have e3 : floor_Floor_Shift.f (floor_Floor.mk [0, 1, 0] 1) 1 2 = some (true, floor_Floor.mk [0, 0, 1] 1) := by rfl
  have e4 : floor_Floor_Words.f (floor_Floor.mk [0, 0, 1] 1) = some [0, 0, 1] := by rfl
  have e5 : floor_Floor_Who.f (floor_Floor.mk [0, 0, 1] 1) 2 = some 0 := by rfl
  have e6 := same_f [0, 0, 1] [0, 0, 1] (by decide)
  simp [e1, optm, e2, e3, e4, e5, e6]
end Go.Proofs.Ytmfonhkkkfmpdaa
