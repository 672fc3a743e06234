import Derived.Test.YtmfonhkkkfmpdaaFref1
namespace Go.Proofs.Ytmfonhkkkfmpdaa
open Go.Hx

theorem w64_id {x : Int} (h1 : -9223372036854775808 ≤ x) (h2 : x ≤ 9223372036854775807) : w64 x = x := by
  unfold w64 IntKind.wrap IntKind.signed IntKind.bits
  simp
  omega
theorem wu32_id {x : Int} (h1 : 0 ≤ x) (h2 : x ≤ 4294967295) : wu32 x = x := by
  unfold wu32 IntKind.wrap IntKind.signed IntKind.bits
  simp
  omega
theorem w64_in (x : Int) : inI64 (w64 x) := by
  unfold w64 IntKind.wrap IntKind.signed IntKind.bits inI64
  simp
  omega
theorem wu32_in (x : Int) : 0 ≤ wu32 x ∧ wu32 x ≤ 4294967295 := by
  unfold wu32 IntKind.wrap IntKind.signed IntKind.bits
  simp
  omega
theorem tdiv_pos {a b : Int} (h : 0 ≤ a) : Int.tdiv a b = a / b := Int.tdiv_eq_ediv_of_nonneg h
theorem tmod_pos {a b : Int} (h : 0 ≤ a) : Int.tmod a b = a % b := Int.tmod_eq_emod_of_nonneg h
theorem mul_le {a b m n : Int} (ha : 0 ≤ a) (hb : 0 ≤ b) (h1 : a ≤ m) (h2 : b ≤ n) : a * b ≤ m * n :=
  Int.mul_le_mul h1 h2 hb (by omega)
theorem mul_nn {a b : Int} (ha : 0 ≤ a) (hb : 0 ≤ b) : 0 ≤ a * b := Int.mul_nonneg ha hb
theorem fuel_eq : fuel = 4611686018427387904 := by unfold fuel; rfl
theorem rd_set {α : Type} [Inhabited α] {L : List α} {i c : Int} {v : α} (h0 : 0 ≤ i) (h1 : i < L.length) (c0 : 0 ≤ c) : rd (List.set L i.toNat v) c = if c = i then v else rd L c := by
  unfold rd
  by_cases hc : c = i
  · subst hc; rw [if_pos rfl]; simp [List.getD, show c.toNat < L.length by omega]
  · rw [if_neg hc]
    have : i.toNat ≠ c.toNat := by omega
    simp [List.getD, this]
theorem rd_append {α : Type} [Inhabited α] {L : List α} {v : α} {c : Int} (c0 : 0 ≤ c) (h : c ≤ L.length) : rd (L ++ [v]) c = if c = L.length then v else rd L c := by
  unfold rd
  by_cases hc : c = L.length
  · rw [if_pos hc, hc]; simp [List.getD]
  · rw [if_neg hc]
    simp [List.getD, List.getElem?_append_left (show c.toNat < L.length by omega)]
theorem rd_rep {α : Type} [Inhabited α] {n : Nat} {v : α} {c : Int} (c0 : 0 ≤ c) (h : c < n) : rd (List.replicate n v) c = v := by
  unfold rd
  simp [List.getD, show c.toNat < n by omega]

/-- a small number out of a great one -/
theorem within_f {n lo hi : Int} (hlo : -4611686018427387904 ≤ lo) (hhi : hi ≤ 4611686018427387904) (hle : lo ≤ hi) (hn : hi - lo ≤ 4611686018427387904) : ref1_Within.f n lo hi = some (lo + n % (hi - lo + 1)) := by
  unfold ref1_Within.f
  rw [w64_id (x := hi - lo) (by omega) (by omega), w64_id (x := hi - lo + 1) (by omega) (by omega), if_pos (by omega)]
  generalize hm : hi - lo + 1 = m
  have hm0 : 0 < m := by omega
  have h1 : 0 ≤ n % m := Int.emod_nonneg _ (by omega)
  have h2 : n % m < m := Int.emod_lt_of_pos _ hm0
  by_cases hn0 : 0 ≤ n
  · rw [tmod_pos hn0, if_neg (by omega), w64_id (by omega) (by omega)]
  · have ha : Int.tmod n m = if n % m = 0 then 0 else n % m - m := by
      rw [Int.tmod_eq_emod]
      have hd : (m ∣ n) ↔ n % m = 0 := ⟨Int.emod_eq_zero_of_dvd, Int.dvd_of_emod_eq_zero⟩
      by_cases h0 : n % m = 0
      · simp [h0, hd]
      · simp [h0, hd, hn0]; omega
    rw [ha]
    by_cases h0 : n % m = 0
    · rw [if_pos h0, if_neg (by omega), w64_id (by omega) (by omega), h0]
    · rw [if_neg h0, if_pos (by omega), w64_id (x := _ + hi) (by omega) (by omega), w64_id (x := _ - lo) (by omega) (by omega), w64_id (x := _ + 1) (by omega) (by omega), w64_id (by omega) (by omega)]
      congr 1; omega
theorem within_in {n lo hi : Int} (hle : lo ≤ hi) : lo ≤ lo + n % (hi - lo + 1) ∧ lo + n % (hi - lo + 1) ≤ hi := by
  have h1 : 0 ≤ n % (hi - lo + 1) := Int.emod_nonneg _ (by omega)
  have h2 : n % (hi - lo + 1) < hi - lo + 1 := Int.emod_lt_of_pos _ (by omega)
  omega
end Go.Proofs.Ytmfonhkkkfmpdaa
