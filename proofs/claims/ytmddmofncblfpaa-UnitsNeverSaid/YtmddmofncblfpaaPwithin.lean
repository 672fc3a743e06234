import Derived.Test.YtmddmofncblfpaaFref1
namespace Go.Proofs.Ytmddmofncblfpaa
open Go.Hx

/-- a small number out of a great one -/
theorem within_f {n lo hi : Int} (hlo : -4611686018427387904 ≤ lo) (hhi : hi ≤ 4611686018427387904) (hle : lo ≤ hi) (hn : hi - lo ≤ 4611686018427387904) : ref1_Within.f n lo hi = some (lo + n % (hi - lo + 1)) := by
  unfold ref1_Within.f
  rw [wi (x := hi - lo) (by omega) (by omega), wi (x := hi - lo + 1) (by omega) (by omega), if_pos (by omega)]
  generalize hm : hi - lo + 1 = m
  have hm0 : 0 < m := by omega
  have h1 : 0 ≤ n % m := Int.emod_nonneg _ (by omega)
  have h2 : n % m < m := Int.emod_lt_of_pos _ hm0
  by_cases hn0 : 0 ≤ n
  · rw [Int.tmod_eq_emod_of_nonneg hn0, if_neg (by omega), wi (by omega) (by omega)]
  · have ha : Int.tmod n m = if n % m = 0 then 0 else n % m - m := by
      rw [Int.tmod_eq_emod]
      have hd : (m ∣ n) ↔ n % m = 0 := ⟨Int.emod_eq_zero_of_dvd, Int.dvd_of_emod_eq_zero⟩
      by_cases h0 : n % m = 0
      · simp [h0, hd]
      · simp [h0, hd, hn0]; omega
    rw [ha]
    by_cases h0 : n % m = 0
    · rw [if_pos h0, if_neg (by omega), wi (by omega) (by omega), h0]
    · rw [if_neg h0, if_pos (by omega), wi (x := _ + hi) (by omega) (by omega), wi (x := _ - lo) (by omega) (by omega), wi (x := _ + 1) (by omega) (by omega), wi (by omega) (by omega)]
      congr 1; omega
/-- .. as far as it matters -/
theorem within_x {n lo hi : Int} (hlo : -4611686018427387904 ≤ lo) (hhi : hi ≤ 4611686018427387904) (hle : lo ≤ hi) (hn : hi - lo ≤ 4611686018427387904) : ∃ v, ref1_Within.f n lo hi = some v ∧ lo ≤ v ∧ v ≤ hi := by
  refine ⟨_, within_f hlo hhi hle hn, ?_⟩
  have h1 : 0 ≤ n % (hi - lo + 1) := Int.emod_nonneg _ (by omega)
  have h2 : n % (hi - lo + 1) < hi - lo + 1 := Int.emod_lt_of_pos _ (by omega)
  omega
end Go.Proofs.Ytmddmofncblfpaa
