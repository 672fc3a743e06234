import Derived.Test.YtmddmofncblfpaaFwhere
import Derived.Test.YtmddmofncblfpaaFref1
namespace Go.Proofs.Ytmddmofncblfpaa
open Go.Hx

theorem w64_id {x : Int} (h1 : -9223372036854775808 ≤ x) (h2 : x ≤ 9223372036854775807) : w64 x = x := by
  unfold w64 IntKind.wrap IntKind.signed IntKind.bits
  simp
  omega
theorem w64_in (x : Int) : inI64 (w64 x) := by
  unfold w64 IntKind.wrap IntKind.signed IntKind.bits inI64
  simp
  omega

theorem tdiv_pos {a b : Int} (h : 0 ≤ a) : Int.tdiv a b = a / b := Int.tdiv_eq_ediv_of_nonneg h
theorem tmod_pos {a b : Int} (h : 0 ≤ a) : Int.tmod a b = a % b := Int.tmod_eq_emod_of_nonneg h

/-- there may be a map of that size -/
abbrev MayS (w h : Int) : Prop := 1 ≤ w ∧ w ≤ 1024 ∧ 1 ≤ h ∧ h ≤ 1024
/-- there is such a cell -/
abbrev CellS (w h c : Int) : Prop := MayS w h ∧ 0 ≤ c ∧ c < w * h

theorem mul_le {a b m n : Int} (ha : 0 ≤ a) (hb : 0 ≤ b) (h1 : a ≤ m) (h2 : b ≤ n) : a * b ≤ m * n :=
  Int.mul_le_mul h1 h2 hb (by omega)
theorem mul_nn {a b : Int} (ha : 0 ≤ a) (hb : 0 ≤ b) : 0 ≤ a * b := Int.mul_nonneg ha hb
theorem may_prod {w h : Int} (hm : MayS w h) : 1 ≤ w * h ∧ w * h ≤ 1048576 := by
  obtain ⟨a, b, c, d⟩ := hm
  have h1 : w * h ≤ 1024 * 1024 := mul_le (by omega) (by omega) b d
  have h2 : 1 * 1 ≤ w * h := Int.mul_le_mul a c (by omega) (by omega)
  omega

theorem may_f (w h : Int) : where_May.f w h = some (decide (MayS w h)) := by
  unfold where_May.f
  congr 1
  simp only [MayS]
  rw [Bool.eq_iff_iff]
  simp
  omega
theorem in_f (n lo hi : Int) : ref1_In.f n lo hi = some (decide (lo ≤ n ∧ n ≤ hi)) := by
  unfold ref1_In.f
  congr 1
  rw [Bool.eq_iff_iff]; simp
theorem rmay_f (w h : Int) : ref1_May.f w h = some (decide (MayS w h)) := by
  unfold ref1_May.f
  simp only [in_f, Option.bind_some, MayS]
  by_cases h1 : 1 ≤ w ∧ w ≤ 1024
  · simp [h1]
  · simp [h1]; omega

def sSectors (w h : Int) : Int × Int := if MayS w h then ((w + 15) / 16, (h + 15) / 16) else (0, 0)
theorem sectors_f (w h : Int) : where_Sectors.f w h = some (sSectors w h) := by
  unfold where_Sectors.f sSectors
  simp only [may_f, Option.bind_some]
  by_cases hm : MayS w h
  · rw [decide_eq_true hm, if_pos hm, if_neg (by simp)]
    obtain ⟨a, b, c, d⟩ := hm
    simp only [w64_id (x := w + 16) (by omega) (by omega), w64_id (x := h + 16) (by omega) (by omega), w64_id (x := w + 16 - 1) (by omega) (by omega), w64_id (x := h + 16 - 1) (by omega) (by omega),
      tdiv_pos (a := w + 16 - 1) (by omega), tdiv_pos (a := h + 16 - 1) (by omega), w64_id (x := (w + 16 - 1) / 16) (by omega) (by omega), w64_id (x := (h + 16 - 1) / 16) (by omega) (by omega)]
    congr 2 <;> omega
  · simp [hm]
theorem rsectors_f (w h : Int) : ref1_Sectors.f w h = some (sSectors w h) := by
  rw [← sectors_f]
  unfold ref1_Sectors.f where_Sectors.f
  rw [rmay_f, may_f]

theorem sectors_in {w h : Int} (hm : MayS w h) : 1 ≤ (sSectors w h).1 ∧ (sSectors w h).1 ≤ 64 ∧ 1 ≤ (sSectors w h).2 ∧ (sSectors w h).2 ≤ 64 := by
  unfold sSectors
  rw [if_pos hm]
  obtain ⟨a, b, c, d⟩ := hm
  simp only
  omega
theorem sectors_le (w h : Int) : 0 ≤ (sSectors w h).1 ∧ (sSectors w h).1 ≤ 64 ∧ 0 ≤ (sSectors w h).2 ∧ (sSectors w h).2 ≤ 64 := by
  by_cases hm : MayS w h
  · have := sectors_in hm; omega
  · unfold sSectors; rw [if_neg hm]; simp

def sCount (w h : Int) : Int := (sSectors w h).1 * (sSectors w h).2
theorem count_in (w h : Int) : 0 ≤ sCount w h ∧ sCount w h ≤ 4096 := by
  obtain ⟨a, b, c, d⟩ := sectors_le w h
  have h1 : sCount w h ≤ 64 * 64 := mul_le a c b d
  have h2 : 0 ≤ sCount w h := mul_nn a c
  omega
theorem count_pos {w h : Int} (hm : MayS w h) : 1 ≤ sCount w h := by
  obtain ⟨a, b, c, d⟩ := sectors_in hm
  have h2 : 1 * 1 ≤ sCount w h := Int.mul_le_mul a c (by omega) (by omega)
  omega
/-- where a sector begins -/
abbrev SecS (w h s : Int) : Prop := 0 ≤ s ∧ s < sCount w h
def sCorner (w h s : Int) : Int × Int × Bool := if SecS w h s then (16 * (s % (sSectors w h).1), 16 * (s / (sSectors w h).1), true) else (0, 0, false)
theorem sec_may {w h s : Int} (hs : SecS w h s) : MayS w h := by
  by_cases hm : MayS w h
  · exact hm
  · have : sCount w h = 0 := by unfold sCount sSectors; rw [if_neg hm]; simp
    obtain ⟨a, b⟩ := hs
    omega
theorem sec_parts {w h s : Int} (hs : SecS w h s) : 0 ≤ s % (sSectors w h).1 ∧ s % (sSectors w h).1 < (sSectors w h).1 ∧ 0 ≤ s / (sSectors w h).1 ∧ s / (sSectors w h).1 < (sSectors w h).2 := by
  obtain ⟨a, b, c, d⟩ := sectors_in (sec_may hs)
  obtain ⟨h0, h1⟩ := hs
  refine ⟨Int.emod_nonneg _ (by omega), Int.emod_lt_of_pos _ (by omega), Int.ediv_nonneg h0 (by omega), ?_⟩
  unfold sCount at h1
  exact Int.ediv_lt_of_lt_mul (by omega) (by rw [Int.mul_comm]; exact h1)
def sSize (w h s : Int) : Int × Int := if SecS w h s then (min 16 (w - 16 * (s % (sSectors w h).1)), min 16 (h - 16 * (s / (sSectors w h).1))) else (0, 0)
theorem sec_room {w h s : Int} (hs : SecS w h s) : 16 * (s % (sSectors w h).1) < w ∧ 16 * (s / (sSectors w h).1) < h := by
  have hm := sec_may hs
  obtain ⟨p1, p2, p3, p4⟩ := sec_parts hs
  have e1 : (sSectors w h).1 = (w + 15) / 16 := by unfold sSectors; rw [if_pos hm]
  have e2 : (sSectors w h).2 = (h + 15) / 16 := by unfold sSectors; rw [if_pos hm]
  generalize s % (sSectors w h).1 = x at *
  generalize s / (sSectors w h).1 = y at *
  omega
theorem min16 (x : Int) : (if x < 16 then x else 16) = min 16 x := by
  rw [Int.min_def]; split <;> split <;> omega
theorem size_in {w h s : Int} (hs : SecS w h s) : 1 ≤ (sSize w h s).1 ∧ (sSize w h s).1 ≤ 16 ∧ 1 ≤ (sSize w h s).2 ∧ (sSize w h s).2 ≤ 16 := by
  obtain ⟨r1, r2⟩ := sec_room hs
  unfold sSize
  rw [if_pos hs]
  simp only
  omega
theorem size_le (w h s : Int) : 0 ≤ (sSize w h s).1 ∧ (sSize w h s).1 ≤ 16 ∧ 0 ≤ (sSize w h s).2 ∧ (sSize w h s).2 ≤ 16 := by
  by_cases hs : SecS w h s
  · have := size_in hs; omega
  · unfold sSize; rw [if_neg hs]; simp

def sCell (w h x y : Int) : Int := if MayS w h ∧ 0 ≤ x ∧ x < w ∧ 0 ≤ y ∧ y < h then y * w + x else -1
theorem cell_lt {w h x y : Int} (hx : 0 ≤ x) (hx2 : x < w) (hy : 0 ≤ y) (hy2 : y < h) : 0 ≤ y * w + x ∧ y * w + x < w * h := by
  have h1 : (y + 1) * w ≤ h * w := Int.mul_le_mul_of_nonneg_right (by omega) (by omega)
  have h2 : (y + 1) * w = y * w + w := by rw [Int.add_mul]; omega
  have h3 : 0 ≤ y * w := mul_nn hy (by omega)
  have h4 : h * w = w * h := Int.mul_comm _ _
  omega
theorem is_f (w h c : Int) : where_is.f w h c = some (decide (CellS w h c)) := by
  unfold where_is.f
  simp only [may_f, Option.bind_some]
  by_cases hm : MayS w h
  · have hp := may_prod hm
    rw [w64_id (by omega) (by omega)]
    simp [hm]
  · simp [hm]
theorem riscell_f (w h c : Int) : ref1_IsCell.f w h c = some (decide (CellS w h c)) := by
  unfold ref1_IsCell.f
  simp only [rmay_f, Option.bind_some, in_f]
  by_cases hm : MayS w h
  · have hp := may_prod hm
    rw [w64_id (x := w * h) (by omega) (by omega), w64_id (x := w * h - 1) (by omega) (by omega)]
    rw [decide_eq_true hm, if_pos rfl]
    simp only [Option.bind_some]
    congr 1
    rw [Bool.eq_iff_iff]; simp [hm]; omega
  · simp [hm]

def sPlace (w h c : Int) : Int × Int := if CellS w h c then (c % w, c / w) else (-1, -1)
theorem place_in {w h c : Int} (hc : CellS w h c) : 0 ≤ c % w ∧ c % w < w ∧ 0 ≤ c / w ∧ c / w < h := by
  obtain ⟨⟨a, b, d, e⟩, h0, h1⟩ := hc
  exact ⟨Int.emod_nonneg _ (by omega), Int.emod_lt_of_pos _ (by omega), Int.ediv_nonneg h0 (by omega), Int.ediv_lt_of_lt_mul (by omega) (by rw [Int.mul_comm]; exact h1)⟩
theorem place_f (w h c : Int) : where_Place.f w h c = some (sPlace w h c) := by
  unfold where_Place.f sPlace
  simp only [is_f, Option.bind_some]
  by_cases hc : CellS w h c
  · have hp := place_in hc
    have hm := hc.1
    have hne : ¬ w = 0 := by obtain ⟨a, _⟩ := hm; omega
    rw [if_neg (by simp [hc]), if_pos hne, if_pos hne, if_pos hc, tmod_pos hc.2.1, tdiv_pos hc.2.1]
    obtain ⟨a, b, d, e⟩ := hm
    rw [w64_id (by omega) (by omega)]
  · simp [hc]
theorem place_neg {w h c : Int} : (sPlace w h c).1 < 0 ↔ ¬ CellS w h c := by
  unfold sPlace
  by_cases hc : CellS w h c
  · have := place_in hc
    rw [if_pos hc]; exact ⟨fun h => by simp only at h; omega, fun h => absurd hc h⟩
  · rw [if_neg hc]; simp [hc]

def sSector (w h c : Int) : Int := if CellS w h c then c / w / 16 * (sSectors w h).1 + c % w / 16 else -1
theorem sec_of {w h c : Int} (hc : CellS w h c) : 0 ≤ c % w / 16 ∧ c % w / 16 < (sSectors w h).1 ∧ 0 ≤ c / w / 16 ∧ c / w / 16 < (sSectors w h).2 := by
  have hp := place_in hc
  have e1 : (sSectors w h).1 = (w + 15) / 16 := by unfold sSectors; rw [if_pos hc.1]
  have e2 : (sSectors w h).2 = (h + 15) / 16 := by unfold sSectors; rw [if_pos hc.1]
  rw [e1, e2]
  generalize c % w = x at *
  generalize c / w = y at *
  omega
theorem sector_in {w h c : Int} (hc : CellS w h c) : SecS w h (c / w / 16 * (sSectors w h).1 + c % w / 16) := by
  obtain ⟨a, b, d, e⟩ := sec_of hc
  have := cell_lt a b d e
  unfold SecS sCount
  exact this
theorem sector_f (w h c : Int) : where_Sector.f w h c = some (sSector w h c) := by
  unfold where_Sector.f sSector
  simp only [place_f, Option.bind_some]
  by_cases hc : CellS w h c
  · rw [if_neg (by rw [place_neg]; simp [hc]), sectors_f]
    simp only [Option.bind_some, sPlace]
    rw [if_pos hc, if_pos hc]
    have hp := place_in hc
    obtain ⟨a, b, d, e⟩ := sec_of hc
    obtain ⟨m1, m2, m3, m4⟩ := sectors_in hc.1
    have hs := sector_in hc
    have hk := count_in w h
    obtain ⟨s1, s2⟩ := hs
    have h5 : 0 ≤ c / w / 16 * (sSectors w h).1 := mul_nn d (by omega)
    simp only
    rw [tdiv_pos hp.2.2.1, tdiv_pos hp.1, w64_id (x := c / w / 16) (by omega) (by omega), w64_id (x := c % w / 16) (by omega) (by omega), w64_id (x := _ * _) (by omega) (by omega), w64_id (by omega) (by omega)]
  · rw [if_pos (by rw [place_neg]; exact hc), if_neg hc]
theorem rsector_f (w h c : Int) : ref1_Sector.f w h c = some (sSector w h c) := by
  unfold ref1_Sector.f sSector
  simp only [riscell_f, rsectors_f, Option.bind_some]
  by_cases hc : CellS w h c
  · have hne : ¬ w = 0 := by obtain ⟨⟨a, _⟩, _⟩ := hc; omega
    rw [if_neg (by simp [hc]), if_pos hne, if_pos hne, if_pos hc]
    have hp := place_in hc
    obtain ⟨a, b, d, e⟩ := sec_of hc
    obtain ⟨m1, m2, m3, m4⟩ := sectors_in hc.1
    have hs := sector_in hc
    have hk := count_in w h
    obtain ⟨q1, q2, q3, q4⟩ := hc.1
    obtain ⟨s1, s2⟩ := hs
    have h5 : 0 ≤ c / w / 16 * (sSectors w h).1 := mul_nn d (by omega)
    rw [tdiv_pos hc.2.1, tmod_pos hc.2.1, w64_id (x := c / w) (by omega) (by omega), tdiv_pos hp.2.2.1, tdiv_pos hp.1, w64_id (x := c / w / 16) (by omega) (by omega), w64_id (x := c % w / 16) (by omega) (by omega),
      w64_id (x := _ * _) (by omega) (by omega), w64_id (by omega) (by omega)]
  · simp [hc]

/-- a sector's number, taken apart -/
theorem num_parts {a x y : Int} (h0 : 0 ≤ x) (h1 : x < a) : (y * a + x) % a = x ∧ (y * a + x) / a = y := by
  have ha : a ≠ 0 := by omega
  constructor
  · rw [Int.add_comm, Int.add_mul_emod_self_right]; exact Int.emod_eq_of_lt h0 h1
  · rw [Int.add_comm, Int.add_mul_ediv_right _ _ ha, Int.ediv_eq_zero_of_lt h0 h1]; omega

def sLocal (w h c : Int) : Int := if CellS w h c then c / w % 16 * (sSize w h (sSector w h c)).1 + c % w % 16 else -1
theorem local_w {w h c : Int} (hc : CellS w h c) : c % w % 16 < (sSize w h (sSector w h c)).1 ∧ c / w % 16 < (sSize w h (sSector w h c)).2 := by
  have hs := sector_in hc
  obtain ⟨a, b, d, e⟩ := sec_of hc
  have hn := num_parts (a := (sSectors w h).1) (x := c % w / 16) (y := c / w / 16) a b
  have hp := place_in hc
  unfold sSector
  rw [if_pos hc]
  unfold sSize
  rw [if_pos hs, hn.1, hn.2]
  simp only
  generalize c % w = x at *
  generalize c / w = y at *
  omega
theorem sector_neg {w h c : Int} : sSector w h c < 0 ↔ ¬ CellS w h c := by
  unfold sSector
  by_cases hc : CellS w h c
  · have := sector_in hc
    rw [if_pos hc]; exact ⟨fun h => by unfold SecS at this; omega, fun h => absurd hc h⟩
  · rw [if_neg hc]; simp [hc]
def sGlobal (w h s l : Int) : Int :=
  if SecS w h s ∧ 0 ≤ l ∧ l < (sSize w h s).1 * (sSize w h s).2 then (16 * (s / (sSectors w h).1) + l / (sSize w h s).1) * w + (16 * (s % (sSectors w h).1) + l % (sSize w h s).1) else -1
theorem global_parts {w h s l : Int} (hs : SecS w h s) (h0 : 0 ≤ l) (h1 : l < (sSize w h s).1 * (sSize w h s).2) :
    0 ≤ l % (sSize w h s).1 ∧ l % (sSize w h s).1 < (sSize w h s).1 ∧ 0 ≤ l / (sSize w h s).1 ∧ l / (sSize w h s).1 < (sSize w h s).2 ∧
    16 * (s % (sSectors w h).1) + l % (sSize w h s).1 < w ∧ 16 * (s / (sSectors w h).1) + l / (sSize w h s).1 < h := by
  obtain ⟨z1, z2, z3, z4⟩ := size_in hs
  have a1 : 0 ≤ l % (sSize w h s).1 := Int.emod_nonneg _ (by omega)
  have a2 : l % (sSize w h s).1 < (sSize w h s).1 := Int.emod_lt_of_pos _ (by omega)
  have a3 : 0 ≤ l / (sSize w h s).1 := Int.ediv_nonneg h0 (by omega)
  have a4 : l / (sSize w h s).1 < (sSize w h s).2 := Int.ediv_lt_of_lt_mul (by omega) (by rw [Int.mul_comm]; exact h1)
  refine ⟨a1, a2, a3, a4, ?_, ?_⟩
  · have : (sSize w h s).1 ≤ w - 16 * (s % (sSectors w h).1) := by unfold sSize; rw [if_pos hs]; simp only; omega
    omega
  · have : (sSize w h s).2 ≤ h - 16 * (s / (sSectors w h).1) := by unfold sSize; rw [if_pos hs]; simp only; omega
    omega
/-- a small number out of a great one -/
theorem within_f {n lo hi : Int} (hlo : -4611686018427387904 ≤ lo) (hhi : hi ≤ 4611686018427387904) (hle : lo ≤ hi) (hn : hi - lo ≤ 4611686018427387904) : ref1_Within.f n lo hi = some (lo + n % (hi - lo + 1)) := by
  unfold ref1_Within.f
  rw [w64_id (x := hi - lo) (by omega) (by omega), w64_id (x := hi - lo + 1) (by omega) (by omega), if_pos (by omega)]
  generalize hm : hi - lo + 1 = m
  have hm0 : 0 < m := by omega
  have h1 : 0 ≤ n % m := Int.emod_nonneg _ (by omega)
  have h2 : n % m < m := Int.emod_lt_of_pos _ hm0
  by_cases hn0 : 0 ≤ n
  · rw [tmod_pos hn0, if_neg (by omega), w64_id (by omega) (by omega)]
  · have ha : Int.tmod n m = if n % m = 0 then 0 else n % m - m := by
      rw [Int.tmod_eq_emod]
      have hd : (m ∣ n) ↔ n % m = 0 := ⟨Int.emod_eq_zero_of_dvd, Int.dvd_of_emod_eq_zero⟩
      by_cases h0 : n % m = 0
      · simp [h0, hd]
      · simp [h0, hd, hn0]; omega
    rw [ha]
    by_cases h0 : n % m = 0
    · rw [if_pos h0, if_neg (by omega), w64_id (by omega) (by omega), h0]
    · rw [if_neg h0, if_pos (by omega), w64_id (x := _ + hi) (by omega) (by omega), w64_id (x := _ - lo) (by omega) (by omega), w64_id (x := _ + 1) (by omega) (by omega), w64_id (by omega) (by omega)]
      congr 1; omega
theorem within_in {n lo hi : Int} (hle : lo ≤ hi) : lo ≤ lo + n % (hi - lo + 1) ∧ lo + n % (hi - lo + 1) ≤ hi := by
  have h1 : 0 ≤ n % (hi - lo + 1) := Int.emod_nonneg _ (by omega)
  have h2 : n % (hi - lo + 1) < hi - lo + 1 := Int.emod_lt_of_pos _ (by omega)
  omega
end Go.Proofs.Ytmddmofncblfpaa
