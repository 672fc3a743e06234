import Derived.Test.YtnkdnecilkafhaaDoorFwhere
import Derived.Test.YtnkdnecilkafhaaDoorFref1
namespace Go.Proofs.YtnkdnecilkafhaaDoor
open Go.Hx

theorem w64_id {x : Int} (h1 : -9223372036854775808 ≤ x) (h2 : x ≤ 9223372036854775807) : w64 x = x := by
  unfold w64 IntKind.wrap IntKind.signed IntKind.bits
  simp
  omega
theorem w64_in (x : Int) : inI64 (w64 x) := by
  unfold w64 IntKind.wrap IntKind.signed IntKind.bits inI64
  simp
  omega

theorem tdiv_pos {a b : Int} (h : 0 ≤ a) : Int.tdiv a b = a / b := Int.tdiv_eq_ediv_of_nonneg h
theorem tmod_pos {a b : Int} (h : 0 ≤ a) : Int.tmod a b = a % b := Int.tmod_eq_emod_of_nonneg h

/-- there may be a map of that size -/
abbrev MayS (w h : Int) : Prop := 1 ≤ w ∧ w ≤ 1024 ∧ 1 ≤ h ∧ h ≤ 1024
/-- there is such a cell -/
abbrev CellS (w h c : Int) : Prop := MayS w h ∧ 0 ≤ c ∧ c < w * h

theorem mul_le {a b m n : Int} (ha : 0 ≤ a) (hb : 0 ≤ b) (h1 : a ≤ m) (h2 : b ≤ n) : a * b ≤ m * n :=
  Int.mul_le_mul h1 h2 hb (by omega)
theorem mul_nn {a b : Int} (ha : 0 ≤ a) (hb : 0 ≤ b) : 0 ≤ a * b := Int.mul_nonneg ha hb
theorem may_prod {w h : Int} (hm : MayS w h) : 1 ≤ w * h ∧ w * h ≤ 1048576 := by
  obtain ⟨a, b, c, d⟩ := hm
  have h1 : w * h ≤ 1024 * 1024 := mul_le (by omega) (by omega) b d
  have h2 : 1 * 1 ≤ w * h := Int.mul_le_mul a c (by omega) (by omega)
  omega

theorem may_f (w h : Int) : where_May.f w h = some (decide (MayS w h)) := by
  unfold where_May.f
  congr 1
  simp only [MayS]
  rw [Bool.eq_iff_iff]
  simp
  omega
theorem in_f (n lo hi : Int) : ref1_In.f n lo hi = some (decide (lo ≤ n ∧ n ≤ hi)) := by
  unfold ref1_In.f
  congr 1
  rw [Bool.eq_iff_iff]; simp
theorem rmay_f (w h : Int) : ref1_May.f w h = some (decide (MayS w h)) := by
  unfold ref1_May.f
  simp only [in_f, Option.bind_some, MayS]
  by_cases h1 : 1 ≤ w ∧ w ≤ 1024
  · simp [h1]
  · simp [h1]; omega

def sSectors (w h : Int) : Int × Int := if MayS w h then ((w + 15) / 16, (h + 15) / 16) else (0, 0)
theorem sectors_f (w h : Int) : where_Sectors.f w h = some (sSectors w h) := by
  unfold where_Sectors.f sSectors
  simp only [may_f, Option.bind_some]
  by_cases hm : MayS w h
  · rw [decide_eq_true hm, if_pos hm, if_neg (by simp)]
    obtain ⟨a, b, c, d⟩ := hm
    simp only [w64_id (x := w + 16) (by omega) (by omega), w64_id (x := h + 16) (by omega) (by omega), w64_id (x := w + 16 - 1) (by omega) (by omega), w64_id (x := h + 16 - 1) (by omega) (by omega),
      tdiv_pos (a := w + 16 - 1) (by omega), tdiv_pos (a := h + 16 - 1) (by omega), w64_id (x := (w + 16 - 1) / 16) (by omega) (by omega), w64_id (x := (h + 16 - 1) / 16) (by omega) (by omega)]
    congr 2 <;> omega
  · simp [hm]
theorem rsectors_f (w h : Int) : ref1_Sectors.f w h = some (sSectors w h) := by
  rw [← sectors_f]
  unfold ref1_Sectors.f where_Sectors.f
  rw [rmay_f, may_f]

theorem sectors_in {w h : Int} (hm : MayS w h) : 1 ≤ (sSectors w h).1 ∧ (sSectors w h).1 ≤ 64 ∧ 1 ≤ (sSectors w h).2 ∧ (sSectors w h).2 ≤ 64 := by
  unfold sSectors
  rw [if_pos hm]
  obtain ⟨a, b, c, d⟩ := hm
  simp only
  omega
theorem sectors_le (w h : Int) : 0 ≤ (sSectors w h).1 ∧ (sSectors w h).1 ≤ 64 ∧ 0 ≤ (sSectors w h).2 ∧ (sSectors w h).2 ≤ 64 := by
  by_cases hm : MayS w h
  · have := sectors_in hm; omega
  · unfold sSectors; rw [if_neg hm]; simp

def sCount (w h : Int) : Int := (sSectors w h).1 * (sSectors w h).2
theorem count_in (w h : Int) : 0 ≤ sCount w h ∧ sCount w h ≤ 4096 := by
  obtain ⟨a, b, c, d⟩ := sectors_le w h
  have h1 : sCount w h ≤ 64 * 64 := mul_le a c b d
  have h2 : 0 ≤ sCount w h := mul_nn a c
  omega
theorem count_pos {w h : Int} (hm : MayS w h) : 1 ≤ sCount w h := by
  obtain ⟨a, b, c, d⟩ := sectors_in hm
  have h2 : 1 * 1 ≤ sCount w h := Int.mul_le_mul a c (by omega) (by omega)
  omega
theorem rcount_f (w h : Int) : ref1_Count.f w h = some (sCount w h) := by
  unfold ref1_Count.f
  have := count_in w h
  simp only [rsectors_f, Option.bind_some, sCount]
  unfold sCount at this
  rw [w64_id (by omega) (by omega)]

/-- where a sector begins -/
abbrev SecS (w h s : Int) : Prop := 0 ≤ s ∧ s < sCount w h
def sCorner (w h s : Int) : Int × Int × Bool := if SecS w h s then (16 * (s % (sSectors w h).1), 16 * (s / (sSectors w h).1), true) else (0, 0, false)
theorem sec_may {w h s : Int} (hs : SecS w h s) : MayS w h := by
  by_cases hm : MayS w h
  · exact hm
  · have : sCount w h = 0 := by unfold sCount sSectors; rw [if_neg hm]; simp
    obtain ⟨a, b⟩ := hs
    omega
theorem sec_parts {w h s : Int} (hs : SecS w h s) : 0 ≤ s % (sSectors w h).1 ∧ s % (sSectors w h).1 < (sSectors w h).1 ∧ 0 ≤ s / (sSectors w h).1 ∧ s / (sSectors w h).1 < (sSectors w h).2 := by
  obtain ⟨a, b, c, d⟩ := sectors_in (sec_may hs)
  obtain ⟨h0, h1⟩ := hs
  refine ⟨Int.emod_nonneg _ (by omega), Int.emod_lt_of_pos _ (by omega), Int.ediv_nonneg h0 (by omega), ?_⟩
  unfold sCount at h1
  exact Int.ediv_lt_of_lt_mul (by omega) (by rw [Int.mul_comm]; exact h1)
theorem corner_f (w h s : Int) : where_corner.f w h s = some (sCorner w h s) := by
  unfold where_corner.f sCorner
  simp only [sectors_f, Option.bind_some]
  have hc := count_in w h
  have hw : w64 ((sSectors w h).1 * (sSectors w h).2) = sCount w h := by unfold sCount at hc ⊢; exact w64_id (by omega) (by omega)
  rw [hw]
  by_cases hs : SecS w h s
  · have hb : ((decide (s < 0)) || (decide (s ≥ sCount w h))) = false := by
      obtain ⟨h0, h1⟩ := hs
      simp; omega
    rw [hb]
    obtain ⟨p1, p2, p3, p4⟩ := sec_parts hs
    obtain ⟨a, b, c, d⟩ := sectors_in (sec_may hs)
    have hne : ¬ (sSectors w h).1 = 0 := by omega
    rw [if_neg (by simp), if_pos hne, if_pos hne, if_pos hs, tmod_pos hs.1, tdiv_pos hs.1]
    rw [w64_id (x := s / (sSectors w h).1) (by omega) (by omega), w64_id (by omega) (by omega), w64_id (by omega) (by omega)]
    rw [Int.mul_comm 16, Int.mul_comm 16]
  · have hb : ((decide (s < 0)) || (decide (s ≥ sCount w h))) = true := by
      simp only [SecS] at hs
      simp; omega
    rw [hb, if_neg hs]; rfl

def sSize (w h s : Int) : Int × Int := if SecS w h s then (min 16 (w - 16 * (s % (sSectors w h).1)), min 16 (h - 16 * (s / (sSectors w h).1))) else (0, 0)
theorem sec_room {w h s : Int} (hs : SecS w h s) : 16 * (s % (sSectors w h).1) < w ∧ 16 * (s / (sSectors w h).1) < h := by
  have hm := sec_may hs
  obtain ⟨p1, p2, p3, p4⟩ := sec_parts hs
  have e1 : (sSectors w h).1 = (w + 15) / 16 := by unfold sSectors; rw [if_pos hm]
  have e2 : (sSectors w h).2 = (h + 15) / 16 := by unfold sSectors; rw [if_pos hm]
  generalize s % (sSectors w h).1 = x at *
  generalize s / (sSectors w h).1 = y at *
  omega
theorem min16 (x : Int) : (if x < 16 then x else 16) = min 16 x := by
  rw [Int.min_def]; split <;> split <;> omega
theorem size_f (w h s : Int) : where_Size.f w h s = some (sSize w h s) := by
  unfold where_Size.f sSize
  simp only [corner_f, Option.bind_some]
  unfold sCorner
  by_cases hs : SecS w h s
  · rw [if_pos hs, if_pos hs]
    obtain ⟨r1, r2⟩ := sec_room hs
    obtain ⟨p1, p2, p3, p4⟩ := sec_parts hs
    obtain ⟨a, b, c, d⟩ := sec_may hs
    rw [if_neg (by simp)]
    simp only
    rw [w64_id (x := w - _) (by omega) (by omega), w64_id (x := h - _) (by omega) (by omega), min16, min16]
  · rw [if_neg hs, if_neg hs]; rfl
theorem rsize_f (w h s : Int) : ref1_Size.f w h s = some (sSize w h s) := by
  unfold ref1_Size.f sSize
  have hc := count_in w h
  simp only [rcount_f, Option.bind_some, in_f, rsectors_f]
  rw [w64_id (x := sCount w h - 1) (by omega) (by omega)]
  by_cases hs : SecS w h s
  · have hb : decide (0 ≤ s ∧ s ≤ sCount w h - 1) = true := by obtain ⟨h0, h1⟩ := hs; simp; omega
    rw [hb, if_pos hs]
    obtain ⟨r1, r2⟩ := sec_room hs
    obtain ⟨p1, p2, p3, p4⟩ := sec_parts hs
    obtain ⟨a, b, c, d⟩ := sectors_in (sec_may hs)
    obtain ⟨m1, m2, m3, m4⟩ := sec_may hs
    have hne : ¬ (sSectors w h).1 = 0 := by omega
    rw [if_neg (by simp), if_pos hne, if_pos hne, tmod_pos hs.1, tdiv_pos hs.1]
    rw [w64_id (x := s / (sSectors w h).1) (by omega) (by omega), w64_id (x := 16 * (s % _)) (by omega) (by omega), w64_id (x := 16 * (s / _)) (by omega) (by omega),
      w64_id (x := w - _) (by omega) (by omega), w64_id (x := h - _) (by omega) (by omega), min16, min16]
  · have hb : decide (0 ≤ s ∧ s ≤ sCount w h - 1) = false := by simp only [SecS] at hs; simp; omega
    rw [hb, if_neg hs]; rfl
theorem size_in {w h s : Int} (hs : SecS w h s) : 1 ≤ (sSize w h s).1 ∧ (sSize w h s).1 ≤ 16 ∧ 1 ≤ (sSize w h s).2 ∧ (sSize w h s).2 ≤ 16 := by
  obtain ⟨r1, r2⟩ := sec_room hs
  unfold sSize
  rw [if_pos hs]
  simp only
  omega
theorem size_le (w h s : Int) : 0 ≤ (sSize w h s).1 ∧ (sSize w h s).1 ≤ 16 ∧ 0 ≤ (sSize w h s).2 ∧ (sSize w h s).2 ≤ 16 := by
  by_cases hs : SecS w h s
  · have := size_in hs; omega
  · unfold sSize; rw [if_neg hs]; simp

def sCell (w h x y : Int) : Int := if MayS w h ∧ 0 ≤ x ∧ x < w ∧ 0 ≤ y ∧ y < h then y * w + x else -1
theorem cell_lt {w h x y : Int} (hx : 0 ≤ x) (hx2 : x < w) (hy : 0 ≤ y) (hy2 : y < h) : 0 ≤ y * w + x ∧ y * w + x < w * h := by
  have h1 : (y + 1) * w ≤ h * w := Int.mul_le_mul_of_nonneg_right (by omega) (by omega)
  have h2 : (y + 1) * w = y * w + w := by rw [Int.add_mul]; omega
  have h3 : 0 ≤ y * w := mul_nn hy (by omega)
  have h4 : h * w = w * h := Int.mul_comm _ _
  omega
theorem cell_f (w h x y : Int) : where_Cell.f w h x y = some (sCell w h x y) := by
  unfold where_Cell.f sCell
  simp only [may_f, Option.bind_some]
  by_cases hc : MayS w h ∧ 0 ≤ x ∧ x < w ∧ 0 ≤ y ∧ y < h
  · obtain ⟨hm, h1, h2, h3, h4⟩ := hc
    have hb : (((((!decide (MayS w h)) || (decide (x < 0))) || (decide (x ≥ w))) || (decide (y < 0))) || (decide (y ≥ h))) = false := by
      simp [hm]; omega
    rw [hb, if_neg (by simp), if_pos ⟨hm, h1, h2, h3, h4⟩]
    have := cell_lt h1 h2 h3 h4
    have hp := may_prod hm
    have h5 : 0 ≤ y * w := mul_nn h3 (by omega)
    rw [w64_id (x := y * w) (by omega) (by omega), w64_id (by omega) (by omega)]
  · have hb : (((((!decide (MayS w h)) || (decide (x < 0))) || (decide (x ≥ w))) || (decide (y < 0))) || (decide (y ≥ h))) = true := by
      by_cases hm : MayS w h
      · have hc' : ¬ (0 ≤ x ∧ x < w ∧ 0 ≤ y ∧ y < h) := fun h => hc ⟨hm, h⟩
        simp [hm]; omega
      · simp [hm]
    rw [hb, if_neg hc]; rfl

def sPlace (w h c : Int) : Int × Int := if CellS w h c then (c % w, c / w) else (-1, -1)
theorem place_in {w h c : Int} (hc : CellS w h c) : 0 ≤ c % w ∧ c % w < w ∧ 0 ≤ c / w ∧ c / w < h := by
  obtain ⟨⟨a, b, d, e⟩, h0, h1⟩ := hc
  exact ⟨Int.emod_nonneg _ (by omega), Int.emod_lt_of_pos _ (by omega), Int.ediv_nonneg h0 (by omega), Int.ediv_lt_of_lt_mul (by omega) (by rw [Int.mul_comm]; exact h1)⟩
theorem place_neg {w h c : Int} : (sPlace w h c).1 < 0 ↔ ¬ CellS w h c := by
  unfold sPlace
  by_cases hc : CellS w h c
  · have := place_in hc
    rw [if_pos hc]; exact ⟨fun h => by simp only at h; omega, fun h => absurd hc h⟩
  · rw [if_neg hc]; simp [hc]

def sSector (w h c : Int) : Int := if CellS w h c then c / w / 16 * (sSectors w h).1 + c % w / 16 else -1
theorem sec_of {w h c : Int} (hc : CellS w h c) : 0 ≤ c % w / 16 ∧ c % w / 16 < (sSectors w h).1 ∧ 0 ≤ c / w / 16 ∧ c / w / 16 < (sSectors w h).2 := by
  have hp := place_in hc
  have e1 : (sSectors w h).1 = (w + 15) / 16 := by unfold sSectors; rw [if_pos hc.1]
  have e2 : (sSectors w h).2 = (h + 15) / 16 := by unfold sSectors; rw [if_pos hc.1]
  rw [e1, e2]
  generalize c % w = x at *
  generalize c / w = y at *
  omega
theorem sector_in {w h c : Int} (hc : CellS w h c) : SecS w h (c / w / 16 * (sSectors w h).1 + c % w / 16) := by
  obtain ⟨a, b, d, e⟩ := sec_of hc
  have := cell_lt a b d e
  unfold SecS sCount
  exact this
/-- a sector's number, taken apart -/
theorem num_parts {a x y : Int} (h0 : 0 ≤ x) (h1 : x < a) : (y * a + x) % a = x ∧ (y * a + x) / a = y := by
  have ha : a ≠ 0 := by omega
  constructor
  · rw [Int.add_comm, Int.add_mul_emod_self_right]; exact Int.emod_eq_of_lt h0 h1
  · rw [Int.add_comm, Int.add_mul_ediv_right _ _ ha, Int.ediv_eq_zero_of_lt h0 h1]; omega

def sLocal (w h c : Int) : Int := if CellS w h c then c / w % 16 * (sSize w h (sSector w h c)).1 + c % w % 16 else -1
theorem local_w {w h c : Int} (hc : CellS w h c) : c % w % 16 < (sSize w h (sSector w h c)).1 ∧ c / w % 16 < (sSize w h (sSector w h c)).2 := by
  have hs := sector_in hc
  obtain ⟨a, b, d, e⟩ := sec_of hc
  have hn := num_parts (a := (sSectors w h).1) (x := c % w / 16) (y := c / w / 16) a b
  have hp := place_in hc
  unfold sSector
  rw [if_pos hc]
  unfold sSize
  rw [if_pos hs, hn.1, hn.2]
  simp only
  generalize c % w = x at *
  generalize c / w = y at *
  omega
theorem sector_neg {w h c : Int} : sSector w h c < 0 ↔ ¬ CellS w h c := by
  unfold sSector
  by_cases hc : CellS w h c
  · have := sector_in hc
    rw [if_pos hc]; exact ⟨fun h => by unfold SecS at this; omega, fun h => absurd hc h⟩
  · rw [if_neg hc]; simp [hc]
def sGlobal (w h s l : Int) : Int :=
  if SecS w h s ∧ 0 ≤ l ∧ l < (sSize w h s).1 * (sSize w h s).2 then (16 * (s / (sSectors w h).1) + l / (sSize w h s).1) * w + (16 * (s % (sSectors w h).1) + l % (sSize w h s).1) else -1
theorem global_parts {w h s l : Int} (hs : SecS w h s) (h0 : 0 ≤ l) (h1 : l < (sSize w h s).1 * (sSize w h s).2) :
    0 ≤ l % (sSize w h s).1 ∧ l % (sSize w h s).1 < (sSize w h s).1 ∧ 0 ≤ l / (sSize w h s).1 ∧ l / (sSize w h s).1 < (sSize w h s).2 ∧
    16 * (s % (sSectors w h).1) + l % (sSize w h s).1 < w ∧ 16 * (s / (sSectors w h).1) + l / (sSize w h s).1 < h := by
  obtain ⟨z1, z2, z3, z4⟩ := size_in hs
  have a1 : 0 ≤ l % (sSize w h s).1 := Int.emod_nonneg _ (by omega)
  have a2 : l % (sSize w h s).1 < (sSize w h s).1 := Int.emod_lt_of_pos _ (by omega)
  have a3 : 0 ≤ l / (sSize w h s).1 := Int.ediv_nonneg h0 (by omega)
  have a4 : l / (sSize w h s).1 < (sSize w h s).2 := Int.ediv_lt_of_lt_mul (by omega) (by rw [Int.mul_comm]; exact h1)
  refine ⟨a1, a2, a3, a4, ?_, ?_⟩
  · have : (sSize w h s).1 ≤ w - 16 * (s % (sSectors w h).1) := by unfold sSize; rw [if_pos hs]; simp only; omega
    omega
  · have : (sSize w h s).2 ≤ h - 16 * (s / (sSectors w h).1) := by unfold sSize; rw [if_pos hs]; simp only; omega
    omega
theorem global_f (w h s l : Int) : where_Global.f w h s l = some (sGlobal w h s l) := by
  unfold where_Global.f sGlobal
  simp only [corner_f, Option.bind_some, size_f, cell_f]
  have hz := size_le w h s
  have hz1 : (sSize w h s).1 * (sSize w h s).2 ≤ 16 * 16 := mul_le hz.1 hz.2.2.1 hz.2.1 hz.2.2.2
  have hz2 : 0 ≤ (sSize w h s).1 * (sSize w h s).2 := mul_nn hz.1 hz.2.2.1
  rw [w64_id (x := _ * (sSize w h s).2) (by omega) (by omega)]
  by_cases hs : SecS w h s
  · unfold sCorner
    rw [if_pos hs]
    by_cases hl : 0 ≤ l ∧ l < (sSize w h s).1 * (sSize w h s).2
    · obtain ⟨a1, a2, a3, a4, a5, a6⟩ := global_parts hs hl.1 hl.2
      obtain ⟨z1, z2, z3, z4⟩ := size_in hs
      obtain ⟨m1, m2, m3, m4⟩ := sec_may hs
      obtain ⟨p1, p2, p3, p4⟩ := sec_parts hs
      have hne : ¬ (sSize w h s).1 = 0 := by omega
      rw [if_neg (by simp; omega), if_pos hne, if_pos hne, if_pos (c := SecS w h s ∧ _) ⟨hs, hl⟩]
      simp only
      rw [tmod_pos hl.1, tdiv_pos hl.1, w64_id (x := l / _) (by omega) (by omega), w64_id (x := _ + l % _) (by omega) (by omega), w64_id (x := _ + l / _) (by omega) (by omega)]
      unfold sCell
      rw [if_pos ⟨⟨m1, m2, m3, m4⟩, by omega, a5, by omega, a6⟩]
    · rw [if_pos (by simp; omega), if_neg (fun h => hl h.2)]
  · unfold sCorner
    rw [if_neg hs, if_pos (by simp), if_neg (c := SecS w h s ∧ _) (fun h => hs h.1)]
theorem rglobal_f (w h s l : Int) : ref1_Global.f w h s l = some (sGlobal w h s l) := by
  unfold ref1_Global.f sGlobal
  simp only [rsize_f, Option.bind_some, in_f, rsectors_f]
  have hz := size_le w h s
  have hz1 : (sSize w h s).1 * (sSize w h s).2 ≤ 16 * 16 := mul_le hz.1 hz.2.2.1 hz.2.1 hz.2.2.2
  have hz2 : 0 ≤ (sSize w h s).1 * (sSize w h s).2 := mul_nn hz.1 hz.2.2.1
  rw [w64_id (x := _ * (sSize w h s).2) (by omega) (by omega), w64_id (x := _ * (sSize w h s).2 - 1) (by omega) (by omega)]
  by_cases hs : SecS w h s
  · by_cases hl : 0 ≤ l ∧ l < (sSize w h s).1 * (sSize w h s).2
    · obtain ⟨a1, a2, a3, a4, a5, a6⟩ := global_parts hs hl.1 hl.2
      obtain ⟨z1, z2, z3, z4⟩ := size_in hs
      obtain ⟨m1, m2, m3, m4⟩ := sec_may hs
      obtain ⟨p1, p2, p3, p4⟩ := sec_parts hs
      obtain ⟨s1, s2, s3, s4⟩ := sectors_in (sec_may hs)
      have hne : ¬ (sSize w h s).1 = 0 := by omega
      have hne2 : ¬ (sSectors w h).1 = 0 := by omega
      rw [if_neg (by simp; omega), if_pos (c := SecS w h s ∧ _) ⟨hs, hl⟩, if_pos hne2, if_pos hne, if_pos hne2, if_pos hne, tmod_pos hl.1, tdiv_pos hl.1, tmod_pos hs.1, tdiv_pos hs.1]
      have hg := cell_lt (w := w) (h := h) (x := 16 * (s % (sSectors w h).1) + l % (sSize w h s).1) (y := 16 * (s / (sSectors w h).1) + l / (sSize w h s).1) (by omega) a5 (by omega) a6
      have hq : 0 ≤ (16 * (s / (sSectors w h).1) + l / (sSize w h s).1) * w := mul_nn (by omega) (by omega)
      have hp := may_prod (sec_may hs)
      rw [w64_id (x := l / _) (by omega) (by omega), w64_id (x := s / _) (by omega) (by omega), w64_id (x := 16 * (s / _)) (by omega) (by omega), w64_id (x := 16 * (s / _) + _) (by omega) (by omega),
        w64_id (x := _ * w) (by omega) (by omega), w64_id (x := 16 * (s % _)) (by omega) (by omega), w64_id (x := _ * w + _) (by omega) (by omega), w64_id (by omega) (by omega)]
      congr 1; omega
    · rw [if_pos (by simp; omega), if_neg (fun h => hl h.2)]
  · have h1 : (sSize w h s).1 = 0 := by unfold sSize; rw [if_neg hs]
    rw [if_pos (by simp [h1]; omega), if_neg (fun h => hs h.1)]

/-- a small number out of a great one -/
theorem within_f {n lo hi : Int} (hlo : -4611686018427387904 ≤ lo) (hhi : hi ≤ 4611686018427387904) (hle : lo ≤ hi) (hn : hi - lo ≤ 4611686018427387904) : ref1_Within.f n lo hi = some (lo + n % (hi - lo + 1)) := by
  unfold ref1_Within.f
  rw [w64_id (x := hi - lo) (by omega) (by omega), w64_id (x := hi - lo + 1) (by omega) (by omega), if_pos (by omega)]
  generalize hm : hi - lo + 1 = m
  have hm0 : 0 < m := by omega
  have h1 : 0 ≤ n % m := Int.emod_nonneg _ (by omega)
  have h2 : n % m < m := Int.emod_lt_of_pos _ hm0
  by_cases hn0 : 0 ≤ n
  · rw [tmod_pos hn0, if_neg (by omega), w64_id (by omega) (by omega)]
  · have ha : Int.tmod n m = if n % m = 0 then 0 else n % m - m := by
      rw [Int.tmod_eq_emod]
      have hd : (m ∣ n) ↔ n % m = 0 := ⟨Int.emod_eq_zero_of_dvd, Int.dvd_of_emod_eq_zero⟩
      by_cases h0 : n % m = 0
      · simp [h0, hd]
      · simp [h0, hd, hn0]; omega
    rw [ha]
    by_cases h0 : n % m = 0
    · rw [if_pos h0, if_neg (by omega), w64_id (by omega) (by omega), h0]
    · rw [if_neg h0, if_pos (by omega), w64_id (x := _ + hi) (by omega) (by omega), w64_id (x := _ - lo) (by omega) (by omega), w64_id (x := _ + 1) (by omega) (by omega), w64_id (by omega) (by omega)]
      congr 1; omega
theorem within_in {n lo hi : Int} (hle : lo ≤ hi) : lo ≤ lo + n % (hi - lo + 1) ∧ lo + n % (hi - lo + 1) ≤ hi := by
  have h1 : 0 ≤ n % (hi - lo + 1) := Int.emod_nonneg _ (by omega)
  have h2 : n % (hi - lo + 1) < hi - lo + 1 := Int.emod_lt_of_pos _ (by omega)
  omega
end Go.Proofs.YtnkdnecilkafhaaDoor
