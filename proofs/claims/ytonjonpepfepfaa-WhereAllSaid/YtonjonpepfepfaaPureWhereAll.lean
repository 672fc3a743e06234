/- All sectors together have all cells, each once: at any size up to 70 by 70. No condition. -/
import Derived.Test.YtonjonpepfepfaaFLWhereAll
import Derived.Test.YtonjonpepfepfaaPlaw1
import Derived.Test.YtonjonpepfepfaaPback
namespace Go.Proofs.Ytonjonpepfepfaa
open Go.Hx

theorem global_spec {w h s l : Int} (hs : SecS w h s) (h0 : 0 ≤ l) (h1 : l < (sSize w h s).1 * (sSize w h s).2) :
    CellS w h (sGlobal w h s l) ∧ sSector w h (sGlobal w h s l) = s ∧ sLocal w h (sGlobal w h s l) = l := by
  obtain ⟨a1, a2, a3, a4, a5, a6⟩ := global_parts hs h0 h1
  obtain ⟨z1, z2, z3, z4⟩ := size_in hs
  obtain ⟨p1, p2, p3, p4⟩ := sec_parts hs
  have hm := sec_may hs
  have e : sGlobal w h s l = (16 * (s / (sSectors w h).1) + l / (sSize w h s).1) * w + (16 * (s % (sSectors w h).1) + l % (sSize w h s).1) := by
    unfold sGlobal; rw [if_pos ⟨hs, h0, h1⟩]
  have hl := cell_lt (w := w) (h := h) (x := 16 * (s % (sSectors w h).1) + l % (sSize w h s).1) (y := 16 * (s / (sSectors w h).1) + l / (sSize w h s).1) (by omega) a5 (by omega) a6
  have n1 := num_parts (a := w) (x := 16 * (s % (sSectors w h).1) + l % (sSize w h s).1) (y := 16 * (s / (sSectors w h).1) + l / (sSize w h s).1) (by omega) a5
  rw [← e] at hl n1
  have hc : CellS w h (sGlobal w h s l) := ⟨hm, hl.1, hl.2⟩
  have m1 := Int.mul_ediv_add_emod s (sSectors w h).1
  have m2 := Int.mul_ediv_add_emod l (sSize w h s).1
  have e2 : sSector w h (sGlobal w h s l) = s := by
    unfold sSector
    rw [if_pos hc, n1.1, n1.2]
    have d1 : (16 * (s / (sSectors w h).1) + l / (sSize w h s).1) / 16 = s / (sSectors w h).1 := by omega
    have d2 : (16 * (s % (sSectors w h).1) + l % (sSize w h s).1) / 16 = s % (sSectors w h).1 := by omega
    rw [d1, d2, Int.mul_comm]; omega
  refine ⟨hc, e2, ?_⟩
  unfold sLocal
  rw [if_pos hc, n1.1, n1.2, e2]
  have d1 : (16 * (s / (sSectors w h).1) + l / (sSize w h s).1) % 16 = l / (sSize w h s).1 := by omega
  have d2 : (16 * (s % (sSectors w h).1) + l % (sSize w h s).1) % 16 = l % (sSize w h s).1 := by omega
  rw [d1, d2, Int.mul_comm]; omega

/-- the cells up to a local number of a sector are marked, and no other ones -/
def Marks (w h : Int) (L : List Bool) (s t : Int) : Prop :=
  (L.length : Int) = w * h ∧ ∀ c, 0 ≤ c → c < w * h → (rd L c = true ↔ (sSector w h c < s ∨ (sSector w h c = s ∧ sLocal w h c < t)))
theorem rd_set {L : List Bool} {i c : Int} {v : Bool} (h0 : 0 ≤ i) (h1 : i < L.length) (c0 : 0 ≤ c) : rd (List.set L i.toNat v) c = if c = i then v else rd L c := by
  unfold rd
  by_cases hc : c = i
  · subst hc; rw [if_pos rfl]; simp [List.getD, show c.toNat < L.length by omega]
  · rw [if_neg hc]
    have : i.toNat ≠ c.toNat := by omega
    simp [List.getD, this]
theorem count_set {L : List Bool} {i : Int} (h0 : 0 ≤ i) (h1 : i < L.length) (hf : rd L i = false) : (List.count true (List.set L i.toNat true)) = List.count true L + 1 := by
  have hn : i.toNat < L.length := by omega
  rw [rd_eq hn] at hf
  rw [List.count_set hn, hf]; simp
theorem marks_next {w h : Int} {L : List Bool} {s : Int} (hm : Marks w h L s ((sSize w h s).1 * (sSize w h s).2)) (hw : MayS w h) : Marks w h L (s + 1) 0 := by
  refine ⟨hm.1, fun c c0 c1 => ?_⟩
  have hc : CellS w h c := ⟨hw, c0, c1⟩
  rw [hm.2 c c0 c1]
  have := local_in hc
  constructor
  · rintro (h1 | ⟨h1, h2⟩)
    · left; omega
    · left; omega
  · rintro (h1 | ⟨h1, h2⟩)
    · by_cases h2 : sSector w h c < s
      · exact .inl h2
      · have h3 : sSector w h c = s := by omega
        rw [h3] at this
        exact .inr ⟨h3, this.2⟩
    · omega

theorem all_l1 {w h : Int} (hw : MayS w h) (s : Int) (hs : SecS w h s) : ∀ (n k : Nat) (L : List Bool) (m t : Int), t + n = (sSize w h s).1 * (sSize w h s).2 → 0 ≤ t → n < k → Marks w h L s t → m = (List.count true L : Nat) → m + n ≤ 2000000 →
    ∃ L', law1_WhereAll.l1 k w h s (sSize w h s) L m t = some (Sum.inr (L', m + n)) ∧ Marks w h L' s ((sSize w h s).1 * (sSize w h s).2) ∧ m + n = (List.count true L' : Nat) := by
  intro n
  have hz := size_in hs
  have hpr : (sSize w h s).1 * (sSize w h s).2 ≤ 16 * 16 := mul_le (by omega) (by omega) hz.2.1 hz.2.2.2
  have hp := may_prod hw
  induction n with
  | zero =>
    intro k L m t ht t0 hk hM hc _
    obtain ⟨k, rfl⟩ : ∃ q, k = q + 1 := ⟨k - 1, by omega⟩
    rw [law1_WhereAll.l1, w64_id (x := _ * _) (by omega) (by omega), if_neg (by omega)]
    have : t = (sSize w h s).1 * (sSize w h s).2 := by omega
    refine ⟨L, by simp, this ▸ hM, by simpa using hc⟩
  | succ n ih =>
    intro k L m t ht t0 hk hM hc hb
    obtain ⟨k, rfl⟩ : ∃ q, k = q + 1 := ⟨k - 1, by omega⟩
    rw [law1_WhereAll.l1, w64_id (x := (sSize w h s).1 * _) (by omega) (by omega), if_pos (by omega), global_f]
    obtain ⟨g1, g2, g3⟩ := global_spec hs t0 (by omega : t < (sSize w h s).1 * (sSize w h s).2)
    have c0 := g1.2.1
    have c1 := g1.2.2
    have hln : sGlobal w h s t < (L.length : Int) := by rw [hM.1]; exact c1
    have hnot : rd L (sGlobal w h s t) = false := by
      cases hr : rd L (sGlobal w h s t) with
      | false => rfl
      | true =>
        have := (hM.2 _ c0 c1).1 hr
        rw [g2, g3] at this; omega
    have e1 : (decide (sGlobal w h s t < 0) || decide (sGlobal w h s t ≥ w64 (w * h))) = false := by
      rw [w64_id (x := w * h) (by omega) (by omega)]
      simp; omega
    simp only [Option.bind_some, e1, Bool.false_eq_true, if_false, if_pos (And.intro c0 hln), hnot, sector_f, g2, bne_self_eq_false]
    rw [w64_id (x := t + 1) (by omega) (by omega), w64_id (x := m + 1) (by omega) (by omega)]
    have hc' := count_set c0 hln hnot
    obtain ⟨L', r1, r2, r3⟩ := ih k (List.set L (sGlobal w h s t).toNat true) (m + 1) (t + 1) (by omega) (by omega) (by omega)
      ⟨by rw [List.length_set]; exact hM.1, fun c d0 d1 => by
        rw [rd_set c0 hln d0]
        by_cases hcc : c = sGlobal w h s t
        · rw [if_pos hcc, hcc, g2, g3]; simp; omega
        · rw [if_neg hcc, hM.2 c d0 d1]
          constructor
          · rintro (h1 | ⟨h1, h2⟩)
            · exact .inl h1
            · exact .inr ⟨h1, by omega⟩
          · rintro (h1 | ⟨h1, h2⟩)
            · exact .inl h1
            · refine .inr ⟨h1, ?_⟩
              have : sLocal w h c ≠ t := by
                intro he
                apply hcc
                have hgl := global_local (w := w) (h := h) (c := c) ⟨hw, d0, d1⟩
                rw [h1, he] at hgl; exact hgl.symm
              omega⟩ (by rw [hc']; omega) (by omega)
    refine ⟨L', ?_, r2, ?_⟩
    · rw [r1]; congr 3; push_cast; omega
    · rw [← r3]; push_cast; omega

theorem all_l0 {w h : Int} (hw : MayS w h) : ∀ (n k : Nat) (L : List Bool) (m s : Int), s + n = sCount w h → 0 ≤ s → n < k → Marks w h L s 0 → m = (List.count true L : Nat) →
    law1_WhereAll.l0 k w h (sSectors w h) L m s = some true := by
  intro n
  have hp := may_prod hw
  have hcn := count_in w h
  have hw1 : w64 ((sSectors w h).1 * (sSectors w h).2) = sCount w h := w64_id (by unfold sCount at hcn; omega) (by unfold sCount at hcn; omega)
  induction n with
  | zero =>
    intro k L m s hs s0 hk hM hc
    obtain ⟨k, rfl⟩ : ∃ q, k = q + 1 := ⟨k - 1, by omega⟩
    rw [law1_WhereAll.l0, hw1, if_neg (by omega)]
    have hnone : sSize w h (sCount w h) = (0, 0) := by
      unfold sSize; rw [if_neg (fun h => by have := h.2; omega)]
    simp only [size_f, Option.bind_some, told1, hnone]
    have hall : List.count true L = L.length := by
      rw [List.count_eq_length]
      intro b hb
      obtain ⟨i, hi, rfl⟩ := List.getElem_of_mem hb
      have h0 : (0 : Int) ≤ (i : Int) := by omega
      have h1 : (i : Int) < w * h := by rw [← hM.1]; omega
      have h2 := (hM.2 i h0 h1).2 (.inl (by have := sector_is (w := w) (h := h) (c := (i : Int)) ⟨hw, h0, h1⟩; have := this.2; omega))
      rw [rd_eq (by simpa using hi)] at h2
      simpa using h2.symm
    have hmm : m = w * h := by rw [hc, hall]; exact hM.1
    rw [w64_id (x := w * h) (by omega) (by omega)]
    simp [hmm]
  | succ n ih =>
    intro k L m s hs s0 hk hM hc
    obtain ⟨k, rfl⟩ : ∃ q, k = q + 1 := ⟨k - 1, by omega⟩
    rw [law1_WhereAll.l0, hw1, if_pos (by omega), size_f]
    have hsec : SecS w h s := ⟨s0, by omega⟩
    have hz := size_in hsec
    have hpr : (sSize w h s).1 * (sSize w h s).2 ≤ 16 * 16 := mul_le (by omega) (by omega) hz.2.1 hz.2.2.2
    have hp0 : 0 ≤ (sSize w h s).1 * (sSize w h s).2 := mul_nn (by omega) (by omega)
    have hle : (List.count true L : Int) ≤ L.length := by have := List.count_le_length (a := true) (l := L); omega
    have hl := hM.1
    obtain ⟨L', r1, r2, r3⟩ := all_l1 hw s hsec ((sSize w h s).1 * (sSize w h s).2).toNat fuel L m 0 (by omega) (by omega) (by rw [fuel_eq]; omega) hM hc (by omega)
    rw [Option.bind_some, r1]
    simp only [Option.bind_some]
    rw [w64_id (x := s + 1) (by omega) (by omega)]
    exact ih k L' _ (s + 1) (by omega) (by omega) (by omega) (marks_next r2 hw) r3

theorem WhereAll_pure : law1_WhereAll.Pure := by
  intro w h _ _
  unfold law1_WhereAll.f
  have h1 := within_in (n := w) (lo := 1) (hi := 70) (by omega)
  have h2 := within_in (n := h) (lo := 1) (hi := 70) (by omega)
  simp only [Option.bind_some, within_f (n := w) (lo := 1) (hi := 70) (by omega) (by omega) (by omega) (by omega), within_f (n := h) (lo := 1) (hi := 70) (by omega) (by omega) (by omega) (by omega)]
  generalize 1 + w % (70 - 1 + 1) = a at h1
  generalize 1 + h % (70 - 1 + 1) = b at h2
  have hw : MayS a b := ⟨by omega, by omega, by omega, by omega⟩
  have hp := may_prod hw
  have hcn := count_in a b
  rw [w64_id (x := a * b) (by omega) (by omega), if_pos (by omega), sectors_f, Option.bind_some]
  refine all_l0 hw (sCount a b).toNat fuel _ 0 0 (by omega) (by omega) (by rw [fuel_eq]; omega) ⟨?_, fun c c0 c1 => ?_⟩ ?_
  · rw [List.length_replicate]; omega
  · have hc : CellS a b c := ⟨hw, c0, c1⟩
    have e1 := (sector_is hc).1
    have e2 := (local_in hc).1
    have e3 : rd (List.replicate (a * b).toNat false) c = false := by
      unfold rd
      simp [List.getD, List.getElem?_replicate]
      split <;> rfl
    rw [e3]; simp; omega
  · simp [List.count_replicate]
end Go.Proofs.Ytonjonpepfepfaa
