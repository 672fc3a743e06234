import Derived.Test.YticdodeoljodiaaPstep
import Derived.Test.YticdodeoljodiaaFborder
import Derived.Test.YticdodeoljodiaaFref11
namespace Go.Proofs.Yticdodeoljodiaa
open Go.Hx
set_option linter.unusedVariables false
set_option linter.unusedSimpArgs false

/-- over a sector's border -/
def sOver (w h c side : Int) : Int := if sStep w h c side < 0 ∨ sSector w h (sStep w h c side) = sSector w h c then -1 else sStep w h c side
theorem over_f (w h c side : Int) : border_over.f w h c side = some (sOver w h c side) := by
  unfold border_over.f sOver
  rw [step_f, Option.bind_some]
  by_cases h1 : sStep w h c side < 0
  · rw [if_pos h1, if_pos (Or.inl h1)]; rfl
  · rw [if_neg h1, sector_f, Option.bind_some, sector_f, Option.bind_some]
    by_cases h2 : sSector w h (sStep w h c side) = sSector w h c
    · rw [if_pos (Or.inr h2), h2]; simp
    · rw [if_neg (c := _ ∨ _) (fun q => q.elim h1 h2)]; simp [h2]
theorem over_out {w h c side : Int} (hn : ¬ (0 ≤ side ∧ side ≤ 3)) : sOver w h c side = -1 := by
  unfold sOver
  by_cases hc : CellS w h c
  · by_cases h4 : side = 4
    · subst h4; rw [step_here hc, if_pos (Or.inr rfl)]
    · have : sStep w h c side = -1 := by unfold sStep; rw [if_neg (by omega)]
      rw [this, if_pos (Or.inl (by omega))]
  · have : sStep w h c side = -1 := by unfold sStep; rw [if_neg (fun q => hc q.1)]
    rw [this, if_pos (Or.inl (by omega))]
theorem rover_f (w h c side : Int) : ref11_Over.f w h c side = some (sOver w h c side) := by
  unfold ref11_Over.f
  rw [in_f, Option.bind_some]
  by_cases hs : 0 ≤ side ∧ side ≤ 3
  · rw [decide_eq_true hs, if_neg (by simp), rstep_f, Option.bind_some]
    unfold sOver
    by_cases h1 : sStep w h c side < 0
    · rw [if_pos h1, if_pos (Or.inl h1)]; rfl
    · rw [if_neg h1, rsector_f, Option.bind_some, rsector_f, Option.bind_some]
      by_cases h2 : sSector w h (sStep w h c side) = sSector w h c
      · rw [if_pos (Or.inr h2), h2]; simp
      · rw [if_neg (c := _ ∨ _) (fun q => q.elim h1 h2)]; simp [h2]
  · rw [decide_eq_false hs, if_pos (by simp), over_out hs]
theorem over_neg {w h c side : Int} (hn : sOver w h c side < 0) : sOver w h c side = -1 := by
  unfold sOver at hn ⊢
  split at hn
  · rw [if_pos (by assumption)]
  · rename_i q; exact absurd (Or.inl hn) q
/-- who is over the border -/
theorem over_cell {w h c side : Int} (h0 : 0 ≤ sOver w h c side) : CellS w h c ∧ 0 ≤ side ∧ side ≤ 3 ∧ CellS w h (sOver w h c side) ∧ sOver w h c side = sStep w h c side ∧ sSector w h (sOver w h c side) ≠ sSector w h c := by
  have hside : 0 ≤ side ∧ side ≤ 3 := by
    by_cases hs : 0 ≤ side ∧ side ≤ 3
    · exact hs
    · rw [over_out hs] at h0; omega
  by_cases hq : sStep w h c side < 0 ∨ sSector w h (sStep w h c side) = sSector w h c
  · unfold sOver at h0; rw [if_pos hq] at h0; omega
  · have e : sOver w h c side = sStep w h c side := by unfold sOver; rw [if_neg hq]
    have hc : CellS w h c := by
      by_cases hc : CellS w h c
      · exact hc
      · have : sStep w h c side = -1 := by unfold sStep; rw [if_neg (fun q => hc q.1)]
        omega
    rcases step_cases hc hside.1 (by omega : side ≤ 4) with ⟨h1, _⟩ | ⟨h1, _⟩
    · omega
    · exact ⟨hc, hside.1, hside.2, e ▸ h1, e, fun q => hq (.inr (e ▸ q))⟩

/-- a sector's cell, taken apart -/
theorem global_xy {w h s l : Int} (hs : SecS w h s) (h0 : 0 ≤ l) (h1 : l < (sSize w h s).1 * (sSize w h s).2) :
    CellS w h (sGlobal w h s l) ∧ sGlobal w h s l % w = 16 * (s % (sSectors w h).1) + l % (sSize w h s).1 ∧ sGlobal w h s l / w = 16 * (s / (sSectors w h).1) + l / (sSize w h s).1 := by
  obtain ⟨a1, a2, a3, a4, a5, a6⟩ := global_parts hs h0 h1
  have hp := sec_parts hs
  have e : sGlobal w h s l = (16 * (s / (sSectors w h).1) + l / (sSize w h s).1) * w + (16 * (s % (sSectors w h).1) + l % (sSize w h s).1) := by unfold sGlobal; rw [if_pos ⟨hs, h0, h1⟩]
  have := cell_lt (h := h) (x := 16 * (s % (sSectors w h).1) + l % (sSize w h s).1) (y := 16 * (s / (sSectors w h).1) + l / (sSize w h s).1) (by omega) a5 (by omega) a6
  rw [e]
  exact ⟨⟨sec_may hs, this⟩, num_parts (by omega) a5⟩
theorem size_xy {w h s : Int} (hs : SecS w h s) : (sSize w h s).1 = min 16 (w - 16 * (s % (sSectors w h).1)) ∧ (sSize w h s).2 = min 16 (h - 16 * (s / (sSectors w h).1)) := by
  unfold sSize; rw [if_pos hs]; exact ⟨rfl, rfl⟩
theorem sec_global {w h s l : Int} (hs : SecS w h s) (h0 : 0 ≤ l) (h1 : l < (sSize w h s).1 * (sSize w h s).2) : sSector w h (sGlobal w h s l) = s := by
  obtain ⟨hc, e1, e2⟩ := global_xy hs h0 h1
  obtain ⟨a1, a2, a3, a4, a5, a6⟩ := global_parts hs h0 h1
  obtain ⟨z1, z2, z3, z4⟩ := size_in hs
  unfold sSector
  rw [if_pos hc, e1, e2]
  have q1 : (16 * (s / (sSectors w h).1) + l / (sSize w h s).1) / 16 = s / (sSectors w h).1 := by omega
  have q2 : (16 * (s % (sSectors w h).1) + l % (sSize w h s).1) / 16 = s % (sSectors w h).1 := by omega
  rw [q1, q2]
  have := Int.mul_ediv_add_emod s (sSectors w h).1
  rw [Int.mul_comm] at this; exact this

def sEdge (w h s side : Int) : Prop := if side = 0 then 1 ≤ s / (sSectors w h).1 else if side = 1 then s % (sSectors w h).1 + 1 < (sSectors w h).1 else if side = 2 then s / (sSectors w h).1 + 1 < (sSectors w h).2 else 1 ≤ s % (sSectors w h).1
def sOn (tw th l side : Int) : Prop := if side = 0 then l / tw = 0 else if side = 1 then l % tw = tw - 1 else if side = 2 then l / tw = th - 1 else l % tw = 0
instance (w h s side : Int) : Decidable (sEdge w h s side) := by unfold sEdge; infer_instance
instance (tw th l side : Int) : Decidable (sOn tw th l side) := by unfold sOn; infer_instance

theorem over_iff {w h s l side : Int} (hs : SecS w h s) (h0 : 0 ≤ l) (h1 : l < (sSize w h s).1 * (sSize w h s).2) (s0 : 0 ≤ side) (s3 : side ≤ 3) :
    0 ≤ sOver w h (sGlobal w h s l) side ↔ sEdge w h s side ∧ sOn (sSize w h s).1 (sSize w h s).2 l side := by
  obtain ⟨hc, e1, e2⟩ := global_xy hs h0 h1
  obtain ⟨a1, a2, a3, a4, a5, a6⟩ := global_parts hs h0 h1
  obtain ⟨z1, z2, z3, z4⟩ := size_in hs
  obtain ⟨y1, y2⟩ := size_xy hs
  obtain ⟨p1, p2, p3, p4⟩ := sec_parts hs
  have hsec := sec_global hs h0 h1
  have hm := sec_may hs
  have eS : (sSectors w h).1 = (w + 15) / 16 ∧ (sSectors w h).2 = (h + 15) / 16 := by unfold sSectors; rw [if_pos hm]; exact ⟨rfl, rfl⟩
  have hsc : side = 0 ∨ side = 1 ∨ side = 2 ∨ side = 3 := by omega
  rcases step_cases hc s0 (by omega : side ≤ 4) with ⟨b1, b2⟩ | ⟨b1, b2, b3, b4, b5, b6, b7⟩
  · have : sOver w h (sGlobal w h s l) side = -1 := by unfold sOver; rw [b1, if_pos (Or.inl (by omega))]
    rw [this]
    refine ⟨fun q => by omega, fun q => ?_⟩
    exfalso; apply b2
    rw [e1, e2]
    obtain ⟨q1, q2⟩ := q
    unfold sEdge at q1
    unfold sOn at q2
    unfold dX dY
    rcases hsc with rfl | rfl | rfl | rfl <;> simp at q1 q2 ⊢ <;> omega
  · have b8 : ¬ sStep w h (sGlobal w h s l) side < 0 := by have := b1.2; omega
    have key : sSector w h (sStep w h (sGlobal w h s l) side) = s ↔ (16 * (s / (sSectors w h).1) + l / (sSize w h s).1 + dY side) / 16 = s / (sSectors w h).1 ∧ (16 * (s % (sSectors w h).1) + l % (sSize w h s).1 + dX side) / 16 = s % (sSectors w h).1 := by
      have hso := sec_of b1
      have hnp := num_parts (a := (sSectors w h).1) (y := sStep w h (sGlobal w h s l) side / w / 16) hso.1 hso.2.1
      have e : sSector w h (sStep w h (sGlobal w h s l) side) = sStep w h (sGlobal w h s l) side / w / 16 * (sSectors w h).1 + sStep w h (sGlobal w h s l) side % w / 16 := by unfold sSector; rw [if_pos b1]
      rw [← e, b2, b3, e1, e2] at hnp
      constructor
      · intro q; rw [q] at hnp; exact ⟨hnp.2.symm, hnp.1.symm⟩
      · rintro ⟨q1, q2⟩
        rw [e, b2, b3, e1, e2, q1, q2]
        have := Int.mul_ediv_add_emod s (sSectors w h).1
        rw [Int.mul_comm] at this; exact this
    rw [e1] at b4 b5
    rw [e2] at b6 b7
    unfold sOver
    rw [hsec]
    by_cases hq : sSector w h (sStep w h (sGlobal w h s l) side) = s
    · rw [if_pos (Or.inr hq)]
      obtain ⟨k1, k2⟩ := key.mp hq
      refine ⟨fun q => by omega, fun q => ?_⟩
      exfalso
      obtain ⟨q1, q2⟩ := q
      unfold sEdge at q1
      unfold sOn at q2
      unfold dX at k2
      unfold dY at k1
      rcases hsc with rfl | rfl | rfl | rfl <;> simp at q1 q2 k1 k2 <;> omega
    · rw [if_neg (c := _ ∨ _) (fun q => q.elim b8 hq)]
      refine ⟨fun _ => ?_, fun _ => by omega⟩
      rw [key] at hq
      unfold sEdge sOn
      unfold dX at hq b4 b5
      unfold dY at hq b6 b7
      rcases hsc with rfl | rfl | rfl | rfl <;> simp at hq b4 b5 b6 b7 ⊢ <;> omega
end Go.Proofs.Yticdodeoljodiaa
