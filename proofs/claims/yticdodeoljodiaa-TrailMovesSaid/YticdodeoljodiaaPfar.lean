import Derived.Test.YticdodeoljodiaaPlaw17
namespace Go.Proofs.Yticdodeoljodiaa
open Go.Hx
set_option linter.unusedVariables false
set_option linter.unusedSimpArgs false

/-- how many cells of the first n are nearer -/
def near (D : List Int) (d : Int) : Nat → Int
  | 0 => 0
  | n + 1 => near D d n + if rd D (n : Int) < d then 1 else 0
theorem near_mono {D : List Int} {d e : Int} (h : d ≤ e) : ∀ n : Nat, near D d n ≤ near D e n
  | 0 => Int.le_refl _
  | n + 1 => by
    have := near_mono (D := D) h n
    rw [near, near]
    split
    · rw [if_pos (by omega)]; omega
    · split <;> omega
theorem near_strict {D : List Int} {d e : Int} (h : d ≤ e) {c : Nat} (h1 : d ≤ rd D (c : Int)) (h2 : rd D (c : Int) < e) : ∀ n : Nat, c < n → near D d n + 1 ≤ near D e n
  | 0, q => by omega
  | n + 1, q => by
    rw [near, near]
    by_cases hc : c = n
    · subst hc
      have := near_mono (D := D) h c
      rw [if_neg (by omega), if_pos h2]; omega
    · have := near_strict h h1 h2 n (by omega)
      split
      · rw [if_pos (by omega)]; omega
      · split <;> omega
theorem near_le (D : List Int) (d : Int) {c : Nat} (hc : ¬ rd D (c : Int) < d) : ∀ n : Nat, near D d n ≤ n ∧ (c < n → near D d n + 1 ≤ n)
  | 0 => ⟨Int.le_refl _, fun q => by omega⟩
  | n + 1 => by
    obtain ⟨a, b⟩ := near_le D d hc n
    rw [near]
    refine ⟨by split <;> omega, fun q => ?_⟩
    by_cases hcn : c = n
    · subst hcn; rw [if_neg hc]; omega
    · have := b (by omega)
      split <;> omega
variable {m : api_Map} {t : Int} {D : List Int}
theorem near_nn (D : List Int) (d : Int) : ∀ n : Nat, 0 ≤ near D d n
  | 0 => Int.le_refl _
  | n + 1 => by have := near_nn D d n; rw [near]; split <;> omega
/-- no distance is more than 254 for each cell that is nearer -/
theorem far_near (hm : MapOk m) (hc : CostOk m) (hf : Far m t D) : ∀ (n : Nat) (c : Int), inMap m c → rd D c < (1099511627776 : Int) → rd D c ≤ n → rd D c ≤ 254 * near D (rd D c) m.C.length := by
  have hl := hm.2.1
  intro n
  induction n with
  | zero =>
    intro c hi hlt hn
    have := near_nn D (rd D c) m.C.length; omega
  | succ n ih =>
    intro c hi hlt hn
    by_cases hct : c = t
    · subst hct
      have : rd D c = 0 := far_goal hc hf (way_open (hf.way c hi hlt))
      have := near_nn D (rd D c) m.C.length; omega
    · obtain ⟨x, s, s0, s3, hs, ho, e, hl2, hn2⟩ := far_step hm hc hf hi hlt hct
      have hcx := hc x ho.1
      have hx2 := ho.1.2
      have hx1 := ho.1.1
      have hw := ho.2
      have h1 := ih x ho.1 (by omega) (by omega)
      have h2 := near_strict (D := D) (d := rd D x) (e := rd D c) (by omega) (c := x.toNat) (by rw [show ((x.toNat : Nat) : Int) = x by omega]; omega) (by rw [show ((x.toNat : Nat) : Int) = x by omega]; exact hl2) m.C.length (by omega)
      omega
theorem far_bound (hm : MapOk m) (hc : CostOk m) (hf : Far m t D) {c : Int} (hi : inMap m c) (hlt : rd D c < (1099511627776 : Int)) : rd D c ≤ 254 * ((m.C.length : Int) - 1) := by
  have hl := hm.2.1
  have hi1 := hi.1
  have hi2 := hi.2
  have h0 := far_nn hc hf hi
  have h1 := far_near hm hc hf (rd D c).toNat c hi hlt (by omega)
  have h2 := (near_le D (rd D c) (c := c.toNat) (by rw [show ((c.toNat : Nat) : Int) = c by omega]; omega) m.C.length).2 (by omega)
  omega
theorem far_small (hm : MapOk m) (hc : CostOk m) (hf : Far m t D) {c : Int} (hi : inMap m c) (hlt : rd D c < (1099511627776 : Int)) : rd D c ≤ 300000000 := by
  have := far_bound hm hc hf hi hlt
  have hl := hm.2.1
  have := may_prod hm.1
  omega
end Go.Proofs.Yticdodeoljodiaa
