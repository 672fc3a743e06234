import Derived.Test.YticdodeoljodiaaPstep
import Derived.Test.YticdodeoljodiaaPgrid2
namespace Go.Proofs.Yticdodeoljodiaa
open Go.Hx
set_option linter.unusedVariables false
set_option linter.unusedSimpArgs false



def Opn (m : api_Map) (c : Int) : Prop := inMap m c ∧ rd m.C c ≠ 255
/-- costs are bytes, and none is 0 -/
def CostOk (m : api_Map) : Prop := ∀ c : Int, inMap m c → 1 ≤ rd m.C c ∧ rd m.C c ≤ 255
/-- a way from a cell to t, and what it costs -/
inductive Way (m : api_Map) (t : Int) : Int → Int → Prop
  | here : Opn m t → Way m t t 0
  | go {c k n : Int} (side : Int) : Way m t c k → 0 ≤ side → side ≤ 3 → sStep m.W m.H n side = c → Opn m n → Way m t n (k + rd m.C c)
theorem way_open {m : api_Map} {t c k : Int} (h : Way m t c k) : Opn m c := by
  cases h with
  | here h => exact h
  | go _ _ _ _ _ h => exact h
theorem way_goal {m : api_Map} {t c k : Int} (h : Way m t c k) : Opn m t := by
  induction h with
  | here h => exact h
  | go _ _ _ _ _ _ ih => exact ih
theorem way_nn {m : api_Map} {t c k : Int} (hc : CostOk m) (h : Way m t c k) : 0 ≤ k := by
  induction h with
  | here h => exact Int.le_refl _
  | go s h1 _ _ _ _ ih => have := hc _ (way_open h1).1; omega
/-- what distances are -/
structure Far (m : api_Map) (t : Int) (D : List Int) : Prop where
  len : D.length = m.C.length
  way : ∀ c : Int, inMap m c → rd D c < (1099511627776 : Int) → Way m t c (rd D c)
  le : ∀ c k : Int, Way m t c k → rd D c ≤ k
  top : ∀ c : Int, inMap m c → rd D c ≤ (1099511627776 : Int)
theorem far_eq {m : api_Map} {t : Int} {D E : List Int} (hm : MapOk m) (h1 : Far m t D) (h2 : Far m t E) : D = E := by
  have hl := hm.2.1
  apply rdext (by rw [h1.len, h2.len])
  intro i i0 i1
  have hi : inMap m i := ⟨i0, by have := h1.len; omega⟩
  have key : ∀ A B : List Int, Far m t A → Far m t B → rd A i ≤ rd B i := by
    intro A B ha hb
    by_cases hq : rd B i < (1099511627776 : Int)
    · exact ha.le i _ (hb.way i hi hq)
    · have := ha.top i hi; have := hb.top i hi; omega
  have := key D E h1 h2; have := key E D h2 h1; omega
theorem step_back {w h c s t : Int} (hc : CellS w h c) (s0 : 0 ≤ s) (s4 : s ≤ 4) (t0 : 0 ≤ t) (t4 : t ≤ 4) (hs : CellS w h (sStep w h c s)) (hx : dX t = - dX s) (hy : dY t = - dY s) : sStep w h (sStep w h c s) t = c := by
  rcases step_cases hc s0 s4 with ⟨h1, _⟩ | ⟨_, b1, b2, _⟩
  · rw [h1] at hs; obtain ⟨_, h2, _⟩ := hs; omega
  · have e : sStep w h (sStep w h c s) t = sCell w h (sStep w h c s % w + dX t) (sStep w h c s / w + dY t) := by unfold sStep; rw [if_pos (c := CellS w h _ ∧ 0 ≤ t ∧ _) ⟨by unfold sStep at hs; exact hs, t0, t4⟩]
    rw [e, b1, b2, hx, hy]
    have e1 : c % w + dX s + -dX s = c % w := by omega
    have e2 : c / w + dY s + -dY s = c / w := by omega
    rw [e1, e2, cell_xy hc]
theorem in_cell {m : api_Map} (hm : MapOk m) {c : Int} (h : inMap m c) : CellS m.W m.H c := ⟨hm.1, h.1, h.2⟩
/-- who leads here is led to from here -/
theorem beside_back {m : api_Map} (hm : MapOk m) {n c s : Int} (hn : inMap m n) (hc : inMap m c) (s0 : 0 ≤ s) (s3 : s ≤ 3) (h : sStep m.W m.H n s = c) : ∃ t, 0 ≤ t ∧ t ≤ 3 ∧ sStep m.W m.H c t = n := by
  have hbk : ∃ t, 0 ≤ t ∧ t ≤ 3 ∧ dX t = - dX s ∧ dY t = - dY s := by
    have hs : s = 0 ∨ s = 1 ∨ s = 2 ∨ s = 3 := by omega
    rcases hs with rfl | rfl | rfl | rfl
    · exact ⟨2, by omega, by omega, rfl, rfl⟩
    · exact ⟨3, by omega, by omega, rfl, rfl⟩
    · exact ⟨0, by omega, by omega, rfl, rfl⟩
    · exact ⟨1, by omega, by omega, rfl, rfl⟩
  obtain ⟨t, t0, t3, tx, ty⟩ := hbk
  refine ⟨t, t0, t3, ?_⟩
  have := step_back (in_cell hm hn) s0 (by omega : s ≤ 4) t0 (by omega : t ≤ 4) (by rw [h]; exact in_cell hm hc) tx ty
  rw [h] at this; exact this
/-- the last step of a shortest way -/
theorem far_step {m : api_Map} {t : Int} {D : List Int} (hm : MapOk m) (hc : CostOk m) (h : Far m t D) {c : Int} (hi : inMap m c) (hd : rd D c < (1099511627776 : Int)) (hne : c ≠ t) :
    ∃ n s, 0 ≤ s ∧ s ≤ 3 ∧ sStep m.W m.H c s = n ∧ Opn m n ∧ rd D n + rd m.C n = rd D c ∧ rd D n < rd D c ∧ 0 ≤ rd D n := by
  have hw := h.way c hi hd
  generalize hk : rd D c = k at hw
  cases hw with
  | here q => exact absurd rfl hne
  | @go c' k' n s h1 s0 s3 hs ho =>
    have hoc := way_open h1
    have hcc := hc _ hoc.1
    have hle := h.le c' k' h1
    have hlt : rd D c' < (1099511627776 : Int) := by omega
    have hw2 := h.way c' hoc.1 hlt
    have hle2 := h.le c _ (Way.go s hw2 s0 s3 hs ho)
    have := way_nn hc hw2
    exact ⟨c', s, s0, s3, hs, hoc, by omega, by omega, by omega⟩
theorem far_goal {m : api_Map} {t : Int} {D : List Int} (hc : CostOk m) (h : Far m t D) (ho : Opn m t) : rd D t = 0 := by
  have h1 := h.le t 0 (Way.here ho)
  have h2 := way_nn hc (h.way t ho.1 (by omega))
  omega
theorem far_zero {m : api_Map} {t : Int} {D : List Int} (hm : MapOk m) (hc : CostOk m) (h : Far m t D) {c : Int} (hi : inMap m c) (h0 : rd D c = 0) : c = t := by
  by_cases hq : c = t
  · exact hq
  · obtain ⟨n, s, _, _, _, hn, e, _, e2⟩ := far_step hm hc h hi (by omega) hq
    have := hc n hn.1; omega
/-- no step leads to less than what it costs -/
theorem far_le {m : api_Map} {t : Int} {D : List Int} (h : Far m t D) {c n s : Int} (ho : Opn m c) (hn : Opn m n) (s0 : 0 ≤ s) (s3 : s ≤ 3) (hs : sStep m.W m.H c s = n) (hd : rd D n < (1099511627776 : Int)) : rd D c ≤ rd D n + rd m.C n :=
  h.le c _ (Way.go s (h.way n hn.1 hd) s0 s3 hs ho)
theorem far_wall {m : api_Map} {t : Int} {D : List Int} (h : Far m t D) {c : Int} (hi : inMap m c) (ho : ¬ Opn m c) : rd D c = (1099511627776 : Int) := by
  have := h.top c hi
  by_cases hd : rd D c < (1099511627776 : Int)
  · exact absurd (way_open (h.way c hi hd)) ho
  · omega
theorem far_nn {m : api_Map} {t : Int} {D : List Int} (hc : CostOk m) (h : Far m t D) {c : Int} (hi : inMap m c) : 0 ≤ rd D c := by
  by_cases hd : rd D c < (1099511627776 : Int)
  · exact way_nn hc (h.way c hi hd)
  · have : (1099511627776 : Int) = 1099511627776 := rfl
    omega

/-- sums over lists -/
def lsum {α : Type} (f : α → Int) (l : List α) : Int := (l.map f).sum
theorem lsum_set {α : Type} [Inhabited α] (f : α → Int) : ∀ (l : List α) (i : Nat) (v : α), i < l.length → lsum f (l.set i v) = lsum f l - f (rd l (i : Int)) + f v
  | [], i, v, h => by simp at h
  | a :: l, 0, v, h => by simp [lsum, rd]; omega
  | a :: l, i + 1, v, h => by
    have ih := lsum_set f l i v (by simpa using h)
    have hr : rd (a :: l) ((i + 1 : Nat) : Int) = rd l (i : Int) := by
      unfold rd
      have h1 : ((i + 1 : Nat) : Int).toNat = i + 1 := by omega
      have h2 : ((i : Nat) : Int).toNat = i := by omega
      rw [h1, h2]; rfl
    rw [hr]
    unfold lsum at ih ⊢
    simp only [List.set_cons_succ, List.map_cons, List.sum_cons]
    omega
theorem lsum_nn {α : Type} (f : α → Int) (l : List α) (h : ∀ x ∈ l, 0 ≤ f x) : 0 ≤ lsum f l := by
  induction l with
  | nil => simp [lsum]
  | cons a l ih =>
    have := ih (fun x hx => h x (List.mem_cons_of_mem _ hx))
    have := h a (List.mem_cons_self ..)
    unfold lsum at *
    simp only [List.map_cons, List.sum_cons]; omega
theorem lsum_mem {α : Type} (f : α → Int) (l : List α) (h : ∀ x ∈ l, 0 ≤ f x) {x : α} (hx : x ∈ l) : f x ≤ lsum f l := by
  induction l with
  | nil => cases hx
  | cons a l ih =>
    have h1 := lsum_nn f l (fun x hx => h x (List.mem_cons_of_mem _ hx))
    have h2 := h a (List.mem_cons_self ..)
    unfold lsum at *
    simp only [List.map_cons, List.sum_cons]
    rcases List.mem_cons.mp hx with rfl | hx
    · omega
    · have := ih (fun x hx => h x (List.mem_cons_of_mem _ hx)) hx; omega
theorem lsum_zero {α : Type} (f : α → Int) (l : List α) (h : ∀ x ∈ l, f x = 0) : lsum f l = 0 := by
  induction l with
  | nil => rfl
  | cons a l ih =>
    have := ih (fun x hx => h x (List.mem_cons_of_mem _ hx))
    have := h a (List.mem_cons_self ..)
    unfold lsum at *
    simp only [List.map_cons, List.sum_cons]; omega
theorem lsum_rep {α : Type} (f : α → Int) (n : Nat) (v : α) : lsum f (List.replicate n v) = n * f v := by
  induction n with
  | zero => simp [lsum]
  | succ n ih =>
    unfold lsum at *
    rw [List.replicate_succ, List.map_cons, List.sum_cons, ih]
    push_cast
    rw [Int.add_mul]; omega
end Go.Proofs.Yticdodeoljodiaa
