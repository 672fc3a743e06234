import Derived.Test.YticdodeoljodiaaPext
import Derived.Test.YticdodeoljodiaaFgrid
import Derived.Test.YticdodeoljodiaaFgrid
namespace Go.Proofs.Yticdodeoljodiaa
open Go.Hx
set_option linter.unusedVariables false
set_option linter.unusedSimpArgs false

/-- there may be such a map -/
abbrev MapOk (m : api_Map) : Prop := MayS m.W m.H ∧ (m.C.length : Int) = m.W * m.H ∧ 0 ∉ m.C

theorem atlas_may_f (m : api_Map) (hb : m.C.length < 4611686018427387904) : atlas_May.f m = some (decide (MapOk m)) := by
  unfold atlas_May.f
  rw [may_f]
  by_cases hm : MayS m.W m.H
  · have hp := may_prod hm
    rw [w64_id (x := m.W * m.H) (by omega) (by omega), contains_f _ _ hb]
    by_cases hl : (m.C.length : Int) = m.W * m.H
    · simp [hm, hl]
    · simp [hl]
  · simp [hm]
theorem ref_may_f (m : api_Map) (hb : m.C.length < 4611686018427387904) : ref1_MayMap.f m = some (decide (MapOk m)) := by
  unfold ref1_MayMap.f
  rw [rmay_f]
  by_cases hm : MayS m.W m.H
  · have hp := may_prod hm
    rw [w64_id (x := m.W * m.H) (by omega) (by omega), full_f _ hb]
    by_cases hl : (m.C.length : Int) = m.W * m.H
    · simp [hm, hl]
    · simp [hl]
  · simp [hm]

theorem all_rep {x : List Int} {v : Int} (h : ∀ c : Int, 0 ≤ c → c < x.length → rd x c = v) : x = List.replicate x.length v := by
  rw [List.eq_replicate_iff]
  refine ⟨rfl, fun b hb => ?_⟩
  obtain ⟨i, hi, rfl⟩ := List.getElem_of_mem hb
  have := h i (by omega) (by omega)
  rw [rd_eq (by simpa using hi)] at this
  simpa using this

theorem new_l (m : api_Map) (e : Int) (v2 : List Int) (v3 : Int × Int) (he : 0 ≤ e ∧ e ≤ 4611686018427387904) (N : Nat) (hN : (List.replicate (Int.toNat (w64 (v3.1 * v3.2))) (0 : Int)).length = N) (hb : N ≤ 1000000) :
    ∀ (n k : Nat) (x : List Int) (i : Int), x.length = N → i + n = N → 0 ≤ i → n < k → (∀ c : Int, 0 ≤ c → c < i → rd x c = e + 1) →
    grid_New.l0 k m e v2 v3 x i = some (some (grid_Grid.mk (api_Map.mk m.W m.H v2) (e + 1) (List.replicate N (e + 1)))) := by
  intro n
  induction n with
  | zero =>
    intro k x i hx hi h0 hk ha
    obtain ⟨k, rfl⟩ : ∃ q, k = q + 1 := ⟨k - 1, by omega⟩
    rw [grid_New.l0, hN, if_neg (by omega), w64_id (by omega) (by omega)]
    have := all_rep (x := x) (v := e + 1) (fun c c0 c1 => ha c c0 (by omega))
    rw [hx] at this; rw [this]
  | succ n ih =>
    intro k x i hx hi h0 hk ha
    obtain ⟨k, rfl⟩ : ∃ q, k = q + 1 := ⟨k - 1, by omega⟩
    rw [grid_New.l0, hN, if_pos (by omega), if_pos (by omega), w64_id (x := e + 1) (by omega) (by omega), w64_id (x := i + 1) (by omega) (by omega)]
    refine ih k _ (i + 1) (by simpa using hx) (by omega) (by omega) (by omega) (fun c c0 c1 => ?_)
    rw [rd_set h0 (by omega) c0]
    by_cases hc : c = i
    · rw [if_pos hc]
    · rw [if_neg hc]; exact ha c c0 (by omega)

def gNew (m : api_Map) (e : Int) : Option grid_Grid := if MapOk m ∧ 0 ≤ e ∧ e ≤ 4611686018427387904 then some (grid_Grid.mk m (e + 1) (List.replicate (sCount m.W m.H).toNat (e + 1))) else none
theorem gnew_f (m : api_Map) (e : Int) (hb : m.C.length ≤ 1099511627776) : grid_New.f m e = some (gNew m e) := by
  unfold grid_New.f gNew
  rw [atlas_may_f m (by omega)]
  by_cases h : MapOk m ∧ 0 ≤ e ∧ e ≤ 4611686018427387904
  · have hc := count_in m.W m.H
    have hs : w64 ((sSectors m.W m.H).1 * (sSectors m.W m.H).2) = sCount m.W m.H := w64_id (by unfold sCount at hc; omega) (by unfold sCount at hc; omega)
    simp only [Option.bind_some, decide_eq_true h.1, Bool.not_true, Bool.false_or]
    rw [if_neg (by simp; omega), if_pos h, clone_f _ hb, sectors_f]
    simp only [Option.bind_some]
    rw [hs, if_pos (by omega)]
    exact new_l m e m.C _ h.2 (sCount m.W m.H).toNat (by rw [hs]; simp) (by omega) (sCount m.W m.H).toNat fuel _ 0 (by simp) (by omega) (by omega) (by rw [fuel_eq]; omega) (fun c c0 c1 => by omega)
  · rw [if_neg h]
    by_cases h1 : MapOk m
    · have : ¬ (0 ≤ e ∧ e ≤ 4611686018427387904) := fun q => h ⟨h1, q⟩
      simp only [Option.bind_some, decide_eq_true h1, Bool.not_true, Bool.false_or]
      rw [if_pos (by simp; omega)]
    · simp only [Option.bind_some, decide_eq_false h1, Bool.not_false, Bool.true_or, if_true]
end Go.Proofs.Yticdodeoljodiaa
