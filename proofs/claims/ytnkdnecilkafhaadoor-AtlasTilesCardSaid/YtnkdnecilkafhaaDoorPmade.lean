import Derived.Test.YtnkdnecilkafhaaDoorPtile
namespace Go.Proofs.YtnkdnecilkafhaaDoor
open Go.Hx

theorem made_l {c : List Int} (hc : ∀ y ∈ c, 0 ≤ y ∧ y ≤ 255) {w h : Int} (hw : 1 ≤ w ∧ w ≤ 40) (hh : 1 ≤ h ∧ h ≤ 40) : ∀ (n k : Nat) (x : List Int) (i : Int), i + n = w * h → i = x.length → n < k → (∀ y ∈ x, 1 ≤ y ∧ y ≤ 255) →
    ∃ m, ref1_Made.l0 k c w h x i = some m ∧ m.W = w ∧ m.H = h ∧ (m.C.length : Int) = w * h ∧ ∀ y ∈ m.C, 1 ≤ y ∧ y ≤ 255 := by
  have hm1 : w * h ≤ 40 * 40 := mul_le (by omega) (by omega) hw.2 hh.2
  have hm0 : 0 ≤ w * h := mul_nn (by omega) (by omega)
  intro n
  induction n with
  | zero =>
    intro k x i hi hx hk ha
    obtain ⟨k, rfl⟩ : ∃ q, k = q + 1 := ⟨k - 1, by omega⟩
    rw [ref1_Made.l0, w64_id (x := w * h) (by omega) (by omega), if_neg (by omega)]
    exact ⟨_, rfl, rfl, rfl, by simp only; omega, ha⟩
  | succ n ih =>
    intro k x i hi hx hk ha
    obtain ⟨k, rfl⟩ : ∃ q, k = q + 1 := ⟨k - 1, by omega⟩
    rw [ref1_Made.l0, w64_id (x := w * h) (by omega) (by omega), if_pos (by omega)]
    have next : ∀ v, 1 ≤ v → v ≤ 255 → ∃ m, ref1_Made.l0 k c w h (x ++ [v]) (w64 (i + 1)) = some m ∧ m.W = w ∧ m.H = h ∧ (m.C.length : Int) = w * h ∧ ∀ y ∈ m.C, 1 ≤ y ∧ y ≤ 255 := by
      intro v v0 v1
      rw [w64_id (by omega) (by omega)]
      refine ih k _ (i + 1) (by omega) (by simp; omega) (by omega) (fun y hy => ?_)
      rw [List.mem_append] at hy
      rcases hy with hy | hy
      · exact ha y hy
      · simp at hy; omega
    by_cases hz : (c.length : Int) > 0
    · have hne : ¬ (c.length : Int) = 0 := by omega
      rw [if_pos hz, if_pos hne, if_pos hne]
      have hnn : 0 ≤ w64 (i + w64 (w64 (Int.tdiv i c.length) * 5)) := by
        have hd : 0 ≤ i / c.length ∧ i / c.length ≤ i := ⟨Int.ediv_nonneg (by omega) (by omega), Int.ediv_le_self _ (by omega)⟩
        rw [tdiv_pos (by omega), w64_id (x := i / _) (by omega) (by omega), w64_id (x := _ * 5) (by omega) (by omega), w64_id (by omega) (by omega)]; omega
      have r0 : 0 ≤ Int.tmod (w64 (i + w64 (w64 (Int.tdiv i c.length) * 5))) c.length := by rw [tmod_pos hnn]; exact Int.emod_nonneg _ (by omega)
      have r1 : Int.tmod (w64 (i + w64 (w64 (Int.tdiv i c.length) * 5))) c.length < c.length := by rw [tmod_pos hnn]; exact Int.emod_lt_of_pos _ (by omega)
      rw [if_pos ⟨r0, r1⟩]
      have hmem := rd_mem (a := c) r0 r1
      obtain ⟨q0, q1⟩ := hc _ hmem
      obtain ⟨v, e, v0, v1⟩ := refcost_f q0 q1
      rw [e, Option.bind_some, if_pos (by omega)]
      exact next v v0 v1
    · rw [if_neg hz]
      obtain ⟨v, e, v0, v1⟩ := refcost_f (x := 1) (by omega) (by omega)
      rw [e, Option.bind_some, if_pos (by omega)]
      exact next v v0 v1

theorem made_f (w h : Int) {c : List Int} (hc : ∀ y ∈ c, 0 ≤ y ∧ y ≤ 255) : ∃ m, ref1_Made.f w h c = some m ∧ MapOk m ∧ m.W ≤ 40 ∧ m.H ≤ 40 ∧ ∀ y ∈ m.C, 1 ≤ y ∧ y ≤ 255 := by
  unfold ref1_Made.f
  have h1 := within_in (n := w) (lo := 1) (hi := 40) (by omega)
  have h2 := within_in (n := h) (lo := 1) (hi := 40) (by omega)
  rw [within_f (by omega) (by omega) (by omega) (by omega), within_f (by omega) (by omega) (by omega) (by omega)]
  simp only [Option.bind_some]
  generalize 1 + w % (40 - 1 + 1) = a at h1 ⊢
  generalize 1 + h % (40 - 1 + 1) = b at h2 ⊢
  have hm1 : a * b ≤ 40 * 40 := mul_le (by omega) (by omega) h1.2 h2.2
  have hm0 : 0 ≤ a * b := mul_nn (by omega) (by omega)
  obtain ⟨m, e, e1, e2, e3, e4⟩ := made_l hc h1 h2 (a * b).toNat fuel [] 0 (by omega) (by simp) (by rw [fuel_eq]; omega) (by simp)
  refine ⟨m, e, ⟨⟨by omega, by omega, by omega, by omega⟩, by rw [e1, e2]; exact e3, fun h0 => ?_⟩, by omega, by omega, e4⟩
  have := e4 0 h0; omega
end Go.Proofs.YtnkdnecilkafhaaDoor
