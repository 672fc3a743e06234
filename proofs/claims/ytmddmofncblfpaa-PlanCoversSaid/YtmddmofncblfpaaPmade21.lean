import Derived.Test.YtmddmofncblfpaaPwhere
import Derived.Test.YtmddmofncblfpaaFref21
namespace Go.Proofs.Ytmddmofncblfpaa
open Go.Hx

theorem and1 (x : Int) : 0 ≤ ((BitVec.toNat (BitVec.ofInt (IntKind.bits .i64) x &&& BitVec.ofInt (IntKind.bits .i64) 1) : Nat) : Int) ∧ ((BitVec.toNat (BitVec.ofInt (IntKind.bits .i64) x &&& BitVec.ofInt (IntKind.bits .i64) 1) : Nat) : Int) ≤ 1 := by
  refine ⟨by omega, ?_⟩
  rw [BitVec.toNat_and]
  have h1 : (BitVec.ofInt (IntKind.bits .i64) 1).toNat = 1 := by decide
  rw [h1]
  have := Nat.and_le_right (n := (BitVec.ofInt (IntKind.bits .i64) x).toNat) (m := 1)
  omega

/-- units that numbers make -/
def MInv (w h : Int) (l : List api_Unit) : Prop := ∀ j : Int, 0 ≤ j → j < l.length → (2 * j ≤ (rd l j).Id ∧ (rd l j).Id ≤ 2 * j + 1) ∧ CellS w h (rd l j).Cell ∧ CellS w h (rd l j).Goal ∧ ∀ q, 0 ≤ q → q < j → (rd l q).Cell ≠ (rd l j).Cell

theorem within_y {n lo hi : Int} (hlo : -4611686018427387904 ≤ lo) (hhi : hi ≤ 4611686018427387904) (hle : lo ≤ hi) (hn : hi - lo ≤ 4611686018427387904) : ∃ v, ref1_Within.f n lo hi = some v ∧ lo ≤ v ∧ v ≤ hi :=
  ⟨_, within_f hlo hhi hle hn, within_in hle⟩

theorem made_l1 {w h : Int} (hm : MayS w h) {l : List Int} {i : Int} (hi : 0 ≤ i ∧ i < l.length) {L : List api_Unit} (hL : L.length < 12) {c : Int} : ∀ (n k : Nat) (j : Int) (b : Bool), j + n = L.length → 0 ≤ j → n < k → (b = true → ∀ q, 0 ≤ q → q < j → (rd L q).Cell ≠ c) →
    ∃ r, ref21_Made.l1 k w h l L i c b j = some r ∧ (r = L ∨ ∃ id g, r = L ++ [⟨id, c, g⟩] ∧ 2 * (L.length : Int) ≤ id ∧ id ≤ 2 * (L.length : Int) + 1 ∧ CellS w h g ∧ ∀ q : Int, 0 ≤ q → q < L.length → (rd L q).Cell ≠ c) := by
  have hp := may_prod hm
  intro n
  induction n with
  | zero =>
    intro k j b hj h0 hk hb
    obtain ⟨k, rfl⟩ := kpos hk
    rw [ref21_Made.l1, if_neg (by omega)]
    cases b with
    | false => exact ⟨L, by rw [if_neg (by simp)], .inl rfl⟩
    | true =>
      obtain ⟨g, g1, g2, g3⟩ := within_y (n := w64 (Int.tdiv (rd l i) 5)) (lo := 0) (hi := w * h - 1) (by omega) (by omega) (by omega) (by omega)
      obtain ⟨a1, a2⟩ := and1 (rd l i)
      rw [if_pos rfl, if_pos hi, wi (x := w * h) (by omega) (by omega), wi (x := w * h - 1) (by omega) (by omega), g1, Option.bind_some, if_pos (by omega)]
      rw [wi (x := (L.length : Int) * 2) (by omega) (by omega), wi (x := ((BitVec.toNat _ : Nat) : Int)) (by omega) (by omega), wi (by omega) (by omega)]
      refine ⟨_, rfl, .inr ⟨_, g, rfl, by omega, by omega, ⟨hm, g2, by omega⟩, fun q q0 q1 => hb rfl q q0 (by omega)⟩⟩
  | succ n ih =>
    intro k j b hj h0 hk hb
    obtain ⟨k, rfl⟩ := kpos hk
    rw [ref21_Made.l1, if_pos (by omega), wi (by omega) (by omega)]
    cases b with
    | false =>
      rw [if_neg (by simp)]
      exact ih k (j + 1) false (by omega) (by omega) (by omega) (fun q => by cases q)
    | true =>
      rw [if_pos rfl, if_pos (by omega)]
      refine ih k (j + 1) _ (by omega) (by omega) (by omega) (fun q z z0 z1 => ?_)
      by_cases e : z = j
      · subst e; simpa using q
      · exact hb rfl z z0 (by omega)

theorem made_l0 {w h : Int} (hm : MayS w h) {l : List Int} (hl : l.length ≤ 9223372036854775807) : ∀ (n k : Nat) (i : Int) (L : List api_Unit), i + n = l.length → 0 ≤ i → n < k → L.length ≤ 12 → MInv w h L →
    ∃ r, ref21_Made.l0 k w h l L i = some r ∧ r.length ≤ 12 ∧ MInv w h r := by
  have hp := may_prod hm
  intro n
  induction n with
  | zero =>
    intro k i L hi h0 hk hL hv
    obtain ⟨k, rfl⟩ := kpos hk
    exact ⟨L, by rw [ref21_Made.l0, if_neg (by simp; omega)], hL, hv⟩
  | succ n ih =>
    intro k i L hi h0 hk hL hv
    obtain ⟨k, rfl⟩ := kpos hk
    rw [ref21_Made.l0]
    by_cases hlt : L.length < 12
    · obtain ⟨c, c1, c2, c3⟩ := within_y (n := rd l i) (lo := 0) (hi := w * h - 1) (by omega) (by omega) (by omega) (by omega)
      rw [if_pos (by simp; omega), if_pos (by omega), wi (x := w * h) (by omega) (by omega), wi (x := w * h - 1) (by omega) (by omega), c1, Option.bind_some]
      obtain ⟨r, r1, r2⟩ := made_l1 hm (i := i) (l := l) (by omega) hlt (c := c) L.length fuel 0 true (by omega) (by omega) (by rw [fuelv]; omega) (fun _ q q0 q1 => by omega)
      rw [r1, Option.bind_some, wi (by omega) (by omega)]
      rcases r2 with rfl | ⟨id, g, rfl, i1, i2, i3, i4⟩
      · exact ih k (i + 1) _ (by omega) (by omega) (by omega) hL hv
      · refine ih k (i + 1) _ (by omega) (by omega) (by omega) (by simp; omega) (fun j j0 j1 => ?_)
        simp only [List.length_append, List.length_cons, List.length_nil] at j1
        by_cases e : j = L.length
        · rw [rda j0 (by omega), if_pos e]
          refine ⟨⟨by simp only; omega, by simp only; omega⟩, ⟨hm, c2, by simp only; omega⟩, i3, fun q q0 q1 => ?_⟩
          rw [rda q0 (by omega), if_neg (by omega)]
          exact i4 q q0 (by omega)
        · rw [rda j0 (by omega), if_neg e]
          obtain ⟨v1, v2, v3, v4⟩ := hv j j0 (by omega)
          refine ⟨v1, v2, v3, fun q q0 q1 => ?_⟩
          rw [rda q0 (by omega), if_neg (by omega)]
          exact v4 q q0 q1
    · rw [if_neg (by simp; omega)]
      exact ⟨L, rfl, hL, hv⟩
theorem made_f {w h : Int} (hm : MayS w h) {l : List Int} (hl : l.length ≤ 9223372036854775807) : ∃ r, ref21_Made.f w h l = some r ∧ r.length ≤ 12 ∧ MInv w h r := by
  unfold ref21_Made.f
  exact made_l0 hm hl l.length fuel 0 [] (by omega) (by omega) (by rw [fuelv]; omega) (by simp) (fun j j0 j1 => by simp at j1; omega)
end Go.Proofs.Ytmddmofncblfpaa
