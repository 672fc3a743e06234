import Derived.Test.YtnkdnecilkafhaaDoorPgrid
namespace Go.Proofs.YtnkdnecilkafhaaDoor
open Go.Hx

/-- the first n costs of a sector -/
def tileL (m : api_Map) (s : Int) (n : Nat) : List Int := (List.range n).map fun l : Nat => rd m.C (sGlobal m.W m.H s (l : Int))
theorem tileL_length (m : api_Map) (s : Int) (n : Nat) : (tileL m s n).length = n := by simp [tileL]
theorem tileL_succ (m : api_Map) (s : Int) (n : Nat) : tileL m s (n + 1) = tileL m s n ++ [rd m.C (sGlobal m.W m.H s (n : Int))] := by
  simp [tileL, List.range_succ]
theorem tileL_add (m : api_Map) (s : Int) (n a : Nat) : tileL m s (n + a) = tileL m s n ++ (List.range a).map fun x : Nat => rd m.C (sGlobal m.W m.H s ((n + x : Nat) : Int)) := by
  simp only [tileL, List.range_add, List.map_append, List.map_map]; rfl

theorem global_in {w h s l : Int} (hs : SecS w h s) (h0 : 0 ≤ l) (h1 : l < (sSize w h s).1 * (sSize w h s).2) : 0 ≤ sGlobal w h s l ∧ sGlobal w h s l < w * h := by
  obtain ⟨a1, a2, a3, a4, a5, a6⟩ := global_parts hs h0 h1
  obtain ⟨p1, p2, p3, p4⟩ := sec_parts hs
  have e : sGlobal w h s l = (16 * (s / (sSectors w h).1) + l / (sSize w h s).1) * w + (16 * (s % (sSectors w h).1) + l % (sSize w h s).1) := by
    unfold sGlobal; rw [if_pos ⟨hs, h0, h1⟩]
  rw [e]
  exact cell_lt (by omega) a5 (by omega) a6
/-- a sector's row lies side by side -/
theorem global_row {w h s y x : Int} (hs : SecS w h s) (y0 : 0 ≤ y) (y1 : y < (sSize w h s).2) (x0 : 0 ≤ x) (x1 : x < (sSize w h s).1) : sGlobal w h s (y * (sSize w h s).1 + x) = sGlobal w h s (y * (sSize w h s).1) + x := by
  obtain ⟨z1, z2, z3, z4⟩ := size_in hs
  have hl := cell_lt (w := (sSize w h s).1) (h := (sSize w h s).2) x0 x1 y0 y1
  have hl0 := cell_lt (w := (sSize w h s).1) (h := (sSize w h s).2) (x := 0) (by omega) (by omega) y0 y1
  have n1 := num_parts (a := (sSize w h s).1) (x := x) (y := y) x0 x1
  have n0 := num_parts (a := (sSize w h s).1) (x := 0) (y := y) (by omega) (by omega)
  rw [Int.add_zero] at n0 hl0
  unfold sGlobal
  rw [if_pos ⟨hs, hl⟩, if_pos ⟨hs, hl0⟩, n1.1, n1.2, n0.1, n0.2]; omega

theorem sub_map {L : List Int} {lo : Int} {a : Nat} (h0 : 0 ≤ lo) (h1 : lo + a ≤ L.length) : sub' L lo (lo + a) = (List.range a).map fun x : Nat => rd L (lo + (x : Int)) := by
  apply List.ext_getElem
  · simp [sub']; omega
  · intro i h2 h3
    have hi : i < a := by simpa using h3
    simp only [sub', List.getElem_take, List.getElem_drop, List.getElem_map, List.getElem_range]
    rw [rd_eq (by omega)]
    congr 1; omega

theorem tileof_f {m : api_Map} (hm : MapOk m) (s : Int) : ref1_TileOf.f m s = some (api_Map.mk (sSize m.W m.H s).1 (sSize m.W m.H s).2 (tileL m s ((sSize m.W m.H s).1 * (sSize m.W m.H s).2).toNat)) := by
  unfold ref1_TileOf.f
  rw [rsize_f, Option.bind_some]
  have hz := size_le m.W m.H s
  have hpr : (sSize m.W m.H s).1 * (sSize m.W m.H s).2 ≤ 16 * 16 := mul_le hz.1 hz.2.2.1 hz.2.1 hz.2.2.2
  have hp0 : 0 ≤ (sSize m.W m.H s).1 * (sSize m.W m.H s).2 := mul_nn hz.1 hz.2.2.1
  have key : ∀ (n k : Nat) (i : Int), i + n = (sSize m.W m.H s).1 * (sSize m.W m.H s).2 → 0 ≤ i → n < k →
      ref1_TileOf.l0 k m s (sSize m.W m.H s) (tileL m s i.toNat) i = some (api_Map.mk (sSize m.W m.H s).1 (sSize m.W m.H s).2 (tileL m s ((sSize m.W m.H s).1 * (sSize m.W m.H s).2).toNat)) := by
    intro n
    induction n with
    | zero =>
      intro k i hi h0 hk
      obtain ⟨k, rfl⟩ : ∃ q, k = q + 1 := ⟨k - 1, by omega⟩
      rw [ref1_TileOf.l0, w64_id (x := _ * _) (by omega) (by omega), if_neg (by omega)]
      have : i = (sSize m.W m.H s).1 * (sSize m.W m.H s).2 := by omega
      rw [this]
    | succ n ih =>
      intro k i hi h0 hk
      obtain ⟨k, rfl⟩ : ∃ q, k = q + 1 := ⟨k - 1, by omega⟩
      have hs : SecS m.W m.H s := by
        by_cases hs : SecS m.W m.H s
        · exact hs
        · have : sSize m.W m.H s = (0, 0) := by unfold sSize; rw [if_neg hs]
          rw [this] at hi; simp at hi; omega
      have hg := global_in hs h0 (by omega : i < _)
      have hl := hm.2.1
      rw [ref1_TileOf.l0, w64_id (x := _ * _) (by omega) (by omega), if_pos (by omega), rglobal_f, Option.bind_some, if_pos (by omega), if_pos (by rw [tileL_length]; omega), w64_id (by omega) (by omega)]
      have := ih k (i + 1) (by omega) (by omega) (by omega)
      rw [show (i + 1).toNat = i.toNat + 1 by omega, tileL_succ, show ((i.toNat : Nat) : Int) = i by omega] at this
      exact this
  exact key ((sSize m.W m.H s).1 * (sSize m.W m.H s).2).toNat fuel 0 (by omega) (by omega) (by rw [fuel_eq]; omega)

theorem own_f (m : api_Map) (hb : m.C.length ≤ 1099511627776) : ref1_Own.f m = some m := by
  unfold ref1_Own.f
  rw [if_pos (by simp; omega)]; simp
theorem same_f (m : api_Map) : ref1_SameMap.f m m = some true := by
  unfold ref1_SameMap.f ref1_Bytes.f; simp [strEq_self]
end Go.Proofs.YtnkdnecilkafhaaDoor
