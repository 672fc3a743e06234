import Derived.Test.YtnkdnecilkafhaaDoorPmade
namespace Go.Proofs.YtnkdnecilkafhaaDoor
open Go.Hx

/-- the cost list of a sector's tile -/
abbrev secN (w h s : Int) : Nat := ((sSize w h s).1 * (sSize w h s).2).toNat
/-- a sector's tile -/
def secT (m : api_Map) (s : Int) : api_Map := api_Map.mk (sSize m.W m.H s).1 (sSize m.W m.H s).2 (tileL m s (secN m.W m.H s))
theorem secN_in {w h s : Int} (hs : SecS w h s) : 1 ≤ secN w h s ∧ secN w h s ≤ 256 ∧ ((secN w h s : Nat) : Int) = (sSize w h s).1 * (sSize w h s).2 := by
  obtain ⟨z1, z2, z3, z4⟩ := size_in hs
  have h1 : (sSize w h s).1 * (sSize w h s).2 ≤ 16 * 16 := mul_le (by omega) (by omega) z2 z4
  have h2 : 1 * 1 ≤ (sSize w h s).1 * (sSize w h s).2 := mul_le (by omega) (by omega) z1 z3
  unfold secN
  omega
theorem cut_f {m : api_Map} (hw : MayS m.W m.H) (hl : (m.C.length : Int) = m.W * m.H) {s : Int} (hs : SecS m.W m.H s) : atlas_cut.f m s = some (secT m s) := by
  unfold atlas_cut.f secT
  rw [size_f, Option.bind_some, global_f, Option.bind_some]
  have hz := size_in hs
  have hpr : (sSize m.W m.H s).1 * (sSize m.W m.H s).2 ≤ 16 * 16 := mul_le (by omega) (by omega) hz.2.1 hz.2.2.2
  have hc := may_prod hw
  have h00 := global_in (l := 0) hs (by omega) (by have := secN_in hs; omega)
  obtain ⟨p1, p2, p3, p4⟩ := sec_parts hs
  have key : ∀ (n k : Nat) (i : Int), i + n = (sSize m.W m.H s).2 → 0 ≤ i → n < k →
      atlas_cut.l0 k m (sSize m.W m.H s) (sGlobal m.W m.H s 0) (tileL m s (i * (sSize m.W m.H s).1).toNat) i = some (api_Map.mk (sSize m.W m.H s).1 (sSize m.W m.H s).2 (tileL m s (secN m.W m.H s))) := by
    intro n
    induction n with
    | zero =>
      intro k i hi h0 hk
      obtain ⟨k, rfl⟩ := kpos hk
      rw [atlas_cut.l0, if_neg (by omega)]
      have : i = (sSize m.W m.H s).2 := by omega
      rw [this, Int.mul_comm]
    | succ n ih =>
      intro k i hi h0 hk
      obtain ⟨k, rfl⟩ := kpos hk
      have hi2 : i < (sSize m.W m.H s).2 := by omega
      have b0 : 0 ≤ i * (sSize m.W m.H s).1 := mul_nn h0 (by omega)
      have b1 : i * (sSize m.W m.H s).1 + (sSize m.W m.H s).1 ≤ (sSize m.W m.H s).1 * (sSize m.W m.H s).2 := by
        have : (i + 1) * (sSize m.W m.H s).1 ≤ (sSize m.W m.H s).2 * (sSize m.W m.H s).1 := Int.mul_le_mul_of_nonneg_right (by omega) (by omega)
        rw [Int.add_mul, Int.one_mul, Int.mul_comm (sSize m.W m.H s).2] at this
        exact this
      have lo := global_in hs b0 (by omega)
      have hi3 := global_in (l := i * (sSize m.W m.H s).1 + ((sSize m.W m.H s).1 - 1)) hs (by omega) (by omega)
      rw [global_row hs h0 hi2 (by omega) (by omega)] at hi3
      -- the row's first cell
      have hrow : sGlobal m.W m.H s (i * (sSize m.W m.H s).1) = sGlobal m.W m.H s 0 + i * m.W := by
        have n0 := num_parts (a := (sSize m.W m.H s).1) (x := 0) (y := i) (by omega) (by omega)
        rw [Int.add_zero] at n0
        unfold sGlobal
        rw [if_pos ⟨hs, b0, by omega⟩, if_pos ⟨hs, by omega, by omega⟩, n0.1, n0.2, Int.zero_ediv, Int.zero_emod]; simp only [Int.add_zero, Int.add_mul]; omega
      have iw : 0 ≤ i * m.W := mul_nn h0 (by omega)
      rw [atlas_cut.l0, if_pos hi2, w64_id (x := i * m.W) (by omega) (by omega), w64_id (x := sGlobal m.W m.H s 0 + i * m.W) (by omega) (by omega), w64_id (x := sGlobal m.W m.H s 0 + i * m.W + (sSize m.W m.H s).1) (by omega) (by omega), ← hrow]
      rw [if_pos (by omega)]
      have hsz : (((sSize m.W m.H s).1.toNat : Nat) : Int) = (sSize m.W m.H s).1 := by omega
      have hsub := sub_map (L := m.C) (lo := sGlobal m.W m.H s (i * (sSize m.W m.H s).1)) (a := (sSize m.W m.H s).1.toNat) (by omega) (by omega)
      rw [hsz] at hsub
      rw [hsub, if_pos (by rw [tileL_length]; simp; omega), w64_id (by omega) (by omega)]
      have hnew : tileL m s (i * (sSize m.W m.H s).1).toNat ++ (List.range (sSize m.W m.H s).1.toNat).map (fun x : Nat => rd m.C (sGlobal m.W m.H s (i * (sSize m.W m.H s).1) + (x : Int))) = tileL m s ((i + 1) * (sSize m.W m.H s).1).toNat := by
        rw [show ((i + 1) * (sSize m.W m.H s).1).toNat = (i * (sSize m.W m.H s).1).toNat + (sSize m.W m.H s).1.toNat by rw [Int.add_mul, Int.one_mul]; omega, tileL_add]
        congr 1
        apply List.map_congr_left
        intro x hx
        have hx2 := List.mem_range.mp hx
        rw [show (((i * (sSize m.W m.H s).1).toNat + x : Nat) : Int) = i * (sSize m.W m.H s).1 + (x : Int) by omega, global_row hs h0 hi2 (by omega) (by omega)]
      rw [hnew]
      exact ih k (i + 1) (by omega) (by omega) (by omega)
  have := key (sSize m.W m.H s).2.toNat fuel 0 (by omega) (by omega) (by rw [fuel_eq]; omega)
  rw [show ((0 : Int) * (sSize m.W m.H s).1).toNat = 0 by simp] at this
  exact this
theorem rtile_f {m : api_Map} (hm : MapOk m) (s : Int) : ref1_TileOf.f m s = some (secT m s) := tileof_f hm s
/-- a cell of a sector -/
def inS (w h s c : Int) : Prop := 16 * (s % (sSectors w h).1) ≤ c % w ∧ c % w < 16 * (s % (sSectors w h).1) + (sSize w h s).1 ∧ 16 * (s / (sSectors w h).1) ≤ c / w ∧ c / w < 16 * (s / (sSectors w h).1) + (sSize w h s).2
instance (w h s c : Int) : Decidable (inS w h s c) := by unfold inS; infer_instance
def loc (w h s c : Int) : Int := (c / w - 16 * (s / (sSectors w h).1)) * (sSize w h s).1 + (c % w - 16 * (s % (sSectors w h).1))
theorem room2 {w h s : Int} (hs : SecS w h s) : 16 * (s % (sSectors w h).1) + (sSize w h s).1 ≤ w ∧ 16 * (s / (sSectors w h).1) + (sSize w h s).2 ≤ h := by
  unfold sSize
  rw [if_pos hs]
  simp only
  omega
theorem loc_in {w h s c : Int} (hs : SecS w h s) (hi : inS w h s c) : 0 ≤ loc w h s c ∧ loc w h s c < (sSize w h s).1 * (sSize w h s).2 := by
  obtain ⟨i1, i2, i3, i4⟩ := hi
  unfold loc
  exact cell_lt (by omega) (by omega) (by omega) (by omega)
theorem glob_loc {w h s c : Int} (hs : SecS w h s) (hi : inS w h s c) : sGlobal w h s (loc w h s c) = c := by
  have hl := loc_in hs hi
  have ⟨i1, i2, i3, i4⟩ := hi
  have n := num_parts (a := (sSize w h s).1) (x := c % w - 16 * (s % (sSectors w h).1)) (y := c / w - 16 * (s / (sSectors w h).1)) (by omega) (by omega)
  have hq := Int.mul_ediv_add_emod c w
  rw [Int.mul_comm] at hq
  unfold sGlobal
  rw [if_pos ⟨hs, hl⟩]
  unfold loc
  rw [n.1, n.2]
  have e1 : 16 * (s / (sSectors w h).1) + (c / w - 16 * (s / (sSectors w h).1)) = c / w := by omega
  rw [e1]
  omega
theorem glob_in {w h s l : Int} (hs : SecS w h s) (h0 : 0 ≤ l) (h1 : l < (sSize w h s).1 * (sSize w h s).2) : inS w h s (sGlobal w h s l) ∧ loc w h s (sGlobal w h s l) = l := by
  obtain ⟨a1, a2, a3, a4, a5, a6⟩ := global_parts hs h0 h1
  obtain ⟨p1, p2, p3, p4⟩ := sec_parts hs
  have e : sGlobal w h s l = (16 * (s / (sSectors w h).1) + l / (sSize w h s).1) * w + (16 * (s % (sSectors w h).1) + l % (sSize w h s).1) := by
    unfold sGlobal; rw [if_pos ⟨hs, h0, h1⟩]
  have n := num_parts (a := w) (x := 16 * (s % (sSectors w h).1) + l % (sSize w h s).1) (y := 16 * (s / (sSectors w h).1) + l / (sSize w h s).1) (by omega) a5
  rw [e]
  unfold inS loc
  rw [n.1, n.2]
  refine ⟨⟨by omega, by omega, by omega, by omega⟩, ?_⟩
  have e1 : 16 * (s / (sSectors w h).1) + l / (sSize w h s).1 - 16 * (s / (sSectors w h).1) = l / (sSize w h s).1 := by omega
  have e2 : 16 * (s % (sSectors w h).1) + l % (sSize w h s).1 - 16 * (s % (sSectors w h).1) = l % (sSize w h s).1 := by omega
  rw [e1, e2]
  have := Int.mul_ediv_add_emod l (sSize w h s).1
  rw [Int.mul_comm] at this
  exact this
/-- a cell is of one sector -/
theorem sec_one {w h s t c : Int} (hs : SecS w h s) (ht : SecS w h t) (h1 : inS w h s c) (h2 : inS w h t c) : s = t := by
  obtain ⟨a1, a2, a3, a4⟩ := h1
  obtain ⟨b1, b2, b3, b4⟩ := h2
  have z1 := size_in hs
  have z2 := size_in ht
  have e1 : s % (sSectors w h).1 = t % (sSectors w h).1 := by omega
  have e2 : s / (sSectors w h).1 = t / (sSectors w h).1 := by omega
  have q1 := Int.mul_ediv_add_emod s (sSectors w h).1
  have q2 := Int.mul_ediv_add_emod t (sSectors w h).1
  rw [← q1, ← q2, e1, e2]
/-- each cell is of a sector -/
theorem sec_some {w h c : Int} (hc : CellS w h c) : ∃ s, SecS w h s ∧ inS w h s c := by
  have hs := sector_in hc
  obtain ⟨a, b, d, e⟩ := sec_of hc
  have hn := num_parts (a := (sSectors w h).1) (x := c % w / 16) (y := c / w / 16) a b
  have hp := place_in hc
  refine ⟨_, hs, ?_⟩
  unfold inS sSize
  rw [if_pos hs, hn.1, hn.2]
  simp only
  generalize c % w = x at *
  generalize c / w = y at *
  omega
theorem row_iff {w a X tw c : Int} (hw : 0 < w) (X0 : 0 ≤ X) (ht : X + tw ≤ w) : (a * w + X ≤ c ∧ c < a * w + X + tw) ↔ (c / w = a ∧ X ≤ c % w ∧ c % w < X + tw) := by
  constructor
  · rintro ⟨h1, h2⟩
    have := num_parts (a := w) (x := c - a * w) (y := a) (by omega) (by omega)
    rw [show a * w + (c - a * w) = c by omega] at this
    obtain ⟨e1, e2⟩ := this
    rw [e1, e2]
    exact ⟨rfl, by omega, by omega⟩
  · rintro ⟨rfl, h2, h3⟩
    have := Int.mul_ediv_add_emod c w
    rw [Int.mul_comm] at this
    omega
theorem rd_cpy {x S : List Int} {p n c : Int} (p0 : 0 ≤ p) (n0 : 0 ≤ n) (hx : p + n ≤ x.length) (hS : n ≤ S.length) (c0 : 0 ≤ c) : rd (cpy x p.toNat n.toNat S) c = if p ≤ c ∧ c < p + n then rd S (c - p) else rd x c := by
  unfold cpy
  by_cases h1 : c < p
  · rw [if_neg (by omega), rdl c0 (by simp; omega)]
    unfold rd
    rw [List.getD_eq_getElem?_getD, List.getD_eq_getElem?_getD, List.getElem?_take_of_lt (by omega)]
  · have e : c - ((List.take p.toNat x).length : Int) = c - p := by simp; omega
    rw [rdr (by simp; omega), e]
    by_cases h2 : c < p + n
    · rw [if_pos ⟨by omega, h2⟩, rdl (by omega) (by simp; omega)]
      unfold rd
      rw [List.getD_eq_getElem?_getD, List.getD_eq_getElem?_getD, List.getElem?_take_of_lt (by omega)]
    · rw [if_neg (by omega), rdr (by simp; omega)]
      have e2 : c - p - ((List.take n.toNat S).length : Int) = c - p - n := by simp; omega
      rw [e2]
      unfold rd
      rw [List.getD_eq_getElem?_getD, List.getD_eq_getElem?_getD, List.getElem?_drop, show p.toNat + n.toNat + (c - p - n).toNat = c.toNat by omega]
/-- a sector's costs, laid into a map -/
theorem lay_f {w h s : Int} (hs : SecS w h s) {t : api_Map} (hW : t.W = (sSize w h s).1) (hH : t.H = (sSize w h s).2) (hC : (t.C.length : Int) = (sSize w h s).1 * (sSize w h s).2) {x : List Int} (hx : (x.length : Int) = w * h) :
    ∃ x', atlas_lay.f ⟨w, h, x⟩ s t = some x' ∧ (x'.length : Int) = w * h ∧ ∀ c, 0 ≤ c → c < w * h → rd x' c = if inS w h s c then rd t.C (loc w h s c) else rd x c := by
  have hz := size_in hs
  have hmay := sec_may hs
  have hmp := may_prod hmay
  obtain ⟨r1, r2⟩ := room2 hs
  obtain ⟨p1, p2, p3, p4⟩ := sec_parts hs
  obtain ⟨sn1, sn2, sn3⟩ := secN_in hs
  unfold atlas_lay.f
  simp only
  rw [global_f, Option.bind_some]
  have hg : sGlobal w h s 0 = 16 * (s / (sSectors w h).1) * w + 16 * (s % (sSectors w h).1) := by
    unfold sGlobal
    rw [if_pos ⟨hs, by omega, by omega⟩, Int.zero_ediv, Int.zero_emod, Int.add_zero, Int.add_zero]
  rw [hg]
  generalize hX : 16 * (s % (sSectors w h).1) = X at *
  generalize hY : 16 * (s / (sSectors w h).1) = Y at *
  generalize htw : (sSize w h s).1 = tw at *
  generalize hth : (sSize w h s).2 = th at *
  have key : ∀ (n k : Nat) (y : Int) (z : List Int), y + n = th → 0 ≤ y → n < k → (z.length : Int) = w * h → (∀ c, 0 ≤ c → c < w * h → rd z c = if inS w h s c ∧ c / w < Y + y then rd t.C (loc w h s c) else rd x c) →
      ∃ x', atlas_lay.l0 k ⟨w, h, x⟩ t (Y * w + X) z y = some x' ∧ (x'.length : Int) = w * h ∧ ∀ c, 0 ≤ c → c < w * h → rd x' c = if inS w h s c then rd t.C (loc w h s c) else rd x c := by
    intro n
    induction n with
    | zero =>
      intro k y z hy y0 hk hzl hzc
      obtain ⟨k, rfl⟩ := kpos hk
      refine ⟨z, by rw [atlas_lay.l0, if_neg (by omega)], hzl, fun c c0 c1 => ?_⟩
      rw [hzc c c0 c1]
      by_cases hi : inS w h s c
      · have : c / w < Y + y := by
          have ⟨_, _, _, i4⟩ := hi
          rw [hY, hth] at i4; omega
        rw [if_pos ⟨hi, this⟩, if_pos hi]
      · rw [if_neg (fun q => hi q.1), if_neg hi]
    | succ n ih =>
      intro k y z hy y0 hk hzl hzc
      obtain ⟨k, rfl⟩ := kpos hk
      have e1 : (Y + y) * w = Y * w + y * w := Int.add_mul _ _ _
      have e2 : (y + 1) * tw = y * tw + tw := by rw [Int.add_mul, Int.one_mul]
      have e3 : (Y + y + 1) * w = (Y + y) * w + w := by rw [Int.add_mul, Int.one_mul]
      have b1 : (Y + y + 1) * w ≤ h * w := Int.mul_le_mul_of_nonneg_right (by omega) (by omega)
      have b2 : h * w = w * h := Int.mul_comm _ _
      have b3 : (y + 1) * tw ≤ th * tw := Int.mul_le_mul_of_nonneg_right (by omega) (by omega)
      have b4 : th * tw = tw * th := Int.mul_comm _ _
      have b5 : 0 ≤ y * tw := mul_nn y0 (by omega)
      have b6 : 0 ≤ y * w := mul_nn y0 (by omega)
      have b7 : 0 ≤ Y * w := mul_nn (by omega) (by omega)
      rw [atlas_lay.l0, hH, if_pos (by omega)]
      simp only
      rw [hW, w64_id (x := y * w) (by omega) (by omega), w64_id (x := Y * w + X + y * w) (by omega) (by omega), w64_id (x := y * tw) (by omega) (by omega), w64_id (x := y + 1) (by omega) (by omega), w64_id (x := (y + 1) * tw) (by omega) (by omega)]
      have hpe : Y * w + X + y * w = (Y + y) * w + X := by omega
      rw [hpe, if_pos (by omega), if_pos (by omega)]
      have l1 := sub_len (L := t.C) (lo := y * tw) (hi := (y + 1) * tw) b5 (by omega) (by omega)
      have l2 := sub_len (L := z) (lo := (Y + y) * w + X) (hi := (z.length : Int)) (by omega) (by omega) (by omega)
      have hmin : min (sub' t.C (y * tw) ((y + 1) * tw)).length (sub' z ((Y + y) * w + X) (z.length : Int)).length = tw.toNat := by omega
      rw [hmin]
      have hcl : (cpy z ((Y + y) * w + X).toNat tw.toNat (sub' t.C (y * tw) ((y + 1) * tw))).length = z.length := cpy_length (by omega) (by omega)
      refine ih k (y + 1) _ (by omega) (by omega) (by omega) (by omega) (fun c c0 c1 => ?_)
      rw [rd_cpy (by omega) (by omega) (by omega) (by omega) c0]
      have hri := row_iff (w := w) (a := Y + y) (X := X) (tw := tw) (c := c) (by omega) (by omega) r1
      by_cases hrow : (Y + y) * w + X ≤ c ∧ c < (Y + y) * w + X + tw
      · obtain ⟨q1, q2, q3⟩ := hri.mp hrow
        have hin : inS w h s c := by unfold inS; rw [hX, hY, htw, hth]; exact ⟨q2, q3, by omega, by omega⟩
        rw [if_pos hrow, if_pos ⟨hin, by omega⟩, rd_sub b5 (by omega) (by omega)]
        congr 1
        unfold loc
        rw [hX, hY, htw, q1]
        have e4 : (Y + y - Y) * tw = y * tw := by rw [show Y + y - Y = y by omega]
        have := Int.mul_ediv_add_emod c w
        rw [Int.mul_comm, q1] at this
        omega
      · rw [if_neg hrow, hzc c c0 c1]
        by_cases hin : inS w h s c
        · have ⟨i1, i2, i3, i4⟩ := hin
          rw [hX] at i1
          rw [hX, htw] at i2
          have hne : c / w ≠ Y + y := fun q => hrow (hri.mpr ⟨q, i1, i2⟩)
          by_cases hlt : c / w < Y + y
          · rw [if_pos ⟨hin, hlt⟩, if_pos ⟨hin, by omega⟩]
          · rw [if_neg (fun q => hlt q.2), if_neg (fun q => by have := q.2; omega)]
        · rw [if_neg (fun q => hin q.1), if_neg (fun q => hin q.1)]
  exact key th.toNat fuel 0 x (by omega) (by omega) (by rw [fuel_eq]; omega) hx (fun c c0 c1 => by
    by_cases hi : inS w h s c
    · have ⟨_, _, i3, _⟩ := hi
      rw [hY] at i3
      rw [if_neg (fun q => by have := q.2; omega)]
    · rw [if_neg (fun q => hi q.1)])
end Go.Proofs.YtnkdnecilkafhaaDoor
