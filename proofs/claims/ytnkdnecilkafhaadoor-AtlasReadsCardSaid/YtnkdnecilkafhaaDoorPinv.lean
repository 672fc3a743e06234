import Derived.Test.YtnkdnecilkafhaaDoorPtold
namespace Go.Proofs.YtnkdnecilkafhaaDoor
open Go.Hx

theorem sub_all {L : List Int} {p : Int} (h0 : 0 ≤ p) (h1 : p ≤ L.length) : sub' L 0 p ++ sub' L p (L.length : Int) = L := by
  have l1 := sub_len (L := L) (lo := 0) (hi := p) (by omega) h0 h1
  have l2 := sub_len (L := L) (lo := p) (hi := (L.length : Int)) h0 h1 (by omega)
  refine rdext (by rw [List.length_append]; omega) (fun j j0 j1 => ?_)
  by_cases hj : j < p
  · rw [rdl j0 (by omega), rd_sub (by omega) j0 (by omega), Int.zero_add]
  · rw [rdr (by omega), rd_sub h0 (by omega) (by rw [List.length_append] at j1; omega)]
    congr 1; omega
/-- the tile of a sector, known by its costs -/
theorem secT_eq {m t : api_Map} {s : Int} (hW : t.W = (sSize m.W m.H s).1) (hH : t.H = (sSize m.W m.H s).2) (hl : t.C.length = secN m.W m.H s) (hc : ∀ l : Int, 0 ≤ l → l < t.C.length → rd m.C (sGlobal m.W m.H s l) = rd t.C l) : secT m s = t := by
  unfold secT
  have : tileL m s (secN m.W m.H s) = t.C := by
    refine rdext (by rw [tileL_length, hl]) (fun j j0 j1 => ?_)
    rw [tileL_length] at j1
    rw [tileL_rd j0 j1]
    exact hc j j0 (by omega)
  rw [this, ← hW, ← hH]
def badR (res : api_Map × Er) : Prop := ∃ e c, res = (⟨0, 0, []⟩, e) ∧ errors_AsN62.f e = some (some c) ∧ (c = 2 ∨ c = 3)
/-- what is read is what would be put -/
theorem read_inv {w h : Int} (hmay : MayS w h) {b : List Int} (hw : rd b 0 + 256 * rd b 1 = w) (hh : rd b 2 + 256 * rd b 3 = h) (u0 : inU8 (rd b 0)) (u1 : inU8 (rd b 1)) (u2 : inU8 (rd b 2)) (u3 : inU8 (rd b 3)) :
    ∀ (n k : Nat) (i : Int) (r x : List Int), i + n = sCount w h → 0 ≤ i → n < k → (∀ y ∈ r, inU8 y) → r.length ≤ 100000 → (x.length : Int) = w * h →
    ∃ res, atlas_read.l0 k b (sCount w h) r x i = some res ∧ (badR res ∨ ∃ x', res = (⟨w, h, x'⟩, .nil) ∧ (x'.length : Int) = w * h ∧
      (∀ c, 0 ≤ c → c < w * h → (∀ s, i ≤ s → SecS w h s → ¬ inS w h s c) → rd x' c = rd x c) ∧ (∀ c s, 0 ≤ c → c < w * h → i ≤ s → SecS w h s → inS w h s c → 1 ≤ rd x' c ∧ rd x' c ≤ 255) ∧ outs ⟨w, h, x'⟩ n i = r) := by
  have hcn := count_in w h
  intro n
  induction n with
  | zero =>
    intro k i r x hi i0 hk hr hrl hx
    obtain ⟨k, rfl⟩ := kpos hk
    rw [atlas_read.l0, hdr u0 u1, hdr u2 u3, hw, hh, if_neg (by omega)]
    by_cases hz : (r.length : Int) > 0
    · rw [if_pos hz]
      exact ⟨_, rfl, .inl ⟨_, 3, rfl, rfl, .inr rfl⟩⟩
    · rw [if_neg hz]
      have : r = [] := List.eq_nil_of_length_eq_zero (by omega)
      refine ⟨_, rfl, .inr ⟨x, rfl, hx, fun c _ _ _ => rfl, fun c s c0 c1 s0 s1 s2 => ?_, by rw [this]; rfl⟩⟩
      have := s1.2; omega
  | succ n ih =>
    intro k i r x hi i0 hk hr hrl hx
    obtain ⟨k, rfl⟩ := kpos hk
    have hs : SecS w h i := ⟨i0, by omega⟩
    have hz := size_in hs
    obtain ⟨res, e, _, hres⟩ := get_joint hr hrl (w := (sSize w h i).1) (h := (sSize w h i).2) ⟨hz.1, hz.2.1⟩ ⟨hz.2.2.1, hz.2.2.2⟩
    rw [atlas_read.l0, hdr u0 u1, hdr u2 u3, hw, hh, if_pos (by omega), size_f, Option.bind_some, e, Option.bind_some]
    rcases hres with ⟨q1, q2, q3⟩ | ⟨q1, tok, ⟨tW, tH, tB⟩, p0, p1, out, ep, es⟩
    · rw [if_pos (by simp; omega)]
      exact ⟨_, rfl, .inl ⟨_, res.2.2, rfl, asN_wrap _ _, q3⟩⟩
    · rw [if_neg (by simp [q1])]
      have tC : (res.1.C.length : Int) = (sSize w h i).1 * (sSize w h i).2 := by rw [tok.2.2.2.2.1, tW, tH]
      obtain ⟨x1, f1, f2, f3⟩ := lay_f hs (t := res.1) tW tH tC (x := x) hx
      obtain ⟨sn1, sn2, sn3⟩ := secN_in hs
      rw [f1, Option.bind_some, if_pos (by omega), w64_id (x := i + 1) (by omega) (by omega)]
      have sl := sub_len (L := r) (lo := res.2.1) (hi := (r.length : Int)) p0 p1 (by omega)
      obtain ⟨res2, e2, hr2⟩ := ih k (i + 1) (sub' r res.2.1 (r.length : Int)) x1 (by omega) (by omega) (by omega) (sub_mem hr) (by omega) f2
      refine ⟨res2, e2, ?_⟩
      rcases hr2 with hbad | ⟨x', ex, xl, xo, xb, xouts⟩
      · exact .inl hbad
      · -- a cell of this sector is not touched any more
        have keep : ∀ c, 0 ≤ c → c < w * h → inS w h i c → rd x' c = rd res.1.C (loc w h i c) := fun c c0 c1 hc => by
          rw [xo c c0 c1 (fun s s0 s1 s2 => by have := sec_one hs s1 hc s2; omega), f3 c c0 c1, if_pos hc]
        refine .inr ⟨x', ex, xl, fun c c0 c1 hno => ?_, fun c s c0 c1 s0 s1 s2 => ?_, ?_⟩
        · rw [xo c c0 c1 (fun s s0 s1 => hno s (by omega) s1), f3 c c0 c1, if_neg (hno i (by omega) hs)]
        · by_cases hsi : s = i
          · subst hsi
            rw [keep c c0 c1 s2]
            have hll := loc_in s1 s2
            exact tB _ (rd_mem hll.1 (by omega))
          · exact xb c s c0 c1 (by omega) s1 s2
        · have et : secT ⟨w, h, x'⟩ i = res.1 := by
            refine secT_eq tW tH (by show res.1.C.length = secN w h i; omega) (fun l l0 l1 => ?_)
            show rd x' (sGlobal w h i l) = _
            have hg := global_in hs l0 (by omega : l < _)
            obtain ⟨g1, g2⟩ := glob_in hs l0 (by omega : l < _)
            rw [keep _ hg.1 hg.2 g1, g2]
          obtain ⟨L', f', out', ep', hL'⟩ := put_ok tok
          have eo : out' = out := by rw [ep] at ep'; exact (Prod.mk.inj (Option.some.inj ep')).1.symm
          subst eo
          have hou : out' = sub' r 0 res.2.1 := strEq_inj (out_u8 tok tB hL') (sub_mem hr) es
          show outO ⟨w, h, x'⟩ i ++ outs ⟨w, h, x'⟩ n (i + 1) = r
          have : outO ⟨w, h, x'⟩ i = out' := by unfold outO; rw [et, ep]; rfl
          rw [this, xouts, hou]
          exact sub_all p0 p1
theorem rd_all {x : List Int} {P : Int → Prop} (h : ∀ c : Int, 0 ≤ c → c < x.length → P (rd x c)) : ∀ y ∈ x, P y := by
  intro y hy
  obtain ⟨i, hi, rfl⟩ := List.getElem_of_mem hy
  have := h i (by omega) (by omega)
  rw [rd_eq (by simpa using hi)] at this
  simpa using this
/-- of any bytes a map is read that would be put so, or none -/
theorem get_inv {b : List Int} (hb : ∀ y ∈ b, inU8 y) (hl : b.length ≤ 100000) : ∃ m c, atlas_Get.f b = some (m, c) ∧ ((m = ⟨0, 0, []⟩ ∧ (c = 2 ∨ c = 3)) ∨ (c = 0 ∧ MapB m ∧ bytesOf m = b)) := by
  unfold atlas_Get.f atlas_read.f
  by_cases h4 : (b.length : Int) < 4
  · rw [if_pos h4, Option.bind_some, asN_num, Option.bind_some, if_pos (by rfl)]
    exact ⟨_, _, rfl, .inl ⟨rfl, .inl rfl⟩⟩
  · have u0 : inU8 (rd b 0) := hb _ (rd_mem (by omega) (by omega))
    have u1 : inU8 (rd b 1) := hb _ (rd_mem (by omega) (by omega))
    have u2 : inU8 (rd b 2) := hb _ (rd_mem (by omega) (by omega))
    have u3 : inU8 (rd b 3) := hb _ (rd_mem (by omega) (by omega))
    rw [if_neg h4, if_pos (show 0 ≤ (0 : Int) ∧ (0 : Int) < (b.length : Int) by omega), if_pos (show 0 ≤ (1 : Int) ∧ (1 : Int) < (b.length : Int) by omega), if_pos (show 0 ≤ (2 : Int) ∧ (2 : Int) < (b.length : Int) by omega), if_pos (show 0 ≤ (3 : Int) ∧ (3 : Int) < (b.length : Int) by omega), hdr u0 u1, hdr u2 u3, may_f, Option.bind_some]
    generalize hw : rd b 0 + 256 * rd b 1 = w
    generalize hh : rd b 2 + 256 * rd b 3 = h
    by_cases hm : MayS w h
    · have hp := may_prod hm
      have hc := count_in w h
      rw [decide_eq_true hm, if_neg (by simp), if_pos (show 0 ≤ (4 : Int) ∧ (4 : Int) ≤ (b.length : Int) ∧ (b.length : Int) ≤ (b.length : Int) by omega), w64_id (x := w * h) (by omega) (by omega), if_pos (show 0 ≤ w * h ∧ w * h ≤ 1099511627776 by omega)]
      unfold atlas_many.f
      rw [sectors_f]
      simp only [Option.bind_some]
      have e : w64 ((sSectors w h).1 * (sSectors w h).2) = sCount w h := by
        show w64 (sCount w h) = _
        exact w64_id (by omega) (by omega)
      rw [e]
      have sl := sub_len (L := b) (lo := 4) (hi := (b.length : Int)) (by omega) (by omega) (by omega)
      obtain ⟨res, e2, hres⟩ := read_inv hm hw hh u0 u1 u2 u3 (sCount w h).toNat fuel 0 (sub' b 4 (b.length : Int)) (List.replicate (w * h).toNat 0) (by omega) (by omega) (by rw [fuel_eq]; omega) (sub_mem hb) (by omega) (by simp; omega)
      rw [e2, Option.bind_some]
      rcases hres with ⟨e', c, rfl, h1, h2⟩ | ⟨x', rfl, xl, _, xb, xouts⟩
      · simp only
        rw [h1, Option.bind_some, if_pos (by rfl)]
        exact ⟨_, _, rfl, .inl ⟨rfl, h2⟩⟩
      · simp only
        rw [asN_nil, Option.bind_some, if_neg (by simp)]
        refine ⟨_, _, rfl, .inr ⟨rfl, ?_, ?_⟩⟩
        · have hby : ∀ y ∈ x', 1 ≤ y ∧ y ≤ 255 := rd_all (fun c c0 c1 => by
            obtain ⟨s, s1, s2⟩ := sec_some (w := w) (h := h) (c := c) ⟨hm, c0, by omega⟩
            exact xb c s c0 (by omega) s1.1 s1 s2)
          exact ⟨⟨hm, xl, fun q => by have := hby 0 q; omega⟩, hby⟩
        · have hhead : head4 ⟨w, h, x'⟩ = sub' b 0 4 := by
            unfold inU8 at u0 u1 u2 u3
            have l4 := sub_len (L := b) (lo := 0) (hi := 4) (by omega) (by omega) (by omega)
            unfold head4
            simp only
            rw [fdiv8 (by omega), fdiv8 (by omega), wu8_m, wu8_m, wu8_m, wu8_m]
            refine rdext (by simp; omega) (fun j j0 j1 => ?_)
            rw [rd_sub (by omega) j0 (by simp at j1; omega), Int.zero_add]
            have hj : j = 0 ∨ j = 1 ∨ j = 2 ∨ j = 3 := by simp at j1; omega
            rcases hj with rfl | rfl | rfl | rfl
            · show w % 256 = _; omega
            · show w / 256 % 256 = _; omega
            · show h % 256 = _; omega
            · show h / 256 % 256 = _; omega
          unfold bytesOf
          simp only
          rw [hhead, xouts]
          exact sub_all (by omega) (by omega)
    · rw [decide_eq_false hm, if_pos (by simp), Option.bind_some, asN_num, Option.bind_some, if_pos (by rfl)]
      exact ⟨_, _, rfl, .inl ⟨rfl, .inr rfl⟩⟩
end Go.Proofs.YtnkdnecilkafhaaDoor
