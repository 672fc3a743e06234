import Derived.Test.YtnkdnecilkafhaaDoorPinv
namespace Go.Proofs.YtnkdnecilkafhaaDoor
open Go.Hx

/-- the maps that come of the first tiles -/
inductive LayTo (w h : Int) (l : List api_Map) : Int → List Int → Prop
  | zero : LayTo w h l 0 (List.replicate (w * h).toNat 0)
  | step {i : Int} {x x' : List Int} (hs : SecS w h i) (hi : i < l.length) (hW : (rd l i).W = (sSize w h i).1) (hH : (rd l i).H = (sSize w h i).2) (hC : ((rd l i).C.length : Int) = (sSize w h i).1 * (sSize w h i).2) (prev : LayTo w h l i x) (hl : atlas_lay.f ⟨w, h, x⟩ i (rd l i) = some x') : LayTo w h l (i + 1) x'
theorem layto_len {w h : Int} (hm : MayS w h) {l : List api_Map} {i : Int} {x : List Int} (hL : LayTo w h l i x) : (x.length : Int) = w * h ∧ 0 ≤ i := by
  have hp := may_prod hm
  induction hL with
  | zero => exact ⟨by simp; omega, by omega⟩
  | step hs hi hW hH hC prev hl ih =>
    obtain ⟨x2, e, h2, _⟩ := lay_f hs hW hH hC ih.1
    rw [hl] at e
    rw [Option.some.inj e]
    exact ⟨h2, by omega⟩
theorem layto_more {w h : Int} (hm : MayS w h) {l : List api_Map} {i : Int} {x : List Int} (t : api_Map) (hL : LayTo w h l i x) : LayTo w h (l ++ [t]) i x := by
  induction hL with
  | zero => exact .zero
  | @step i x x' hs hi hW hH hC prev hl ih =>
    have e : rd (l ++ [t]) i = rd l i := rdl hs.1 (by omega)
    exact .step hs (by simp; omega) (by rw [e]; exact hW) (by rw [e]; exact hH) (by rw [e]; exact hC) ih (by rw [e]; exact hl)
theorem join_row {w h s : Int} (hs : SecS w h s) {l : List api_Map} (hi : s < l.length) (hC : ((rd l s).C.length : Int) = (sSize w h s).1 * (sSize w h s).2) {x : List Int} (hx : (x.length : Int) = w * h) :
    ∃ x', ref1_Joined.l1 fuel w h l s x 0 = some x' ∧ (x'.length : Int) = w * h ∧ ∀ c, 0 ≤ c → c < w * h → rd x' c = if inS w h s c then rd (rd l s).C (loc w h s c) else rd x c := by
  have hz := size_in hs
  obtain ⟨sn1, sn2, sn3⟩ := secN_in hs
  have key : ∀ (n k : Nat) (j : Int) (z : List Int), j + n = (rd l s).C.length → 0 ≤ j → n < k → (z.length : Int) = w * h → (∀ c, 0 ≤ c → c < w * h → rd z c = if inS w h s c ∧ loc w h s c < j then rd (rd l s).C (loc w h s c) else rd x c) →
      ∃ x', ref1_Joined.l1 k w h l s z j = some x' ∧ (x'.length : Int) = w * h ∧ ∀ c, 0 ≤ c → c < w * h → rd x' c = if inS w h s c then rd (rd l s).C (loc w h s c) else rd x c := by
    intro n
    induction n with
    | zero =>
      intro k j z hj j0 hk hzl hzc
      obtain ⟨k, rfl⟩ := kpos hk
      refine ⟨z, by rw [ref1_Joined.l1, if_pos ⟨hs.1, hi⟩, if_neg (by omega)], hzl, fun c c0 c1 => ?_⟩
      rw [hzc c c0 c1]
      by_cases hin : inS w h s c
      · have := loc_in hs hin
        rw [if_pos ⟨hin, by omega⟩, if_pos hin]
      · rw [if_neg (fun q => hin q.1), if_neg hin]
    | succ n ih =>
      intro k j z hj j0 hk hzl hzc
      obtain ⟨k, rfl⟩ := kpos hk
      have hg := global_in hs j0 (by omega : j < _)
      obtain ⟨g1, g2⟩ := glob_in hs j0 (by omega : j < _)
      rw [ref1_Joined.l1, if_pos ⟨hs.1, hi⟩, if_pos (by omega), if_pos (by omega), rglobal_f, Option.bind_some, if_pos (by omega), w64_id (x := j + 1) (by omega) (by omega)]
      refine ih k (j + 1) _ (by omega) (by omega) (by omega) (by simpa using hzl) (fun c c0 c1 => ?_)
      rw [rd_set hg.1 (by omega) c0]
      by_cases hc : c = sGlobal w h s j
      · subst hc
        rw [if_pos rfl, if_pos ⟨g1, by omega⟩, g2]
      · rw [if_neg hc, hzc c c0 c1]
        by_cases hin : inS w h s c
        · have hne : loc w h s c ≠ j := fun q => hc (by rw [← q, glob_loc hs hin])
          by_cases hlt : loc w h s c < j
          · rw [if_pos ⟨hin, hlt⟩, if_pos ⟨hin, by omega⟩]
          · rw [if_neg (fun q => hlt q.2), if_neg (fun q => by have := q.2; omega)]
        · rw [if_neg (fun q => hin q.1), if_neg (fun q => hin q.1)]
  exact key (rd l s).C.length fuel 0 x (by omega) (by omega) (by rw [fuel_eq]; omega) hx (fun c c0 c1 => by
    by_cases hin : inS w h s c
    · have := loc_in hs hin
      rw [if_neg (fun q => by have := q.2; omega)]
    · rw [if_neg (fun q => hin q.1)])
theorem joined_to {w h : Int} (hm : MayS w h) {l : List api_Map} (hl : l.length ≤ 5000) {i : Int} {x : List Int} (hL : LayTo w h l i x) : ∀ k : Nat, ref1_Joined.l0 (k + i.toNat) w h l (List.replicate (w * h).toNat 0) 0 = ref1_Joined.l0 k w h l x i := by
  induction hL with
  | zero => intro k; rfl
  | @step i x x' hs hi hW hH hC prev hl' ih =>
    intro k
    have hx := layto_len hm prev
    obtain ⟨x2, e2, l2, c2⟩ := lay_f hs hW hH hC hx.1
    obtain ⟨x3, e3, l3, c3⟩ := join_row hs hi hC hx.1
    rw [hl'] at e2
    have ex : x3 = x' := by
      rw [Option.some.inj e2]
      exact rdext (by omega) (fun c c0 c1 => by rw [c2 c c0 (by omega), c3 c c0 (by omega)])
    have := ih (k + 1)
    rw [show k + (i + 1).toNat = k + 1 + i.toNat by omega, this, ref1_Joined.l0, if_pos hi, e3, Option.bind_some, ex, w64_id (by omega) (by omega)]
theorem joined_f {w h : Int} (hm : MayS w h) {l : List api_Map} (hl : l.length ≤ 5000) {x : List Int} (hL : LayTo w h l l.length x) : ref1_Joined.f w h l = some ⟨w, h, x⟩ := by
  have hp := may_prod hm
  unfold ref1_Joined.f
  rw [w64_id (x := w * h) (by omega) (by omega), if_pos (by omega)]
  obtain ⟨k, hk⟩ : ∃ k, fuel = k + 1 + l.length := ⟨fuel - 1 - l.length, by rw [fuel_eq]; omega⟩
  have := joined_to hm hl hL (k + 1)
  rw [show (l.length : Int).toNat = l.length by omega] at this
  rw [hk, this, ref1_Joined.l0, if_neg (by omega)]
/-- both read alike -/
theorem read_joint {w h : Int} (hmay : MayS w h) {b : List Int} (hb : ∀ y ∈ b, inU8 y) (hbl : b.length ≤ 100000) (hw : rd b 0 + 256 * rd b 1 = w) (hh : rd b 2 + 256 * rd b 3 = h) (u0 : inU8 (rd b 0)) (u1 : inU8 (rd b 1)) (u2 : inU8 (rd b 2)) (u3 : inU8 (rd b 3)) :
    ∀ (n k1 k2 : Nat) (i a : Int) (l : List api_Map) (x : List Int), i + n = sCount w h → 0 ≤ i → n < k1 → n < k2 → 0 ≤ a → a ≤ b.length → (l.length : Int) = i → LayTo w h l i x →
    ∃ m' e c, atlas_read.l0 k1 b (sCount w h) (sub' b a (b.length : Int)) x i = some (m', e) ∧ errors_AsN62.f e = some (if c = 0 then none else some c) ∧ ref1_GetMap.l0 k2 b l a i = some (m', c) ∧ (c ≠ 0 → m' = ⟨0, 0, []⟩) := by
  have hcn := count_in w h
  intro n
  induction n with
  | zero =>
    intro k1 k2 i a l x hi i0 hk1 hk2 a0 a1 hll hL
    obtain ⟨k1, rfl⟩ := kpos hk1
    obtain ⟨k2, rfl⟩ := kpos hk2
    have sl := sub_len (L := b) (lo := a) (hi := (b.length : Int)) a0 a1 (by omega)
    have hlt : ¬ i < sCount w h := by omega
    rw [atlas_read.l0, ref1_GetMap.l0, hdr u0 u1, hdr u2 u3, rhdr u0 u1, rhdr u2 u3, hw, hh, rcount_f, Option.bind_some, if_neg hlt, if_neg hlt]
    by_cases hz : ((sub' b a (b.length : Int)).length : Int) > 0
    · rw [if_pos hz, if_pos (by simp; omega)]
      exact ⟨_, _, 3, rfl, rfl, rfl, fun _ => rfl⟩
    · rw [if_neg hz, if_neg (by simp; omega), joined_f hmay (by omega) (by rw [hll]; exact hL)]
      exact ⟨_, _, 0, rfl, rfl, rfl, fun q => absurd rfl q⟩
  | succ n ih =>
    intro k1 k2 i a l x hi i0 hk1 hk2 a0 a1 hll hL
    obtain ⟨k1, rfl⟩ := kpos hk1
    obtain ⟨k2, rfl⟩ := kpos hk2
    have sl := sub_len (L := b) (lo := a) (hi := (b.length : Int)) a0 a1 (by omega)
    have hs : SecS w h i := ⟨i0, by omega⟩
    have hz := size_in hs
    obtain ⟨res, e, e', hres⟩ := get_joint (b := sub' b a (b.length : Int)) (sub_mem hb) (by omega) (w := (sSize w h i).1) (h := (sSize w h i).2) ⟨hz.1, hz.2.1⟩ ⟨hz.2.2.1, hz.2.2.2⟩
    have hlt : i < sCount w h := by omega
    rw [atlas_read.l0, ref1_GetMap.l0, hdr u0 u1, hdr u2 u3, rhdr u0 u1, rhdr u2 u3, hw, hh, rcount_f, Option.bind_some, if_pos hlt, if_pos hlt, size_f, rsize_f, Option.bind_some, Option.bind_some, e, Option.bind_some, if_pos (show 0 ≤ a ∧ a ≤ (b.length : Int) ∧ (b.length : Int) ≤ (b.length : Int) by omega), e', Option.bind_some]
    rcases hres with ⟨q1, q2, q3⟩ | ⟨q1, tok, ⟨tW, tH, tB⟩, p0, p1, out, ep, es⟩
    · rw [if_pos (by simp; omega), if_pos (by simp; omega)]
      refine ⟨_, _, res.2.2, rfl, ?_, rfl, fun _ => rfl⟩
      rw [asN_wrap, if_neg (by omega)]
    · rw [if_neg (by simp [q1]), if_neg (by simp [q1])]
      have tC : (res.1.C.length : Int) = (sSize w h i).1 * (sSize w h i).2 := by rw [tok.2.2.2.2.1, tW, tH]
      have hx := layto_len hmay hL
      obtain ⟨x1, f1, f2, f3⟩ := lay_f hs (t := res.1) tW tH tC (x := x) hx.1
      rw [f1, Option.bind_some, if_pos (by omega), if_pos (by omega), w64_id (x := i + 1) (by omega) (by omega), w64_id (x := a + res.2.1) (by omega) (by omega), sub_sub ⟨a0, a1, by omega⟩ ⟨p0, p1, by omega⟩]
      have ea : a + ((sub' b a (b.length : Int)).length : Int) = b.length := by omega
      rw [ea]
      have er : rd (l ++ [res.1]) i = res.1 := by
        rw [rdr (by omega), show i - (l.length : Int) = 0 by omega]; rfl
      exact ih k1 k2 (i + 1) (a + res.2.1) (l ++ [res.1]) x1 (by omega) (by omega) (by omega) (by omega) (by omega) (by omega) (by simp; omega)
        (.step hs (by simp; omega) (by rw [er]; exact tW) (by rw [er]; exact tH) (by rw [er]; exact tC) (layto_more hmay res.1 hL) (by rw [er]; exact f1))
theorem get_same {b : List Int} (hb : ∀ y ∈ b, inU8 y) (hl : b.length ≤ 100000) : ∃ res, atlas_Get.f b = some res ∧ ref1_GetMap.f b = some res := by
  unfold atlas_Get.f atlas_read.f ref1_GetMap.f
  by_cases h4 : (b.length : Int) < 4
  · rw [if_pos h4, if_pos h4, Option.bind_some, asN_num, Option.bind_some, if_pos (by rfl)]
    exact ⟨_, rfl, rfl⟩
  · have u0 : inU8 (rd b 0) := hb _ (rd_mem (by omega) (by omega))
    have u1 : inU8 (rd b 1) := hb _ (rd_mem (by omega) (by omega))
    have u2 : inU8 (rd b 2) := hb _ (rd_mem (by omega) (by omega))
    have u3 : inU8 (rd b 3) := hb _ (rd_mem (by omega) (by omega))
    have i0 : 0 ≤ (0 : Int) ∧ (0 : Int) < (b.length : Int) := by omega
    have i1 : 0 ≤ (1 : Int) ∧ (1 : Int) < (b.length : Int) := by omega
    have i2 : 0 ≤ (2 : Int) ∧ (2 : Int) < (b.length : Int) := by omega
    have i3 : 0 ≤ (3 : Int) ∧ (3 : Int) < (b.length : Int) := by omega
    rw [if_neg h4, if_neg h4]
    simp only [if_pos i0, if_pos i1, if_pos i2, if_pos i3]
    rw [hdr u0 u1, hdr u2 u3, rhdr u0 u1, rhdr u2 u3, may_f, rmay_f, Option.bind_some, Option.bind_some]
    generalize hw : rd b 0 + 256 * rd b 1 = w
    generalize hh : rd b 2 + 256 * rd b 3 = h
    by_cases hm : MayS w h
    · have hp := may_prod hm
      have hc := count_in w h
      have hn : ¬ ((!true) = true) := by simp
      rw [decide_eq_true hm, if_neg hn, if_neg hn, if_pos (show 0 ≤ (4 : Int) ∧ (4 : Int) ≤ (b.length : Int) ∧ (b.length : Int) ≤ (b.length : Int) by omega), w64_id (x := w * h) (by omega) (by omega), if_pos (show 0 ≤ w * h ∧ w * h ≤ 1099511627776 by omega)]
      unfold atlas_many.f
      rw [sectors_f]
      simp only [Option.bind_some]
      have e : w64 ((sSectors w h).1 * (sSectors w h).2) = sCount w h := by
        show w64 (sCount w h) = _
        exact w64_id (by omega) (by omega)
      rw [e]
      obtain ⟨m', e', c, q1, q2, q3, q4⟩ := read_joint hm hb hl hw hh u0 u1 u2 u3 (sCount w h).toNat fuel fuel 0 4 [] (List.replicate (w * h).toNat 0) (by omega) (by omega) (by rw [fuel_eq]; omega) (by rw [fuel_eq]; omega) (by omega) (by omega) rfl .zero
      rw [q1, q3, Option.bind_some]
      simp only
      rw [q2, Option.bind_some]
      by_cases hz : c = 0
      · rw [if_pos hz, if_neg (by simp), hz]; exact ⟨_, rfl, rfl⟩
      · rw [if_neg hz, if_pos (by rfl), q4 hz]; exact ⟨_, rfl, rfl⟩
    · have ht : (!false) = true := rfl
      rw [decide_eq_false hm, if_pos ht, if_pos ht, Option.bind_some, asN_num, Option.bind_some, if_pos (by rfl)]
      exact ⟨_, rfl, rfl⟩
end Go.Proofs.YtnkdnecilkafhaaDoor
