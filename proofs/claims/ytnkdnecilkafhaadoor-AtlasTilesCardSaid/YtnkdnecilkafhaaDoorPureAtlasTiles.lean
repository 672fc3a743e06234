import Derived.Test.YtnkdnecilkafhaaDoorFLAtlasTiles
import Derived.Test.YtnkdnecilkafhaaDoorPtold
namespace Go.Proofs.YtnkdnecilkafhaaDoor
open Go.Hx

theorem tile_s {m : api_Map} (hm : MapOk m) {s : Int} (hs : SecS m.W m.H s) : atlas_Tile.f m s = some (secT m s, true) := by
  have hc := count_in m.W m.H
  have hl := map_len hm
  unfold atlas_Tile.f atlas_many.f
  rw [atlas_may_f m (by omega), Option.bind_some, sectors_f]
  simp only [Option.bind_some]
  have e : w64 ((sSectors m.W m.H).1 * (sSectors m.W m.H).2) = sCount m.W m.H := by
    show w64 (sCount m.W m.H) = _
    exact w64_id (by omega) (by omega)
  have h0 := hs.1
  have h1 := hs.2
  rw [e, decide_eq_true hm, if_neg (by simp; omega), Option.bind_some, if_neg (by simp; omega), cut_f hm.1 hm.2.1 hs]; rfl
/-- the first tiles -/
def tl (m : api_Map) (n : Nat) : List api_Map := (List.range n).map fun s : Nat => secT m (s : Int)
theorem tl_len (m : api_Map) (n : Nat) : (tl m n).length = n := by simp [tl]
theorem tl_succ (m : api_Map) (n : Nat) : tl m (n + 1) = tl m n ++ [secT m (n : Int)] := by simp [tl, List.range_succ]
theorem tl_rd {m : api_Map} {n : Nat} {i : Int} (h0 : 0 ≤ i) (h1 : i < n) : rd (tl m n) i = secT m i := by
  unfold tl
  rw [rd_eq (by simp; omega)]
  simp only [List.getElem_map, List.getElem_range]
  rw [show ((i.toNat : Nat) : Int) = i by omega]
theorem ask_f (t : api_Map) (sz : Int × Int) (hb : t.C.length < 4611686018427387904) : ((tile_May.f t).bind fun v13 => if (!v13) = true then (some true) else (if (t.W != sz.1) = true then (some true) else (some (t.H != sz.2)))) = some (decide (¬ (TileOk t ∧ t.W = sz.1 ∧ t.H = sz.2))) := by
  rw [tmay_f t hb, Option.bind_some]
  by_cases h1 : TileOk t
  · by_cases h2 : t.W = sz.1
    · simp [h1, h2]
      by_cases h3 : t.H = sz.2 <;> simp [h3]
    · simp [h1, h2]
  · simp [h1]
theorem join_l {m : api_Map} (hm : MapB m) {l : List api_Map} (N : Nat) (hN : (N : Int) = sCount m.W m.H) (hl : l.length = N) :
    ∀ (n k : Nat) (i : Int) (x : List Int), i + n = N → 0 ≤ i → n < k → (x.length : Int) = m.W * m.H → (∀ s, i ≤ s → s < N → rd l s = secT m s) →
    (∀ c, 0 ≤ c → c < m.W * m.H → (∃ s, 0 ≤ s ∧ s < i ∧ SecS m.W m.H s ∧ inS m.W m.H s c) → rd x c = rd m.C c) → atlas_Join.l0 k m.W m.H l x i = some (m, true) := by
  have hcn := count_in m.W m.H
  intro n
  induction n with
  | zero =>
    intro k i x hi i0 hk hx hT hin
    obtain ⟨k, rfl⟩ := kpos hk
    rw [atlas_Join.l0, if_neg (by omega)]
    have : x = m.C := by
      have h2 := hm.ok.2.1
      refine rdext (by omega) (fun c c0 c1 => ?_)
      obtain ⟨s, s1, s2⟩ := sec_some (w := m.W) (h := m.H) (c := c) ⟨hm.ok.1, c0, by omega⟩
      exact hin c c0 (by omega) ⟨s, s1.1, by have := s1.2; omega, s1, s2⟩
    rw [this]
  | succ n ih =>
    intro k i x hi i0 hk hx hT hin
    obtain ⟨k, rfl⟩ := kpos hk
    have hs : SecS m.W m.H i := ⟨i0, by omega⟩
    obtain ⟨t1, t2⟩ := secT_ok hm hs
    have htl := tile_len t1
    have ht := hT i (by omega) (by omega)
    rw [atlas_Join.l0, if_pos (show i < (l.length : Int) by omega), if_pos (show 0 ≤ i ∧ i < (l.length : Int) by omega), size_f, Option.bind_some, ask_f _ _ (by rw [ht]; omega), ht, Option.bind_some]
    obtain ⟨x', f1, f2, f3⟩ := lay_f hs (t := secT m i) rfl rfl t1.2.2.2.2.1 (x := x) hx
    have hno : ¬ (decide (¬ (TileOk (secT m i) ∧ (secT m i).W = (sSize m.W m.H i).1 ∧ (secT m i).H = (sSize m.W m.H i).2)) = true) := by
      rw [decide_eq_true_eq]
      exact fun q => q ⟨t1, rfl, rfl⟩
    rw [if_neg hno, f1, Option.bind_some, w64_id (by omega) (by omega)]
    refine ih k (i + 1) x' (by omega) (by omega) (by omega) f2 (fun s s0 s1 => hT s (by omega) s1) (fun c c0 c1 hc' => ?_)
    rw [f3 c c0 c1]
    by_cases hi' : inS m.W m.H i c
    · rw [if_pos hi']
      have hll := loc_in hs hi'
      have hn3 := secN_in hs
      show rd (tileL m i (secN m.W m.H i)) _ = _
      rw [tileL_rd hll.1 (by omega), glob_loc hs hi']
    · rw [if_neg hi']
      obtain ⟨s, s0, s1, s2, s3⟩ := hc'
      have : s ≠ i := fun q => hi' (q ▸ s3)
      exact hin c c0 c1 ⟨s, s0, by omega, s2, s3⟩
theorem join_b {m : api_Map} (hm : MapB m) {l : List api_Map} (N : Nat) (hN : (N : Int) = sCount m.W m.H) (hl : l.length = N) (p : Int) (p0 : 0 ≤ p) (p1 : p < N) (hT : ∀ s, 0 ≤ s → s < p → rd l s = secT m s)
    (hbad : ¬ (TileOk (rd l p) ∧ (rd l p).W = (sSize m.W m.H p).1 ∧ (rd l p).H = (sSize m.W m.H p).2)) (hbl : (rd l p).C.length < 4611686018427387904) :
    ∀ (n k : Nat) (i : Int) (x : List Int), i + n = p → 0 ≤ i → n < k → (x.length : Int) = m.W * m.H → atlas_Join.l0 k m.W m.H l x i = some (⟨0, 0, []⟩, false) := by
  have hcn := count_in m.W m.H
  intro n
  induction n with
  | zero =>
    intro k i x hi i0 hk hx
    obtain ⟨k, rfl⟩ := kpos hk
    have hip : i = p := by omega
    subst hip
    rw [atlas_Join.l0, if_pos (show i < (l.length : Int) by omega), if_pos (show 0 ≤ i ∧ i < (l.length : Int) by omega), size_f, Option.bind_some, ask_f _ _ hbl, Option.bind_some, if_pos (decide_eq_true hbad)]
  | succ n ih =>
    intro k i x hi i0 hk hx
    obtain ⟨k, rfl⟩ := kpos hk
    have hs : SecS m.W m.H i := ⟨i0, by omega⟩
    obtain ⟨t1, t2⟩ := secT_ok hm hs
    have htl := tile_len t1
    have ht := hT i i0 (by omega)
    rw [atlas_Join.l0, if_pos (show i < (l.length : Int) by omega), if_pos (show 0 ≤ i ∧ i < (l.length : Int) by omega), size_f, Option.bind_some, ask_f _ _ (by rw [ht]; omega), ht, Option.bind_some]
    obtain ⟨x', f1, f2, f3⟩ := lay_f hs (t := secT m i) rfl rfl t1.2.2.2.2.1 (x := x) hx
    have hno : ¬ (decide (¬ (TileOk (secT m i) ∧ (secT m i).W = (sSize m.W m.H i).1 ∧ (secT m i).H = (sSize m.W m.H i).2)) = true) := by
      rw [decide_eq_true_eq]
      exact fun q => q ⟨t1, rfl, rfl⟩
    rw [if_neg hno, f1, Option.bind_some, w64_id (by omega) (by omega)]
    exact ih k (i + 1) x' (by omega) (by omega) (by omega) f2
theorem join_start {m : api_Map} (hm : MapB m) (l : List api_Map) : atlas_Join.f m.W m.H l = if (l.length : Int) = sCount m.W m.H then atlas_Join.l0 fuel m.W m.H l (List.replicate (m.W * m.H).toNat 0) 0 else some (⟨0, 0, []⟩, false) := by
  have hc := count_in m.W m.H
  have hp := may_prod hm.ok.1
  unfold atlas_Join.f atlas_many.f
  rw [may_f, decide_eq_true hm.ok.1, Option.bind_some, if_neg (by simp), sectors_f]
  simp only [Option.bind_some]
  have e : w64 ((sSectors m.W m.H).1 * (sSectors m.W m.H).2) = sCount m.W m.H := by
    show w64 (sCount m.W m.H) = _
    exact w64_id (by omega) (by omega)
  rw [e]
  by_cases hl : (l.length : Int) = sCount m.W m.H
  · rw [if_pos hl, if_neg (by simpa using hl), w64_id (x := m.W * m.H) (by omega) (by omega), if_pos (by omega)]
  · rw [if_neg hl, if_pos (by simpa using hl)]
theorem ones_l (l : List api_Map) (p : Int) (hp : 0 ≤ p ∧ p < (l.length : Int)) : ∀ (n k : Nat) (i : Int) (x : List Int), i + n = x.length → 0 ≤ i → n < k → x.length ≤ 100000 →
    ∃ x', law4_AtlasTiles.l1 k l p i x = some (List.set l p.toNat (api_Map.mk (w64 ((rd l p).W + 1)) ((rd l p).H) x')) ∧ x'.length = x.length := by
  intro n
  induction n with
  | zero =>
    intro k i x hi i0 hk hx
    obtain ⟨k, rfl⟩ := kpos hk
    rw [law4_AtlasTiles.l1, List.nil_append, if_pos hp, if_neg (by omega)]
    exact ⟨x, rfl, rfl⟩
  | succ n ih =>
    intro k i x hi i0 hk hx
    obtain ⟨k, rfl⟩ := kpos hk
    rw [law4_AtlasTiles.l1, List.nil_append, if_pos hp, if_pos (by omega), if_pos (by omega), w64_id (by omega) (by omega)]
    obtain ⟨x', e, l'⟩ := ih k (i + 1) (List.set x i.toNat 1) (by simp; omega) (by omega) (by omega) (by simpa using hx)
    exact ⟨x', e, by rw [l']; simp⟩
theorem rd_set_ne {l : List api_Map} {p s : Int} {t : api_Map} (p0 : 0 ≤ p) (s0 : 0 ≤ s) (h : s ≠ p) : rd (List.set l p.toNat t) s = rd l s := by
  unfold rd
  rw [List.getD_eq_getElem?_getD, List.getD_eq_getElem?_getD, List.getElem?_set_ne (by omega)]
theorem rd_set_eq {l : List api_Map} {p : Int} {t : api_Map} (p0 : 0 ≤ p) (h : p < l.length) : rd (List.set l p.toNat t) p = t := by
  rw [rd_eq (by simp; omega)]; simp
theorem last_f {m : api_Map} (hm : MapB m) (N : Nat) (hN : (N : Int) = sCount m.W m.H) (p3 how : Int) (k : Nat) : law4_AtlasTiles.l0 (k + 1) p3 how m (sCount m.W m.H) (tl m N) N = some true := by
  have hcn := count_in m.W m.H
  have hpos := count_pos hm.ok.1
  have hp := may_prod hm.ok.1
  have hlen := tl_len m N
  rw [law4_AtlasTiles.l0, if_neg (by omega), join_start hm, if_pos (by omega), join_l hm N hN hlen N fuel 0 _ (by omega) (by omega) (by rw [fuel_eq]; omega) (by simp; omega) (fun s s0 s1 => tl_rd s0 (by omega)) (fun c _ _ hc => by obtain ⟨s, s0, s1, _⟩ := hc; omega), Option.bind_some]
  simp only
  rw [if_neg (by simp), same_f, Option.bind_some, Option.bind_some, if_neg (by simp), if_pos (by simp; omega)]
  have g := within_in (n := p3) (lo := 0) (hi := sCount m.W m.H - 1) (by omega)
  have g2 := within_in (n := how) (lo := 0) (hi := 3) (by omega)
  rw [w64_id (x := sCount m.W m.H - 1) (by omega) (by omega), within_f (n := p3) (by omega) (by omega) (by omega) (by omega), Option.bind_some, within_f (n := how) (by omega) (by omega) (by omega) (by omega), Option.bind_some]
  generalize 0 + p3 % (sCount m.W m.H - 1 - 0 + 1) = p at g ⊢
  generalize 0 + how % (3 - 0 + 1) = q at g2 ⊢
  -- whatever is joined badly
  have fin : ∀ l : List api_Map, atlas_Join.f m.W m.H l = some (⟨0, 0, []⟩, false) → ((atlas_Join.f m.W m.H l).bind fun v23 => ((law4_told.f).bind fun v26 => if (v26 && (!v23.2)) = true then (if ((List.length v23.1.C : Int) == 0) = true then (if (v23.1.W == 0) = true then (some (v23.1.H == 0)) else (some false)) else (some false)) else (some false)).bind fun x24 => some x24) = some true := by
    intro l e
    rw [e, told4]; rfl
  have len : ∀ l : List api_Map, ¬ (l.length : Int) = sCount m.W m.H → atlas_Join.f m.W m.H l = some (⟨0, 0, []⟩, false) := fun l h => by rw [join_start hm, if_neg h]
  have bad : ∀ t : api_Map, ¬ (TileOk t ∧ t.W = (sSize m.W m.H p).1 ∧ t.H = (sSize m.W m.H p).2) → t.C.length < 4611686018427387904 → atlas_Join.f m.W m.H (List.set (tl m N) p.toNat t) = some (⟨0, 0, []⟩, false) := by
    intro t h1 h2
    have er : rd (List.set (tl m N) p.toNat t) p = t := rd_set_eq g.1 (by rw [hlen]; omega)
    rw [join_start hm, if_pos (by rw [List.length_set]; omega)]
    refine join_b hm N hN (by simpa using hlen) p g.1 (by omega) (fun s s0 s1 => ?_) (by rw [er]; exact h1) (by rw [er]; exact h2) p.toNat fuel 0 _ (by omega) (by omega) (by rw [fuel_eq]; omega) (by simp; omega)
    rw [rd_set_ne g.1 s0 (by omega), tl_rd s0 (by omega)]
  have hs : SecS m.W m.H p := ⟨g.1, by omega⟩
  obtain ⟨t1, t2⟩ := secT_ok hm hs
  have htl := tile_len t1
  have hz := size_in hs
  have hpr : rd (tl m N) p = secT m p := tl_rd g.1 (by omega)
  by_cases q0 : q = 0
  · rw [if_pos (by simpa using q0), if_pos (by simp only [List.nil_append]; omega), Option.bind_some]
    refine fin _ (len _ ?_)
    have := sub_len (L := ([] : List Int) ++ List.replicate N 0) (lo := 0) (hi := sCount m.W m.H - 1) (by omega) (by omega) (by simp; omega)
    have h3 : ((sub' (([] : List api_Map) ++ tl m N) 0 (sCount m.W m.H - 1)).length : Int) = sCount m.W m.H - 1 := by rw [sub_length (by simp only [List.nil_append]; omega)]; omega
    omega
  · rw [if_neg (by simpa using q0)]
    by_cases q1 : q = 1
    · rw [if_pos (by simpa using q1), if_pos (by omega), if_pos (by simp only [List.nil_append]; omega), Option.bind_some]
      refine fin _ (len _ ?_)
      simp only [List.nil_append, List.length_append, List.length_cons, List.length_nil]
      omega
    · rw [if_neg (by simpa using q1)]
      by_cases q2 : q = 2
      · have ew : (secT m p).W = (sSize m.W m.H p).1 := rfl
        have eh : (secT m p).H = (sSize m.W m.H p).2 := rfl
        have hmul : ((sSize m.W m.H p).1 + 1) * (sSize m.W m.H p).2 ≤ 17 * 16 := mul_le (by omega) (by omega) (by omega) hz.2.2.2
        have hmul0 : 0 ≤ ((sSize m.W m.H p).1 + 1) * (sSize m.W m.H p).2 := mul_nn (by omega) (by omega)
        rw [if_pos (by simpa using q2), if_pos (by omega), hpr, ew, eh, w64_id (x := (sSize m.W m.H p).1 + 1) (by omega) (by omega), w64_id (x := ((sSize m.W m.H p).1 + 1) * (sSize m.W m.H p).2) (by omega) (by omega), if_pos (by omega), if_pos (by simp only [List.nil_append]; omega)]
        obtain ⟨x', e, l'⟩ := ones_l (tl m N) p ⟨g.1, by omega⟩ (((sSize m.W m.H p).1 + 1) * (sSize m.W m.H p).2).toNat fuel 0 (List.replicate (((sSize m.W m.H p).1 + 1) * (sSize m.W m.H p).2).toNat 0) (by simp) (by omega) (by rw [fuel_eq]; omega) (by simp; omega)
        rw [e, Option.bind_some, hpr, ew, eh, w64_id (x := (sSize m.W m.H p).1 + 1) (by omega) (by omega)]
        refine fin _ (bad _ (fun qq => ?_) (by show x'.length < _; rw [l']; simp; omega))
        have := qq.2.1
        simp only at this
        omega
      · rw [if_neg (by simpa using q2), if_pos (by omega), hpr]
        have eo : ref1_OwnTile.f (secT m p) = some (secT m p) := by
          unfold ref1_OwnTile.f
          rw [if_pos (by simp; omega)]; simp
        rw [eo, Option.bind_some, if_pos (by simp only [List.nil_append]; omega), if_pos (by omega), Option.bind_some]
        refine fin _ (bad _ (fun qq => ?_) (by simp; omega))
        refine qq.1.2.2.2.2.2 ?_
        simp only
        exact List.mem_of_getElem (l := List.set (secT m p).C (Int.toNat 0) 0) (i := 0) (h := by simp; omega) (by simp)
theorem AtlasTiles_pure : law4_AtlasTiles.Pure := by
  intro w h c p3 how _ _ hc _ _ hcl
  unfold law4_AtlasTiles.f
  obtain ⟨m, e, hm, hml, hbig⟩ := made_b w h hc
  have hcn := count_in m.W m.H
  rw [e, Option.bind_some, rcount_f, Option.bind_some]
  have key : ∀ (n k i : Nat), (i : Int) + n = sCount m.W m.H → n < k → law4_AtlasTiles.l0 k p3 how m (sCount m.W m.H) (tl m i) i = some true := by
    intro n
    induction n with
    | zero =>
      intro k i hi hk
      obtain ⟨k, rfl⟩ := kpos hk
      exact last_f hm i (by omega) p3 how k
    | succ n ih =>
      intro k i hi hk
      obtain ⟨k, rfl⟩ := kpos hk
      have hs : SecS m.W m.H (i : Int) := ⟨by omega, by omega⟩
      rw [law4_AtlasTiles.l0, if_pos (by omega), tile_s hm.ok hs, Option.bind_some]
      simp only
      rw [if_neg (by simp), if_pos (by rw [tl_len]; omega), w64_id (by omega) (by omega), ← tl_succ]
      have := ih k (i + 1) (by omega) (by omega)
      exact this
  exact key (sCount m.W m.H).toNat fuel 0 (by omega) (by rw [fuel_eq]; omega)
end Go.Proofs.YtnkdnecilkafhaaDoor
