import Derived.Test.YtnkdnecilkafhaaDoorPstr
namespace Go.Proofs.YtnkdnecilkafhaaDoor
open Go.Hx

/-- a map whose costs are bytes -/
structure MapB (m : api_Map) : Prop where
  ok : MapOk m
  by_ : ∀ y ∈ m.C, 1 ≤ y ∧ y ≤ 255
theorem tileL_rd {m : api_Map} {s : Int} {n : Nat} {l : Int} (l0 : 0 ≤ l) (l1 : l < n) : rd (tileL m s n) l = rd m.C (sGlobal m.W m.H s l) := by
  unfold tileL
  rw [rd_eq (by simp; omega)]
  simp only [List.getElem_map, List.getElem_range]
  rw [show ((l.toNat : Nat) : Int) = l by omega]
theorem secT_ok {m : api_Map} (hm : MapB m) {s : Int} (hs : SecS m.W m.H s) : TileOk (secT m s) ∧ ∀ y ∈ (secT m s).C, 1 ≤ y ∧ y ≤ 255 := by
  have hz := size_in hs
  obtain ⟨n1, n2, n3⟩ := secN_in hs
  have hb : ∀ y ∈ (secT m s).C, 1 ≤ y ∧ y ≤ 255 := by
    intro y hy
    unfold secT tileL at hy
    simp only [List.mem_map, List.mem_range] at hy
    obtain ⟨l, hl, rfl⟩ := hy
    have hg := global_in (l := (l : Int)) hs (by omega) (by omega)
    exact hm.by_ _ (rd_mem hg.1 (by rw [hm.ok.2.1]; exact hg.2))
  refine ⟨⟨hz.1, hz.2.1, hz.2.2.1, hz.2.2.2, ?_, fun q => by have := hb 0 q; omega⟩, hb⟩
  show ((tileL m s (secN m.W m.H s)).length : Int) = _
  rw [tileL_length, n3]; rfl
/-- a sector's bytes -/
def outO (m : api_Map) (s : Int) : List Int := ((pack_Put.f (secT m s)).getD ([], 0)).1
theorem out_f {m : api_Map} (hm : MapB m) {s : Int} (hs : SecS m.W m.H s) : ∃ L f, pack_Put.f (secT m s) = some (outO m s, 0) ∧ Least (secT m s) L f (outO m s) := by
  obtain ⟨L, f, out, e, hL⟩ := put_ok (secT_ok hm hs).1
  have : outO m s = out := by unfold outO; rw [e]; rfl
  exact ⟨L, f, by rw [this]; exact e, by rw [this]; exact hL⟩
theorem out_len {t : api_Map} (h : TileOk t) {L : List Int} {f : Int} {out : List Int} (hL : Least t L f out) : 2 ≤ out.length ∧ out.length ≤ 1 + t.C.length := by
  have hl := tile_len h
  have h2 := hL.ge
  by_cases hu : uni t.C
  · rw [(hL.uni0 hu).2]; simp; omega
  · by_cases hs : L.length < t.C.length
    · rw [(hL.short hu hs).2]; simp; omega
    · rw [(hL.long hu hs).2]; simp; omega
theorem enc_u8 {t : api_Map} (h : TileOk t) (hu : ∀ y ∈ t.C, 1 ≤ y ∧ y ≤ 255) {i : Int} {L : List Int} (he : Enc t.C i L) : ∀ y ∈ L, inU8 y := by
  have hl := tile_len h
  induction he with
  | done => intro y hy; simp at hy
  | @run i e L i0 e1 hie same stop rest ih =>
    intro y hy
    simp only [List.mem_cons] at hy
    have hm := hu _ (rd_mem i0 (show i < (t.C.length : Int) by omega))
    rcases hy with q | q | q
    · rw [q]; exact ⟨by omega, by omega⟩
    · rw [q]; exact ⟨by omega, by omega⟩
    · exact ih y q
theorem out_u8 {v : api_Map} (hv : TileOk v) (hu : ∀ y ∈ v.C, 1 ≤ y ∧ y ≤ 255) {L : List Int} {f : Int} {out : List Int} (hL : Least v L f out) : ∀ y ∈ out, inU8 y := by
  have hC : ∀ y ∈ v.C, inU8 y := fun y hy => by have := hu y hy; exact ⟨by omega, by omega⟩
  have hvl := tile_len hv
  by_cases hn : uni v.C
  · rw [(hL.uni0 hn).2]
    intro y hy
    simp only [List.mem_cons, List.not_mem_nil, or_false] at hy
    rcases hy with q | q
    · rw [q]; exact ⟨by omega, by omega⟩
    · rw [q]; exact hC _ (rd_mem (by omega) (by omega))
  · by_cases hs : L.length < v.C.length
    · rw [(hL.short hn hs).2]
      intro y hy
      simp only [List.mem_cons] at hy
      rcases hy with q | q
      · rw [q]; exact ⟨by omega, by omega⟩
      · exact enc_u8 hv hu hL.enc y q
    · rw [(hL.long hn hs).2]
      intro y hy
      simp only [List.mem_cons] at hy
      rcases hy with q | q
      · rw [q]; exact ⟨by omega, by omega⟩
      · exact hC y q
/-- the bytes of the sectors from one on -/
def outs (m : api_Map) : Nat → Int → List Int
  | 0, _ => []
  | n + 1, s => outO m s ++ outs m n (s + 1)
theorem outs_in {m : api_Map} (hm : MapB m) : ∀ (n : Nat) (i : Int), i + n = sCount m.W m.H → 0 ≤ i → (2 * n ≤ (outs m n i).length ∧ (outs m n i).length ≤ 257 * n) ∧ ∀ y ∈ outs m n i, inU8 y := by
  intro n
  induction n with
  | zero => intro i _ _; exact ⟨by simp [outs], by simp [outs]⟩
  | succ n ih =>
    intro i hi i0
    have hs : SecS m.W m.H i := ⟨i0, by omega⟩
    obtain ⟨L, f, e, hL⟩ := out_f hm hs
    obtain ⟨t1, t2⟩ := secT_ok hm hs
    have hl := out_len t1 hL
    have hc := tile_len t1
    obtain ⟨h1, h2⟩ := ih (i + 1) (by omega) (by omega)
    refine ⟨by simp only [outs, List.length_append]; omega, fun y hy => ?_⟩
    simp only [outs, List.mem_append] at hy
    rcases hy with q | q
    · exact out_u8 t1 t2 hL y q
    · exact h2 y q
/-- a map's first bytes -/
def head4 (m : api_Map) : List Int := [wu8 m.W, wu8 (Int.fdiv m.W (2 ^ 8)), wu8 m.H, wu8 (Int.fdiv m.H (2 ^ 8))]
/-- a map's bytes -/
def bytesOf (m : api_Map) : List Int := head4 m ++ outs m (sCount m.W m.H).toNat 0
theorem put_l {m : api_Map} (hm : MapB m) (N : Int) (hN : N = sCount m.W m.H) : ∀ (n k : Nat) (i : Int) (x : List Int), i + n = sCount m.W m.H → 0 ≤ i → n < k → x.length ≤ 10 + 257 * i.toNat → atlas_Put.l0 k m N x i = some (x ++ outs m n i, 0) := by
  have hcn := count_in m.W m.H
  intro n
  induction n with
  | zero =>
    intro k i x hi i0 hk hx
    obtain ⟨k, rfl⟩ := kpos hk
    rw [atlas_Put.l0, if_neg (by omega)]; simp [outs]
  | succ n ih =>
    intro k i x hi i0 hk hx
    obtain ⟨k, rfl⟩ := kpos hk
    have hs : SecS m.W m.H i := ⟨i0, by omega⟩
    obtain ⟨L, f, e, hL⟩ := out_f hm hs
    obtain ⟨t1, t2⟩ := secT_ok hm hs
    have hl := out_len t1 hL
    have hc := tile_len t1
    rw [atlas_Put.l0, if_pos (by omega), cut_f hm.ok.1 hm.ok.2.1 hs, Option.bind_some, e, Option.bind_some]
    simp only
    rw [if_pos (by omega), w64_id (by omega) (by omega), ih k (i + 1) _ (by omega) (by omega) (by omega) (by simp only [List.length_append]; omega)]
    simp [outs]
theorem map_len {m : api_Map} (h : MapOk m) : m.C.length ≤ 1048576 := by
  have := may_prod h.1
  have := h.2.1
  omega
theorem put_f {m : api_Map} (hm : MapB m) : atlas_Put.f m = some (bytesOf m, 0) := by
  have hl := map_len hm.ok
  have hc := count_in m.W m.H
  unfold atlas_Put.f atlas_many.f
  rw [atlas_may_f m (by omega), decide_eq_true hm.ok, Option.bind_some, if_neg (by simp), sectors_f]
  simp only [Option.bind_some]
  have e : w64 ((sSectors m.W m.H).1 * (sSectors m.W m.H).2) = sCount m.W m.H := by
    show w64 (sCount m.W m.H) = _
    exact w64_id (by omega) (by omega)
  rw [e]
  exact put_l hm _ rfl (sCount m.W m.H).toNat fuel 0 (head4 m) (by omega) (by omega) (by rw [fuel_eq]; omega) (by simp [head4])
theorem put_no' {m : api_Map} (hl : m.C.length < 4611686018427387904) (h : ¬ MapOk m) : atlas_Put.f m = some ([], 1) := by
  unfold atlas_Put.f
  rw [atlas_may_f m hl, decide_eq_false h, Option.bind_some, if_pos (by simp)]
theorem rput_l {m : api_Map} (hm : MapB m) : ∀ (n k : Nat) (i : Int) (x : List Int), i + n = sCount m.W m.H → 0 ≤ i → n < k → x.length ≤ 10 + 257 * i.toNat → ref1_PutMap.l0 k m x i = some (x ++ outs m n i) := by
  have hcn := count_in m.W m.H
  intro n
  induction n with
  | zero =>
    intro k i x hi i0 hk hx
    obtain ⟨k, rfl⟩ := kpos hk
    rw [ref1_PutMap.l0, rcount_f, Option.bind_some, if_neg (by omega)]; simp [outs]
  | succ n ih =>
    intro k i x hi i0 hk hx
    obtain ⟨k, rfl⟩ := kpos hk
    have hs : SecS m.W m.H i := ⟨i0, by omega⟩
    obtain ⟨L, f, e, hL⟩ := out_f hm hs
    obtain ⟨t1, t2⟩ := secT_ok hm hs
    have hl := out_len t1 hL
    have hc := tile_len t1
    rw [ref1_PutMap.l0, rcount_f, Option.bind_some, if_pos (by omega), rtile_f hm.ok, Option.bind_some, refput hc.1 hc.2 hL, Option.bind_some]
    simp only
    rw [if_pos (by omega), w64_id (by omega) (by omega), ih k (i + 1) _ (by omega) (by omega) (by omega) (by simp only [List.length_append]; omega)]
    simp [outs]
theorem rput_f {m : api_Map} (hm : MapB m) : ref1_PutMap.f m = some (bytesOf m) := by
  have hc := count_in m.W m.H
  unfold ref1_PutMap.f
  exact rput_l hm (sCount m.W m.H).toNat fuel 0 (head4 m) (by omega) (by omega) (by rw [fuel_eq]; omega) (by simp [head4])
theorem head_u8 (m : api_Map) : ∀ y ∈ head4 m, inU8 y := by
  intro y hy
  unfold head4 at hy
  simp only [List.mem_cons, List.not_mem_nil, or_false, wu8_m] at hy
  unfold inU8
  rcases hy with q | q | q | q <;> omega
theorem bytes_u8 {m : api_Map} (hm : MapB m) : ∀ y ∈ bytesOf m, inU8 y := by
  intro y hy
  have hc := count_in m.W m.H
  unfold bytesOf at hy
  rw [List.mem_append] at hy
  rcases hy with q | q
  · exact head_u8 m y q
  · exact (outs_in hm (sCount m.W m.H).toNat 0 (by omega) (by omega)).2 y q
theorem bytes_len {m : api_Map} (hm : MapB m) : 6 ≤ (bytesOf m).length ∧ (bytesOf m).length ≤ 4 + 257 * (sCount m.W m.H).toNat := by
  have hc := count_in m.W m.H
  have hp := count_pos hm.ok.1
  have := (outs_in hm (sCount m.W m.H).toNat 0 (by omega) (by omega)).1
  unfold bytesOf
  rw [List.length_append]
  have : (head4 m).length = 4 := rfl
  omega
theorem fdiv8 {x : Int} (h0 : 0 ≤ x) : Int.fdiv x (2 ^ 8) = x / 256 := by
  rw [Int.fdiv_eq_ediv_of_nonneg _ (by omega)]; rfl
theorem head_w {w : Int} (h0 : 0 ≤ w) (h1 : w ≤ 65535) : wu8 w + 256 * wu8 (Int.fdiv w (2 ^ 8)) = w := by
  rw [fdiv8 h0, wu8_m, wu8_m]; omega
/-- reading goes on so -/
theorem read_dec {m : api_Map} (hm : MapB m) {b : List Int} (hw : rd b 0 + 256 * rd b 1 = m.W) (hh : rd b 2 + 256 * rd b 3 = m.H) (u0 : inU8 (rd b 0)) (u1 : inU8 (rd b 1)) (u2 : inU8 (rd b 2)) (u3 : inU8 (rd b 3)) (N : Int) (hN : N = sCount m.W m.H) :
    ∀ (n k : Nat) (i : Int) (r x : List Int), i + n = sCount m.W m.H → 0 ≤ i → n < k → r.length ≤ 100000 → (x.length : Int) = m.W * m.H →
    (∀ j : Int, 0 ≤ j → j < (outs m n i).length → j < r.length → rd r j = rd (outs m n i) j) →
    (∀ c, 0 ≤ c → c < m.W * m.H → (∃ s, 0 ≤ s ∧ s < i ∧ SecS m.W m.H s ∧ inS m.W m.H s c) → rd x c = rd m.C c) →
    ((outs m n i).length ≤ r.length → atlas_read.l0 k b N r x i = some (if (outs m n i).length < r.length then (⟨0, 0, []⟩, .num 62 3) else (m, .nil))) ∧
    (¬ (outs m n i).length ≤ r.length → ∃ q, atlas_read.l0 k b N r x i = some (⟨0, 0, []⟩, .wrap 79 [q] (.num 62 2))) := by
  have hcn := count_in m.W m.H
  intro n
  induction n with
  | zero =>
    intro k i r x hi i0 hk hr hx hag hin
    obtain ⟨k, rfl⟩ := kpos hk
    refine ⟨fun _ => ?_, fun q => absurd (Nat.zero_le _) q⟩
    rw [atlas_read.l0, hdr u0 u1, hdr u2 u3, hw, hh, if_neg (by omega)]
    have e0 : (outs m 0 i).length = 0 := rfl
    rw [e0]
    by_cases hz : (r.length : Int) > 0
    · rw [if_pos hz, if_pos (by omega)]
    · rw [if_neg hz, if_neg (by omega)]
      have : x = m.C := by
        have h2 := hm.ok.2.1
        refine rdext (by omega) (fun c c0 c1 => ?_)
        obtain ⟨s, s1, s2⟩ := sec_some (w := m.W) (h := m.H) (c := c) ⟨hm.ok.1, c0, by omega⟩
        exact hin c c0 (by omega) ⟨s, s1.1, by have := s1.2; omega, s1, s2⟩
      rw [this]
  | succ n ih =>
    intro k i r x hi i0 hk hr hx hag hin
    obtain ⟨k, rfl⟩ := kpos hk
    have hs : SecS m.W m.H i := ⟨i0, by omega⟩
    obtain ⟨L, f, e, hL⟩ := out_f hm hs
    obtain ⟨t1, t2⟩ := secT_ok hm hs
    have hl := out_len t1 hL
    have hc := tile_len t1
    have ho : (outs m (n + 1) i).length = (outO m i).length + (outs m n (i + 1)).length := by simp [outs]
    rw [atlas_read.l0, hdr u0 u1, hdr u2 u3, hw, hh, if_pos (by omega), size_f, Option.bind_some]
    have eg := get_put t1 t2 e hL (b := r) hr (fun j j0 j1 j2 => by
      rw [hag j j0 (by omega) j2]
      show rd (outO m i ++ outs m n (i + 1)) j = _
      rw [rdl j0 j1])
    have eg' : pack_Get.f r (sSize m.W m.H i).1 (sSize m.W m.H i).2 = _ := eg
    rw [eg', Option.bind_some]
    by_cases hfit : (outO m i).length ≤ r.length
    · rw [if_pos hfit]
      simp only
      obtain ⟨x', f1, f2, f3⟩ := lay_f hs (t := secT m i) rfl rfl t1.2.2.2.2.1 (x := x) hx
      rw [if_neg (by simp), f1, Option.bind_some, if_pos (by omega), w64_id (x := i + 1) (by omega) (by omega)]
      have sl := sub_len (L := r) (lo := ((outO m i).length : Int)) (hi := (r.length : Int)) (by omega) (by omega) (by omega)
      have := ih k (i + 1) (sub' r ((outO m i).length : Int) (r.length : Int)) x' (by omega) (by omega) (by omega) (by omega) f2 (fun j j0 j1 j2 => by
        rw [rd_sub (by omega) j0 (by omega), hag _ (by omega) (by omega) (by omega)]
        show rd (outO m i ++ outs m n (i + 1)) _ = _
        rw [rdr (by omega)]
        congr 1; omega) (fun c c0 c1 hc' => by
        rw [f3 c c0 c1]
        by_cases hi' : inS m.W m.H i c
        · rw [if_pos hi']
          have hll := loc_in hs hi'
          have hn3 := secN_in hs
          show rd (tileL m i (secN m.W m.H i)) _ = _
          rw [tileL_rd hll.1 (by omega), glob_loc hs hi']
        · rw [if_neg hi']
          obtain ⟨s, s0, s1, s2, s3⟩ := hc'
          have : s ≠ i := fun q => hi' (q ▸ s3)
          exact hin c c0 c1 ⟨s, s0, by omega, s2, s3⟩)
      constructor
      · intro q
        rw [this.1 (by omega)]
        by_cases hz : (outs m (n + 1) i).length < r.length
        · rw [if_pos hz, if_pos (by omega)]
        · rw [if_neg hz, if_neg (by omega)]
      · intro q
        exact this.2 (by omega)
    · rw [if_neg hfit]
      simp only
      rw [if_pos (by decide)]
      exact ⟨fun q => by omega, fun _ => ⟨i, rfl⟩⟩
theorem asN_nil : errors_AsN62.f .nil = some none := rfl
theorem asN_num (n : Int) : errors_AsN62.f (.num 62 n) = some (some n) := rfl
theorem asN_wrap (q n : Int) : errors_AsN62.f (.wrap 79 [q] (.num 62 n)) = some (some n) := rfl
/-- what is read of a map's bytes, whole, cut or longer -/
theorem get_dec {m : api_Map} (hm : MapB m) (hbig : (bytesOf m).length ≤ 50000) {b : List Int} (hb : b.length ≤ 100000) (hag : ∀ j : Int, 0 ≤ j → j < (bytesOf m).length → j < b.length → rd b j = rd (bytesOf m) j) :
    atlas_Get.f b = some (if b.length < (bytesOf m).length then (⟨0, 0, []⟩, 2) else if (bytesOf m).length < b.length then (⟨0, 0, []⟩, 3) else (m, 0)) := by
  have hlen := bytes_len hm
  have hc := count_in m.W m.H
  have hol := (outs_in hm (sCount m.W m.H).toNat 0 (by omega) (by omega)).1
  have hsum : (bytesOf m).length = 4 + (outs m (sCount m.W m.H).toNat 0).length := by
    unfold bytesOf; rw [List.length_append]; rfl
  unfold atlas_Get.f atlas_read.f
  by_cases h4 : (b.length : Int) < 4
  · rw [if_pos h4, Option.bind_some, asN_num, Option.bind_some, if_pos (show b.length < (bytesOf m).length by omega)]; rfl
  · have hh : ∀ j : Int, 0 ≤ j → j < 4 → rd b j = rd (head4 m) j := fun j j0 j1 => by
      rw [hag j j0 (by omega) (by omega)]
      unfold bytesOf
      rw [rdl j0 (by show j < 4; exact j1)]
    have v0 : rd b 0 = wu8 m.W := hh 0 (by omega) (by omega)
    have v1 : rd b 1 = wu8 (Int.fdiv m.W (2 ^ 8)) := hh 1 (by omega) (by omega)
    have v2 : rd b 2 = wu8 m.H := hh 2 (by omega) (by omega)
    have v3 : rd b 3 = wu8 (Int.fdiv m.H (2 ^ 8)) := hh 3 (by omega) (by omega)
    have ub : ∀ x : Int, inU8 (wu8 x) := fun x => by rw [wu8_m]; unfold inU8; omega
    have u0 : inU8 (rd b 0) := by rw [v0]; exact ub _
    have u1 : inU8 (rd b 1) := by rw [v1]; exact ub _
    have u2 : inU8 (rd b 2) := by rw [v2]; exact ub _
    have u3 : inU8 (rd b 3) := by rw [v3]; exact ub _
    obtain ⟨w1, w2, h1, h2⟩ := hm.ok.1
    have ew : rd b 0 + 256 * rd b 1 = m.W := by rw [v0, v1]; exact head_w (by omega) (by omega)
    have eh : rd b 2 + 256 * rd b 3 = m.H := by rw [v2, v3]; exact head_w (by omega) (by omega)
    have hp := may_prod hm.ok.1
    rw [if_neg h4, if_pos (show 0 ≤ (0 : Int) ∧ (0 : Int) < (b.length : Int) by omega), if_pos (show 0 ≤ (1 : Int) ∧ (1 : Int) < (b.length : Int) by omega), if_pos (show 0 ≤ (2 : Int) ∧ (2 : Int) < (b.length : Int) by omega), if_pos (show 0 ≤ (3 : Int) ∧ (3 : Int) < (b.length : Int) by omega), hdr u0 u1, hdr u2 u3, ew, eh, may_f, decide_eq_true hm.ok.1, Option.bind_some, if_neg (by simp), if_pos (by omega), w64_id (x := m.W * m.H) (by omega) (by omega), if_pos (by omega)]
    unfold atlas_many.f
    rw [sectors_f]
    simp only [Option.bind_some]
    have e : w64 ((sSectors m.W m.H).1 * (sSectors m.W m.H).2) = sCount m.W m.H := by
      show w64 (sCount m.W m.H) = _
      exact w64_id (by omega) (by omega)
    rw [e]
    have sl := sub_len (L := b) (lo := 4) (hi := (b.length : Int)) (by omega) (by omega) (by omega)
    obtain ⟨k1, k2⟩ := read_dec hm ew eh u0 u1 u2 u3 _ rfl (sCount m.W m.H).toNat fuel 0 (sub' b 4 (b.length : Int)) (List.replicate (m.W * m.H).toNat 0) (by omega) (by omega) (by rw [fuel_eq]; omega) (by omega) (by simp; omega) (fun j j0 j1 j2 => by
      rw [rd_sub (by omega) j0 (by omega), hag _ (by omega) (by omega) (by omega)]
      unfold bytesOf
      rw [rdr (by show ((4 : Nat) : Int) ≤ 4 + j; omega)]
      congr 1
      show 4 + j - ((4 : Nat) : Int) = j
      omega) (fun c _ _ hc' => by obtain ⟨s, s0, s1, _⟩ := hc'; omega)
    by_cases hs : b.length < (bytesOf m).length
    · obtain ⟨q, k2⟩ := k2 (by omega)
      rw [k2, if_pos hs, Option.bind_some, asN_wrap]; rfl
    · rw [k1 (by omega), if_neg hs, Option.bind_some]
      by_cases hg : (bytesOf m).length < b.length
      · rw [if_pos hg, if_pos (by omega), asN_num]; rfl
      · rw [if_neg hg, if_neg (by omega), asN_nil]; rfl
end Go.Proofs.YtnkdnecilkafhaaDoor
