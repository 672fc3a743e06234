import Derived.Test.YtnkdnecilkafhaaDoorPget
namespace Go.Proofs.YtnkdnecilkafhaaDoor
open Go.Hx

theorem tl_eq (t : api_Map) : api_Map.mk t.W t.H t.C = t := by cases t; rfl
/-- Get of what Put gave, whole, longer or cut -/
theorem get_put {t : api_Map} (h : TileOk t) (hu : ∀ y ∈ t.C, 1 ≤ y ∧ y ≤ 255) {L : List Int} {f : Int} {out : List Int} (hput : pack_Put.f t = some (out, 0)) (hL : Least t L f out) {b : List Int} (hb : b.length ≤ 100000)
    (hag : ∀ j : Int, 0 ≤ j → j < out.length → j < b.length → rd b j = rd out j) :
    pack_Get.f b t.W t.H = some (if out.length ≤ b.length then (t, (out.length : Int), 0) else (⟨0, 0, []⟩, 0, 2)) := by
  obtain ⟨w1, w2, h1, h2, hc, hz⟩ := h
  have hl : 1 ≤ t.C.length ∧ t.C.length ≤ 256 := tile_len ⟨w1, w2, h1, h2, hc, hz⟩
  have hn : w64 (t.W * t.H) = t.C.length := by rw [w64_id (by omega) (by omega)]; omega
  -- the body
  have key : (out.length ≤ b.length → pack_reader_body.f ⟨b, 0⟩ t.C.length = some (t.C, .nil, ⟨b, out.length⟩)) ∧ (¬ out.length ≤ b.length → ∃ x q, x.length ≤ 100000 ∧ pack_reader_body.f ⟨b, 0⟩ t.C.length = some (x, .glob 2, ⟨b, q⟩)) := by
    unfold pack_reader_body.f
    by_cases h0 : (b.length : Int) = 0
    · rw [take_short hb (by omega) (by omega) (by omega)]
      refine ⟨fun q => ?_, fun _ => ⟨[], 0, by simp, rfl⟩⟩
      have h0' : b.length = 0 := by omega
      rw [h0'] at q
      have hout : out.length = 0 := by omega
      by_cases hu' : uni t.C
      · rw [(hL.uni0 hu').2] at hout; simp at hout
      · by_cases hs : L.length < t.C.length
        · rw [(hL.short hu' hs).2] at hout; simp at hout
        · rw [(hL.long hu' hs).2] at hout; simp at hout
    · rw [take_ok hb (by omega) (by omega) (by omega), Option.bind_some]
      simp only [Er.isNil, Bool.not_true, Bool.false_eq_true, if_false]
      have sl : ((sub' b 0 (0 + 1)).length : Int) = 1 := by rw [sub_len (by omega) (by omega) (by omega)]; omega
      have r0 : rd (sub' b 0 (0 + 1)) 0 = rd b 0 := by rw [rd_sub (by omega) (by omega) (by omega), Int.add_zero]
      rw [if_pos (show 0 ≤ (0 : Int) ∧ (0 : Int) < ((sub' b 0 (0 + 1)).length : Int) by omega), r0, show (0 : Int) + 1 = 1 by omega]
      by_cases hu' : uni t.C
      · obtain ⟨_, e⟩ := hL.uni0 hu'
        have ol : out.length = 2 := by rw [e]; rfl
        have b0 : rd b 0 = 0 := by rw [hag 0 (by omega) (by omega) (by omega), e]; rfl
        rw [b0]
        simp only [beq_self_eq_true, if_true]
        by_cases hs : (b.length : Int) < 2
        · rw [costs_short hb (by omega) (by omega) (by omega), Option.bind_some, repeat0 (by omega)]
          exact ⟨fun q => by omega, fun _ => ⟨_, _, by simp, rfl⟩⟩
        · have b1 : rd b 1 = rd t.C 0 := by rw [hag 1 (by omega) (by omega) (by omega), e]; rfl
          have e1 : sub' b 1 2 = [rd t.C 0] := by
            have hl1 := sub_len (L := b) (lo := 1) (hi := 2) (by omega) (by omega) (by omega)
            refine rdext (by simp; omega) (fun j j0 j1 => ?_)
            rw [rd_sub (by omega) j0 (by omega), show j = 0 by omega, show (1 : Int) + 0 = 1 by omega, b1]; rfl
          have hm := hu _ (rd_mem (a := t.C) (i := 0) (by omega) (by omega))
          rw [costs_ok hb (by omega) (by omega) (by omega), Option.bind_some, show (1 : Int) + 1 = 2 by omega, e1, if_neg (by simp; omega)]
          simp only
          rw [repeat1 (by omega), Option.bind_some]
          refine ⟨fun _ => ?_, fun q => by omega⟩
          have e2 : List.replicate (t.C.length : Int).toNat (rd t.C 0) = t.C := by
            refine rdext (by simp) (fun j j0 j1 => ?_)
            rw [rdrep j0 (by simpa using j1), hu' j j0 (by simpa using j1)]
          rw [e2, ol]; rfl
      · by_cases hs : L.length < t.C.length
        · obtain ⟨_, e⟩ := hL.short hu' hs
          have ol : out.length = L.length + 1 := by rw [e]; simp
          have b0 : rd b 0 = 2 := by rw [hag 0 (by omega) (by omega) (by omega), e]; rfl
          rw [b0]
          have c0 : ((2 : Int) == 0) = false := rfl
          have c1 : ((2 : Int) == 1) = false := rfl
          simp only [c0, c1, Bool.false_eq_true, if_false, beq_self_eq_true, if_true]
          unfold pack_reader_runs.f
          obtain ⟨k1, k2⟩ := enc_dec hu hl.2 hb 1 hL.enc 1 fuel (by omega) (by omega) (by rw [fuel_eq]; omega) (by omega) (by omega) (fun j j0 j1 j2 => by
            rw [hag (1 + j) (by omega) (by omega) (by omega), e]
            unfold rd
            rw [show (1 + j).toNat = j.toNat + 1 by omega]; rfl) (.inl rfl)
          have et : t.C.take (0 : Int).toNat = [] := rfl
          rw [et] at k1 k2
          refine ⟨fun q => ?_, fun q => ?_⟩
          · rw [k1 (by omega)]
            simp only [Option.bind_some]
            rw [show 1 + (L.length : Int) = out.length by omega]
          · obtain ⟨q', k2⟩ := k2 (by omega)
            rw [k2]
            exact ⟨_, _, by simp, rfl⟩
        · obtain ⟨_, e⟩ := hL.long hu' hs
          have ol : out.length = t.C.length + 1 := by rw [e]; simp
          have b0 : rd b 0 = 1 := by rw [hag 0 (by omega) (by omega) (by omega), e]; rfl
          rw [b0]
          have c0 : ((1 : Int) == 0) = false := rfl
          simp only [c0, Bool.false_eq_true, if_false, beq_self_eq_true, if_true]
          by_cases hs : (b.length : Int) - 1 < t.C.length
          · rw [costs_short hb (by omega) (by omega) (by omega)]
            exact ⟨fun q => by omega, fun _ => ⟨_, _, by simp, rfl⟩⟩
          · have e1 : sub' b 1 (1 + t.C.length) = t.C := by
              have hl1 := sub_len (L := b) (lo := 1) (hi := 1 + t.C.length) (by omega) (by omega) (by omega)
              refine rdext (by omega) (fun j j0 j1 => ?_)
              rw [rd_sub (by omega) j0 (by omega), hag (1 + j) (by omega) (by omega) (by omega), e]
              unfold rd
              rw [show (1 + j).toNat = j.toNat + 1 by omega]; rfl
            rw [costs_ok hb (by omega) (by omega) (by omega), e1, if_neg hz]
            refine ⟨fun _ => ?_, fun q => by omega⟩
            rw [show 1 + (t.C.length : Int) = out.length by omega]; rfl
  by_cases hlen : out.length ≤ b.length
  · rw [if_pos hlen, get_ok ⟨w1, w2⟩ ⟨h1, h2⟩ hn (by omega) (by omega) (key.1 hlen) hput]
    have e1 : sub' b 0 out.length = out := by
      have hl1 := sub_len (L := b) (lo := 0) (hi := out.length) (by omega) (by omega) (by omega)
      refine rdext (by omega) (fun j j0 j1 => ?_)
      rw [rd_sub (by omega) j0 (by omega), Int.zero_add, hag j j0 (by omega) (by omega)]
    rw [e1, strEq_self, if_pos rfl]
  · rw [if_neg hlen]
    obtain ⟨x, q, hx, e⟩ := key.2 hlen
    exact get_short ⟨w1, w2⟩ ⟨h1, h2⟩ hn hx e
/-- the two readers agree -/
theorem get_joint {b : List Int} (hb : ∀ y ∈ b, inU8 y) (hl : b.length ≤ 100000) {w h : Int} (hw : 1 ≤ w ∧ w ≤ 16) (hh : 1 ≤ h ∧ h ≤ 16) :
    ∃ res : api_Map × Int × Int, pack_Get.f b w h = some res ∧ ref1_GetTile.f b w h = some res ∧
      ((res.1 = ⟨0, 0, []⟩ ∧ res.2.1 = 0 ∧ (res.2.2 = 2 ∨ res.2.2 = 3)) ∨
       (res.2.2 = 0 ∧ TileOk res.1 ∧ (res.1.W = w ∧ res.1.H = h ∧ ∀ y ∈ res.1.C, 1 ≤ y ∧ y ≤ 255) ∧ 0 ≤ res.2.1 ∧ res.2.1 ≤ b.length ∧ ∃ out, pack_Put.f res.1 = some (out, 0) ∧ strEq out (sub' b 0 res.2.1) = true)) := by
  have m1 : w * h ≤ 16 * 16 := mul_le (by omega) (by omega) hw.2 hh.2
  have m0 : 1 * 1 ≤ w * h := mul_le (by omega) (by omega) hw.1 hh.1
  obtain ⟨r, h1, h2⟩ := body_ref hb hl hw hh rfl (n := w * h) (by omega)
  have hn : w64 (w * h) = w * h := w64_id (by omega) (by omega)
  cases r with
  | short =>
    obtain ⟨x, q, e, hx⟩ := h1
    have h2 : _ = _ := h2
    exact ⟨_, get_short hw hh hn hx e, h2, .inl ⟨rfl, rfl, .inl rfl⟩⟩
  | form =>
    obtain ⟨x, q, e, hx⟩ := h1
    have h2 : _ = _ := h2
    exact ⟨_, get_form hw hh hn hx e, h2, .inl ⟨rfl, rfl, .inr rfl⟩⟩
  | ok x p =>
    have h1 : _ = _ := h1
    obtain ⟨g1, g2, g3, g4, g5⟩ := h2
    have hok : TileOk ⟨w, h, x⟩ := ⟨hw.1, hw.2, hh.1, hh.2, g1, fun q => by have := g2 0 q; omega⟩
    obtain ⟨L, f, out, e, hL⟩ := put_ok hok
    have hlen := tile_len hok
    rw [get_ok hw hh hn (by simp only at hlen; omega) ⟨g3, g4⟩ h1 e, g5]
    unfold fin'
    rw [refput hlen.1 hlen.2 hL, Option.bind_some, if_pos (show 0 ≤ (0 : Int) ∧ (0 : Int) ≤ p ∧ p ≤ (b.length : Int) by omega)]
    unfold ref1_Bytes.f
    rw [Option.bind_some]
    cases hs : strEq out (sub' b 0 p)
    · exact ⟨_, rfl, rfl, .inl ⟨rfl, rfl, .inr rfl⟩⟩
    · exact ⟨_, rfl, rfl, .inr ⟨rfl, hok, ⟨rfl, rfl, g2⟩, g3, g4, out, e, hs⟩⟩
end Go.Proofs.YtnkdnecilkafhaaDoor
