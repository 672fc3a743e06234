import Derived.Test.YtnkdnecilkafhaaDoorFLAtlasAsks
import Derived.Test.YtnkdnecilkafhaaDoorPtold
namespace Go.Proofs.YtnkdnecilkafhaaDoor
open Go.Hx

theorem tile_f {m : api_Map} (hl : m.C.length < 4611686018427387904) (s : Int) : atlas_Tile.f m s = some (if MapOk m ∧ SecS m.W m.H s then (secT m s, true) else (⟨0, 0, []⟩, false)) := by
  have hc := count_in m.W m.H
  unfold atlas_Tile.f atlas_many.f
  rw [atlas_may_f m hl, Option.bind_some, sectors_f]
  simp only [Option.bind_some]
  have e : w64 ((sSectors m.W m.H).1 * (sSectors m.W m.H).2) = sCount m.W m.H := by
    show w64 (sCount m.W m.H) = _
    exact w64_id (by omega) (by omega)
  rw [e]
  by_cases hm : MapOk m
  · by_cases h0 : s < 0
    · rw [decide_eq_true hm, if_pos (by simp; omega), if_neg (fun q => by have := q.2.1; omega)]; rfl
    · by_cases h1 : s < sCount m.W m.H
      · have hs : SecS m.W m.H s := ⟨by omega, h1⟩
        rw [decide_eq_true hm, if_neg (by simp; omega), Option.bind_some, if_neg (by simp; omega), cut_f hm.1 hm.2.1 hs, if_pos ⟨hm, hs⟩]; rfl
      · rw [decide_eq_true hm, if_neg (by simp; omega), Option.bind_some, if_pos (by simp; omega), if_neg (fun q => h1 q.2.2)]
  · rw [decide_eq_false hm, if_pos (by simp), if_neg (fun q => hm q.1)]; rfl
theorem AtlasAsks_pure : law4_AtlasAsks.Pure := by
  intro m sector raw hm _ hml
  unfold law4_AtlasAsks.f
  by_cases hl : (m.C.length : Int) > 2500
  · rw [if_pos hl, told4]; rfl
  · rw [if_neg hl]
    -- the map that is asked
    have near : ∃ v, law4_near.f m raw = some v ∧ v.C.length ≤ 2500 ∧ ∀ y ∈ v.C, inU8 y := by
      unfold law4_near.f
      cases raw
      · obtain ⟨v, e, hv, hvl, _⟩ := made_b m.W m.H hm.2.2
        rw [if_neg (by simp), e]
        exact ⟨v, rfl, by omega, fun y hy => by have := hv.by_ y hy; exact ⟨by omega, by omega⟩⟩
      · rw [if_pos rfl, own_f m (by omega)]
        exact ⟨m, rfl, by omega, hm.2.2⟩
    obtain ⟨v, e, hvl, hvb⟩ := near
    rw [e, Option.bind_some]
    have hc := count_in v.W v.H
    have sec : ∃ s, (if (!raw) = true then ((ref1_Count.f v.W v.H).bind fun v5 => (ref1_Within.f sector (-1) v5).bind fun v6 => some v6) else (some sector)) = some s := by
      cases raw
      · rw [if_pos (show (!false) = true from rfl), rcount_f, Option.bind_some, within_f (by omega) (by omega) (by omega) (by omega)]
        exact ⟨_, rfl⟩
      · rw [if_neg (by simp)]; exact ⟨_, rfl⟩
    obtain ⟨s, es⟩ := sec
    rw [es, Option.bind_some, tile_f (by omega), ref_may_f v (by omega)]
    by_cases hok : MapOk v
    · have hvB : MapB v := ⟨hok, fun y hy => by
        have h1 := hvb y hy
        unfold inU8 at h1
        have : y ≠ 0 := fun q => hok.2.2 (q ▸ hy)
        omega⟩
      have hp := count_pos hok.1
      rw [put_f hvB, decide_eq_true hok]
      simp only [Option.bind_some]
      rw [if_neg (by simp), rcount_f, Option.bind_some, w64_id (x := sCount v.W v.H - 1) (by omega) (by omega), in_f, Option.bind_some, told4, atlas_may_f v (by omega), decide_eq_true hok, rput_f hvB]
      by_cases hs : SecS v.W v.H s
      · have hin : 0 ≤ s ∧ s ≤ sCount v.W v.H - 1 := ⟨hs.1, by have := hs.2; omega⟩
        have hms : MapOk v ∧ SecS v.W v.H s := ⟨hok, hs⟩
        rw [decide_eq_true hin, if_pos rfl, rtile_f hok]
        simp only [if_pos hms]
        simp [ref1_Bytes.f, ref1_SameTile.f, strEq_self]
      · have hin : ¬ (0 ≤ s ∧ s ≤ sCount v.W v.H - 1) := fun q => hs ⟨q.1, by omega⟩
        have hms : ¬ (MapOk v ∧ SecS v.W v.H s) := fun q => hs q.2
        rw [decide_eq_false hin, if_neg (show ¬ (false = true) by simp)]
        simp only [if_neg hms]
        simp [ref1_Bytes.f, ref1_SameTile.f, strEq_self]
    · rw [put_no' (by omega) hok, decide_eq_false hok, if_neg (show ¬ (MapOk v ∧ SecS v.W v.H s) from fun q => hok q.1), told4, atlas_may_f v (by omega), decide_eq_false hok]
      rfl
end Go.Proofs.YtnkdnecilkafhaaDoor
