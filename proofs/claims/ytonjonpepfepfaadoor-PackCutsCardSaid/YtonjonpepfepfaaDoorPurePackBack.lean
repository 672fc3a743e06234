import Derived.Test.YtonjonpepfepfaaDoorFLPackBack
import Derived.Test.YtonjonpepfepfaaDoorPone
namespace Go.Proofs.YtonjonpepfepfaaDoor
open Go.Hx

theorem near_u (t : api_Tile) (w h few : Int) (hc : ∀ y ∈ t.C, 0 ≤ y ∧ y ≤ 255) : ∃ v, law3_near.f t w h few false = some v ∧ TileOk v ∧ ∀ y ∈ v.C, 1 ≤ y ∧ y ≤ 255 := near_f t w h few hc
theorem out_len {t : api_Tile} (h : TileOk t) {L : List Int} {f : Int} {out : List Int} (hL : Least t L f out) : 1 ≤ out.length ∧ out.length ≤ 1000 := by
  have hl := tile_len h
  have h1 := hL.le
  by_cases hu : uni t.C
  · rw [(hL.uni0 hu).2]; simp
  · by_cases hs : L.length < t.C.length
    · rw [(hL.short hu hs).2]; simp; omega
    · rw [(hL.long hu hs).2]; simp; omega
theorem PackBack_pure : law3_PackBack.Pure := by
  intro c w h few tail hc _ _ _ ht hcl htl
  unfold law3_PackBack.f
  by_cases hl : (tail.length : Int) > 300
  · rw [if_pos hl, told3]; rfl
  · obtain ⟨v, e, hv, hu⟩ := near_u ⟨0, 0, c⟩ w h few (fun y hy => by have := hc y hy; unfold inU8 at this; omega)
    obtain ⟨L, f, out, e2, hL⟩ := put_ok hv
    have ol := out_len hv hL
    rw [if_neg hl, e, Option.bind_some, e2, Option.bind_some]
    simp only [List.nil_append]
    rw [if_pos (by simp; omega), if_pos (by omega), get_put hv hu e2 hL (by simp; omega) (fun j j0 j1 j2 => rdl j0 (by omega)), if_pos (by simp), told3]
    simp [ref1_SameTile.f, ref1_Bytes.f, strEq_self]
end Go.Proofs.YtonjonpepfepfaaDoor
