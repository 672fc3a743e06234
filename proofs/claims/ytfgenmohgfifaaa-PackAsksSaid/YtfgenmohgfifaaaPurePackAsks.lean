/- Which form a tile has, and its bytes, are what the document says: any tile of at most 600 costs, near or raw. No condition. -/
import Derived.Test.YtfgenmohgfifaaaFLPackAsks
import Derived.Test.YtfgenmohgfifaaaPpack
namespace Go.Proofs.Ytfgenmohgfifaaa
open Go.Hx
set_option linter.unusedVariables false
set_option linter.unusedSimpArgs false

theorem PackAsks_pure : law3_PackAsks.Pure := by
  intro t w h few raw ht _ _ _ _
  unfold law3_PackAsks.f
  by_cases hbig : (List.length t.C : Int) > 600
  · rw [if_pos hbig, told3]; rfl
  rw [if_neg hbig]
  have hk : ∃ v, law3_near.f t w h few raw = some v ∧ v.C.length ≤ 600 := by
    cases raw
    · obtain ⟨v, e, hv⟩ := near_f t w h few (fun y hy => ht.2.2 y hy)
      have := tile_len hv
      exact ⟨v, e, by omega⟩
    · refine ⟨t, ?_, by omega⟩
      unfold law3_near.f ref1_OwnTile.f
      rw [if_pos rfl, if_pos (by simp; omega)]; simp
  obtain ⟨v, e, hv⟩ := hk
  rw [e, Option.bind_some, rmay_f v (by omega)]
  by_cases hok : TileOk v
  · obtain ⟨L, f, out, a1, a2, c⟩ := put_ok hok
    have hl := tile_len hok
    have hL := c.le
    have hge := c.ge
    have hp : ref1_PutTile.f v = some (f, out) := by
      unfold ref1_PutTile.f
      rw [c.runs, Option.bind_some]
      by_cases hu : uni v.C
      · obtain ⟨b1, b2⟩ := c.uni0 hu
        rw [if_pos (by have := c.two.mpr hu; simp; omega), if_pos (by omega), b1, b2]
      · have h2 : ¬ L.length = 2 := fun q => hu (c.two.mp q)
        rw [if_neg (by simp; omega), w64_id (x := 1 + (v.C.length : Int)) (by omega) (by omega)]
        by_cases hs : L.length < v.C.length
        · obtain ⟨b1, b2⟩ := c.short hu hs
          rw [if_pos (by simp; omega), b1, b2]
        · obtain ⟨b1, b2⟩ := c.long hu hs
          rw [if_neg (by simp; omega), if_pos (by simp; omega), b1, b2]; rfl
    rw [a1, Option.bind_some, Option.bind_some, decide_eq_true hok, if_neg (by simp), hp, told3, a2]
    simp [ref1_Bytes.f, strEq_self]
  · obtain ⟨a1, a2⟩ := put_no (t := v) (by omega) hok
    rw [a1, Option.bind_some, Option.bind_some, decide_eq_false hok, if_pos (by simp), told3, a2]
    rfl
end Go.Proofs.Ytfgenmohgfifaaa
