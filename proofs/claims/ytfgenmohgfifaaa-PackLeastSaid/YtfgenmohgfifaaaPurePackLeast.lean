/- No form is longer than all costs and a byte; a tile of one cost takes two: any tile of numbers, any cost of it laid everywhere. No condition. -/
import Derived.Test.YtfgenmohgfifaaaFLPackLeast
import Derived.Test.YtfgenmohgfifaaaPpack
namespace Go.Proofs.Ytfgenmohgfifaaa
open Go.Hx
set_option linter.unusedVariables false
set_option linter.unusedSimpArgs false

theorem least_l0 {v1 v4 : api_Tile} {out : List Int} {f : Int} {L : List Int} {v3 : Int} (hok : TileOk v1) (e4 : v4 = v1) (hform : pack_Form.f v1 = some f) (hL : Least v1 L f out) (h3 : 0 ≤ v3 ∧ v3 < v1.C.length) : ∀ (n k : Nat) (i : Int) (x : List Int), i + n = v1.C.length → 0 ≤ i → n < k → x.length = v1.C.length → (∀ j : Int, 0 ≤ j → j < i → rd x j = rd v1.C v3) →
    law3_PackLeast.l0 k v1 (out, 0) v3 v4 x i = some true := by
  have hl := tile_len hok
  have hle := hL.le
  have hge := hL.ge
  subst e4
  intro n
  induction n with
  | zero =>
    intro k i x hi h0 hk hx hr
    obtain ⟨k, rfl⟩ := kpos hk
    have hv3 : rd v4.C v3 ≠ 0 := fun q => hok.2.2.2.2.2 (q ▸ rd_mem h3.1 h3.2)
    have hu : uni x := fun j j0 j1 => by rw [hr j j0 (by omega), hr 0 (by omega) (by omega)]
    have hok2 : TileOk (api_Tile.mk v4.W v4.H x) := by
      refine ⟨hok.1, hok.2.1, hok.2.2.1, hok.2.2.2.1, by simp only [hx]; exact hok.2.2.2.2.1, fun q => ?_⟩
      obtain ⟨j, j0, j1, j2⟩ := memrd q
      rw [hr j j0 (by simp only at j1; omega)] at j2
      exact hv3 j2
    obtain ⟨L2, f2, o2, a1, a2, c⟩ := put_ok hok2
    obtain ⟨b1, b2⟩ := c.uni0 hu
    rw [law3_PackLeast.l0, if_neg (by omega), a1, Option.bind_some, told3, a2, b1, b2, hform]
    rw [Option.bind_some, if_pos rfl, if_pos (by rfl), if_pos (by rfl)]
    have hx0 : rd x 0 = rd v4.C v3 := hr 0 (by omega) (by omega)
    have hout : (out.length : Int) ≤ 1 + (v4.C.length : Int) ∧ (out.length : Int) ≥ 2 ∧ rd out 0 = f ∧ 0 ≤ f ∧ f ≤ 2 := by
      by_cases hu4 : uni v4.C
      · obtain ⟨d1, d2⟩ := hL.uni0 hu4
        rw [d1, d2]
        exact ⟨by simp; omega, by simp, rfl, by omega, by omega⟩
      · by_cases hs : L.length < v4.C.length
        · obtain ⟨d1, d2⟩ := hL.short hu4 hs
          rw [d1, d2]
          exact ⟨by simp; omega, by simp; omega, rfl, by omega, by omega⟩
        · obtain ⟨d1, d2⟩ := hL.long hu4 hs
          rw [d1, d2]
          exact ⟨by simp; omega, by simp; omega, rfl, by omega, by omega⟩
    obtain ⟨o1, o2, o3, o4, o5⟩ := hout
    simp only [hx0]
    rw [w64_id (x := 1 + (v4.C.length : Int)) (by omega) (by omega), if_pos o1, if_pos o2]
    have hbytes : ref1_Bytes.f [0, rd v4.C v3] [0, rd v4.C v3] = some true := by unfold ref1_Bytes.f; rw [strEq_self]
    rw [hbytes, Option.bind_some, if_pos rfl, Option.bind_some, if_pos (by rfl), if_pos (by omega), if_pos (by omega), Option.bind_some, o3, w64_id (by omega) (by omega)]
    simp
  | succ n ih =>
    intro k i x hi h0 hk hx hr
    obtain ⟨k, rfl⟩ := kpos hk
    rw [law3_PackLeast.l0, if_pos (by omega), if_pos (by omega), w64_id (by omega) (by omega)]
    refine ih k (i + 1) _ (by omega) (by omega) (by omega) (by simpa using hx) (fun j j0 j1 => ?_)
    rw [rds h0 (by omega) j0]
    by_cases hj : j = i
    · rw [if_pos hj]
    · rw [if_neg hj]; exact hr j j0 (by omega)

theorem PackLeast_pure : law3_PackLeast.Pure := by
  intro c w h few p4 hc _ _ _ _ _
  unfold law3_PackLeast.f
  obtain ⟨v, e, hok⟩ := near_f (api_Tile.mk 0 0 c) w h few (fun y hy => hc y hy)
  have hl := tile_len hok
  obtain ⟨L, f, out, a1, a2, cL⟩ := put_ok hok
  have hin := within_in (n := p4) (lo := 0) (hi := (v.C.length : Int) - 1) (by omega)
  rw [e, Option.bind_some, a1, Option.bind_some, w64_id (x := (v.C.length : Int) - 1) (by omega) (by omega), within_f (by omega) (by omega) (by omega) (by omega), Option.bind_some, if_pos (by omega)]
  have hown : ref1_OwnTile.f v = some v := by
    unfold ref1_OwnTile.f
    rw [if_pos (by simp; omega)]; simp
  rw [hown, Option.bind_some]
  exact least_l0 hok rfl a2 cL ⟨by omega, by omega⟩ v.C.length fuel 0 v.C (by omega) (by omega) (by rw [fuel_eq]; omega) rfl (fun j j0 j1 => by omega)
end Go.Proofs.Ytfgenmohgfifaaa
