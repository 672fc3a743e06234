import Derived.Test.YtnkdnecilkafhaaDoorPdec
import Derived.Test.YtnkdnecilkafhaaDoorFlaw4
namespace Go.Proofs.YtnkdnecilkafhaaDoor
open Go.Hx

theorem made_b (w h : Int) {c : List Int} (hc : ∀ y ∈ c, inU8 y) : ∃ m, ref1_Made.f w h c = some m ∧ MapB m ∧ m.C.length ≤ 1600 ∧ (bytesOf m).length ≤ 3000 := by
  obtain ⟨m, e, ok, w40, h40, hb⟩ := made_f w h (c := c) (fun y hy => by have := hc y hy; unfold inU8 at this; omega)
  have hm : MapB m := ⟨ok, hb⟩
  have hl := bytes_len hm
  have hcn : sCount m.W m.H ≤ 3 * 3 := by
    unfold sCount sSectors
    rw [if_pos ok.1]
    have := ok.1
    exact mul_le (by simp only; omega) (by simp only; omega) (by simp only; omega) (by simp only; omega)
  have hp : m.W * m.H ≤ 40 * 40 := mul_le (by have := ok.1; omega) (by have := ok.1; omega) w40 h40
  have := ok.2.1
  exact ⟨m, e, hm, by omega, by omega⟩
theorem get_put_map {m : api_Map} (hm : MapB m) (hbig : (bytesOf m).length ≤ 50000) : atlas_Get.f (bytesOf m) = some (m, 0) := by
  rw [get_dec hm hbig (by omega) (fun j _ _ _ => rfl), if_neg (by omega), if_neg (by omega)]
theorem same_refl (m : api_Map) : atlas_Same.f m m = some true := by
  unfold atlas_Same.f bytes_Equal.f
  simp [strEq_self]
theorem told4 : law4_told.f = some true := by
  have hm : MapB (api_Map.mk 1 1 [5]) := ⟨⟨by decide, by decide, by decide⟩, by decide⟩
  have es : secT (api_Map.mk 1 1 [5]) 0 = api_Map.mk 1 1 [5] := by rfl
  have ec : (sCount 1 1).toNat = 1 := by rfl
  have hs : SecS 1 1 0 := by decide
  obtain ⟨L, f, e, hL⟩ := out_f hm (s := 0) hs
  have eo : outO (api_Map.mk 1 1 [5]) 0 = [0, 5] := by
    have hu : uni (secT (api_Map.mk 1 1 [5]) 0).C := by
      rw [es]
      intro j j0 j1
      have : j = 0 := by simp at j1; omega
      rw [this]
    have := (hL.uni0 hu).2
    rw [this, es]; rfl
  have eb : bytesOf (api_Map.mk 1 1 [5]) = [1, 0, 1, 0, 0, 5] := by
    unfold bytesOf
    show head4 _ ++ outs _ (sCount 1 1).toNat 0 = _
    rw [ec]
    show head4 _ ++ (outO _ 0 ++ []) = _
    rw [eo]; rfl
  unfold law4_told.f
  rw [put_f hm, Option.bind_some, get_put_map hm (by rw [eb]; decide), Option.bind_some]
  simp only [beq_self_eq_true, Bool.and_self, if_true]
  rw [eb]
  unfold ref1_Bytes.f
  rw [strEq_self, Option.bind_some, if_pos rfl, if_pos (by decide), if_pos (by decide)]
  rfl
end Go.Proofs.YtnkdnecilkafhaaDoor
