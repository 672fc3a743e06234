import Derived.Test.YtnkdnecilkafhaaDoorFLAtlasEnds
import Derived.Test.YtnkdnecilkafhaaDoorPtold
namespace Go.Proofs.YtnkdnecilkafhaaDoor
open Go.Hx

theorem AtlasEnds_pure : law4_AtlasEnds.Pure := by
  intro w h c cut more _ _ hc _ _ hcl
  unfold law4_AtlasEnds.f
  obtain ⟨m, e, hm, hl, hb⟩ := made_b w h hc
  have h6 := bytes_len hm
  have g := within_in (n := cut) (lo := 0) (hi := ((bytesOf m).length : Int) - 1) (by omega)
  rw [e, Option.bind_some, put_f hm, Option.bind_some]
  simp only [List.nil_append]
  rw [if_neg (by simp; omega), w64_id (x := ((bytesOf m).length : Int) - 1) (by omega) (by omega), within_f (by omega) (by omega) (by omega) (by omega), Option.bind_some]
  generalize 0 + cut % (((bytesOf m).length : Int) - 1 - 0 + 1) = p at g ⊢
  have hl1 := sub_len (L := bytesOf m) (lo := 0) (hi := p) (by omega) (by omega) (by omega)
  rw [if_pos (show 0 ≤ (0 : Int) ∧ (0 : Int) ≤ p ∧ p ≤ ((bytesOf m).length : Int) by omega), get_dec hm (by omega) (b := sub' (bytesOf m) 0 p) (by omega) (fun j j0 j1 j2 => by rw [rd_sub (by omega) j0 (by omega), Int.zero_add]), if_pos (by omega), Option.bind_some, if_pos (by simp; omega), if_pos (by omega)]
  rw [get_dec hm (by omega) (b := bytesOf m ++ [more]) (by simp; omega) (fun j j0 j1 j2 => rdl j0 j1), if_neg (by simp), if_pos (by simp), told4]
  rfl
end Go.Proofs.YtnkdnecilkafhaaDoor
