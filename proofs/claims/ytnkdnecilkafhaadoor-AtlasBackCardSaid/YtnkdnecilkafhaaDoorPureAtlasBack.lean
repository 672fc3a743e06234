import Derived.Test.YtnkdnecilkafhaaDoorFLAtlasBack
import Derived.Test.YtnkdnecilkafhaaDoorPtold
namespace Go.Proofs.YtnkdnecilkafhaaDoor
open Go.Hx

theorem AtlasBack_pure : law4_AtlasBack.Pure := by
  intro w h c _ _ hc hcl
  unfold law4_AtlasBack.f
  obtain ⟨m, e, hm, hl, hb⟩ := made_b w h hc
  rw [e, Option.bind_some, own_f m (by omega), Option.bind_some, put_f hm, Option.bind_some]
  simp only
  rw [get_put_map hm (by omega), Option.bind_some, told4]
  simp [same_refl, same_f]
end Go.Proofs.YtnkdnecilkafhaaDoor
