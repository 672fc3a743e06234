/- Each sector has the size that the document says, and its locals their cells: at any size, sector and local, near ones or raw. No condition. -/
import Derived.Test.YtonjonpepfepfaaFLWhereParts
import Derived.Test.YtonjonpepfepfaaPlaw1
namespace Go.Proofs.Ytonjonpepfepfaa
open Go.Hx

theorem WhereParts_pure : law1_WhereParts.Pure := by
  intro w h sector p3 raw _ _ _ _
  unfold law1_WhereParts.f
  have key : ∃ x1 x2 x3 x4, (if (!raw) = true then ((law1_near.f w h).bind fun v6 => (ref1_Count.f v6.1 v6.2).bind fun v7 => (ref1_Within.f sector (-1) v7).bind fun v8 => (ref1_Within.f p3 (-1) 256).bind fun v9 => some (v6.1, v6.2, v8, v9)) else (some (w, h, sector, p3))) = some (x1, x2, x3, x4) := by
    obtain ⟨a, b, hn, hm⟩ := near1 w h
    split
    · have hc := count_in a b
      simp only [hn, Option.bind_some, rcount_f, within_f (n := sector) (lo := -1) (hi := sCount a b) (by omega) (by omega) (by omega) (by omega), within_f (n := p3) (lo := -1) (hi := 256) (by omega) (by omega) (by omega) (by omega)]
      exact ⟨_, _, _, _, rfl⟩
    · exact ⟨_, _, _, _, rfl⟩
  obtain ⟨x1, x2, x3, x4, hk⟩ := key
  rw [hk]
  simp [size_f, rsize_f, told1, global_f, rglobal_f]

end Go.Proofs.Ytonjonpepfepfaa
