/- A cell's place is that cell again, and so is its local number in its sector, at any size that may be. No condition. -/
import Derived.Test.YtonjonpepfepfaaFLWhereBack
import Derived.Test.YtonjonpepfepfaaPlaw1
import Derived.Test.YtonjonpepfepfaaPback
namespace Go.Proofs.Ytonjonpepfepfaa
open Go.Hx

theorem WhereBack_pure : law1_WhereBack.Pure := by
  intro w h c _ _ _
  unfold law1_WhereBack.f
  obtain ⟨a, b, hn, hm⟩ := near1 w h
  rw [hn]
  have hp := may_prod hm
  have hm' := hm
  obtain ⟨m1, m2, m3, m4⟩ := hm
  have h1 := within_in (n := c) (lo := 0) (hi := a * b - 1) (by omega)
  simp only [Option.bind_some, w64_id (x := a * b) (by omega) (by omega), w64_id (x := a * b - 1) (by omega) (by omega),
    within_f (n := c) (lo := 0) (hi := a * b - 1) (by omega) (by omega) (by omega) (by omega), told1]
  generalize 0 + c % (a * b - 1 - 0 + 1) = d at h1
  have hc : CellS a b d := ⟨hm', by omega, by omega⟩
  have hpl := place_in hc
  have hsec := sec_of hc
  have hlo := local_w hc
  simp only [place_f, sector_f, local_f, size_f, cell_f, global_f, Option.bind_some]
  have e1 : sPlace a b d = (d % a, d / a) := by unfold sPlace; rw [if_pos hc]
  have e2 : sCell a b (d % a) (d / a) = d := cell_xy hc
  have e3 : sSector a b d = d / a / 16 * (sSectors a b).1 + d % a / 16 := by unfold sSector; rw [if_pos hc]
  have hin : SecS a b (sSector a b d) := by rw [e3]; exact sector_in hc
  have hsz := size_in hin
  have e4 : sLocal a b d = d / a % 16 * (sSize a b (sSector a b d)).1 + d % a % 16 := by unfold sLocal; rw [if_pos hc]
  have hll := cell_lt (w := (sSize a b (sSector a b d)).1) (h := (sSize a b (sSector a b d)).2) (x := d % a % 16) (y := d / a % 16) (by omega) hlo.1 (by omega) hlo.2
  rw [← e4] at hll
  have hss : sSectors a b = ((a + 15) / 16, (b + 15) / 16) := by unfold sSectors; rw [if_pos hm']
  have hpr : (sSize a b (sSector a b d)).1 * (sSize a b (sSector a b d)).2 ≤ 16 * 16 := mul_le (by omega) (by omega) hsz.2.1 hsz.2.2.2
  have e5 : sGlobal a b (sSector a b d) (sLocal a b d) = d := global_local hc
  rw [e1, e2, e5]
  have e6 : sSector a b d = w64 (w64 (w64 (Int.tdiv (d / a) 16) * w64 (Int.tdiv (w64 (w64 (a + 16) - 1)) 16)) + w64 (Int.tdiv (d % a) 16)) := by
    rw [w64_id (x := a + 16) (by omega) (by omega), w64_id (x := a + 16 - 1) (by omega) (by omega), tdiv_pos (a := d / a) hpl.2.2.1, tdiv_pos (a := d % a) hpl.1, tdiv_pos (a := a + 16 - 1) (by omega)]
    rw [w64_id (x := d / a / 16) (by omega) (by omega), w64_id (x := (a + 16 - 1) / 16) (by omega) (by omega), w64_id (x := d % a / 16) (by omega) (by omega)]
    have hq : (a + 16 - 1) / 16 = (sSectors a b).1 := by rw [hss, show a + 16 - 1 = a + 15 by omega]
    rw [hq]
    have hsl := sectors_in hm'
    have hb : d / a / 16 * (sSectors a b).1 ≤ 64 * 64 := mul_le (by omega) (by omega) (by omega) (by omega)
    have hb0 : 0 ≤ d / a / 16 * (sSectors a b).1 := mul_nn (by omega) (by omega)
    rw [w64_id (x := d / a / 16 * _) (by omega) (by omega), w64_id (by omega) (by omega)]
    exact e3
  rw [w64_id (x := (sSize a b (sSector a b d)).1 * _) (by omega) (by omega), ← e6]
  simp [hll.1, hll.2]
end Go.Proofs.Ytonjonpepfepfaa
