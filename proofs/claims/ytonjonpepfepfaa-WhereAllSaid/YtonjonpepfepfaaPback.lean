import Derived.Test.YtonjonpepfepfaaPstep
namespace Go.Proofs.Ytonjonpepfepfaa
open Go.Hx

theorem local_in {w h c : Int} (hc : CellS w h c) : 0 ≤ sLocal w h c ∧ sLocal w h c < (sSize w h (sSector w h c)).1 * (sSize w h (sSector w h c)).2 := by
  have hlo := local_w hc
  have hpl := place_in hc
  have h1 := cell_lt (w := (sSize w h (sSector w h c)).1) (h := (sSize w h (sSector w h c)).2) (x := c % w % 16) (y := c / w % 16) (by omega) hlo.1 (by omega) hlo.2
  have e4 : sLocal w h c = c / w % 16 * (sSize w h (sSector w h c)).1 + c % w % 16 := by unfold sLocal; rw [if_pos hc]
  rw [e4]; exact h1
theorem sector_is {w h c : Int} (hc : CellS w h c) : SecS w h (sSector w h c) := by
  unfold sSector; rw [if_pos hc]; exact sector_in hc
theorem global_local {w h c : Int} (hc : CellS w h c) : sGlobal w h (sSector w h c) (sLocal w h c) = c := by
  have hlo := local_w hc
  have hpl := place_in hc
  have hse := sec_of hc
  have hin := local_in hc
  unfold sGlobal
  rw [if_pos ⟨sector_is hc, hin⟩]
  have e3 : sSector w h c = c / w / 16 * (sSectors w h).1 + c % w / 16 := by unfold sSector; rw [if_pos hc]
  have e4 : sLocal w h c = c / w % 16 * (sSize w h (sSector w h c)).1 + c % w % 16 := by unfold sLocal; rw [if_pos hc]
  have n1 := num_parts (a := (sSectors w h).1) (x := c % w / 16) (y := c / w / 16) hse.1 hse.2.1
  have n2 := num_parts (a := (sSize w h (sSector w h c)).1) (x := c % w % 16) (y := c / w % 16) (by omega) hlo.1
  rw [← e3] at n1
  rw [← e4] at n2
  rw [n1.1, n1.2, n2.1, n2.2]
  have a1 : 16 * (c / w / 16) + c / w % 16 = c / w := by omega
  have a2 : 16 * (c % w / 16) + c % w % 16 = c % w := by omega
  rw [a1, a2]
  have e := cell_xy hc
  unfold sCell at e
  rw [if_pos ⟨hc.1, hpl.1, hpl.2.1, hpl.2.2.1, hpl.2.2.2⟩] at e
  exact e
end Go.Proofs.Ytonjonpepfepfaa
