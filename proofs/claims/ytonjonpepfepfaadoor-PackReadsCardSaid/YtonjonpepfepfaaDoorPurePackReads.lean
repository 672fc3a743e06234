import Derived.Test.YtonjonpepfepfaaDoorFLPackReads
import Derived.Test.YtonjonpepfepfaaDoorPone
namespace Go.Proofs.YtonjonpepfepfaaDoor
open Go.Hx

theorem inb (b : List Int) (hb : ∀ y ∈ b, inU8 y) {w h : Int} (hl : b.length ≤ 100000) : ∃ res : api_Tile × Int × Int, pack_Get.f b w h = some res ∧ ref1_GetTile.f b w h = some res := by
  by_cases hi : (1 ≤ w ∧ w ≤ 16) ∧ 1 ≤ h ∧ h ≤ 16
  · obtain ⟨res, h1, h2, _⟩ := get_joint hb hl hi.1 hi.2
    exact ⟨res, h1, h2⟩
  · refine ⟨(⟨0, 0, []⟩, 0, 1), ?_, ?_⟩
    · unfold pack_Get.f
      rw [if_pos (by simp; omega)]
    · unfold ref1_GetTile.f ref1_In.f
      simp only [Option.bind_some]
      by_cases hw : 1 ≤ w ∧ w ≤ 16
      · have e : (decide (w ≥ 1) && decide (w ≤ 16)) = true := by simp; omega
        have e' : (decide (h ≥ 1) && decide (h ≤ 16)) = false := by simp; omega
        rw [e, e']; rfl
      · have e : (decide (w ≥ 1) && decide (w ≤ 16)) = false := by simp; omega
        rw [e]; rfl
theorem PackReads_pure : law3_PackReads.Pure := by
  intro b w h form raw hb _ _ _ hbl
  unfold law3_PackReads.f
  by_cases hl : (b.length : Int) > 700
  · rw [if_pos hl, told3]; rfl
  · rw [if_neg hl, if_pos (by simp; omega)]
    simp only [List.nil_append]
    have key : ∀ (w h : Int) (b : List Int), (∀ y ∈ b, inU8 y) → b.length ≤ 100000 → (if List.length ([] : List Int) + List.length b ≤ 1099511627776 then ((pack_Get.f b w h).bind fun v9 => (ref1_GetTile.f b w h).bind fun v10 => ((law3_told.f).bind fun v13 => if ((v13 && (v9.2.2 == v10.2.2)) && (v9.2.1 == v10.2.1)) = true then ((ref1_SameTile.f v9.1 v10.1).bind fun v14 => if v14 = true then ((ref1_Bytes.f b b).bind fun v15 => some v15) else (some false)) else (some false)).bind fun x11 => some x11) else none) = some true := by
      intro w h b hb hl
      obtain ⟨res, h1, h2⟩ := inb b hb (w := w) (h := h) hl
      rw [if_pos (by simp; omega), h1, Option.bind_some, h2, Option.bind_some, told3]
      simp [ref1_SameTile.f, ref1_Bytes.f, strEq_self]
    cases raw
    · have e1 := within_in (n := w) (lo := 1) (hi := 5) (by omega)
      have e2 := within_in (n := h) (lo := 1) (hi := 5) (by omega)
      have e3 := within_in (n := form) (lo := 0) (hi := 2) (by omega)
      rw [if_pos (show (!false) = true from rfl), within_f (n := w) (by omega) (by omega) (by omega) (by omega), Option.bind_some, within_f (n := h) (by omega) (by omega) (by omega) (by omega), Option.bind_some]
      by_cases hz : (b.length : Int) > 0
      · rw [if_pos hz, within_f (by omega) (by omega) (by omega) (by omega), Option.bind_some, if_pos (by omega), Option.bind_some, wu8_id (by omega) (by omega)]
        refine key _ _ _ (fun y hy => ?_) (by simp; omega)
        rcases List.mem_or_eq_of_mem_set hy with q | q
        · exact hb y q
        · rw [q]; exact ⟨by omega, by omega⟩
      · rw [if_neg hz, Option.bind_some]
        exact key _ _ b hb (by omega)
    · rw [if_neg (by simp), Option.bind_some]
      exact key _ _ b hb (by omega)
end Go.Proofs.YtonjonpepfepfaaDoor
