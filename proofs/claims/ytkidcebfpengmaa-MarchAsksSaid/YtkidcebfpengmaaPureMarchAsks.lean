/- Who goes, who stays, who is gone is what the document says: any units, of which at most 20 are taken, any directions, near ones or raw, any size. No condition. -/
import Derived.Test.YtkidcebfpengmaaFLMarchAsks
import Derived.Test.YtkidcebfpengmaaPrgo
namespace Go.Proofs.Ytkidcebfpengmaa
open Go.Hx
set_option linter.unusedVariables false
set_option linter.unusedSimpArgs false

theorem cut20 {α : Type} (l : List α) (hl : l.length ≤ 9223372036854775807) : (0 ≤ (0 : Int) ∧ 0 ≤ (if 20 < (List.length l : Int) then 20 else (List.length l : Int)) ∧ (if 20 < (List.length l : Int) then 20 else (List.length l : Int)) ≤ (List.length l : Int)) ∧
    (sub' l 0 (if 20 < (List.length l : Int) then 20 else (List.length l : Int))).length ≤ 20 := by
  refine ⟨⟨by omega, by split <;> omega, by split <;> omega⟩, ?_⟩
  simp only [sub', List.length_take, List.length_drop]
  split <;> omega

theorem asks_tail {x4 x5 : Int} {x6 : List api_Unit} {x7 : List Int} (h6 : x6.length ≤ 20) (h7 : x7.length ≤ 20) :
    (if (List.length ([] : List api_Unit) + List.length x6 ≤ 1099511627776) then (if (List.length ([] : List Int) + List.length x7 ≤ 1099511627776) then ((march_Go.f x4 x5 x6 x7).bind fun v13 => ((ref21_Same.f x6 (([] : List api_Unit) ++ x6)).bind fun v16 => if (!v16) = true then (some true) else ((ref1_Ints.f x7 (([] : List Int) ++ x7)).bind fun v17 => some (!v17))).bind fun x14 => if x14 = true then (some false) else (((ref21_May.f x4 x5 x6).bind fun v20 => if (!v20) = true then (some true) else ((ref21_Dirs.f x7 (List.length x6 : Int)).bind fun v21 => some (!v21))).bind fun x18 => if x18 = true then ((law24_told.f).bind fun v22 => some ((((v22 && (v13.2.2.2 == 1)) && ((List.length v13.1 : Int) == 0)) && ((List.length v13.2.1 : Int) == 0)) && ((List.length v13.2.2.1 : Int) == 0))) else ((ref21_Go.f x4 x5 x6 x7).bind fun v23 => ((law24_told.f).bind fun v26 => if (v26 && (v13.2.2.2 == 0)) = true then ((ref21_Same.f v13.1 v23.1).bind fun v27 => if v27 = true then ((ref21_Moves.f v13.2.1 v23.2.1).bind fun v28 => if v28 = true then ((ref1_Ints.f v13.2.2.1 v23.2.2).bind fun v29 => some v29) else (some false)) else (some false)) else (some false)).bind fun x24 => some x24))) else none) else none) = some true := by
  rw [if_pos (by simp; omega), if_pos (by simp; omega), List.nil_append, List.nil_append]
  obtain ⟨r, r1, r2⟩ := rmay21_f (w := x4) (h := x5) (l := x6) (by omega)
  obtain ⟨o, o1, o2⟩ := rdirs_f (dirs := x7) (n := x6.length) (by omega)
  have es := same_self (a := x6) (by omega)
  have ei := ints_self (a := x7) (by omega)
  simp only [es, ei, r1, o1, Option.bind_some, Bool.not_true, Bool.false_eq_true, if_false]
  by_cases hm : MayU x4 x5 x6
  · by_cases hd : DirsOk x7 x6.length
    · have hi := gInv hm x7 x6.length (Nat.le_refl _)
      have hl1 : (gGo x4 x5 x6 x7).1.length ≤ 20 := by
        have := hi.len
        exact Nat.le_trans (List.length_filter_le ..) (by omega)
      have hl2 : (gGo x4 x5 x6 x7).2.1.length ≤ 20 := Nat.le_trans hi.mlen (by omega)
      have hl3 : (gGo x4 x5 x6 x7).2.2.length ≤ 20 := Nat.le_trans hi.glen (by omega)
      have e1 := same_self (a := (gGo x4 x5 x6 x7).1) (by omega)
      have e2 := moves_self (a := (gGo x4 x5 x6 x7).2.1) (by omega)
      have e3 := ints_self (a := (gGo x4 x5 x6 x7).2.2) (by omega)
      rw [go_ok hm (by omega) hd, r2.2 hm, o2.2 hd]
      simp only [Option.bind_some, Bool.not_true, Bool.false_eq_true, if_false, rgo_f hm (by omega : x6.length ≤ 1000000) hd, told24, e1, e2, e3]
      rfl
    · have ho : o = false := by rw [Bool.eq_false_iff]; exact fun q => hd (o2.1 q)
      rw [go_bad (by omega) (by omega) (fun q => hd q.2), r2.2 hm, ho]
      simp [told24]
  · have hr : r = false := by rw [Bool.eq_false_iff]; exact fun q => hm (r2.1 q)
    rw [go_bad (by omega) (by omega) (fun q => hm q.1), hr]
    simp [told24]

theorem MarchAsks_pure : law24_MarchAsks.Pure := by
  intro w h l d k raw _ _ _ _ _ hl hd hk
  unfold law24_MarchAsks.f
  obtain ⟨a1, a2⟩ := cut20 l hl
  obtain ⟨b1, b2⟩ := cut20 d hd
  rw [if_pos a1, if_pos b1, if_pos (by simp; omega), if_pos (by simp; omega), Option.bind_some]
  simp only [List.nil_append]
  cases raw with
  | true =>
    simp only [Bool.not_true, Bool.false_eq_true, if_false, Option.bind_some]
    have := asks_tail (x4 := w) (x5 := h) a2 b2
    simpa only [List.nil_append] using this
  | false =>
    obtain ⟨v, v1, v2, v3⟩ := within_y (n := w) (lo := 1) (hi := 8) (by omega) (by omega) (by omega) (by omega)
    obtain ⟨u, u1, u2, u3⟩ := within_y (n := h) (lo := 1) (hi := 8) (by omega) (by omega) (by omega) (by omega)
    obtain ⟨m, m1, m2, m3⟩ := made_f (w := v) (h := u) ⟨by omega, by omega, by omega, by omega⟩ hk
    obtain ⟨q, q1, q2⟩ := dirs24_f (l := m) (ks := k) (by omega) hk
    have hq := q2.1
    simp only [Bool.not_false, if_true, v1, u1, m1, q1, Option.bind_some]
    have := asks_tail (x4 := v) (x5 := u) (x6 := m) (x7 := q) (by omega) (by omega)
    simpa only [List.nil_append] using this
end Go.Proofs.Ytkidcebfpengmaa
