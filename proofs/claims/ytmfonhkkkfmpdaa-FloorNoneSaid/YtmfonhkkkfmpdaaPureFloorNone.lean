/- How large a floor may be is what the document says; what is none does nothing: at any numbers. No condition. -/
import Derived.Test.YtmfonhkkkfmpdaaFLFloorNone
import Derived.Test.YtmfonhkkkfmpdaaPlaw22
namespace Go.Proofs.Ytmfonhkkkfmpdaa
open Go.Hx

theorem FloorNone_pure : law22_FloorNone.Pure := by
  intro n a b _ _ _
  unfold law22_FloorNone.f
  have q1 : floor_Floor_Put_2.f a b = some false := by rfl
  have q2 : floor_Floor_Who_2.f a = some (-1) := by rfl
  have q3 : floor_Floor_Take_2.f a = some (-1) := by rfl
  have q4 : floor_Floor_Shift_2.f a b = some false := by rfl
  have q5 : floor_Floor_Count_2.f = some 0 := by rfl
  have q6 : floor_Floor_Words_2.f = some [] := by rfl
  have hk : (if ((decide (n ≤ 5000)) || (decide (n > 1048576))) = true then ((floor_New.f n).bind fun v2 => optm v2 (if (!(true == ((decide (n < 1)) || (decide (n > 1048576))))) = true then (some (Sum.inl false)) else (some (Sum.inr ()))) (fun yv2 => if (!(false == ((decide (n < 1)) || (decide (n > 1048576))))) = true then (some (Sum.inl false)) else (some (Sum.inr ())))) else (some (Sum.inr ()))) = some (Sum.inr () : Sum Bool Unit) := by
    by_cases h : ((decide (n ≤ 5000)) || (decide (n > 1048576))) = true
    · rw [if_pos h, new_f]
      by_cases h2 : 1 ≤ n ∧ n ≤ 1048576
      · have e : ((decide (n < 1)) || (decide (n > 1048576))) = false := by simp; omega
        rw [if_pos h2, e]; rfl
      · have e : ((decide (n < 1)) || (decide (n > 1048576))) = true := by simp; omega
        rw [if_neg h2, e]; rfl
    · rw [if_neg h]
  rw [hk]
  simp [told22, q1, q2, q3, q4, q5, q6]
end Go.Proofs.Ytmfonhkkkfmpdaa
