/- How many may live is what the document says; no units do nothing: any numbers. No condition. -/
import Derived.Test.YtmddmofncblfpaaFLUnitsNone
import Derived.Test.YtmddmofncblfpaaPunits
namespace Go.Proofs.Ytmddmofncblfpaa
open Go.Hx

theorem UnitsNone_pure : law21_UnitsNone.Pure := by
  intro most id cell _ _ _
  unfold law21_UnitsNone.f
  rw [new_f]
  by_cases h : 1 ≤ most ∧ most ≤ 65536
  · have h1 : ¬ most < 1 := by omega
    have h2 : decide (most > 65536) = false := by simp; omega
    rw [if_pos h]
    simp only [units_Units_Add_2.f, units_Units_Get_2.f, Option.bind_some, optm, told21, if_neg h1, h2, units_Units_Aim_2.f, units_Units_Move_2.f, units_Units_set_3.f, units_Units_set_4.f, units_Units_Drop_2.f, units_Units_All_2.f, units_Units_Len_2.f, units_Units_Next_2.f]
    simp
  · rw [if_neg h]
    by_cases h1 : most < 1
    · simp only [units_Units_Add_2.f, units_Units_Get_2.f, Option.bind_some, optm, told21, if_pos h1, units_Units_Aim_2.f, units_Units_Move_2.f, units_Units_set_3.f, units_Units_set_4.f, units_Units_Drop_2.f, units_Units_All_2.f, units_Units_Len_2.f, units_Units_Next_2.f]
      simp
    · have h2 : decide (most > 65536) = true := by simp; omega
      simp only [units_Units_Add_2.f, units_Units_Get_2.f, Option.bind_some, optm, told21, if_neg h1, h2, units_Units_Aim_2.f, units_Units_Move_2.f, units_Units_set_3.f, units_Units_set_4.f, units_Units_Drop_2.f, units_Units_All_2.f, units_Units_Len_2.f, units_Units_Next_2.f]
      simp
end Go.Proofs.Ytmddmofncblfpaa
