/- What was answered may be changed by who has it: any cells, of which at most 20 are taken, any goal. No condition. -/
import Derived.Test.YtmddmofncblfpaaFLUnitsOwn
import Derived.Test.YtmddmofncblfpaaPsame
namespace Go.Proofs.Ytmddmofncblfpaa
open Go.Hx

theorem own_l1 {cells : List Int} {u : units_Units} {L : List api_Unit} (hu : US u 30 L) (hL : L.length = min cells.length 20) : ∀ (n k : Nat) (i : Int) (xs : List api_Unit), i + n = xs.length → 0 ≤ i → n < k → xs.length ≤ 30 →
    law21_UnitsOwn.l1 k cells u.most u.live u.order L u.next xs i = some true := by
  intro n
  induction n with
  | zero =>
    intro k i xs hi h0 hk hx
    obtain ⟨k, rfl⟩ := kpos hk
    rw [law21_UnitsOwn.l1, if_neg (by omega)]
    have e : units_Units.mk u.most u.next u.live u.order = u := rfl
    simp only [told21, Option.bind_some, e, all_f hu, List.nil_append, same_self (a := L) (by omega)]
    rw [if_pos (by simp only [Bool.true_and, beq_iff_eq]; split <;> omega)]; rfl
  | succ n ih =>
    intro k i xs hi h0 hk hx
    obtain ⟨k, rfl⟩ := kpos hk
    rw [law21_UnitsOwn.l1, if_pos (by omega), if_pos (by omega), wi (by omega) (by omega)]
    exact ih k (i + 1) _ (by simp; omega) (by omega) (by omega) (by simpa using hx)

theorem own_l0 {cells : List Int} {goal : Int} : ∀ (n k : Nat) (i : Int) (u : units_Units) (L : List api_Unit), i + n = min cells.length 20 → 0 ≤ i → n < k → US u 30 L → (L.length : Int) = i → u.next = i →
    law21_UnitsOwn.l0 k cells goal u.most u.next u.live u.order i = some true := by
  intro n
  induction n with
  | zero =>
    intro k i u L hi h0 hk hu hL hn
    obtain ⟨k, rfl⟩ := kpos hk
    rw [law21_UnitsOwn.l0, if_neg (by simp; omega)]
    have e : units_Units.mk u.most u.next u.live u.order = u := rfl
    rw [e, all_f hu, Option.bind_some, if_pos (by simp; omega)]
    exact own_l1 hu (by omega) L.length fuel 0 L (by omega) (by omega) (by rw [fuelv]; omega) (by omega)
  | succ n ih =>
    intro k i u L hi h0 hk hu hL hn
    obtain ⟨k, rfl⟩ := kpos hk
    have e : units_Units.mk u.most u.next u.live u.order = u := rfl
    obtain ⟨u', h1, h2, h3⟩ := (add_f hu (by omega) (rd cells i) goal).2 (by omega)
    rw [law21_UnitsOwn.l0, if_pos (by simp; omega), if_pos (by omega), e, h1, Option.bind_some, wi (by omega) (by omega)]
    exact ih k (i + 1) u' _ (by omega) (by omega) (by omega) h3 (by simp; omega) (by omega)

theorem UnitsOwn_pure : law21_UnitsOwn.Pure := by
  intro cells goal _ _
  unfold law21_UnitsOwn.f
  rw [new_f, if_pos (by decide), Option.bind_some]
  exact own_l0 (min cells.length 20) fuel 0 _ [] (by omega) (by omega) (by rw [fuelv]; omega) (new_us (by decide)) rfl rfl
end Go.Proofs.Ytmddmofncblfpaa
