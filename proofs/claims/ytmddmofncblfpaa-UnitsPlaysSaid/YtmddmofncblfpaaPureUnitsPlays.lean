/- Who lives, where, with which goal, is what the document says: any room, any calls, of which at most 60 are made, any numbers. No condition. -/
import Derived.Test.YtmddmofncblfpaaFLUnitsPlays
import Derived.Test.YtmddmofncblfpaaPref21u
import Derived.Test.YtmddmofncblfpaaPwithin
namespace Go.Proofs.Ytmddmofncblfpaa
open Go.Hx
set_option linter.unusedVariables false
set_option linter.unusedSimpArgs false

theorem turn_one {L : List api_Unit} (h : (L.map (·.Id)).Pairwise (· < ·)) {k : Int} {x : api_Unit} (hx : uFind L k = some x) (f : api_Unit → api_Unit) : uTurn L k f = uTurn L k (fun _ => f x) := by
  obtain ⟨h1, h2⟩ := uFind_some hx
  unfold uTurn
  refine List.map_congr_left fun y hy => ?_
  by_cases e : y.Id = k
  · rw [if_pos e, if_pos e, id_inj h hy h1 (e.trans h2.symm)]
  · rw [if_neg e, if_neg e]
theorem turn_none {L : List api_Unit} {k : Int} (hx : uFind L k = none) (f : api_Unit → api_Unit) : uTurn L k f = L := by
  unfold uTurn
  conv => rhs; rw [← List.map_id L]
  refine List.map_congr_left fun y hy => ?_
  rw [if_neg (uFind_none hx y hy)]; rfl

def uStep (k : Nat) (most : Int) (l : List herdsmanlaw21_Ask) (i : Int) (x24 x25 : Int) (x26 : List (Int × api_Unit)) (x27 : List Int) (x28 x29 : Int) (x30 : List api_Unit) : Option Bool :=
  ((units_Units_Len.f (units_Units.mk x24 x25 x26 x27)).bind fun v48 => if (v48 != (List.length x30 : Int)) = true then (some true) else ((units_Units_Next.f (units_Units.mk x24 x25 x26 x27)).bind fun v49 => if (v49 != x29) = true then (some true) else ((units_Units_All.f (units_Units.mk x24 x25 x26 x27)).bind fun v50 => (ref21_Same.f v50 x30).bind fun v51 => some (!v51)))).bind fun x46 => if x46 = true then (some false) else (law21_UnitsPlays.l0 k most l x24 x25 x26 x27 x28 x29 x30 (w64 (i + 1)))

theorem uStep_f {k : Nat} {most : Int} {l : List herdsmanlaw21_Ask} {i n nx : Int} {u : units_Units} {L : List api_Unit} (hu : US u n L) (hn : u.next = nx) :
    uStep k most l i u.most u.next u.live u.order n nx L = law21_UnitsPlays.l0 k most l u.most u.next u.live u.order n nx L (w64 (i + 1)) := by
  have e : units_Units.mk u.most u.next u.live u.order = u := rfl
  have hc := hu.cnt
  have hb := hu.next
  subst hn
  unfold uStep
  simp only [e, len_f hu, Option.bind_some, units_Units_Next.f, all_f hu, same_self (a := L) (by omega), bne_self_eq_false, Bool.false_eq_true, if_false, Bool.not_true]

theorem plays_l {most n : Int} {l : List herdsmanlaw21_Ask} (hn : 1 ≤ n ∧ n ≤ 9) : ∀ (m k : Nat) (i : Int) (u : units_Units) (L : List api_Unit), i + m = 60 → 0 ≤ i → m < k → US u n L → u.next ≤ i →
    law21_UnitsPlays.l0 k most l u.most u.next u.live u.order n u.next L i = some true := by
  intro m
  induction m with
  | zero =>
    intro k i u L hi h0 hk hu hx
    obtain ⟨k, rfl⟩ := kpos hk
    rw [law21_UnitsPlays.l0, if_neg (by simp; omega), told21]; rfl
  | succ m ih =>
    intro k i u L hi h0 hk hu hx
    obtain ⟨k, rfl⟩ := kpos hk
    rw [law21_UnitsPlays.l0]
    by_cases hl : (l.length : Int) ≤ i
    · rw [if_neg (by simp; omega), told21]; rfl
    rw [if_pos (by simp; omega), if_pos (by omega)]
    have e : units_Units.mk u.most u.next u.live u.order = u := rfl
    have hb := hu.next
    have hcn := hu.cnt
    have hL : L.length ≤ 1000000 := by omega
    have next : ∀ (u' : units_Units) (L' : List api_Unit) (nx : Int), US u' n L' → u'.next = nx → nx ≤ i + 1 → uStep k most l i u'.most u'.next u'.live u'.order n nx L' = some true := by
      intro u' L' nx h1 h2 h3
      rw [uStep_f h1 h2, wi (by omega) (by omega), ← h2]
      exact ih k (i + 1) u' L' (by omega) (by omega) (by omega) h1 (by omega)
    obtain ⟨id, hid⟩ : ∃ id, ((if ((Int.tmod (rd l i).Goal 5) != 0) = true then ((ref1_Within.f ((rd l i).Id) (-1) u.next).bind fun v22 => some v22) else (some ((rd l i).Id))) : Option Int) = some id := by
      obtain ⟨v, hv, _⟩ := within_x (n := (rd l i).Id) (lo := -1) (hi := u.next) (by omega) (by omega) (by omega) (by omega)
      split
      · exact ⟨v, by rw [hv]; rfl⟩
      · exact ⟨_, rfl⟩
    obtain ⟨kk, hkk, k0, k1⟩ := within_x (n := (rd l i).Kind) (lo := 0) (hi := 6) (by omega) (by omega) (by omega) (by omega)
    rw [hid]
    simp only [Option.bind_some, hkk, rget_f (w := ⟨n, u.next, L⟩) hL, e]
    have hget : uGet L id = (match uFind L id with | some x => (x, true) | none => (⟨0, 0, 0⟩, false)) := rfl
    have hhas : (uGet L id).2 = uHas L id := by rw [hget]; unfold uHas; cases uFind L id <;> rfl
    by_cases c3 : kk = 3
    · rw [if_pos (by simp [c3])]
      obtain ⟨u', h1, h2, h3⟩ := aim_f hu id (rd l i).Goal
      cases hf : uFind L id with
      | some x =>
        have hx2 := (uFind_some hf).2
        have eg : uGet L id = (x, true) := by rw [hget, hf]
        have eh : uHas L id = true := by rw [← hhas, eg]
        have es := rset_f (w := ⟨n, u.next, L⟩) hL hu.up ⟨x.Id, x.Cell, (rd l i).Goal⟩
        simp only [hx2] at es
        rw [turn_one hu.up hf] at h3
        simp only [eg, if_true, hx2, es, Option.bind_some, h1, eh, BEq.rfl, Bool.not_true, Bool.false_eq_true, if_false]
        simp only [hx2] at h3
        exact next u' _ _ h3 h2 (by omega)
      | none =>
        have eg : uGet L id = (⟨0, 0, 0⟩, false) := by rw [hget, hf]
        have eh : uHas L id = false := by rw [← hhas, eg]
        rw [turn_none hf] at h3
        simp only [eg, Bool.false_eq_true, if_false, Option.bind_some, h1, eh, BEq.rfl, Bool.not_true]
        exact next u' _ _ h3 h2 (by omega)
    rw [if_neg (by simpa using c3)]
    by_cases c4 : kk = 4
    · rw [if_pos (by simp [c4])]
      obtain ⟨u', h1, h2, h3⟩ := move_f hu id (rd l i).Cell
      cases hf : uFind L id with
      | some x =>
        have hx2 := (uFind_some hf).2
        have eg : uGet L id = (x, true) := by rw [hget, hf]
        have eh : uHas L id = true := by rw [← hhas, eg]
        have es := rset_f (w := ⟨n, u.next, L⟩) hL hu.up ⟨x.Id, (rd l i).Cell, x.Goal⟩
        simp only [hx2] at es
        rw [turn_one hu.up hf] at h3
        simp only [eg, if_true, hx2, es, Option.bind_some, h1, eh, BEq.rfl, Bool.not_true, Bool.false_eq_true, if_false]
        simp only [hx2] at h3
        exact next u' _ _ h3 h2 (by omega)
      | none =>
        have eg : uGet L id = (⟨0, 0, 0⟩, false) := by rw [hget, hf]
        have eh : uHas L id = false := by rw [← hhas, eg]
        rw [turn_none hf] at h3
        simp only [eg, Bool.false_eq_true, if_false, Option.bind_some, h1, eh, BEq.rfl, Bool.not_true]
        exact next u' _ _ h3 h2 (by omega)
    rw [if_neg (by simpa using c4)]
    by_cases c5 : kk = 5
    · rw [if_pos (by simp [c5])]
      obtain ⟨u', h1, h2, h3⟩ := drop_f hu id
      have es := rdrop_f (w := ⟨n, u.next, L⟩) hL hu.up id
      simp only at es
      simp only [h1, es, Option.bind_some, BEq.rfl, Bool.not_true, Bool.false_eq_true, if_false]
      exact next u' _ _ h3 h2 (by omega)
    rw [if_neg (by simpa using c5)]
    by_cases c6 : kk = 6
    · rw [if_pos (by simp [c6]), get_f hu]
      simp only [Option.bind_some, BEq.rfl, Bool.not_true, Bool.false_eq_true, if_false, Bool.and_true, Bool.true_and]
      exact next u _ _ hu rfl (by omega)
    rw [if_neg (by simpa using c6)]
    have er := radd_f (w := ⟨n, u.next, L⟩) hL (by simp only; omega) (rd l i).Cell (rd l i).Goal
    simp only at er
    obtain ⟨a1, a2⟩ := add_f hu (by omega) (rd l i).Cell (rd l i).Goal
    by_cases hm : n ≤ (L.length : Int)
    · rw [if_pos hm] at er
      simp only [a1 hm, er, Option.bind_some, bne_self_eq_false, BEq.rfl, Bool.not_true, Bool.or_self, Bool.false_eq_true, if_false]
      exact next u _ _ hu rfl (by omega)
    · rw [if_neg hm] at er
      obtain ⟨u', h1, h2, h3⟩ := a2 (by omega)
      simp only [h1, er, Option.bind_some, bne_self_eq_false, BEq.rfl, Bool.not_true, Bool.or_self, Bool.false_eq_true, if_false]
      exact next u' _ _ h3 h2 (by omega)

theorem UnitsPlays_pure : law21_UnitsPlays.Pure := by
  intro most l _ _
  unfold law21_UnitsPlays.f
  obtain ⟨n, hn, n0, n1⟩ := within_x (n := most) (lo := 1) (hi := 9) (by omega) (by omega) (by omega) (by omega)
  rw [hn, Option.bind_some, new_f, if_pos (by omega), Option.bind_some]
  exact plays_l ⟨n0, n1⟩ 60 fuel 0 _ [] (by omega) (by omega) (by rw [fuelv]; omega) (new_us (by omega)) (Int.le_refl 0)
end Go.Proofs.Ytmddmofncblfpaa
