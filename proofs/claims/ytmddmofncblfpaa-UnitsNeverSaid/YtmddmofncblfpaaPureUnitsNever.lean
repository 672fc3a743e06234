/- A number that was given is never given again; who is told of by number is who has it: any room, any goings, of which at most 60 are gone. No condition. -/
import Derived.Test.YtmddmofncblfpaaFLUnitsNever
import Derived.Test.YtmddmofncblfpaaPsame
import Derived.Test.YtmddmofncblfpaaPwithin
namespace Go.Proofs.Ytmddmofncblfpaa
open Go.Hx

/-- each has its own goal -/
def Own (L : List api_Unit) : Prop := ∀ x ∈ L, x.Goal = - x.Cell ∧ 0 ≤ x.Cell ∧ x.Cell ≤ 60

theorem never_l1 {most : Int} {gone : List Int} {at_ n : Int} {u : units_Units} {L : List api_Unit} (hu : US u n L) (ho : Own L) (hL : L ≠ []) (h0' : 0 ≤ at_) (h1' : at_ < gone.length) : ∀ (m k : Nat) (i : Int), i + m = L.length → 0 ≤ i → m < k →
    ∃ u' L', law21_UnitsNever.l1 k most gone at_ u.most u.next u.live L u.order u.next i = some (Sum.inr (u'.most, u'.next, u'.live, u'.order, u'.next)) ∧ u'.next = u.next ∧ US u' n L' ∧ Own L' ∧ L'.length ≤ L.length := by
  have e : units_Units.mk u.most u.next u.live u.order = u := rfl
  have hc := hu.cnt
  have hb := hu.next
  intro m
  induction m with
  | zero =>
    intro k i hi h0 hk
    obtain ⟨k, rfl⟩ := kpos hk
    have hl : 0 < L.length := List.length_pos_iff.2 hL
    rw [law21_UnitsNever.l1, if_neg (by omega), if_pos (by omega), wi (by omega) (by omega)]
    obtain ⟨v, hv, v0, v1⟩ := within_x (n := rd gone at_) (lo := 0) (hi := (L.length : Int) - 1) (by omega) (by omega) (by omega) (by omega)
    simp only [hv, Option.bind_some, e]
    rw [if_pos (by omega)]
    by_cases h3 : ((Int.tmod (rd gone at_) 3) != 0) = true
    · rw [if_pos h3]
      have hm : rd L v ∈ L := rdmem v0 (by omega)
      have hf := uFind_mem hu.up hm
      have hh : uHas L (rd L v).Id = true := by unfold uHas; rw [hf]; rfl
      have hn : uFind (uDrop L (rd L v).Id) (rd L v).Id = none := by
        unfold uFind
        rw [List.find?_eq_none]
        intro y hy
        have := (List.mem_filter.1 hy).2
        simpa using this
      have hh2 : uHas (uDrop L (rd L v).Id) (rd L v).Id = false := by unfold uHas; rw [hn]; rfl
      have ht : ∀ f, uTurn (uDrop L (rd L v).Id) (rd L v).Id f = uDrop L (rd L v).Id := by
        intro f; unfold uTurn
        conv => rhs; rw [← List.map_id (uDrop L (rd L v).Id)]
        refine List.map_congr_left fun y hy => ?_
        rw [if_neg (uFind_none hn y hy)]; rfl
      obtain ⟨u1, d1, n1, s1⟩ := drop_f hu (rd L v).Id
      obtain ⟨u2, d2, n2, s2⟩ := drop_f s1 (rd L v).Id
      rw [uDrop_none hn] at s2
      obtain ⟨u3, d3, n3, s3⟩ := aim_f s2 (rd L v).Id 1
      rw [ht] at s3
      obtain ⟨u4, d4, n4, s4⟩ := move_f s3 (rd L v).Id 1
      rw [ht] at s4
      rw [hh] at d1
      rw [hh2] at d2 d3 d4
      have e4 : units_Units.mk u4.most u4.next u4.live u4.order = u4 := rfl
      have hg : uGet (uDrop L (rd L v).Id) (rd L v).Id = (⟨0, 0, 0⟩, false) := by unfold uGet; rw [hn]
      simp only [d1, d2, d3, d4, Option.bind_some, Bool.not_true, Bool.false_eq_true, if_false, e4, get_f s4, hg]
      refine ⟨u4, _, by rw [show u.next = u4.next by omega], by omega, s4, fun x hx => ho x (List.mem_filter.1 hx).1, List.length_filter_le ..⟩
    · rw [if_neg h3]
      exact ⟨u, L, rfl, rfl, hu, ho, Nat.le_refl _⟩
  | succ m ih =>
    intro k i hi h0 hk
    obtain ⟨k, rfl⟩ := kpos hk
    have hm : rd L i ∈ L := rdmem h0 (by omega)
    have hf := uFind_mem hu.up hm
    have hg : uGet L (rd L i).Id = (rd L i, true) := by unfold uGet; rw [hf]
    have hgo := ho _ hm
    rw [law21_UnitsNever.l1, if_pos (by omega), if_pos (by omega), e, get_f hu, hg]
    simp only [Option.bind_some, Bool.not_true, Bool.false_eq_true, if_false]
    rw [if_neg (by simp), wi (x := 0 - (rd L i).Cell) (by omega) (by omega), if_neg (by simp; omega), wi (x := i - 1) (by omega) (by omega)]
    have hfin : ((if i > 0 then (if 0 ≤ i - 1 ∧ i - 1 < (L.length : Int) then some (decide ((rd L (i - 1)).Id ≥ (rd L i).Id)) else none) else some false) : Option Bool) = some false := by
      by_cases hp : i > 0
      · rw [if_pos hp, if_pos (by omega)]
        have h1 := pairrd hu.up (i := i - 1) (j := i) (by omega) (by omega) (by simp; omega)
        rw [rdmap (by omega) (by omega), rdmap (by omega) (by omega)] at h1
        simp; omega
      · rw [if_neg hp]
    rw [hfin]
    simp only [Option.bind_some, Bool.false_eq_true, if_false]
    rw [wi (by omega) (by omega)]
    exact ih k (i + 1) (by omega) (by omega) (by omega)

theorem never_l0 {most n : Int} {gone : List Int} (hn : 1 ≤ n ∧ n ≤ 6) : ∀ (m k : Nat) (i : Int) (u : units_Units) (L : List api_Unit), i + m = 60 → 0 ≤ i → m < k → US u n L → Own L → (L.length : Int) ≤ n → u.next ≤ i →
    law21_UnitsNever.l0 k most gone n u.most u.next u.live u.order u.next i = some true := by
  intro m
  have stop : ∀ (k : Nat) (i : Int) (u : units_Units) (L : List api_Unit), ((decide (i < (List.length gone : Int))) && (decide (i < 60))) = false → US u n L →
      law21_UnitsNever.l0 (k + 1) most gone n u.most u.next u.live u.order u.next i = some true := by
    intro k i u L h hu
    rw [law21_UnitsNever.l0, h]
    simp [told21, units_Units_Next.f]
  induction m with
  | zero =>
    intro k i u L hi h0 hk hu ho hle hx
    obtain ⟨k, rfl⟩ := kpos hk
    exact stop k i u L (by simp; omega) hu
  | succ m ih =>
    intro k i u L hi h0 hk hu ho hle hx
    obtain ⟨k, rfl⟩ := kpos hk
    by_cases hl : (gone.length : Int) ≤ i
    · exact stop k i u L (by simp; omega) hu
    rw [law21_UnitsNever.l0, if_pos (by simp; omega)]
    have e : units_Units.mk u.most u.next u.live u.order = u := rfl
    have hb := hu.next
    have hcn := hu.cnt
    have key : ∀ (u1 : units_Units) (L1 : List api_Unit), US u1 n L1 → Own L1 → L1 ≠ [] → (L1.length : Int) ≤ n → u1.next ≤ i + 1 →
        (((units_Units_All.f (units_Units.mk u1.most u1.next u1.live u1.order)).bind fun v30 => (units_Units_Len.f (units_Units.mk u1.most u1.next u1.live u1.order)).bind fun v31 => if ((((List.length v30 : Int) != v31) || ((List.length v30 : Int) == 0)) || (decide ((List.length v30 : Int) > n))) = true then (some (Sum.inl false)) else (law21_UnitsNever.l1 fuel most gone i u1.most u1.next u1.live v30 u1.order u1.next 0)).bind fun zz => match zz with | Sum.inl q => some q | Sum.inr (x16, x17, x18, x19, x20) => law21_UnitsNever.l0 k most gone n x16 x17 x18 x19 x20 (w64 (i + 1))) = some true := by
      intro u1 L1 s1 o1 ne hle1 hnx
      have e1 : units_Units.mk u1.most u1.next u1.live u1.order = u1 := rfl
      have hpos : 0 < L1.length := List.length_pos_iff.2 ne
      obtain ⟨u2, L2, q1, q2, q3, q4, q5⟩ := never_l1 (most := most) s1 o1 ne h0 (by omega : i < (gone.length : Int)) L1.length fuel 0 (by omega) (by omega) (by rw [fuelv]; omega)
      simp only [e1, all_f s1, len_f s1, Option.bind_some]
      rw [if_neg (by simp [ne]; omega)]
      simp only [q1, Option.bind_some]
      rw [wi (by omega) (by omega)]
      exact ih k (i + 1) u2 L2 (by omega) (by omega) (by omega) q3 q4 (by omega) (by omega)
    simp only [e, len_f hu, Option.bind_some]
    by_cases hf : (L.length : Int) < n
    · obtain ⟨u1, a1, a2, a3⟩ := (add_f hu (by omega) i (w64 (0 - i))).2 hf
      simp only [if_pos hf, a1, Option.bind_some, Bool.not_true, bne_self_eq_false, Bool.or_self, Bool.false_eq_true, if_false]
      rw [wi (x := u.next + 1) (by omega) (by omega), ← a2]
      refine key u1 _ a3 (fun x hx => ?_) (by simp) (by simp; omega) (by omega)
      rcases List.mem_append.1 hx with hx | hx
      · exact ho x hx
      · simp at hx; subst hx
        simp only
        rw [wi (by omega) (by omega)]
        exact ⟨by omega, h0, by omega⟩
    · simp only [if_neg hf, Option.bind_some]
      refine key u L hu ho (fun q => ?_) hle (by omega)
      subst q; simp at hf; omega

theorem UnitsNever_pure : law21_UnitsNever.Pure := by
  intro most gone _ _
  unfold law21_UnitsNever.f
  obtain ⟨n, hn, n0, n1⟩ := within_x (n := most) (lo := 1) (hi := 6) (by omega) (by omega) (by omega) (by omega)
  rw [hn, Option.bind_some, new_f, if_pos (by omega), Option.bind_some]
  exact never_l0 ⟨n0, n1⟩ 60 fuel 0 _ [] (by omega) (by omega) (by rw [fuelv]; omega) (new_us (by omega)) (by intro x hx; cases hx) (by simp; omega) (Int.le_refl 0)
end Go.Proofs.Ytmddmofncblfpaa
