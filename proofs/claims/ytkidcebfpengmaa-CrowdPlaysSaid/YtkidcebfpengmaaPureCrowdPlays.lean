/- Who lives, where, with which goal, each code, each move is what the document says: at any size up to 8 by 8, any most up to 9, any calls, of which at most 50 are made, near ones or raw. No condition. -/
import Derived.Test.YtkidcebfpengmaaFLCrowdPlays
import Derived.Test.YtkidcebfpengmaaPref21c
namespace Go.Proofs.Ytkidcebfpengmaa
open Go.Hx
set_option linter.unusedVariables false
set_option linter.unusedSimpArgs false

theorem eta26 (c : crowd_Crowd) : crowd_Crowd.mk c.w c.h c.most (units_Units.mk c.units.most c.units.next c.units.live c.units.order) (floor_Floor.mk c.floor.words c.floor.count) = c := rfl
theorem eta27 (x : herdsmanref21_Crowd) : herdsmanref21_Crowd.mk x.W x.H (herdsmanref21_Units.mk x.U.Most x.U.Next x.U.L) = x := rfl

section
variable {v1 v2 most : Int}

theorem bit_cases (x : Int) : w64 ((BitVec.toNat (BitVec.ofInt (IntKind.bits .i64) x &&& BitVec.ofInt (IntKind.bits .i64) 1) : Nat) : Int) = ((BitVec.toNat (BitVec.ofInt (IntKind.bits .i64) x &&& BitVec.ofInt (IntKind.bits .i64) 1) : Nat) : Int) := by
  obtain ⟨a, b⟩ := and1 x
  exact wi (by omega) (by omega)

/-- directions, as they come -/
theorem raw_dirs {raw : Bool} {n : Nat} (hn : n ≤ 1000) (a b : Int) {d : List Int} (hd : DirsOk d n) : ∃ e : List Int, ((if raw = true then (if (List.length d + 1 ≤ 1099511627776) then (if (0 ≤ (0 : Int) ∧ (0 : Int) ≤ (if (w64 (BitVec.toNat (BitVec.ofInt (IntKind.bits .i64) b &&& BitVec.ofInt (IntKind.bits .i64) 1))) > (List.length d : Int) then (w64 (BitVec.toNat (BitVec.ofInt (IntKind.bits .i64) b &&& BitVec.ofInt (IntKind.bits .i64) 1))) else (List.length d : Int)) ∧ (if (w64 (BitVec.toNat (BitVec.ofInt (IntKind.bits .i64) b &&& BitVec.ofInt (IntKind.bits .i64) 1))) > (List.length d : Int) then (w64 (BitVec.toNat (BitVec.ofInt (IntKind.bits .i64) b &&& BitVec.ofInt (IntKind.bits .i64) 1))) else (List.length d : Int)) ≤ (List.length (d ++ [a]) : Int)) then (some (sub' (d ++ [a]) 0 (if (w64 (BitVec.toNat (BitVec.ofInt (IntKind.bits .i64) b &&& BitVec.ofInt (IntKind.bits .i64) 1))) > (List.length d : Int) then (w64 (BitVec.toNat (BitVec.ofInt (IntKind.bits .i64) b &&& BitVec.ofInt (IntKind.bits .i64) 1))) else (List.length d : Int)))) else none) else none) else (some d)) : Option (List Int)) = some e ∧ e.length ≤ 2000 := by
  have hl := hd.1
  cases raw with
  | false => exact ⟨d, by rw [if_neg (by simp)], by omega⟩
  | true =>
    obtain ⟨b0, b1⟩ := and1 b
    rw [if_pos rfl, if_pos (by omega), bit_cases, if_pos (by simp only [List.length_append, List.length_cons, List.length_nil]; split <;> omega)]
    refine ⟨_, rfl, ?_⟩
    simp only [sub', List.length_take, List.length_drop, List.length_append, List.length_cons, List.length_nil]
    omega

theorem plays_l {w h most0 : Int} {l : List herdsmanlaw25_Ask} {raw : Bool} (hs : v1 * v2 ≤ 64) (hmost : most ≤ 9) : ∀ (m k : Nat) (i : Int) (c : crowd_Crowd) (x : herdsmanref21_Crowd) (L : List api_Unit), i + m = 50 → 0 ≤ i → m < k → RS x c v1 v2 most L → c.units.next ≤ i →
    law25_CrowdPlays.l0 k w h most0 l raw v1 v2 c.w c.h c.most c.units.most c.units.next c.units.live c.units.order c.floor.words c.floor.count x.W x.H x.U.Most x.U.Next x.U.L i = some true := by
  intro m
  have stop : ∀ (k : Nat) (i : Int) (c : crowd_Crowd) (x : herdsmanref21_Crowd) (L : List api_Unit), ((decide (i < (List.length l : Int))) && (decide (i < 50))) = false → RS x c v1 v2 most L → c.units.next ≤ 50 →
      law25_CrowdPlays.l0 (k + 1) w h most0 l raw v1 v2 c.w c.h c.most c.units.most c.units.next c.units.live c.units.order c.floor.words c.floor.count x.W x.H x.U.Most x.U.Next x.U.L i = some true := by
    intro k i c x L hg hr hx
    have hc := hr.cs
    have hp := may_prod hc.may
    have hlen := hc.fl.fl.1
    rw [law25_CrowdPlays.l0, hg]
    rw [if_neg (by simp), told25]
    simp only [Option.bind_some, if_true, eta26, cwords_f hc]
    rw [wi (by omega) (by omega), hr.l_, rwords_f hc (by omega)]
    simp only [Option.bind_some]
    rw [samewords_self (by omega)]; rfl
  induction m with
  | zero =>
    intro k i c x L hi h0 hk hr hx
    obtain ⟨k, rfl⟩ := kpos hk
    exact stop k i c x L (by simp; omega) hr (by omega)
  | succ m ih =>
    intro k i c x L hi h0 hk hr hx
    obtain ⟨k, rfl⟩ := kpos hk
    by_cases hl : (l.length : Int) ≤ i
    · exact stop k i c x L (by simp; omega) hr (by omega)
    have hc := hr.cs
    have hp := may_prod hc.may
    have hnx := hc.next
    have hcn := hc.us.cnt
    obtain ⟨qk, qa, qb, hq⟩ : ∃ qk qa qb, ((if (!raw) = true then ((law25_near.f (rd l i) v1 v2 x.U.Next).bind fun v40 => some (v40.Kind, v40.A, v40.B)) else (some ((rd l i).Kind, (rd l i).A, (rd l i).B))) : Option (Int × Int × Int)) = some (qk, qa, qb) := by
      cases raw with
      | true => exact ⟨_, _, _, rfl⟩
      | false =>
        obtain ⟨q, q1, q2⟩ := near_f (rd l i) (nx := x.U.Next) hc.may (by rw [hr.n_]; omega)
        exact ⟨q.Kind, q.A, q.B, by rw [q1]; rfl⟩
    obtain ⟨kk, k1, k2, k3⟩ := within_y (n := qk) (lo := 0) (hi := 9) (by omega) (by omega) (by omega) (by omega)
    rw [law25_CrowdPlays.l0, if_pos (by simp; omega), if_pos (by omega), hq]
    simp only [Option.bind_some, k1, eta26, eta27]
    -- behind each call
    have next : ∀ (c' : crowd_Crowd) (x' : herdsmanref21_Crowd) (L' : List api_Unit), RS x' c' v1 v2 most L' → c'.units.next ≤ i + 1 →
        (((crowd_Crowd_Units.f c').bind fun v76 => (ref21_Same.f v76 x'.U.L).bind fun v77 => if (!v77) = true then (some true) else ((crowd_Crowd_Who.f c' qa).bind fun v78 => (ref21_Crowd_Who.f x' qa).bind fun v79 => some (v78 != v79))).bind fun x74 => if x74 = true then (some false) else (law25_CrowdPlays.l0 k w h most0 l raw v1 v2 c'.w c'.h c'.most c'.units.most c'.units.next c'.units.live c'.units.order c'.floor.words c'.floor.count x'.W x'.H x'.U.Most x'.U.Next x'.U.L (w64 (i + 1)))) = some true := by
      intro c' x' L' hr' hx'
      have hc' := hr'.cs
      have hlb := hr'.lb
      have hs' := same_self (a := L') (by rw [hr'.l_] at hlb; omega)
      rw [cunits_f hc', hr'.l_]
      simp only [Option.bind_some, hs', Bool.not_true, Bool.false_eq_true, if_false, cwho_f hc', crwho_f hlb, hr'.l_, bne_self_eq_false]
      rw [wi (by omega) (by omega), ← hr'.l_]
      exact ih k (i + 1) c' x' L' (by omega) (by omega) (by omega) hr' hx'
    by_cases a5 : kk = 5
    · obtain ⟨c', e1, e2, e3⟩ := cretarget_f hc qa qb
      obtain ⟨x', f1, f2, f3, f4, f5, f6⟩ := rretarget_f hr qa qb
      simp only [a5, BEq.rfl, if_true, e1, f1, Option.bind_some, bne_self_eq_false, Bool.false_eq_true, if_false, eta26, eta27]
      exact next c' x' _ ⟨f2, f3, f4, by rw [f5, e3], f6, e2⟩ (by omega)
    rw [if_neg (by simpa using a5)]
    by_cases a6 : kk = 6
    · obtain ⟨c', e1, e2, e3⟩ := cdespawn_f hc qa
      obtain ⟨x', f1, f2, f3, f4, f5, f6⟩ := rdespawn_f hr qa
      simp only [a6, BEq.rfl, if_true, e1, f1, Option.bind_some, bne_self_eq_false, Bool.false_eq_true, if_false, eta26, eta27]
      exact next c' x' _ ⟨f2, f3, f4, by rw [f5, e3], f6, e2⟩ (by omega)
    rw [if_neg (by simpa using a6)]
    by_cases a7 : 7 ≤ kk
    · have : ((if (kk == 7) = true then (some (kk == 7)) else (if (kk == 8) = true then (some (kk == 8)) else (some (kk == 9)))) : Option Bool) = some true := by
        have : kk = 7 ∨ kk = 8 ∨ kk = 9 := by omega
        rcases this with rfl | rfl | rfl <;> rfl
      rw [this]
      obtain ⟨d, d1, d2⟩ := dirs25_f (n := L.length) (by omega) qa qb
      obtain ⟨e, e0, elen⟩ := raw_dirs (raw := raw) (n := L.length) (by omega) qa qb d2
      simp only [Option.bind_some, if_true, hr.l_, d1, e0]
      by_cases hd : DirsOk e L.length
      · obtain ⟨c', e1, e2, e3⟩ := ctick_ok hc hd
        obtain ⟨x', f1, f2, f3, f4, f5, f6⟩ := rtick_ok hr hd
        have hi' := gInv hc.mayu e L.length (Nat.le_refl _)
        have hml : (gGo v1 v2 L e).2.1.length ≤ L.length := hi'.mlen
        have hgl : (gGo v1 v2 L e).2.2.length ≤ L.length := hi'.glen
        have g1 := moves_self (a := (gGo v1 v2 L e).2.1) (by omega)
        have g2 := ints_self (a := (gGo v1 v2 L e).2.2) (by omega)
        simp only [e1, f1, Option.bind_some, bne_self_eq_false, Bool.false_eq_true, if_false, g1, g2, Bool.not_true, eta26, eta27]
        exact next c' x' _ ⟨f2, f3, f4, by rw [f5, e3], f6, e2⟩ (by omega)
      · have g1 := moves_self (a := []) (by decide)
        have g2 := ints_self (a := []) (by decide)
        simp only [ctick_bad hc (by omega) hd, rtick_bad hr (by omega) hd, Option.bind_some, bne_self_eq_false, Bool.false_eq_true, if_false, g1, g2, Bool.not_true, eta26, eta27]
        exact next c x L hr (by omega)
    · have : ((if (kk == 7) = true then (some (kk == 7)) else (if (kk == 8) = true then (some (kk == 8)) else (some (kk == 9)))) : Option Bool) = some false := by
        rw [if_neg (by simp; omega), if_neg (by simp; omega)]; congr 1; simp; omega
      rw [this]
      obtain ⟨c', e1, e2, e3⟩ := cspawn_f hc (by omega) qa qb
      obtain ⟨x', f1, f2, f3, f4, f5, f6⟩ := rspawn_f hr (by omega) qa qb
      simp only [Option.bind_some, Bool.false_eq_true, if_false, e1, f1, bne_self_eq_false, Bool.or_self, eta26, eta27]
      exact next c' x' _ ⟨f2, f3, f4, by rw [f5, e3], f6, e2⟩ (by rw [e3]; split <;> omega)
end

theorem CrowdPlays_pure : law25_CrowdPlays.Pure := by
  intro w h most l raw _ _ _ _ _
  unfold law25_CrowdPlays.f
  obtain ⟨v1, e1, a1, a2⟩ := within_y (n := w) (lo := 1) (hi := 8) (by omega) (by omega) (by omega) (by omega)
  obtain ⟨v2, e2, b1, b2⟩ := within_y (n := h) (lo := 1) (hi := 8) (by omega) (by omega) (by omega) (by omega)
  obtain ⟨v3, e3, c1, c2⟩ := within_y (n := most) (lo := 1) (hi := 9) (by omega) (by omega) (by omega) (by omega)
  obtain ⟨c, e4, hc, hn⟩ := new_ok (w := v1) (h := v2) (most := v3) ⟨by omega, by omega, by omega, by omega⟩ c1 (by omega)
  rw [e1, Option.bind_some, e2, Option.bind_some, e3, Option.bind_some, e4, Option.bind_some]
  simp only [optm]
  have hs : v1 * v2 ≤ 8 * 8 := mul_le (by omega) (by omega) a2 b2
  exact plays_l hs c2 50 fuel 0 c ⟨v1, v2, ⟨v3, 0, []⟩⟩ [] (by omega) (by omega) (by rw [fuelv]; omega) ⟨rfl, rfl, rfl, hn.symm, rfl, hc⟩ (by omega)
end Go.Proofs.Ytkidcebfpengmaa
