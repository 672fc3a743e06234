/- The places of a sector's runs are its nodes' crosses, as many; runs rise, and do not touch: any map of numbers, any sector. No condition. -/
import Derived.Test.YticdodeoljodiaaFLBorderRuns
import Derived.Test.YticdodeoljodiaaPlaw11
import Derived.Test.YticdodeoljodiaaPsum
namespace Go.Proofs.Yticdodeoljodiaa
open Go.Hx
set_option linter.unusedVariables false
set_option linter.unusedSimpArgs false

theorem runs_at (m : api_Map) (s side : Int) : (∀ r ∈ sRuns m s side, 1 ≤ r.Len ∧ 0 ≤ r.From ∧ r.From + r.Len ≤ 16) ∧ (sRuns m s side).Pairwise (fun a b => a.From + a.Len < b.From) := by
  have hz := size_le m.W m.H s
  have hL := len_in (side := side) hz.1 hz.2.1 hz.2.2.1 hz.2.2.2
  obtain ⟨h1, h2, _⟩ := runs_spec (sGood m s side) ((sLen (sSize m.W m.H s).1 (sSize m.W m.H s).2 side).toNat + 1)
  have hin := runsSt_in (sGood m s side) ((sLen (sSize m.W m.H s).1 (sSize m.W m.H s).2 side).toNat + 1)
  unfold sRuns
  exact ⟨fun r hr => by have := h1 r hr; omega, h2⟩
theorem sum_drop {l : List api_Run} {i : Int} (h0 : 0 ≤ i) (h1 : i < l.length) : runSum (l.drop i.toNat) = (rd l i).Len + runSum (l.drop (i + 1).toNat) := by
  rw [dropc h0 h1]; simp [runSum]
theorem runs_l1 (l : List api_Run) (hl : l.length ≤ 17) (hr : ∀ r ∈ l, 1 ≤ r.Len ∧ 0 ≤ r.From ∧ r.From + r.Len ≤ 16) (hp : l.Pairwise (fun a b => a.From + a.Len < b.From)) : ∀ (n k : Nat) (i x : Int), i + n = l.length → 0 ≤ i → n < k → 0 ≤ x ∧ x ≤ 1000 * 100 - 16 * n →
    law11_BorderRuns.l1 k l x i = some (Sum.inr (x + runSum (l.drop i.toNat))) := by
  intro n
  induction n with
  | zero =>
    intro k i x hi h0 hk hx
    obtain ⟨k, rfl⟩ := kpos hk
    rw [law11_BorderRuns.l1, if_neg (by omega), List.drop_of_length_le (by omega)]
    simp [runSum]
  | succ n ih =>
    intro k i x hi h0 hk hx
    obtain ⟨k, rfl⟩ := kpos hk
    have hil : i < (l.length : Int) := by omega
    have hri := hr _ (rdmem h0 hil)
    have hcond : (if (0 ≤ i ∧ i < (List.length l : Int)) then (if (rd l i).Len < 1 then (some true) else (if (rd l i).From < 0 then (some true) else (if (w64 ((rd l i).From + (rd l i).Len)) > 16 then (some true) else (if i > 0 then (if (0 ≤ (w64 (i - 1)) ∧ (w64 (i - 1)) < (List.length l : Int)) then (some (decide ((w64 ((rd l (w64 (i - 1))).From + (rd l (w64 (i - 1))).Len)) ≥ (rd l i).From))) else none) else (some false))))) else none) = some false := by
      rw [if_pos ⟨h0, hil⟩, if_neg (by omega), if_neg (by omega), w64_id (x := (rd l i).From + _) (by omega) (by omega), if_neg (by omega)]
      by_cases hi0 : i > 0
      · have hri2 := hr _ (rdmem (a := l) (i := i - 1) (by omega) (by omega))
        have hpp := pairrd hp (i := i - 1) (j := i) (by omega) (by omega) hil
        rw [if_pos hi0, w64_id (x := i - 1) (by omega) (by omega), if_pos (by omega), w64_id (x := (rd l (i - 1)).From + _) (by omega) (by omega), decide_eq_false (by omega)]
      · rw [if_neg hi0]
    rw [law11_BorderRuns.l1, if_pos hil, hcond, Option.bind_some, if_neg (by simp), if_pos ⟨h0, hil⟩, w64_id (x := x + _) (by omega) (by omega), w64_id (by omega) (by omega), ih k (i + 1) _ (by omega) (by omega) (by omega) (by omega), sum_drop h0 hil]
    congr 2
    omega
theorem runSum_in (l : List api_Run) (hr : ∀ r ∈ l, 1 ≤ r.Len ∧ 0 ≤ r.From ∧ r.From + r.Len ≤ 16) : 0 ≤ runSum l ∧ runSum l ≤ 16 * l.length := by
  induction l with
  | nil => simp [runSum]
  | cons a l ih =>
    have := ih (fun r h => hr r (List.mem_cons_of_mem _ h))
    have h2 := hr a (List.mem_cons_self ..)
    unfold runSum at *
    simp only [List.map_cons, List.sum_cons, List.length_cons]
    omega
theorem lsum_drop {l : List Int} {i : Int} (f : Int → Int) (h0 : 0 ≤ i) (h1 : i < l.length) : lsum (l.drop i.toNat) f = f (rd l i) + lsum (l.drop (i + 1).toNat) f := by
  rw [dropc h0 h1]; simp [lsum]
theorem runs_l2 {g : grid_Grid} {more : Int} (hg : GridS g more) (s : Int) (x7 : Int) : ∀ (n k : Nat) (i x : Int), i + n = (sNodes g.m s).length → 0 ≤ i → n < k → 0 ≤ x ∧ x ≤ 10000 - 4 * n → x + lsum ((sNodes g.m s).drop i.toNat) (fun c => ((sCross g.m c).length : Int)) = x7 →
    law11_BorderRuns.l2 k g.m g s x7 (sNodes g.m s) x i = some true := by
  have hnl := nodes_len g.m s
  have hl := hg.ok.2.1
  have h60 : (sNodes g.m s).length ≤ 60 := by
    have := cells_60 g.m.W g.m.H s
    have := List.length_filter_le (sOpen g.m) (sCells g.m.W g.m.H s)
    unfold sNodes; omega
  intro n
  induction n with
  | zero =>
    intro k i x hi h0 hk hx hs
    obtain ⟨k, rfl⟩ := kpos hk
    rw [List.drop_of_length_le (by omega)] at hs
    have : x = x7 := by simpa [lsum] using hs
    rw [law11_BorderRuns.l2, if_neg (by omega), told11, Option.bind_some, this]
    simp; omega
  | succ n ih =>
    intro k i x hi h0 hk hx hs
    obtain ⟨k, rfl⟩ := kpos hk
    have hil : i < ((sNodes g.m s).length : Int) := by omega
    obtain ⟨ho, hin, hsec, hse⟩ := nodes_mem (rdmem h0 hil)
    have hin2 := hin.2
    have hcl := cross_len g.m (rd (sNodes g.m s) i)
    rw [lsum_drop _ h0 hil] at hs
    have hcond : (if (0 ≤ i ∧ i < (List.length (sNodes g.m s) : Int)) then (if (rd (sNodes g.m s) i) < 0 then (some true) else (if (rd (sNodes g.m s) i) ≥ (List.length g.m.C : Int) then (some true) else (if (0 ≤ (rd (sNodes g.m s) i) ∧ (rd (sNodes g.m s) i) < (List.length g.m.C : Int)) then (if ((rd g.m.C (rd (sNodes g.m s) i)) == 255) = true then (some true) else ((where_Sector.f g.m.W g.m.H (rd (sNodes g.m s) i)).bind fun v28 => if (v28 != s) = true then (some true) else (if i > 0 then (if (0 ≤ (w64 (i - 1)) ∧ (w64 (i - 1)) < (List.length (sNodes g.m s) : Int)) then (some (decide ((rd (sNodes g.m s) (w64 (i - 1))) ≥ (rd (sNodes g.m s) i)))) else none) else (some false)))) else none))) else none) = some false := by
      rw [if_pos ⟨h0, hil⟩, if_neg (by have := hin.1; omega), if_neg (c := _ ≥ _) (by omega), if_pos ⟨hin.1, by omega⟩, if_neg (by simpa using (sopen_iff.mp ho).2), sector_f, Option.bind_some, if_neg (by simp [hse])]
      by_cases hi0 : i > 0
      · have hpp := pairrd (nodes_rise g.m s) (i := i - 1) (j := i) (by omega) (by omega) hil
        rw [if_pos hi0, w64_id (x := i - 1) (by omega) (by omega), if_pos (by omega), decide_eq_false (by omega)]
      · rw [if_neg hi0]
    rw [law11_BorderRuns.l2, if_pos hil, hcond, Option.bind_some, if_neg (by simp), if_pos ⟨h0, hil⟩, cross_f hg, Option.bind_some, w64_id (x := x + _) (by omega) (by omega), w64_id (by omega) (by omega)]
    exact ih k (i + 1) _ (by omega) (by omega) (by omega) (by omega) (by rw [Int.add_assoc]; exact hs)
/-- the sides from j on -/
theorem runs_l0 {g : grid_Grid} {more : Int} (hg : GridS g more) (s : Int) (hs : SecS g.m.W g.m.H s) : ∀ (n k : Nat) (j x : Int), j + n = 4 → 0 ≤ j → n < k → 0 ≤ x → x ≤ 272 * j →
    x + (if j ≤ 0 then runSum (sRuns g.m s 0) else 0) + (if j ≤ 1 then runSum (sRuns g.m s 1) else 0) + (if j ≤ 2 then runSum (sRuns g.m s 2) else 0) + (if j ≤ 3 then runSum (sRuns g.m s 3) else 0) = lsum (sNodes g.m s) (fun c => ((sCross g.m c).length : Int)) →
    law11_BorderRuns.l0 k g.m g s x j = some true := by
  intro n
  induction n with
  | zero =>
    intro k j x hj h0 hk hx hx2 he
    obtain ⟨k, rfl⟩ := kpos hk
    have hnl := nodes_len g.m s
    rw [if_neg (by omega), if_neg (by omega), if_neg (by omega), if_neg (by omega)] at he
    rw [law11_BorderRuns.l0, if_neg (by omega), nodes_f hg, Option.bind_some]
    exact runs_l2 hg s x (sNodes g.m s).length fuel 0 0 (by omega) (by omega) (by rw [fuelv]; omega) (by omega) (by rw [Int.toNat_zero, List.drop_zero]; omega)
  | succ n ih =>
    intro k j x hj h0 hk hx hx2 he
    obtain ⟨k, rfl⟩ := kpos hk
    obtain ⟨r1, r2⟩ := runs_at g.m s j
    have hrl := runs_len g.m s j
    have hrs := runSum_in _ r1
    have h1 := runs_l1 (sRuns g.m s j) hrl r1 r2 (sRuns g.m s j).length fuel 0 x (by omega) (by omega) (by rw [fuelv]; omega) (by omega)
    rw [Int.toNat_zero, List.drop_zero] at h1
    rw [law11_BorderRuns.l0, if_pos (by omega), runs_f hg, Option.bind_some, h1]
    simp only [Option.bind_some]
    rw [w64_id (by omega) (by omega)]
    refine ih k (j + 1) _ (by omega) (by omega) (by omega) (by omega) (by omega) ?_
    rw [← he]
    have hc : j = 0 ∨ j = 1 ∨ j = 2 ∨ j = 3 := by omega
    rcases hc with rfl | rfl | rfl | rfl <;> simp <;> omega

theorem BorderRuns_pure : law11_BorderRuns.Pure := by
  intro w h c sector _ _ hc _ _
  unfold law11_BorderRuns.f
  obtain ⟨m, e, en, hm, hw, hh, hl, hp, hb, hg⟩ := made_g w h (c := c) (fun y hy => hc y hy)
  have hcn := count_in m.W m.H
  have hcp := count_pos hm.1
  generalize hgg : grid_Grid.mk m 1 (List.replicate (sCount m.W m.H).toNat 1) = g at *
  have egm : g.m = m := by rw [← hgg]
  rw [e, Option.bind_some, en]
  simp only [Option.bind_some, optm]
  have hin := within_in (n := sector) (lo := 0) (hi := sCount m.W m.H - 1) (by omega)
  rw [rcount_f, Option.bind_some, w64_id (x := sCount m.W m.H - 1) (by omega) (by omega), within_f (by omega) (by omega) (by omega) (by omega), Option.bind_some]
  generalize 0 + sector % (sCount m.W m.H - 1 - 0 + 1) = s at *
  have hs : SecS g.m.W g.m.H s := by rw [egm]; exact ⟨hin.1, by omega⟩
  have := runs_l0 hg s hs 4 fuel 0 0 (by omega) (by omega) (by rw [fuelv]; omega) (by omega) (by omega) (by
    have := runs_cross hs
    simp; omega)
  rw [egm] at this
  exact this
end Go.Proofs.Yticdodeoljodiaa
