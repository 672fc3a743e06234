/- Behind a tick no two stand at one cell; each stands where it was, or beside it, by its own direction; all are there, or gone at their goals: any units of numbers, any directions, any size up to 8 by 8. No condition. -/
import Derived.Test.YtkidcebfpengmaaFLMarchApart
import Derived.Test.YtkidcebfpengmaaPparts
namespace Go.Proofs.Ytkidcebfpengmaa
open Go.Hx
set_option linter.unusedVariables false
set_option linter.unusedSimpArgs false

section
variable {w h : Int} {l : List api_Unit} {dirs : List Int}
theorem aft_pair (hm : MayU w h l) : (gGo w h l dirs).1.Pairwise (fun x y => x.Id < y.Id ∧ x.Cell ≠ y.Cell) := by
  have hi := gInv hm dirs l.length (Nat.le_refl _)
  have hl := hi.len
  have h1 : (gFold w h l dirs l.length).1.Pairwise (fun x y => x.Id < y.Id ∧ (0 ≤ x.Cell → x.Cell ≠ y.Cell)) := by
    refine rdpair (fun i j i0 hij j1 => ⟨?_, fun hp => hi.apart i j i0 (by omega) (by omega) (by omega) (by omega) hp⟩)
    rw [(hi.same i i0 (by omega)).1, (hi.same j (by omega) (by omega)).1]
    exact hm.id_lt i0 hij (by omega)
  unfold gGo
  have h2 : ((gFold w h l dirs l.length).1.filter (fun x => decide (0 ≤ x.Cell))).Pairwise (fun x y => x.Id < y.Id ∧ (0 ≤ x.Cell → x.Cell ≠ y.Cell)) := h1.filter _
  refine List.Pairwise.imp_of_mem (fun {x y} hx _ hxy => ⟨hxy.1, hxy.2 ?_⟩) h2
  simpa using (List.mem_filter.1 hx).2

theorem apart_l1 {v5 : List api_Unit × List api_Move × List Int × Int} (hp : v5.1.Pairwise (fun x y => x.Id < y.Id ∧ x.Cell ≠ y.Cell)) (hb : v5.1.length ≤ 100) {i : Int} (hi : 0 ≤ i ∧ i < v5.1.length) : ∀ (m k : Nat) (j : Int), j + m = i → 0 ≤ j → m < k →
    law24_MarchApart.l1 k v5 i j = some (Sum.inr ()) := by
  intro m
  induction m with
  | zero =>
    intro k j hj h0 hk
    obtain ⟨k, rfl⟩ := kpos hk
    rw [law24_MarchApart.l1, if_neg (by omega)]
  | succ m ih =>
    intro k j hj h0 hk
    obtain ⟨k, rfl⟩ := kpos hk
    obtain ⟨q1, q2⟩ := pairrd hp (i := j) (j := i) h0 (by omega) hi.2
    rw [law24_MarchApart.l1, if_pos (by omega), if_pos (by omega), if_pos (by omega), if_neg (by simpa using q2), Option.bind_some, if_neg (by simp; omega), wi (by omega) (by omega)]
    exact ih k (j + 1) (by omega) (by omega) (by omega)

theorem apart_l2 (hm : MayU w h l) (hb : l.length ≤ 12) (hd : DirsOk dirs l.length) : ∀ (m k n : Nat), n + m = l.length → m < k →
    law24_MarchApart.l2 k w h l dirs ((gGo w h l dirs).1, (gGo w h l dirs).2.1, (gGo w h l dirs).2.2, 0) ((gFold w h l dirs n).2.1.length : Int) ((gFold w h l dirs n).2.2.length : Int) (n : Int) = some true := by
  intro m
  induction m with
  | zero =>
    intro k n hn hk
    obtain ⟨k, rfl⟩ := kpos hk
    have : n = l.length := by omega
    subst this
    rw [law24_MarchApart.l2, if_neg (by omega), told24]
    simp [gGo]
  | succ m ih =>
    intro k n hn hk
    obtain ⟨k, rfl⟩ := kpos hk
    have hi := gInv hm dirs n (by omega)
    have hml := hi.mlen
    have hgl := hi.glen
    have hdl := hd.1
    obtain ⟨cnt, _⟩ := counts (dirs := dirs) hm n (by omega)
    obtain ⟨m1, m2⟩ := move_is (dirs := dirs) hm (n := n) (by omega)
    obtain ⟨A, M, G, p1, p2, p3, _, _⟩ := parts (dirs := dirs) hm (n := n) (by omega)
    have hmvs := mv_step (w := w) (h := h) (l := l) (dirs := dirs) n
    have hgns := gn_step (w := w) (h := h) (l := l) (dirs := dirs) n
    have hneg := at_neg (dirs := dirs) hm (n := n) (by omega)
    have nx := ih k (n + 1) (by omega) (by omega)
    rw [law24_MarchApart.l2, if_pos (by omega), if_pos (by omega)]
    have hmv : ((if ((gFold w h l dirs n).2.1.length : Int) < (List.length (gGo w h l dirs).2.1 : Int) then (if (0 ≤ ((gFold w h l dirs n).2.1.length : Int) ∧ ((gFold w h l dirs n).2.1.length : Int) < (List.length (gGo w h l dirs).2.1 : Int)) then (some ((rd (gGo w h l dirs).2.1 ((gFold w h l dirs n).2.1.length : Int)).Id == (rd l (n : Int)).Id)) else none) else (some false)) : Option Bool) = some (decide (nCan w h l dirs n)) := by
      by_cases q : (gFold w h l dirs n).2.1.length < (gGo w h l dirs).2.1.length
      · rw [if_pos (by omega), if_pos (by omega)]
        congr 1
        by_cases z : nCan w h l dirs n
        · rw [decide_eq_true z, beq_iff_eq]; exact (m1.2 z).2
        · rw [decide_eq_false z, beq_eq_false_iff_ne]; exact fun y => z (m1.1 ⟨q, y⟩)
      · rw [if_neg (by omega), decide_eq_false (fun z => q (m1.2 z).1)]
    rw [hmv]
    simp only [Option.bind_some]
    -- where it stands then, if it is not gone
    have live : ∀ (cell : Int), cell = nAt w h l dirs n → 0 ≤ nAt w h l dirs n → ((if (w64 ((n : Int) - ((gFold w h l dirs n).2.2.length : Int))) ≥ (List.length (gGo w h l dirs).1 : Int) then (some true) else (if (0 ≤ (w64 ((n : Int) - ((gFold w h l dirs n).2.2.length : Int))) ∧ (w64 ((n : Int) - ((gFold w h l dirs n).2.2.length : Int))) < (List.length (gGo w h l dirs).1 : Int)) then (some (!(((rd (gGo w h l dirs).1 (w64 ((n : Int) - ((gFold w h l dirs n).2.2.length : Int)))).Id == (rd l (n : Int)).Id) && (((rd (gGo w h l dirs).1 (w64 ((n : Int) - ((gFold w h l dirs n).2.2.length : Int)))).Cell == cell) && (((rd (gGo w h l dirs).1 (w64 ((n : Int) - ((gFold w h l dirs n).2.2.length : Int)))).Goal == (rd l (n : Int)).Goal) && true))))) else none)) : Option Bool) = some false := by
      intro cell hcell hp
      rw [wi (by omega) (by omega)]
      rw [if_pos hp] at p1
      have hlen : (n : Int) - ((gFold w h l dirs n).2.2.length : Int) = ((gAft (gFold w h l dirs n) n).length : Int) := by omega
      rw [hlen, p1]
      have e : rd (gAft (gFold w h l dirs n) n ++ ([⟨(rd l (n : Int)).Id, nAt w h l dirs n, (rd l (n : Int)).Goal⟩] ++ A)) ((gAft (gFold w h l dirs n) n).length : Int) = ⟨(rd l (n : Int)).Id, nAt w h l dirs n, (rd l (n : Int)).Goal⟩ := by
        rw [rdr (by omega), Int.sub_self]; rfl
      rw [if_neg (by simp; omega), if_pos (by simp; omega), e]
      simp [hcell]
    by_cases z : nCan w h l dirs n
    · have hr := m2 z
      have hlt := (m1.2 z).1
      rw [if_pos z] at hmvs
      have hlen' : ((gFold w h l dirs (n + 1)).2.1.length : Int) = ((gFold w h l dirs n).2.1.length : Int) + 1 := by rw [hmvs]; simp
      have hdn : 0 ≤ rd dirs (n : Int) ∧ rd dirs (n : Int) ≤ 3 := by
        refine Classical.byContradiction fun q => ?_
        have := z.1
        unfold gTo at this
        rw [if_neg q] at this; omega
      have hto : nTo w h l dirs n = sStep w h (rd l (n : Int)).Cell (rd dirs (n : Int)) := by unfold nTo gTo; rw [if_pos hdn]
      simp only [decide_eq_true z, if_true]
      rw [if_pos (by omega), if_pos (by omega), if_neg (by omega), step_f, hr]
      simp only [Option.bind_some]
      rw [if_neg (by rw [hto]; simp), wi (x := ((gFold w h l dirs n).2.1.length : Int) + 1) (by omega) (by omega), ← hlen']
      simp only [Option.bind_some]
      by_cases g : nTo w h l dirs n = (rd l (n : Int)).Goal
      · rw [if_pos (by simpa using g)]
        rw [if_pos ⟨z, g⟩] at hgns p3
        have hgl' : ((gFold w h l dirs (n + 1)).2.2.length : Int) = ((gFold w h l dirs n).2.2.length : Int) + 1 := by rw [hgns]; simp
        have e : rd ((gFold w h l dirs n).2.2 ++ ([(rd l (n : Int)).Id] ++ G)) ((gFold w h l dirs n).2.2.length : Int) = (rd l (n : Int)).Id := by
          rw [rdr (by omega), Int.sub_self]; rfl
        rw [p3, if_neg (by simp; omega), if_pos (by simp; omega), e]
        simp only [bne_self_eq_false, Option.bind_some, Bool.false_eq_true, if_false]
        rw [wi (x := ((gFold w h l dirs n).2.2.length : Int) + 1) (by omega) (by omega), ← hgl', wi (by omega) (by omega), show (n : Int) + 1 = ((n + 1 : Nat) : Int) by omega, ← p3]
        exact nx
      · rw [if_neg (by simpa using g)]
        rw [if_neg (fun q => g q.2), List.append_nil] at hgns
        have hp := hneg.2 (fun q => g q.2)
        rw [live _ (by unfold nAt; rw [if_pos z, if_neg g]) hp]
        simp only [Option.bind_some, Bool.false_eq_true, if_false]
        rw [← hgns, wi (by omega) (by omega), show (n : Int) + 1 = ((n + 1 : Nat) : Int) by omega]
        exact nx
    · rw [if_neg z, List.append_nil] at hmvs
      rw [if_neg (fun q => z q.1), List.append_nil] at hgns
      have hp := hneg.2 (fun q => z q.1)
      simp only [decide_eq_false z, Bool.false_eq_true, if_false, Option.bind_some]
      rw [live _ (by unfold nAt; rw [if_neg z]) hp]
      simp only [Option.bind_some, Bool.false_eq_true, if_false]
      rw [← hgns, ← hmvs, wi (by omega) (by omega), show (n : Int) + 1 = ((n + 1 : Nat) : Int) by omega]
      exact nx

theorem apart_l0 (hm : MayU w h l) (hb : l.length ≤ 12) (hd : DirsOk dirs l.length) : ∀ (m k : Nat) (i : Int), i + m = (gGo w h l dirs).1.length → 0 ≤ i → m < k →
    law24_MarchApart.l0 k w h l dirs ((gGo w h l dirs).1, (gGo w h l dirs).2.1, (gGo w h l dirs).2.2, 0) i = some true := by
  have hc := counts (dirs := dirs) hm l.length (Nat.le_refl _)
  have hlen : (gGo w h l dirs).1.length ≤ 100 := by
    have hi := (gInv hm dirs l.length (Nat.le_refl _)).len
    exact Nat.le_trans (List.length_filter_le ..) (by omega)
  intro m
  induction m with
  | zero =>
    intro k i hi h0 hk
    obtain ⟨k, rfl⟩ := kpos hk
    rw [law24_MarchApart.l0, if_neg (by simp only; omega)]
    exact apart_l2 hm hb hd l.length fuel 0 (by omega) (by rw [fuelv]; omega)
  | succ m ih =>
    intro k i hi h0 hk
    obtain ⟨k, rfl⟩ := kpos hk
    rw [law24_MarchApart.l0, if_pos (by simp only; omega)]
    rw [apart_l1 (v5 := ((gGo w h l dirs).1, (gGo w h l dirs).2.1, (gGo w h l dirs).2.2, 0)) (aft_pair hm) hlen ⟨h0, by simp only; omega⟩ i.toNat fuel 0 (by omega) (by omega) (by rw [fuelv]; omega)]
    simp only [Option.bind_some]
    rw [wi (by omega) (by omega)]
    exact ih k (i + 1) (by omega) (by omega) (by omega)
end

theorem MarchApart_pure : law24_MarchApart.Pure := by
  intro w h k _ _ _ hk
  unfold law24_MarchApart.f
  obtain ⟨v1, e1, a1, a2⟩ := within_y (n := w) (lo := 1) (hi := 8) (by omega) (by omega) (by omega) (by omega)
  obtain ⟨v2, e2, b1, b2⟩ := within_y (n := h) (lo := 1) (hi := 8) (by omega) (by omega) (by omega) (by omega)
  have hm0 : MayS v1 v2 := ⟨by omega, by omega, by omega, by omega⟩
  obtain ⟨m, m1, m2, m3⟩ := made_f (w := v1) (h := v2) hm0 hk
  obtain ⟨q, q1, q2⟩ := dirs24_f (l := m) (ks := k) (by omega) hk
  have hm := m3.may hm0
  obtain ⟨c1, c2⟩ := counts (dirs := q) hm m.length (Nat.le_refl _)
  have hi := gInv hm q m.length (Nat.le_refl _)
  have hlen : (gGo v1 v2 m q).1.length = (gAft (gFold v1 v2 m q m.length) m.length).length := by
    unfold gGo gAft; rw [List.take_of_length_le (by rw [hi.len]; omega)]
  have hml := hi.mlen
  have hgl := hi.glen
  have hl2 : (gGo v1 v2 m q).2.1.length = (gFold v1 v2 m q m.length).2.1.length := rfl
  have hl3 : (gGo v1 v2 m q).2.2.length = (gFold v1 v2 m q m.length).2.2.length := rfl
  simp only [e1, e2, m1, q1, Option.bind_some, go_ok hm (by omega : m.length ≤ 1000000) q2]
  rw [wi (by omega) (by omega), if_neg (by simp; omega)]
  exact apart_l0 hm m2 q2 (gGo v1 v2 m q).1.length fuel 0 (by omega) (by omega) (by rw [fuelv]; omega)
end Go.Proofs.Ytkidcebfpengmaa
