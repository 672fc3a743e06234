import Derived.Test.YtmddmofncblfpaaPgoals
namespace Go.Proofs.Ytmddmofncblfpaa
open Go.Hx

/-- a number comes to its sector's pair -/
def addP : List api_Pair → Int → Int → Int → List api_Pair
  | [], g, s, id => [⟨g, s, [id]⟩]
  | p :: r, g, s, id => if p.Sector = s then ⟨p.Goal, p.Sector, p.Ids ++ [id]⟩ :: r else p :: addP r g s id
/-- the first pair of a sector -/
def pIdx : List api_Pair → Int → Nat
  | [], _ => 0
  | p :: r, s => if p.Sector = s then 0 else pIdx r s + 1
/-- the pairs of a goal -/
def grp (w h g : Int) : List api_Unit → List api_Pair → List api_Pair
  | [], ps => ps
  | u :: r, ps => grp w h g r (if u.Goal = g then addP ps g (sSector w h u.Cell) u.Id else ps)
def prs (w h : Int) (l : List api_Unit) : List api_Pair := (gls l).flatMap fun g => grp w h g l []

theorem rd0 {α : Type} [Inhabited α] (x : α) (l : List α) : rd (x :: l) 0 = x := rfl
theorem rdS {α : Type} [Inhabited α] (x : α) (l : List α) (n : Nat) : rd (x :: l) ((n + 1 : Nat) : Int) = rd l (n : Int) := rd_cons x l n
theorem pIdx_le : ∀ (ps : List api_Pair) (s : Int), pIdx ps s ≤ ps.length
  | [], _ => by simp [pIdx]
  | p :: r, s => by have := pIdx_le r s; simp only [pIdx, List.length_cons]; split <;> omega
theorem addP_in : ∀ (ps : List api_Pair) (g s id : Int), pIdx ps s < ps.length →
    addP ps g s id = ps.set (pIdx ps s) ⟨(rd ps (pIdx ps s : Int)).Goal, (rd ps (pIdx ps s : Int)).Sector, (rd ps (pIdx ps s : Int)).Ids ++ [id]⟩
  | [], _, _, _, h => by simp at h
  | p :: r, g, s, id, h => by
    simp only [addP, pIdx]
    by_cases e : p.Sector = s
    · rw [if_pos e, if_pos e]; rfl
    · simp only [pIdx, if_neg e, List.length_cons] at h
      rw [if_neg e, if_neg e, addP_in r g s id (by omega), rdS]; rfl
theorem addP_out : ∀ (ps : List api_Pair) (g s id : Int), pIdx ps s = ps.length → addP ps g s id = ps ++ [⟨g, s, [id]⟩]
  | [], _, _, _, _ => rfl
  | p :: r, g, s, id, h => by
    simp only [addP]
    by_cases e : p.Sector = s
    · simp only [pIdx, if_pos e, List.length_cons] at h; omega
    · simp only [pIdx, if_neg e, List.length_cons] at h
      rw [if_neg e, addP_out r g s id (by omega)]; rfl
theorem addP_len : ∀ (ps : List api_Pair) (g s id : Int), (addP ps g s id).length ≤ ps.length + 1 ∧ ps.length ≤ (addP ps g s id).length
  | [], _, _, _ => by simp [addP]
  | p :: r, g, s, id => by have := addP_len r g s id; simp only [addP]; split <;> simp <;> omega
/-- all numbers of a list of pairs -/
def pTot : List api_Pair → Nat
  | [] => 0
  | p :: r => p.Ids.length + pTot r
theorem pTot_app (a b : List api_Pair) : pTot (a ++ b) = pTot a + pTot b := by
  induction a with
  | nil => simp [pTot]
  | cons p r ih => simp [pTot, ih]; omega
theorem addP_tot : ∀ (ps : List api_Pair) (g s id : Int), pTot (addP ps g s id) = pTot ps + 1
  | [], _, _, _ => by simp [addP, pTot]
  | p :: r, g, s, id => by have := addP_tot r g s id; simp only [addP]; split <;> simp [pTot] <;> omega
theorem pTot_rd : ∀ (ps : List api_Pair) (i : Int), 0 ≤ i → i < ps.length → (rd ps i).Ids.length ≤ pTot ps := by
  intro ps
  induction ps with
  | nil => intro i h0 h1; simp at h1; omega
  | cons p r ih =>
    intro i h0 h1
    simp only [List.length_cons] at h1
    by_cases e : i = 0
    · subst e; rw [rd0]; simp [pTot]
    · have := ih (i - 1) (by omega) (by omega)
      have e2 : i = (((i - 1).toNat + 1 : Nat) : Int) := by omega
      rw [e2, rdS, show (((i - 1).toNat : Nat) : Int) = i - 1 by omega]
      simp only [pTot]; omega
theorem grp_app (w h g : Int) : ∀ (l m : List api_Unit) (ps : List api_Pair), grp w h g (l ++ m) ps = grp w h g m (grp w h g l ps)
  | [], m, ps => rfl
  | u :: r, m, ps => by simp only [List.cons_append, grp]; exact grp_app w h g r m _
theorem grp_len (w h g : Int) : ∀ (l : List api_Unit) (ps : List api_Pair), (grp w h g l ps).length ≤ ps.length + l.length ∧ pTot (grp w h g l ps) ≤ pTot ps + l.length
  | [], ps => by simp [grp]
  | u :: r, ps => by
    have h1 := grp_len w h g r (if u.Goal = g then addP ps g (sSector w h u.Cell) u.Id else ps)
    have h2 := addP_len ps g (sSector w h u.Cell) u.Id
    have h3 := addP_tot ps g (sSector w h u.Cell) u.Id
    simp only [grp, List.length_cons]
    by_cases e : u.Goal = g
    · rw [if_pos e] at h1 ⊢; omega
    · rw [if_neg e] at h1 ⊢; omega

/-! ### what the code keeps -/
structure PI (w h : Int) (l : List api_Unit) (i : Int) (m : List (Int × List api_Pair)) (at' : List ((Int × Int) × Int)) : Prop where
  of : ∀ g, mval m g = grp w h g (l.take i.toNat) []
  has : ∀ g s, mhas at' (g, s) = true ↔ pIdx (grp w h g (l.take i.toNat) []) s < (grp w h g (l.take i.toNat) []).length
  place : ∀ g s, mhas at' (g, s) = true → mval at' (g, s) = (pIdx (grp w h g (l.take i.toNat) []) s : Int)

theorem pIdx_app : ∀ (ps : List api_Pair) (g s : Int) (ids : List Int) (t : Int), pIdx ps s = ps.length → pIdx (ps ++ [⟨g, s, ids⟩]) t = if t = s then ps.length else pIdx ps t + if pIdx ps t = ps.length then 1 else 0 := by
  intro ps
  induction ps with
  | nil => intro g s ids t h; simp [pIdx]; split <;> split <;> (try omega) <;> simp_all
  | cons p r ih =>
    intro g s ids t h
    by_cases e : p.Sector = s
    · simp only [pIdx, if_pos e, List.length_cons] at h; omega
    · simp only [pIdx, if_neg e, List.length_cons] at h
      have hih := ih g s ids t (by omega)
      rw [List.cons_append, List.length_cons]
      by_cases y : p.Sector = t
      · have a1 : pIdx (p :: (r ++ [(⟨g, s, ids⟩ : api_Pair)])) t = 0 := if_pos y
        have a2 : pIdx (p :: r) t = 0 := if_pos y
        have z : ¬ t = s := fun q => e (y.trans q)
        rw [a1, a2, if_neg z, if_neg (by omega)]
      · have a1 : pIdx (p :: (r ++ [(⟨g, s, ids⟩ : api_Pair)])) t = pIdx (r ++ [(⟨g, s, ids⟩ : api_Pair)]) t + 1 := if_neg y
        have a2 : pIdx (p :: r) t = pIdx r t + 1 := if_neg y
        rw [a1, a2, hih]
        by_cases z : t = s
        · rw [if_pos z, if_pos z]
        · rw [if_neg z, if_neg z]
          by_cases x : pIdx r t = r.length
          · rw [if_pos x, if_pos (by omega)]
          · rw [if_neg x, if_neg (by omega)]
theorem pIdx_set : ∀ (ps : List api_Pair) (j : Nat) (q : api_Pair) (t : Int), j < ps.length → q.Sector = (rd ps (j : Int)).Sector → pIdx (ps.set j q) t = pIdx ps t := by
  intro ps
  induction ps with
  | nil => intro j q t h; simp at h
  | cons p r ih =>
    intro j q t h hq
    cases j with
    | zero => simp only [List.set_cons_zero, pIdx]; rw [hq]; rfl
    | succ j =>
      simp only [List.set_cons_succ, pIdx]
      rw [ih j q t (by simpa using h) (by rw [rdS] at hq; exact hq)]
theorem mhas_val {m : List (Int × List api_Pair)} {g : Int} (h : mval m g ≠ []) : mhas m g = true := by
  unfold mhas
  unfold mval at h
  cases e : mget m g with
  | none => rw [e] at h; exact absurd rfl h
  | some _ => rfl
theorem mval_mput {m : List (Int × List api_Pair)} {g : Int} (v : List api_Pair) (h : mhas m g = true) (g' : Int) : mval (mput m g v) g' = if g = g' then v else mval m g' := by
  unfold mput
  rw [if_pos h, mval_mset]

theorem take_grp {w h : Int} {l : List api_Unit} {i : Int} (h0 : 0 ≤ i) (h1 : i < l.length) (g : Int) :
    grp w h g (l.take (i + 1).toNat) [] = if (rd l i).Goal = g then addP (grp w h g (l.take i.toNat) []) g (sSector w h (rd l i).Cell) (rd l i).Id else grp w h g (l.take i.toNat) [] := by
  rw [takec h0 h1, grp_app]; rfl

theorem pl1 {w h : Int} {l : List api_Unit} (hb : l.length ≤ 1000000) {m : List (Int × List api_Pair)} (hm : ∀ g, mval m g = grp w h g l []) : ∀ (n k : Nat) (i : Int) (gone : List Int) (out : List api_Pair), i + n = (gls l).length → 0 ≤ i → n < k →
    (∀ g, g ∈ gone ↔ g ∈ (gls l).take i.toNat) → (out.length : Int) ≤ i * 1000000 → plan_Pairs.l1 k (gls l) m gone out i = some (out ++ ((gls l).drop i.toNat).flatMap fun g => grp w h g l []) := by
  have hg := gls_len l
  have hnd := gls_nodup l
  intro n
  induction n with
  | zero =>
    intro k i gone out hi h0 hk ho hl
    obtain ⟨k, rfl⟩ := kpos hk
    rw [plan_Pairs.l1, if_neg (by omega), List.drop_of_length_le (by omega)]; simp
  | succ n ih =>
    intro k i gone out hi h0 hk ho hl
    obtain ⟨k, rfl⟩ := kpos hk
    have hlen := grp_len w h (rd (gls l) i) l []
    simp only [List.length_nil, Nat.zero_add, show pTot ([] : List api_Pair) = 0 from rfl] at hlen
    have hmul : i * 1000000 + 1000000 ≤ 1000000000000 := by omega
    rw [plan_Pairs.l1, if_pos (by omega), if_pos (by omega), if_pos, hm, if_pos (by omega), wi (by omega) (by omega), dropc h0 (by omega)]
    · rw [ih k (i + 1) _ _ (by omega) (by omega) (by omega) ?_ ?_]
      · simp
      · intro g
        rw [takec h0 (by omega)]
        simp only [List.mem_cons, List.mem_append, List.not_mem_nil, or_false, ho g]
        exact or_comm
      · simp only [List.length_append]; omega
    · rw [ho]
      intro hin
      obtain ⟨j, j0, j1, j2⟩ := memrd hin
      simp only [List.length_take] at j1
      have e1 : rd ((gls l).take i.toNat) j = rd (gls l) j := by
        unfold rd
        rw [List.getD_eq_getElem?_getD, List.getD_eq_getElem?_getD, List.getElem?_take_of_lt (by omega)]
      rw [e1] at j2
      have := pairrd hnd (i := j) (j := i) j0 (by omega) (by omega)
      exact this j2

theorem pl0 {w h : Int} {l : List api_Unit} (hb : l.length ≤ 1000000) : ∀ (n k : Nat) (i : Int) (m : List (Int × List api_Pair)) (at' : List ((Int × Int) × Int)), i + n = l.length → 0 ≤ i → n < k →
    PI w h l i m at' → plan_Pairs.l0 k w h l m at' i = some (prs w h l) := by
  intro n
  induction n with
  | zero =>
    intro k i m at' hi h0 hk hp
    obtain ⟨k, rfl⟩ := kpos hk
    rw [plan_Pairs.l0, if_neg (by omega), pgoals_f hb, Option.bind_some]
    have hg := gls_len l
    have := pl1 (w := w) (h := h) hb (m := m) (fun g => by rw [hp.of g, List.take_of_length_le (by omega)]) (gls l).length fuel 0 [] [] (by omega) (by omega) (by rw [fuelv]; omega) (fun g => by simp) (by simp)
    simpa [prs] using this
  | succ n ih =>
    intro k i m at' hi h0 hk hp
    obtain ⟨k, rfl⟩ := kpos hk
    rw [plan_Pairs.l0, if_pos (by omega), if_pos (by omega), sector_f, Option.bind_some]
    have hof := hp.of
    have hlen := fun g => grp_len w h g (l.take i.toNat) []
    simp only [List.length_nil, Nat.zero_add, List.length_take] at hlen
    generalize hg : (rd l i).Goal = g0 at *
    generalize hs : sSector w h (rd l i).Cell = s0 at *
    have hL := hlen g0
    generalize hps : grp w h g0 (l.take i.toNat) [] = ps at *
    have hT : ∀ g, grp w h g (l.take (i + 1).toNat) [] = if g0 = g then addP ps g0 s0 (rd l i).Id else grp w h g (l.take i.toNat) [] := fun g => by
      rw [take_grp h0 (by omega), hg, hs]
      by_cases e : g0 = g
      · subst e; rw [if_pos rfl, if_pos rfl, hps]
      · rw [if_neg e, if_neg e]
    have hpt0 : pTot ([] : List api_Pair) = 0 := rfl
    by_cases hk2 : mhas at' (g0, s0) = true
    · have hin := (hp.has g0 s0).1 hk2
      have hpl := hp.place g0 s0 hk2
      rw [hps] at hin hpl
      rw [if_neg (by rw [hk2]; decide)]
      simp only [Option.bind_some]
      rw [hpl, hof g0, hps, if_pos (by omega)]
      have hids := pTot_rd ps (pIdx ps s0) (by omega) (by omega)
      rw [if_pos (by omega)]
      simp only [Option.bind_some]
      rw [wi (by omega) (by omega)]
      have hmh : mhas m g0 = true := mhas_val (by rw [hof g0, hps]; intro e; rw [e] at hin; simp at hin)
      have ea := addP_in ps g0 s0 (rd l i).Id hin
      rw [show ((pIdx ps s0 : Int)).toNat = pIdx ps s0 by omega]
      refine ih k (i + 1) _ _ (by omega) (by omega) (by omega) ⟨fun g => ?_, fun g s => ?_, fun g s hh => ?_⟩
      · rw [mval_mput _ hmh, hT]
        by_cases e : g0 = g
        · rw [if_pos e, if_pos e, ea]
        · rw [if_neg e, if_neg e, hof]
      · rw [hT]
        by_cases e : g0 = g
        · subst e
          rw [if_pos rfl, ea, pIdx_set _ _ _ _ hin (by rfl), List.length_set, hp.has g0 s, hps]
        · rw [if_neg e, hp.has]
      · rw [hT]
        by_cases e : g0 = g
        · subst e
          rw [if_pos rfl, ea, pIdx_set _ _ _ _ hin (by rfl), hp.place g0 s hh, hps]
        · rw [if_neg e, hp.place _ _ hh]
    · have hnin : pIdx ps s0 = ps.length := by
        have h1 := pIdx_le ps s0
        have h2 : ¬ pIdx ps s0 < ps.length := fun q => hk2 ((hp.has g0 s0).2 (by rw [hps]; exact q))
        omega
      have hkf : mhas at' (g0, s0) = false := by rw [Bool.eq_false_iff]; exact hk2
      rw [if_pos (by rw [hkf]; rfl), hof g0, hps, if_pos (by omega)]
      simp only [Option.bind_some, mval_mset, if_true]
      have hr : rd (ps ++ [(⟨g0, s0, []⟩ : api_Pair)]) (ps.length : Int) = ⟨g0, s0, []⟩ := by rw [rda (by omega) (by omega), if_pos rfl]
      rw [hr, if_pos (by simp; omega), if_pos (by simp)]
      simp only [Option.bind_some]
      rw [wi (by omega) (by omega)]
      have hmh : mhas (mset m g0 (ps ++ [(⟨g0, s0, []⟩ : api_Pair)])) g0 = true := by rw [mhas_mset]; simp
      have ea := addP_out ps g0 s0 (rd l i).Id hnin
      have es : List.set (ps ++ [(⟨g0, s0, []⟩ : api_Pair)]) (Int.toNat (ps.length : Int)) ⟨g0, s0, [] ++ [(rd l i).Id]⟩ = ps ++ [⟨g0, s0, [(rd l i).Id]⟩] := by
        rw [show ((ps.length : Int)).toNat = ps.length by omega, List.set_append_right _ _ (by omega)]; simp
      rw [es]
      refine ih k (i + 1) _ _ (by omega) (by omega) (by omega) ⟨fun g => ?_, fun g s => ?_, fun g s hh => ?_⟩
      · rw [mval_mput _ hmh, hT]
        by_cases e : g0 = g
        · rw [if_pos e, if_pos e, ea]
        · rw [if_neg e, if_neg e, mval_mset, if_neg e, hof]
      · rw [hT, mhas_mset]
        by_cases e : g0 = g
        · subst e
          rw [if_pos rfl, ea, pIdx_app _ _ _ _ _ hnin, List.length_append]
          by_cases z : s = s0
          · subst z; simp
          · have h1 := hp.has g0 s
            have h2 := pIdx_le ps s
            rw [hps] at h1
            rw [if_neg z]
            simp only [Prod.mk.injEq, true_and, List.length_cons, List.length_nil, Bool.or_eq_true, decide_eq_true_eq, h1]
            by_cases y : pIdx ps s = ps.length
            · rw [if_pos y]; omega
            · rw [if_neg y]; omega
        · rw [if_neg e, ← hp.has]
          simp [e]
      · rw [hT, mval_mset]
        by_cases e : g0 = g
        · subst e
          rw [if_pos rfl, ea, pIdx_app _ _ _ _ _ hnin]
          by_cases z : s = s0
          · subst z; simp
          · have hne : ¬ ((g0, s0) = (g0, s)) := fun q => z (Prod.mk.inj q).2.symm
            rw [if_neg hne, if_neg z]
            rw [mhas_mset] at hh
            simp only [hne, decide_false, Bool.false_or] at hh
            have h1 := (hp.has g0 s).1 hh
            rw [hps] at h1
            rw [hp.place _ _ hh, hps, if_neg (by omega)]; rfl
        · have hne : ¬ ((g0, s0) = (g, s)) := fun q => e (Prod.mk.inj q).1
          rw [if_neg e, if_neg hne]
          rw [mhas_mset] at hh
          simp only [hne, decide_false, Bool.false_or] at hh
          exact hp.place _ _ hh
theorem ppairs_ok {w h : Int} {l : List api_Unit} (hb : l.length ≤ 1000000) (hm : MayU w h l) : plan_Pairs.f w h l = some (prs w h l) := by
  obtain ⟨r, r1, r2⟩ := pmay_f (w := w) (h := h) (l := l) (by omega)
  unfold plan_Pairs.f
  rw [r1, Option.bind_some, if_neg (by rw [r2.2 hm]; decide)]
  exact pl0 hb l.length fuel 0 [] [] (by omega) (by omega) (by rw [fuelv]; omega) ⟨fun g => by simp [mval, mget, grp]; rfl, fun g s => by simp [mhas, mget, grp, pIdx], fun g s hh => by simp [mhas, mget] at hh⟩
theorem ppairs_bad {w h : Int} {l : List api_Unit} (hb : l.length ≤ 1000000) (hm : ¬ MayU w h l) : plan_Pairs.f w h l = some [] := by
  obtain ⟨r, r1, r2⟩ := pmay_f (w := w) (h := h) (l := l) (by omega)
  have hr : r = false := by rw [Bool.eq_false_iff]; exact fun q => hm (r2.1 q)
  unfold plan_Pairs.f
  rw [r1, Option.bind_some, hr]; rfl
end Go.Proofs.Ytmddmofncblfpaa
