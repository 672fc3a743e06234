import Derived.Test.YtkidcebfpengmaaPmarch
import Derived.Test.YtkidcebfpengmaaFlaw24
namespace Go.Proofs.Ytkidcebfpengmaa
open Go.Hx
set_option linter.unusedVariables false
set_option linter.unusedSimpArgs false

theorem stood_l {w h : Int} {l : List api_Unit} {dirs : List Int} (hb : l.length ≤ 1000000) : ∀ (n k : Nat) (i : Int) (m : List (Int × Bool)), i + n = l.length → 0 ≤ i → n < k →
    (m.map (·.1)).Nodup → (∀ c, mval m c = true ↔ ∃ q, 0 ≤ q ∧ q < i ∧ (rd l q).Cell = c) →
    ∃ m', march_Go.l0 k w h l dirs m i = march_Go.l1 fuel w h l dirs [] w h m' [] [] 0 ∧ Stood m' l := by
  intro n
  induction n with
  | zero =>
    intro k i m hi h0 hk hn hm
    obtain ⟨k, rfl⟩ := kpos hk
    refine ⟨m, by rw [march_Go.l0, if_neg (by omega)], hn, fun c _ => ?_⟩
    rw [hm c]
    constructor
    · rintro ⟨q, q0, q1, e⟩; exact ⟨_, rdmem q0 (by omega), e⟩
    · rintro ⟨x, hx, e⟩
      obtain ⟨q, q0, q1, rfl⟩ := memrd hx
      exact ⟨q, q0, by omega, e⟩
  | succ n ih =>
    intro k i m hi h0 hk hn hm
    obtain ⟨k, rfl⟩ := kpos hk
    rw [march_Go.l0, if_pos (by omega), if_pos (by omega), wi (by omega) (by omega)]
    refine ih k (i + 1) _ (by omega) (by omega) (by omega) (mkeys_nodup hn _ _) (fun c => ?_)
    rw [mval_mset]
    by_cases e : (rd l i).Cell = c
    · rw [if_pos e]; exact ⟨fun _ => ⟨i, h0, by omega, e⟩, fun _ => rfl⟩
    · rw [if_neg e, hm c]
      constructor
      · rintro ⟨q, q0, q1, q2⟩; exact ⟨q, q0, by omega, q2⟩
      · rintro ⟨q, q0, q1, q2⟩
        by_cases z : q = i
        · subst z; exact absurd q2 e
        · exact ⟨q, q0, by omega, q2⟩

/-- those that are ahead, and live -/
def gAft (s : GSt) (n : Nat) : List api_Unit := (s.1.take n).filter (fun x => decide (0 ≤ x.Cell))

theorem gstep_at {w h : Int} {l : List api_Unit} {n : Nat} {s : GSt} (hi : GInv w h l n s) (hn : n < l.length) (d : Int) :
    rd (gStep w h s n (rd l (n : Int)) d).1 (n : Int) = ⟨(rd l (n : Int)).Id, if gCan w h s.1 (rd l (n : Int)) d then (if gTo w h (rd l (n : Int)) d = (rd l (n : Int)).Goal then -1 else gTo w h (rd l (n : Int)) d) else (rd l (n : Int)).Cell, (rd l (n : Int)).Goal⟩ := by
  have hlen := hi.len
  unfold gStep
  by_cases hc : gCan w h s.1 (rd l (n : Int)) d
  · rw [if_pos hc, if_pos hc]
    rw [rds (by omega) (by omega) (by omega), if_pos rfl]
  · rw [if_neg hc, if_neg hc, hi.rest n (by omega) (by omega)]

theorem gAft_step {w h : Int} {l : List api_Unit} {n : Nat} {s : GSt} (hi : GInv w h l n s) (hn : n < l.length) (d : Int) :
    gAft (gStep w h s n (rd l (n : Int)) d) (n + 1) = gAft s n ++ (if 0 ≤ (rd (gStep w h s n (rd l (n : Int)) d).1 (n : Int)).Cell then [rd (gStep w h s n (rd l (n : Int)) d).1 (n : Int)] else []) := by
  have hi2 := gInvS hi hn d
  have hl2 := hi2.len
  have ht : (gStep w h s n (rd l (n : Int)) d).1.take n = s.1.take n := by
    unfold gStep
    split
    · simp only
      rw [show (n : Int).toNat = n by simp, List.take_set_of_le (Nat.le_refl _)]
    · rfl
  unfold gAft
  have hlt : n < (gStep w h s n (rd l (n : Int)) d).1.length := by omega
  rw [List.take_add_one, ht, List.getElem?_eq_getElem hlt, List.filter_append, rdn hlt]
  congr 1
  simp only [Option.toList_some, List.filter_cons, List.filter_nil, decide_eq_true_eq]

theorem go_l {w h : Int} {l : List api_Unit} {dirs : List Int} (hm : MayU w h l) (hb : l.length ≤ 1000000) (hd : dirs.length = l.length) : ∀ (m k : Nat) (n : Nat) (st : List (Int × Bool)), n + m = l.length → m < k → Stood st (gFold w h l dirs n).1 →
    march_Go.l1 k w h l dirs (gAft (gFold w h l dirs n) n) w h st (gFold w h l dirs n).2.1 (gFold w h l dirs n).2.2 (n : Int) = some ((gGo w h l dirs).1, (gGo w h l dirs).2.1, (gGo w h l dirs).2.2, 0) := by
  intro m
  induction m with
  | zero =>
    intro k n st hn hk hst
    obtain ⟨k, rfl⟩ := kpos hk
    have hi := gInv hm dirs n (by omega)
    rw [march_Go.l1, if_neg (by omega)]
    have : n = l.length := by omega
    subst this
    unfold gGo gAft
    rw [List.take_of_length_le (by rw [hi.len]; omega)]
  | succ m ih =>
    intro k n st hn hk hst
    obtain ⟨k, rfl⟩ := kpos hk
    have hi := gInv hm dirs n (by omega)
    have hlt : n < l.length := by omega
    rw [march_Go.l1, if_pos (by omega), if_pos (by omega), if_pos (by omega)]
    obtain ⟨st', e1, e2⟩ := fstep_f hi hlt hb (hm.cell (by omega) (by omega)) hst (rd dirs (n : Int))
    have hat := gstep_at hi hlt (rd dirs (n : Int))
    have haft := gAft_step hi hlt (rd dirs (n : Int))
    have hlen1 : (gAft (gFold w h l dirs n) n).length ≤ n := by
      unfold gAft
      refine Nat.le_trans (List.length_filter_le ..) (by simp; omega)
    simp only [e1, Option.bind_some]
    rw [wi (by omega) (by omega)]
    have hnx : (n : Int) + 1 = ((n + 1 : Nat) : Int) := by omega
    have hfold : gStep w h (gFold w h l dirs n) n (rd l (n : Int)) (rd dirs (n : Int)) = gFold w h l dirs (n + 1) := rfl
    rw [hfold] at haft hat e2
    have := ih k (n + 1) st' (by omega) (by omega) e2
    by_cases hp : 0 ≤ (rd (gFold w h l dirs (n + 1)).1 (n : Int)).Cell
    · rw [if_pos (by rw [hfold]; simpa using hp), if_pos (by omega)]
      rw [if_pos hp] at haft
      rw [hnx, ← this, haft, hfold]
      have hu : (⟨(rd l (n : Int)).Id, if gCan w h (gFold w h l dirs n).1 (rd l (n : Int)) (rd dirs (n : Int)) then gTo w h (rd l (n : Int)) (rd dirs (n : Int)) else (rd l (n : Int)).Cell, (rd l (n : Int)).Goal⟩ : api_Unit) = rd (gFold w h l dirs (n + 1)).1 (n : Int) := by
        rw [hat] at hp ⊢
        simp only at hp ⊢
        by_cases hc : gCan w h (gFold w h l dirs n).1 (rd l (n : Int)) (rd dirs (n : Int))
        · rw [if_pos hc] at hp ⊢
          rw [if_pos hc]
          by_cases hg : gTo w h (rd l (n : Int)) (rd dirs (n : Int)) = (rd l (n : Int)).Goal
          · rw [if_pos hg] at hp; omega
          · rw [if_neg hg]
        · rw [if_neg hc, if_neg hc]
      rw [hu]
    · rw [if_neg (by rw [hfold]; simpa using hp)]
      rw [if_neg hp, List.append_nil] at haft
      rw [hnx, ← this, haft, hfold]

def DirsOk (dirs : List Int) (n : Nat) : Prop := dirs.length = n ∧ ∀ d ∈ dirs, 0 ≤ d ∧ d ≤ 5

theorem go_ok {w h : Int} {l : List api_Unit} {dirs : List Int} (hm : MayU w h l) (hb : l.length ≤ 1000000) (hd : DirsOk dirs l.length) :
    march_Go.f w h l dirs = some ((gGo w h l dirs).1, (gGo w h l dirs).2.1, (gGo w h l dirs).2.2, 0) := by
  unfold march_Go.f
  obtain ⟨r, r1, r2⟩ := pmay_f (w := w) (h := h) (l := l) (by omega)
  obtain ⟨o, o1, o2⟩ := odd_f (s := dirs) (by have := hd.1; omega)
  have ho : o = false := by
    rw [Bool.eq_false_iff]; intro q
    obtain ⟨d, hdm, hx⟩ := o2.1 q
    have := hd.2 d hdm; omega
  rw [r1, Option.bind_some, r2.2 hm, o1, ho]
  rw [if_neg (by simp [hd.1])]
  simp only [Option.bind_some, Bool.false_eq_true, if_false]
  obtain ⟨m', e1, e2⟩ := stood_l (w := w) (h := h) (l := l) (dirs := dirs) hb l.length fuel 0 [] (by omega) (by omega) (by rw [fuelv]; omega) (by simp) (fun c => by
    constructor
    · intro q; simp [mval, mget] at q
    · rintro ⟨q, q0, q1, _⟩; omega)
  rw [e1]
  exact go_l hm hb hd.1 l.length fuel 0 m' (by omega) (by rw [fuelv]; omega) e2
theorem go_bad {w h : Int} {l : List api_Unit} {dirs : List Int} (hb : l.length ≤ 1000000) (hb2 : dirs.length ≤ 1000000) (hn : ¬ (MayU w h l ∧ DirsOk dirs l.length)) : march_Go.f w h l dirs = some ([], [], [], 1) := by
  unfold march_Go.f
  obtain ⟨r, r1, r2⟩ := pmay_f (w := w) (h := h) (l := l) (by omega)
  obtain ⟨o, o1, o2⟩ := odd_f (s := dirs) (by omega)
  rw [r1, Option.bind_some, o1]
  have : ((if ((!r) || ((List.length dirs : Int) != (List.length l : Int))) = true then (some true) else ((some o).bind fun v4 => some v4)) : Option Bool) = some true := by
    split
    · rfl
    · rename_i q
      simp only [Bool.or_eq_true, Bool.not_eq_true', bne_iff_ne, ne_eq, not_or, Bool.not_eq_false, Decidable.not_not] at q
      rw [Option.bind_some]
      congr 1
      refine o2.2 (Classical.byContradiction fun z => hn ⟨r2.1 q.1, by omega, fun d hd => ?_⟩)
      refine Classical.byContradiction fun y => z ⟨d, hd, by omega⟩
  rw [this]
  simp
end Go.Proofs.Ytkidcebfpengmaa
