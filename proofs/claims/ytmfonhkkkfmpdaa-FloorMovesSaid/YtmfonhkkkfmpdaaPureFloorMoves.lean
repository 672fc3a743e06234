/- Who is shifted about stands just where it was shifted to, and nowhere else; nobody is lost: at any size from 2 to 30, any steps, of which at most 60 are gone. No condition. -/
import Derived.Test.YtmfonhkkkfmpdaaFLFloorMoves
import Derived.Test.YtmfonhkkkfmpdaaPlaw22
namespace Go.Proofs.Ytmfonhkkkfmpdaa
open Go.Hx

/-- unit i stands where the list tells, and nobody else is there -/
structure Stands (n : Int) (f : floor_Floor) (us : List Int) : Prop where
  fl : FloorS n f
  cnt : f.count = us.length
  few : us.length ≤ 15
  at_ : ∀ i : Int, 0 ≤ i → i < us.length → 0 ≤ rd us i ∧ rd us i < n ∧ rd f.words (rd us i) = i + 1
  only : ∀ c, 0 ≤ c → c < n → rd f.words c ≠ 0 → ∃ i : Int, 0 ≤ i ∧ i < us.length ∧ rd us i = c

theorem eta (f : floor_Floor) : floor_Floor.mk f.words f.count = f := rfl

theorem who_at {n : Int} {f : floor_Floor} {us : List Int} (h : Stands n f us) {i : Int} (h0 : 0 ≤ i) (h1 : i < us.length) : fWho n f (rd us i) = i := by
  obtain ⟨a, b, c⟩ := h.at_ i h0 h1
  unfold fWho; rw [if_pos ⟨a, b⟩, c]; omega
theorem who_free {n : Int} {f : floor_Floor} {c : Int} (h0 : 0 ≤ c) (h1 : c < n) : fWho n f c = -1 ↔ fFree n f c := by
  unfold fWho fFree; rw [if_pos ⟨h0, h1⟩]
  constructor
  · intro h; exact ⟨h0, h1, by omega⟩
  · intro h; have := h.2.2; omega

/-- the taking away, at the end -/
theorem moves_l2 {n : Int} {us : List Int} (hus : us.length ≤ 15) : ∀ (m k : Nat) (f : floor_Floor) (i : Int), i + m = us.length → 0 ≤ i → m < k → FloorS n f → f.count = m →
    (∀ j, i ≤ j → j < us.length → 0 ≤ rd us j ∧ rd us j < n ∧ rd f.words (rd us j) = j + 1) → law22_FloorMoves.l2 k us f.words f.count i = some true := by
  intro m
  induction m with
  | zero =>
    intro k f i hi h0 hk hf hc ha
    obtain ⟨k, rfl⟩ : ∃ q, k = q + 1 := ⟨k - 1, by omega⟩
    rw [law22_FloorMoves.l2, if_neg (by omega)]
    simp only [told22, Option.bind_some, if_true, hc]; rfl
  | succ m ih =>
    intro k f i hi h0 hk hf hc ha
    obtain ⟨k, rfl⟩ : ∃ q, k = q + 1 := ⟨k - 1, by omega⟩
    obtain ⟨a1, a2, a3⟩ := ha i (by omega) (by omega)
    rw [law22_FloorMoves.l2, if_pos (by omega), if_pos (by omega), eta, who_f hf]
    have ew : fWho n f (rd us i) = i := by unfold fWho; rw [if_pos ⟨a1, a2⟩, a3]; omega
    have et : fTake n f (rd us i) = (i, fSet f (rd us i) 0 (-1)) := by unfold fTake; rw [ew, if_neg (by omega)]
    have hf2 : FloorS n (fSet f (rd us i) 0 (-1)) := set_s hf a1 a2 (by omega) (by omega)
    have hz : rd (fSet f (rd us i) 0 (-1)).words (rd us i) = 0 := by rw [rd_fset hf a1 a2 a1, if_pos rfl]
    have et2 : fTake n (fSet f (rd us i) 0 (-1)) (rd us i) = (-1, fSet f (rd us i) 0 (-1)) := by
      have ew2 : fWho n (fSet f (rd us i) 0 (-1)) (rd us i) = -1 := by unfold fWho; rw [if_pos (And.intro a1 a2), hz]; rfl
      unfold fTake; rw [if_pos ew2]
    have hcc : (fSet f (rd us i) 0 (-1)).count = m := by unfold fSet; simp only; omega
    simp only [ew, et, et2, Option.bind_some, take_f hf (by omega : -2000000 ≤ f.count ∧ f.count ≤ 2000000), take_f hf2 (by omega : -2000000 ≤ (fSet f (rd us i) 0 (-1)).count ∧ (fSet f (rd us i) 0 (-1)).count ≤ 2000000),
      bne_self_eq_false, Bool.false_eq_true, if_false, if_pos (And.intro h0 (by omega : i < (us.length : Int)))]
    rw [w64_id (by omega) (by omega)]
    refine ih k _ (i + 1) (by omega) (by omega) (by omega) hf2 hcc (fun j j1 j2 => ?_)
    obtain ⟨b1, b2, b3⟩ := ha j (by omega) j2
    refine ⟨b1, b2, ?_⟩
    rw [rd_fset hf a1 a2 b1, if_neg (fun e => by rw [e, a3] at b3; omega), b3]

/-- one goes where nobody is -/
theorem stands_shift {n : Int} {f : floor_Floor} {us : List Int} (h : Stands n f us) {i c : Int} (h0 : 0 ≤ i) (h1 : i < us.length) (hc : fFree n f c) :
    Stands n (fSet (fSet f (rd us i) 0 (-1)) c (i + 1) 1) (List.set us i.toNat c) ∧ fWho n (fSet (fSet f (rd us i) 0 (-1)) c (i + 1) 1) (rd us i) = -1 := by
  obtain ⟨a1, a2, a3⟩ := h.at_ i h0 h1
  obtain ⟨c1, c2, c3⟩ := hc
  have hfew := h.few
  have hf1 : FloorS n (fSet f (rd us i) 0 (-1)) := set_s h.fl a1 a2 (by omega) (by omega)
  have hf2 : FloorS n (fSet (fSet f (rd us i) 0 (-1)) c (i + 1) 1) := set_s hf1 c1 c2 (by omega) (by omega)
  have hne : c ≠ rd us i := fun e => by rw [e] at c3; omega
  have hr : ∀ d, 0 ≤ d → rd (fSet (fSet f (rd us i) 0 (-1)) c (i + 1) 1).words d = if d = c then i + 1 else if d = rd us i then 0 else rd f.words d := by
    intro d d0; rw [rd_fset hf1 c1 c2 d0, rd_fset h.fl a1 a2 d0]
  have hs : ∀ j, 0 ≤ j → rd (List.set us i.toNat c) j = if j = i then c else rd us j := fun j j0 => rd_set h0 h1 j0
  refine ⟨⟨hf2, by simp [fSet, h.cnt]; omega, by simpa using hfew, fun j j0 j1 => ?_, fun d d0 d1 hd => ?_⟩, ?_⟩
  · rw [List.length_set] at j1
    rw [hs j j0]
    by_cases hj : j = i
    · rw [if_pos hj, hr c c1, if_pos rfl]; exact ⟨c1, c2, by omega⟩
    · obtain ⟨b1, b2, b3⟩ := h.at_ j j0 j1
      rw [if_neg hj, hr _ b1, if_neg (fun e => by rw [e] at b3; omega), if_neg (fun e => by rw [e] at b3; omega)]
      exact ⟨b1, b2, b3⟩
  · rw [hr d d0] at hd
    by_cases e1 : d = c
    · exact ⟨i, h0, by rw [List.length_set]; exact h1, by rw [hs i h0, if_pos rfl, e1]⟩
    · rw [if_neg e1] at hd
      by_cases e2 : d = rd us i
      · rw [if_pos e2] at hd; exact absurd rfl hd
      · rw [if_neg e2] at hd
        obtain ⟨j, j0, j1, j2⟩ := h.only d d0 d1 hd
        exact ⟨j, j0, by rw [List.length_set]; exact j1, by rw [hs j j0, if_neg (fun e => e2 (by rw [← j2, e])), j2]⟩
  · unfold fWho
    rw [if_pos ⟨a1, a2⟩, hr _ a1, if_neg (fun e => hne e.symm), if_pos rfl]; omega

theorem moves_l1 {n : Int} (hn : 2 ≤ n) (hn2 : n ≤ 30) (l : List herdsmanlaw22_Ask) : ∀ (m k : Nat) (f : floor_Floor) (us : List Int) (i : Int), i + m = 60 → 0 ≤ i → m < k → 1 ≤ us.length → Stands n f us →
    law22_FloorMoves.l1 k l n f.words f.count us i = some true := by
  intro m
  have stop : ∀ (k : Nat) (f : floor_Floor) (us : List Int) (i : Int), ((decide (i < (List.length l : Int))) && (decide (i < 60))) = false → Stands n f us → law22_FloorMoves.l1 (k + 1) l n f.words f.count us i = some true := by
    intro k f us i h hs
    rw [law22_FloorMoves.l1, h]
    have := hs.few
    exact moves_l2 this us.length fuel f 0 (by omega) (by omega) (by rw [fuel_eq]; omega) hs.fl hs.cnt (fun j j0 j1 => hs.at_ j j0 j1)
  induction m with
  | zero =>
    intro k f us i hi h0 hk hu hs
    obtain ⟨k, rfl⟩ : ∃ q, k = q + 1 := ⟨k - 1, by omega⟩
    exact stop k f us i (by simp; omega) hs
  | succ m ih =>
    intro k f us i hi h0 hk hu hs
    obtain ⟨k, rfl⟩ : ∃ q, k = q + 1 := ⟨k - 1, by omega⟩
    by_cases hl : i < l.length
    · have hfew := hs.few
      have hcnt := hs.cnt
      rw [law22_FloorMoves.l1, if_pos (by simp; omega), if_pos (by omega), eta, w64_id (x := (us.length : Int) - 1) (by omega) (by omega), w64_id (x := n - 1) (by omega) (by omega)]
      have h1 := within_in (n := (rd l i).A) (lo := 0) (hi := (us.length : Int) - 1) (by omega)
      have h2 := within_in (n := (rd l i).B) (lo := 0) (hi := n - 1) (by omega)
      simp only [within_f (n := (rd l i).A) (lo := 0) (hi := (us.length : Int) - 1) (by omega) (by omega) (by omega) (by omega), within_f (n := (rd l i).B) (lo := 0) (hi := n - 1) (by omega) (by omega) (by omega) (by omega), Option.bind_some]
      generalize 0 + (rd l i).A % ((us.length : Int) - 1 - 0 + 1) = u at h1
      generalize 0 + (rd l i).B % (n - 1 - 0 + 1) = c at h2
      have hwu := who_at hs h1.1 (by omega)
      have hfr := who_free (f := f) h2.1 (by omega : c < n)
      simp only [who_f hs.fl, Option.bind_some, shift_f hs.fl (by omega : 1 ≤ f.count ∧ f.count ≤ 2000000), if_pos (And.intro h1.1 (by omega : u < (us.length : Int)))]
      by_cases hc : fFree n f c
      · have es : fShift n f (rd us u) c = (true, fSet (fSet f (rd us u) 0 (-1)) c (u + 1) 1) := by
          unfold fShift; rw [hwu, if_pos ⟨by omega, hc⟩]
        obtain ⟨g1, g2⟩ := stands_shift hs h1.1 (by omega) hc
        rw [es, hfr.2 hc]
        simp only [who_f g1.fl, g2, Option.bind_some, beq_self_eq_true, Bool.not_true, Bool.false_eq_true, if_false, if_true, bne_self_eq_false]
        rw [w64_id (by omega) (by omega)]
        exact ih k _ _ (i + 1) (by omega) (by omega) (by omega) (by simpa using hu) g1
      · have es : fShift n f (rd us u) c = (false, f) := by
          unfold fShift; rw [if_neg (fun q => hc q.2)]
        have q1 : (fWho n f c == -1) = false := by simpa using fun q => hc (hfr.1 q)
        rw [es, q1]
        simp only [beq_self_eq_true, Bool.not_true, Bool.false_eq_true, if_false, Option.bind_some]
        rw [w64_id (by omega) (by omega)]
        exact ih k _ _ (i + 1) (by omega) (by omega) (by omega) hu hs
    · exact stop k f us i (by simp; omega) hs

theorem stands_put {n : Int} {f : floor_Floor} {us : List Int} (h : Stands n f us) {c : Int} (hm : us.length < 15) (hc : fFree n f c) : Stands n (fSet f c (us.length + 1) 1) (us ++ [c]) := by
  obtain ⟨c1, c2, c3⟩ := hc
  have hf1 : FloorS n (fSet f c (us.length + 1) 1) := set_s h.fl c1 c2 (by omega) (by omega)
  have hr : ∀ d, 0 ≤ d → rd (fSet f c ((us.length : Int) + 1) 1).words d = if d = c then (us.length : Int) + 1 else rd f.words d := fun d d0 => rd_fset h.fl c1 c2 d0
  have hs : ∀ j : Int, 0 ≤ j → j ≤ us.length → rd (us ++ [c]) j = if j = us.length then c else rd us j := fun j j0 j1 => rd_append j0 j1
  refine ⟨hf1, by simp [fSet, h.cnt], by simp; omega, fun j j0 j1 => ?_, fun d d0 d1 hd => ?_⟩
  · simp at j1
    rw [hs j j0 (by omega)]
    by_cases hj : j = us.length
    · rw [if_pos hj, hr c c1, if_pos rfl]; exact ⟨c1, c2, by omega⟩
    · obtain ⟨b1, b2, b3⟩ := h.at_ j j0 (by omega)
      rw [if_neg hj, hr _ b1, if_neg (fun e => by rw [e] at b3; omega)]
      exact ⟨b1, b2, b3⟩
  · rw [hr d d0] at hd
    by_cases e1 : d = c
    · exact ⟨us.length, by omega, by simp; omega, by rw [hs _ (by omega) (by omega), if_pos rfl, e1]⟩
    · rw [if_neg e1] at hd
      obtain ⟨j, j0, j1, j2⟩ := h.only d d0 d1 hd
      exact ⟨j, j0, by simp; omega, by rw [hs j j0 (by omega), if_neg (by omega), j2]⟩

theorem moves_l0 {n : Int} (hn : 2 ≤ n) (hn2 : n ≤ 30) (l : List herdsmanlaw22_Ask) : ∀ (m k : Nat) (f : floor_Floor) (us : List Int) (i : Int), i + m = n / 2 → i = us.length → (i = 0 → 0 < m) → m < k → Stands n f us → (∀ j, 0 ≤ j → j < i → rd us j = 2 * j) →
    law22_FloorMoves.l0 k l n f.words f.count us i = some true := by
  intro m
  induction m with
  | zero =>
    intro k f us i hi h0 hp hk hs he
    obtain ⟨k, rfl⟩ : ∃ q, k = q + 1 := ⟨k - 1, by omega⟩
    rw [law22_FloorMoves.l0, tdiv_pos (by omega), w64_id (by omega) (by omega), if_neg (by omega)]
    exact moves_l1 hn hn2 l 60 fuel f us 0 (by omega) (by omega) (by rw [fuel_eq]; omega) (by omega) hs
  | succ m ih =>
    intro k f us i hi h0 hp hk hs he
    obtain ⟨k, rfl⟩ : ∃ q, k = q + 1 := ⟨k - 1, by omega⟩
    have hcnt := hs.cnt
    rw [law22_FloorMoves.l0, tdiv_pos (by omega), w64_id (x := n / 2) (by omega) (by omega), if_pos (by omega), w64_id (x := 2 * i) (by omega) (by omega), eta]
    have hfree : fFree n f (2 * i) := by
      refine ⟨by omega, by omega, ?_⟩
      by_cases hz : rd f.words (2 * i) = 0
      · exact hz
      · obtain ⟨j, j0, j1, j2⟩ := hs.only (2 * i) (by omega) (by omega) hz
        rw [he j j0 (by omega)] at j2; omega
    have ep : fPut n f (2 * i) i = (true, fSet f (2 * i) (i + 1) 1) := by unfold fPut; rw [if_pos ⟨hfree, by omega, by omega⟩]
    have hs2 := stands_put hs (by omega) hfree
    rw [← h0] at hs2
    have hno : ¬ fFree n (fSet f (2 * i) (i + 1) 1) (2 * i) := fun q => by
      have := q.2.2
      rw [rd_fset hs.fl (by omega) (by omega) (by omega), if_pos rfl] at this; omega
    have ep2 : fPut n (fSet f (2 * i) (i + 1) 1) (2 * i) 77 = (false, fSet f (2 * i) (i + 1) 1) := by unfold fPut; rw [if_neg (fun q => hno q.1)]
    have hc2 := hs2.cnt
    simp only [put_f hs.fl (by omega : 0 ≤ f.count ∧ f.count ≤ 2000000), ep, Option.bind_some, Bool.not_true, Bool.false_eq_true, if_false,
      put_f hs2.fl (by rw [hc2]; simp; omega : 0 ≤ (fSet f (2 * i) (i + 1) 1).count ∧ (fSet f (2 * i) (i + 1) 1).count ≤ 2000000), ep2]
    rw [if_pos (by omega), w64_id (by omega) (by omega)]
    refine ih k _ _ (i + 1) (by omega) (by simp; omega) (by omega) (by omega) hs2 (fun j j0 j1 => ?_)
    rw [rd_append j0 (by omega)]
    by_cases hj : j = us.length
    · rw [if_pos hj]; omega
    · rw [if_neg hj]; exact he j j0 (by omega)

theorem FloorMoves_pure : law22_FloorMoves.Pure := by
  intro n l _ _
  unfold law22_FloorMoves.f
  have h1 := within_in (n := n) (lo := 2) (hi := 30) (by omega)
  simp only [Option.bind_some, within_f (n := n) (lo := 2) (hi := 30) (by omega) (by omega) (by omega) (by omega), new_f]
  generalize 2 + n % (30 - 2 + 1) = a at h1
  rw [if_pos (by omega)]
  simp only [optm]
  have hs := new_s (n := a) (by omega)
  refine moves_l0 h1.1 h1.2 l (a / 2).toNat fuel (floor_Floor.mk (List.replicate a.toNat 0) 0) [] 0 (by omega) (by simp) (by omega) (by rw [fuel_eq]; omega) ⟨hs, by simp, by simp, fun i h0 h2 => ?_, fun c c0 c1 h => ?_⟩ (fun j j0 j1 => by omega)
  · simp at h2; omega
  · exact absurd (rd_rep c0 (by omega)) h
end Go.Proofs.Ytmfonhkkkfmpdaa
