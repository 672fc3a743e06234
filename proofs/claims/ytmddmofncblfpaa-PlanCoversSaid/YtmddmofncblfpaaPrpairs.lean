import Derived.Test.YtmddmofncblfpaaPpairs
import Derived.Test.YtmddmofncblfpaaPsame21
import Derived.Test.YtmddmofncblfpaaFlaw23
namespace Go.Proofs.Ytmddmofncblfpaa
open Go.Hx

theorem rdar {α : Type} [Inhabited α] (L M : List α) {c : Int} (h : 0 ≤ c) : rd (L ++ M) ((L.length : Int) + c) = rd M c := by
  rw [rdr (by omega)]; congr 1; omega
theorem rl2 {out ps : List api_Pair} (hb : out.length + ps.length ≤ 4611686018427387000) (s : Int) : ∀ (n k : Nat) (j : Int), j + n = ps.length → 0 ≤ j → n < k →
    ref21_Pairs.l2 k (out ++ ps) s ((out.length : Int) + j) = some ((out.length : Int) + j + (pIdx (ps.drop j.toNat) s : Int)) := by
  intro n
  induction n with
  | zero =>
    intro k j hj h0 hk
    obtain ⟨k, rfl⟩ := kpos hk
    rw [ref21_Pairs.l2, if_neg (by simp; omega), List.drop_of_length_le (by omega)]
    simp [pIdx]
  | succ n ih =>
    intro k j hj h0 hk
    obtain ⟨k, rfl⟩ := kpos hk
    rw [ref21_Pairs.l2, if_pos (by simp; omega), if_pos (by simp; omega), rdar _ _ h0, dropc h0 (by omega)]
    simp only [Option.bind_some, pIdx]
    by_cases e : (rd ps j).Sector = s
    · rw [if_neg (by simp [e]), if_pos e]; simp
    · rw [if_pos (by simpa using e), if_neg e, wi (by omega) (by omega)]
      have := ih k (j + 1) (by omega) (by omega) (by omega)
      rw [show (out.length : Int) + (j + 1) = (out.length : Int) + j + 1 by omega] at this
      rw [this]
      congr 1; omega
theorem rl1 {w h : Int} {l : List api_Unit} (hb : l.length ≤ 1000000) {G : List Int} {x6 : Int} (hx : 0 ≤ x6 ∧ x6 < G.length) {out : List api_Pair} (ho : out.length ≤ 1000000000000) : ∀ (n k : Nat) (i : Int) (ps : List api_Pair), i + n = l.length → 0 ≤ i → n < k →
    ((ps.length : Int) ≤ i ∧ (pTot ps : Int) ≤ i) → ref21_Pairs.l1 k w h l G out x6 (out ++ ps) i = some (out ++ grp w h (rd G x6) (l.drop i.toNat) ps) := by
  intro n
  induction n with
  | zero =>
    intro k i ps hi h0 hk hp
    obtain ⟨k, rfl⟩ := kpos hk
    rw [ref21_Pairs.l1, if_neg (by omega), List.drop_of_length_le (by omega)]; rfl
  | succ n ih =>
    intro k i ps hi h0 hk hp
    obtain ⟨k, rfl⟩ := kpos hk
    rw [ref21_Pairs.l1, if_pos (by omega), if_pos (by omega), if_pos hx, dropc h0 (by omega)]
    simp only [grp]
    by_cases hg : (rd l i).Goal = rd G x6
    · rw [if_neg (by simpa using hg), if_pos hg, rsector_f, Option.bind_some]
      have h2 := rl2 (out := out) (ps := ps) (by omega) (sSector w h (rd l i).Cell) ps.length fuel 0 (by omega) (by omega) (by rw [fuelv]; omega)
      simp only [Int.toNat_zero, List.drop_zero] at h2
      rw [show (out.length : Int) + 0 = (out.length : Int) by omega] at h2
      rw [h2, Option.bind_some]
      have hle := pIdx_le ps (sSector w h (rd l i).Cell)
      generalize hs : sSector w h (rd l i).Cell = s0 at *
      have hal := addP_len ps (rd G x6) s0 (rd l i).Id
      have hat := addP_tot ps (rd G x6) s0 (rd l i).Id
      have next : ∀ y, y = out ++ addP ps (rd G x6) s0 (rd l i).Id → ref21_Pairs.l1 k w h l G out x6 y (w64 (i + 1)) = some (out ++ grp w h (rd G x6) (l.drop (i + 1).toNat) (addP ps (rd G x6) s0 (rd l i).Id)) := by
        rintro y rfl
        rw [wi (by omega) (by omega)]
        exact ih k (i + 1) _ (by omega) (by omega) (by omega) (by omega)
      by_cases hin : pIdx ps s0 < ps.length
      · rw [if_neg (by simp; omega)]
        simp only [Option.bind_some]
        have hids := pTot_rd ps (pIdx ps s0) (by omega) (by omega)
        have er : rd (out ++ ps) ((out.length : Int) + (pIdx ps s0 : Int)) = rd ps (pIdx ps s0 : Int) := rdar _ _ (by omega)
        rw [if_pos (by simp; omega), if_pos (by omega), er, if_pos (by simp; omega), if_pos (by simp; omega)]
        simp only [Option.bind_some]
        refine next _ ?_
        rw [addP_in _ _ _ _ hin, show ((out.length : Int) + (pIdx ps s0 : Int)).toNat = out.length + pIdx ps s0 by omega, List.set_append_right _ _ (by omega)]
        simp
      · have hout : pIdx ps s0 = ps.length := by omega
        rw [if_pos (by simp; omega), if_pos hx, if_pos (by simp; omega)]
        simp only [Option.bind_some]
        have e0 : (out ++ ps ++ [(⟨rd G x6, s0, []⟩ : api_Pair)]) = out ++ (ps ++ [⟨rd G x6, s0, []⟩]) := by simp
        have er : rd (out ++ (ps ++ [(⟨rd G x6, s0, []⟩ : api_Pair)])) ((out.length : Int) + (pIdx ps s0 : Int)) = ⟨rd G x6, s0, []⟩ := by
          rw [rdar _ _ (by omega), hout, rda (by omega) (by omega), if_pos rfl]
        rw [if_pos (by simp; omega), if_pos (by omega), e0, er, if_pos (by simp), if_pos (by simp)]
        simp only [Option.bind_some]
        refine next _ ?_
        rw [addP_out _ _ _ _ hout, show ((out.length : Int) + (pIdx ps s0 : Int)).toNat = out.length + ps.length by omega, List.set_append_right _ _ (by omega)]
        simp
    · rw [if_pos (by simpa using hg), if_neg hg]
      simp only [Option.bind_some]
      rw [wi (by omega) (by omega)]
      exact ih k (i + 1) ps (by omega) (by omega) (by omega) (by omega)
theorem rl0 {w h : Int} {l : List api_Unit} (hb : l.length ≤ 1000000) : ∀ (n k : Nat) (i : Int) (out : List api_Pair), i + n = (gls l).length → 0 ≤ i → n < k → (out.length : Int) ≤ i * 1000000 →
    ref21_Pairs.l0 k w h l (gls l) out i = some (out ++ ((gls l).drop i.toNat).flatMap fun g => grp w h g l []) := by
  have hg := gls_len l
  intro n
  induction n with
  | zero =>
    intro k i out hi h0 hk hl
    obtain ⟨k, rfl⟩ := kpos hk
    rw [ref21_Pairs.l0, if_neg (by omega), List.drop_of_length_le (by omega)]; simp
  | succ n ih =>
    intro k i out hi h0 hk hl
    obtain ⟨k, rfl⟩ := kpos hk
    have h1 := rl1 (w := w) (h := h) hb (G := gls l) (x6 := i) (by omega) (out := out) (by omega) l.length fuel 0 [] (by omega) (by omega) (by rw [fuelv]; omega) (by simp [pTot])
    simp only [List.append_nil, Int.toNat_zero, List.drop_zero] at h1
    have hlen := (grp_len w h (rd (gls l) i) l []).1
    simp only [List.length_nil, Nat.zero_add] at hlen
    rw [ref21_Pairs.l0, if_pos (by omega), h1, Option.bind_some, wi (by omega) (by omega), ih k (i + 1) _ (by omega) (by omega) (by omega) (by simp; omega), dropc h0 (by omega)]
    simp
theorem rpairs_ok {w h : Int} {l : List api_Unit} (hb : l.length ≤ 1000000) (hm : MayU w h l) : ref21_Pairs.f w h l = some (prs w h l) := by
  obtain ⟨r, r1, r2⟩ := rmay21_f (w := w) (h := h) (l := l) (by omega)
  unfold ref21_Pairs.f
  rw [r1, Option.bind_some, if_neg (by rw [r2.2 hm]; decide), rgoals_f hb, Option.bind_some]
  have hg := gls_len l
  have := rl0 (w := w) (h := h) hb (gls l).length fuel 0 [] (by omega) (by omega) (by rw [fuelv]; omega) (by simp)
  simpa [prs] using this
theorem rpairs_bad {w h : Int} {l : List api_Unit} (hb : l.length ≤ 1000000) (hm : ¬ MayU w h l) : ref21_Pairs.f w h l = some [] := by
  obtain ⟨r, r1, r2⟩ := rmay21_f (w := w) (h := h) (l := l) (by omega)
  have hr : r = false := by rw [Bool.eq_false_iff]; exact fun q => hm (r2.1 q)
  unfold ref21_Pairs.f
  rw [r1, Option.bind_some, hr]; rfl

theorem samep_l {a : List api_Pair} (hb : a.length ≤ 4611686018427387000) (hi : ∀ p ∈ a, p.Ids.length < 4611686018427387904) : ∀ (n k : Nat) (i : Int), i + n = a.length → 0 ≤ i → n < k → ref21_SamePairs.l0 k a a i = some true := by
  intro n
  induction n with
  | zero =>
    intro k i hi h0 hk
    obtain ⟨k, rfl⟩ := kpos hk
    rw [ref21_SamePairs.l0, if_neg (by omega)]
  | succ n ih =>
    intro k i hi' h0 hk
    obtain ⟨k, rfl⟩ := kpos hk
    have e := ints_self (a := (rd a i).Ids) (hi _ (rdmem h0 (by omega)))
    rw [ref21_SamePairs.l0, if_pos (by omega), if_pos (by omega), if_pos (by omega), if_neg (by simp), if_neg (by simp), e]
    simp only [Option.bind_some, Bool.not_true, Bool.false_eq_true, if_false]
    rw [wi (by omega) (by omega)]
    exact ih k (i + 1) (by omega) (by omega) (by omega)
theorem samep_self {a : List api_Pair} (hb : a.length ≤ 4611686018427387000) (hi : ∀ p ∈ a, p.Ids.length < 4611686018427387904) : ref21_SamePairs.f a a = some true := by
  unfold ref21_SamePairs.f
  rw [if_neg (by simp)]
  exact samep_l hb hi a.length fuel 0 (by omega) (by omega) (by rw [fuelv]; omega)

theorem flat_len {w h : Int} {l : List api_Unit} : ∀ G : List Int, (G.flatMap fun g => grp w h g l []).length ≤ G.length * l.length
  | [] => by simp
  | g :: G => by
    have h1 := flat_len (w := w) (h := h) (l := l) G
    have h2 := (grp_len w h g l []).1
    simp only [List.length_nil, Nat.zero_add] at h2
    simp only [List.flatMap_cons, List.length_append, List.length_cons, Nat.succ_mul]
    omega
theorem prs_len {w h : Int} {l : List api_Unit} (hb : l.length ≤ 1000000) : (prs w h l).length ≤ 1000000000000 := by
  have h1 := flat_len (w := w) (h := h) (l := l) (gls l)
  have h2 := gls_len l
  have h3 : (gls l).length * l.length ≤ 1000000 * 1000000 := Nat.mul_le_mul (by omega) hb
  unfold prs; omega
theorem mem_rdx {α : Type} [Inhabited α] {a : List α} {x : α} (h : x ∈ a) : ∃ i : Int, 0 ≤ i ∧ i < a.length ∧ rd a i = x := memrd h
theorem prs_ids {w h : Int} {l : List api_Unit} {p : api_Pair} (hp : p ∈ prs w h l) : p.Ids.length ≤ l.length := by
  unfold prs at hp
  obtain ⟨g, _, h2⟩ := List.mem_flatMap.1 hp
  obtain ⟨i, i0, i1, rfl⟩ := memrd h2
  have h3 := pTot_rd _ i i0 i1
  have h4 := (grp_len w h g l []).2
  simp only [show pTot ([] : List api_Pair) = 0 from rfl, Nat.zero_add] at h4
  omega

theorem told23 : law23_told.f = some true := by
  unfold law23_told.f
  have hm : MayU 4 1 [⟨1, 0, 3⟩, ⟨5, 2, 3⟩] := by
    refine ⟨by decide, fun j j0 j1 => ?_⟩
    simp at j1
    have hj : j = 0 ∨ j = 1 := by omega
    rcases hj with rfl | rfl
    · refine ⟨by decide, by decide, by decide, fun q q0 q1 => by omega⟩
    · refine ⟨by decide, by decide, by decide, fun q q0 q1 => ?_⟩
      have : q = 0 := by omega
      subst this; decide
  rw [ppairs_ok (by simp) hm, Option.bind_some]
  have e : prs 4 1 [⟨1, 0, 3⟩, ⟨5, 2, 3⟩] = [⟨3, 0, [1, 5]⟩] := by rfl
  rw [e]
  simp only [rd0, List.length_cons, List.length_nil]
  have h5 := ints_self (a := [1, 5]) (by simp)
  simp only [h5]
  rfl
end Go.Proofs.Ytmddmofncblfpaa
