/- Who stands where is what the document says: any size up to 30, any calls, of which at most 60 are made, near ones or raw. No condition. -/
import Derived.Test.YtmfonhkkkfmpdaaFLFloorPlays
import Derived.Test.YtmfonhkkkfmpdaaPlaw22
namespace Go.Proofs.Ytmfonhkkkfmpdaa
open Go.Hx

def nz (L : List Int) : Nat := L.countP (fun x => x != 0)
theorem nz_set {L : List Int} {i v : Int} (h0 : 0 ≤ i) (h1 : i < L.length) : (nz (List.set L i.toNat v) : Int) = nz L - (if rd L i = 0 then 0 else 1) + (if v = 0 then 0 else 1) := by
  have hlt : i.toNat < L.length := by omega
  unfold nz
  rw [List.countP_set hlt, rd_eq hlt]
  by_cases hz : L[i.toNat] = 0
  · by_cases hv : v = 0
    · simp [hz, hv]
    · simp [hz, hv]
  · have hp : 0 < L.countP (fun x => x != 0) := List.countP_pos_iff.2 ⟨_, List.getElem_mem hlt, by simpa using hz⟩
    by_cases hv : v = 0
    · simp [hz, hv]; omega
    · simp [hz, hv]; omega
theorem set_same {L : List Int} {i v : Int} (h0 : 0 ≤ i) (h1 : i < L.length) (hv : rd L i = v) : List.set L i.toNat v = L := by
  have hlt : i.toNat < L.length := by omega
  rw [rd_eq hlt] at hv
  rw [← hv]; exact List.set_getElem_self hlt
theorem nz_take {L : List Int} {i : Int} (h0 : 0 ≤ i) (h1 : i < L.length) : nz (L.take (i + 1).toNat) = nz (L.take i.toNat) + (if rd L i = 0 then 0 else 1) := by
  have hlt : i.toNat < L.length := by omega
  rw [show (i + 1).toNat = i.toNat + 1 by omega, List.take_succ_eq_append_getElem hlt, rd_eq hlt]
  unfold nz
  rw [List.countP_append]
  by_cases hz : L[i.toNat] = 0
  · simp [hz]
  · simp [hz]

structure Plays (n : Int) (f : floor_Floor) : Prop where
  fl : FloorS n f
  cnt : f.count = nz f.words
theorem Plays.few {n : Int} {f : floor_Floor} (h : Plays n f) : 0 ≤ f.count ∧ f.count ≤ n := by
  have := h.fl.1
  have h2 : nz f.words ≤ f.words.length := List.countP_le_length
  rw [h.cnt]; omega

theorem plays_set {n : Int} {f : floor_Floor} (h : Plays n f) {c v k : Int} (h0 : 0 ≤ c) (h1 : c < n) (v0 : 0 ≤ v) (v1 : v ≤ 4294967295) (hk : k = (if v = 0 then 0 else 1) - (if rd f.words c = 0 then 0 else 1)) : Plays n (fSet f c v k) := by
  refine ⟨set_s h.fl h0 h1 v0 v1, ?_⟩
  unfold fSet; simp only
  rw [nz_set h0 (by rw [h.fl.1]; exact h1), h.cnt, hk]; omega

theorem play_step {n : Int} (hn : 1 ≤ n) (hn2 : n ≤ 30) {f : floor_Floor} (h : Plays n f) (a b k : Int) :
    ∃ f', Plays n f' ∧ (if (k == 3) = true then (if decide (0 ≤ a ∧ a ≤ n - 1) = true then (if (0 ≤ a ∧ a < (List.length f.words : Int)) then ((floor_Floor_Take.f (floor_Floor.mk f.words f.count) a).bind fun v28 => if (v28.1 != (w64 ((w64 (rd f.words a)) - 1))) = true then (some (Sum.inl false)) else (some (Sum.inr (v28.2.words, v28.2.count, (List.set f.words (Int.toNat a) 0))))) else none) else ((floor_Floor_Take.f (floor_Floor.mk f.words f.count) a).bind fun v29 => if (v29.1 != (-1)) = true then (some (Sum.inl false)) else (some (Sum.inr (v29.2.words, v29.2.count, f.words))))) else ((if (k == 4) = true then (some (k == 4)) else (some (k == 5))).bind fun x30 => if x30 = true then ((if (decide (0 ≤ a ∧ a ≤ n - 1) && decide (0 ≤ b ∧ b ≤ n - 1)) = true then (if (0 ≤ a ∧ a < (List.length f.words : Int)) then (if ((rd f.words a) != 0) = true then (if (0 ≤ b ∧ b < (List.length f.words : Int)) then (some ((rd f.words b) == 0)) else none) else (some false)) else none) else (some false)).bind fun x32 => if x32 = true then (if (0 ≤ a ∧ a < (List.length f.words : Int)) then (if (0 ≤ b ∧ b < (List.length (List.set f.words (Int.toNat a) 0) : Int)) then ((floor_Floor_Shift.f (floor_Floor.mk f.words f.count) a b).bind fun v34 => if (!(v34.1 == x32)) = true then (some (Sum.inl false)) else (some (Sum.inr (v34.2.words, v34.2.count, (List.set (List.set f.words (Int.toNat a) 0) (Int.toNat b) (rd f.words a)))))) else none) else none) else ((floor_Floor_Shift.f (floor_Floor.mk f.words f.count) a b).bind fun v35 => if (!(v35.1 == x32)) = true then (some (Sum.inl false)) else (some (Sum.inr (v35.2.words, v35.2.count, f.words))))) else ((if decide (0 ≤ a ∧ a ≤ n - 1) = true then (if (0 ≤ a ∧ a < (List.length f.words : Int)) then (if ((rd f.words a) == 0) = true then (some (decide (0 ≤ b ∧ b ≤ 4294967294))) else (some false)) else none) else (some false)).bind fun x36 => if x36 = true then (if (0 ≤ a ∧ a < (List.length f.words : Int)) then ((floor_Floor_Put.f (floor_Floor.mk f.words f.count) a b).bind fun v39 => if (!(v39.1 == x36)) = true then (some (Sum.inl false)) else (some (Sum.inr (v39.2.words, v39.2.count, (List.set f.words (Int.toNat a) (wu32 (w64 (b + 1)))))))) else none) else ((floor_Floor_Put.f (floor_Floor.mk f.words f.count) a b).bind fun v40 => if (!(v40.1 == x36)) = true then (some (Sum.inl false)) else (some (Sum.inr (v40.2.words, v40.2.count, f.words))))))) = some (Sum.inr (f'.words, f'.count, f'.words) : Sum Bool (List Int × Int × List Int)) := by
  have hfew := h.few
  have hlen := h.fl.1
  have eta : floor_Floor.mk f.words f.count = f := rfl
  rw [eta, hlen, List.length_set, hlen]
  have hin : ∀ c : Int, (0 ≤ c ∧ c ≤ n - 1) ↔ (0 ≤ c ∧ c < n) := fun c => by omega
  simp only [hin]
  by_cases h3 : k = 3
  · rw [if_pos (by simpa using h3)]
    by_cases ha : 0 ≤ a ∧ a < n
    · have hr := h.fl.2 a ha.1 ha.2
      have ew : fWho n f a = rd f.words a - 1 := by unfold fWho; rw [if_pos ha]
      rw [if_pos (by simpa using ha), if_pos ha, take_f h.fl (by omega), w64_id (x := rd f.words a) (by omega) (by omega), w64_id (x := rd f.words a - 1) (by omega) (by omega)]
      by_cases hz : rd f.words a = 0
      · refine ⟨f, h, ?_⟩
        have e : fTake n f a = (-1, f) := by unfold fTake; rw [if_pos (by rw [ew, hz]; rfl)]
        rw [e, set_same ha.1 (by rw [hlen]; exact ha.2) hz, hz]; rfl
      · refine ⟨fSet f a 0 (-1), plays_set h ha.1 ha.2 (by omega) (by omega) (by simp [hz]), ?_⟩
        have e : fTake n f a = (rd f.words a - 1, fSet f a 0 (-1)) := by unfold fTake; rw [if_neg (by rw [ew]; omega), ew]
        rw [e]; simp [fSet]
    · refine ⟨f, h, ?_⟩
      have e : fTake n f a = (-1, f) := by unfold fTake fWho; rw [if_neg ha, if_pos rfl]
      rw [if_neg (by simpa using ha), take_f h.fl (by omega), e]; rfl
  · rw [if_neg (by simpa using h3)]
    have hk : (if (k == 4) = true then (some (k == 4)) else (some (k == 5))) = some (decide (k = 4 ∨ k = 5)) := by
      by_cases h4 : k = 4
      · simp [h4]
      · simp only [h4, false_or, beq_iff_eq, if_false]; congr 1
    rw [hk, Option.bind_some]
    by_cases h45 : k = 4 ∨ k = 5
    · rw [if_pos (by simpa using h45)]
      have hx : (if (decide (0 ≤ a ∧ a < n) && decide (0 ≤ b ∧ b < n)) = true then (if (0 ≤ a ∧ a < n) then (if ((rd f.words a) != 0) = true then (if (0 ≤ b ∧ b < n) then (some ((rd f.words b) == 0)) else none) else (some false)) else none) else (some false)) = some (decide (fWho n f a ≠ -1 ∧ fFree n f b)) := by
        by_cases ha : 0 ≤ a ∧ a < n
        · have ew : fWho n f a = rd f.words a - 1 := by unfold fWho; rw [if_pos ha]
          by_cases hb : 0 ≤ b ∧ b < n
          · rw [if_pos (by simp; omega), if_pos ha]
            by_cases hz : rd f.words a = 0
            · rw [if_neg (by simp [hz]), decide_eq_false (fun q => q.1 (by rw [ew, hz]; rfl))]
            · rw [if_pos (by simpa using hz), if_pos hb]
              by_cases hy : rd f.words b = 0
              · have : fFree n f b := ⟨hb.1, hb.2, hy⟩
                rw [decide_eq_true ⟨by rw [ew]; omega, this⟩]; simp [hy]
              · rw [decide_eq_false (fun q => hy q.2.2.2)]; simp [hy]
          · rw [if_neg (by simp; omega), decide_eq_false (fun q => hb ⟨q.2.1, q.2.2.1⟩)]
        · rw [if_neg (by simp; omega), decide_eq_false (fun q => q.1 (by unfold fWho; rw [if_neg ha]))]
      rw [hx, Option.bind_some]
      by_cases hc : fWho n f a ≠ -1 ∧ fFree n f b
      · obtain ⟨a0, a1, a2⟩ := who_in hc.1
        obtain ⟨b0, b1, b2⟩ := hc.2
        have hr := h.fl.2 a a0 a1
        have hza : rd f.words a ≠ 0 := fun e => hc.1 (by rw [a2, e]; rfl)
        have hc1 : 1 ≤ f.count := by
          have hlt : a.toNat < f.words.length := by omega
          have hp : 0 < nz f.words := List.countP_pos_iff.2 ⟨_, List.getElem_mem hlt, by rw [← rd_eq hlt]; simpa using hza⟩
          rw [h.cnt]; omega
        have hp1 := plays_set h (c := a) (v := 0) (k := -1) a0 a1 (by omega) (by omega) (by simp [hza])
        have hp2 := plays_set hp1 (c := b) (v := fWho n f a + 1) (k := 1) b0 b1 (by omega) (by omega) (by
          have hne : b ≠ a := fun e => hza (by rw [← e]; exact b2)
          rw [rd_fset h.fl a0 a1 b0, if_neg hne, b2, if_neg (by omega)]; rfl)
        refine ⟨_, hp2, ?_⟩
        have e : fShift n f a b = (true, fSet (fSet f a 0 (-1)) b (fWho n f a + 1) 1) := by unfold fShift; rw [if_pos hc]
        rw [if_pos (by simpa using hc), if_pos ⟨a0, a1⟩, if_pos ⟨b0, b1⟩, shift_f h.fl (by omega), e, decide_eq_true hc]
        have e2 : fWho n f a + 1 = rd f.words a := by omega
        simp [fSet, e2]
      · refine ⟨f, h, ?_⟩
        have e : fShift n f a b = (false, f) := by unfold fShift; rw [if_neg hc]
        have es : floor_Floor_Shift.f f a b = some (fShift n f a b) := by
          by_cases hq : 1 ≤ f.count
          · exact shift_f h.fl (by omega) a b
          · have hw : fWho n f a = -1 := by
              by_cases hw : fWho n f a = -1
              · exact hw
              · obtain ⟨a0, a1, a2⟩ := who_in hw
                have hlt : a.toNat < f.words.length := by omega
                have hp : 0 < nz f.words := List.countP_pos_iff.2 ⟨_, List.getElem_mem hlt, by rw [← rd_eq hlt]; simp; omega⟩
                have := h.cnt; omega
            unfold floor_Floor_Shift.f
            rw [who_f h.fl, hw, e]; rfl
        rw [if_neg (by simpa using hc), es, e, decide_eq_false hc]; rfl
    · rw [if_neg (by simpa using h45)]
      have hx : (if decide (0 ≤ a ∧ a < n) = true then (if (0 ≤ a ∧ a < n) then (if ((rd f.words a) == 0) = true then (some (decide (0 ≤ b ∧ b ≤ 4294967294))) else (some false)) else none) else (some false)) = some (decide (fFree n f a ∧ 0 ≤ b ∧ b < 4294967295)) := by
        by_cases ha : 0 ≤ a ∧ a < n
        · rw [if_pos (by simpa using ha), if_pos ha]
          by_cases hz : rd f.words a = 0
          · rw [if_pos (by simpa using hz)]
            have : fFree n f a := ⟨ha.1, ha.2, hz⟩
            congr 1
            rw [Bool.eq_iff_iff]; simp [this]; omega
          · rw [if_neg (by simpa using hz), decide_eq_false (fun q => hz q.1.2.2)]
        · rw [if_neg (by simpa using ha), decide_eq_false (fun q => ha ⟨q.1.1, q.1.2.1⟩)]
      rw [hx, Option.bind_some]
      by_cases hc : fFree n f a ∧ 0 ≤ b ∧ b < 4294967295
      · obtain ⟨⟨a0, a1, a2⟩, b0, b1⟩ := hc
        have hc : fFree n f a ∧ 0 ≤ b ∧ b < 4294967295 := ⟨⟨a0, a1, a2⟩, b0, b1⟩
        refine ⟨fSet f a (b + 1) 1, plays_set h a0 a1 (by omega) (by omega) (by rw [a2, if_neg (by omega)]; rfl), ?_⟩
        have e : fPut n f a b = (true, fSet f a (b + 1) 1) := by unfold fPut; rw [if_pos hc]
        rw [if_pos (by simpa using hc), if_pos ⟨a0, a1⟩, put_f h.fl (by omega), e, decide_eq_true hc, w64_id (x := b + 1) (by omega) (by omega), wu32_id (by omega) (by omega)]
        simp [fSet]
      · refine ⟨f, h, ?_⟩
        have e : fPut n f a b = (false, f) := by unfold fPut; rw [if_neg hc]
        rw [if_neg (by simpa using hc), put_f h.fl (by omega), e, decide_eq_false hc]; rfl

theorem plays_l1 {n : Int} (hn : 1 ≤ n) (hn2 : n ≤ 30) {f : floor_Floor} (h : Plays n f) (a : Int) : ∀ (m k : Nat) (i c : Int), i + m = n → 0 ≤ i → m < k → c = nz (f.words.take i.toNat) →
    law22_FloorPlays.l1 k n f.words a f.words (fWho n f a) f.count c i = some (Sum.inr (f.words, f.count, f.words)) := by
  have hlen := h.fl.1
  intro m
  induction m with
  | zero =>
    intro k i c hi h0 hk hc
    obtain ⟨k, rfl⟩ : ∃ q, k = q + 1 := ⟨k - 1, by omega⟩
    have eta : floor_Floor.mk f.words f.count = f := rfl
    have ec : floor_Floor_Count.f f = some f.count := rfl
    have hcc : c = f.count := by rw [hc, h.cnt, List.take_of_length_le (by omega)]
    rw [law22_FloorPlays.l1, if_neg (by omega), eta, who_f h.fl, ec, hcc]
    simp
  | succ m ih =>
    intro k i c hi h0 hk hc
    obtain ⟨k, rfl⟩ : ∃ q, k = q + 1 := ⟨k - 1, by omega⟩
    have hnt := nz_take (L := f.words) h0 (by omega)
    have hle : nz (f.words.take i.toNat) ≤ (f.words.take i.toNat).length := List.countP_le_length
    rw [List.length_take] at hle
    rw [law22_FloorPlays.l1, if_pos (by omega), if_pos (by omega), w64_id (x := i + 1) (by omega) (by omega)]
    by_cases hz : rd f.words i = 0
    · rw [if_neg (by simp [hz])]
      exact ih k (i + 1) c (by omega) (by omega) (by omega) (by rw [hnt, if_pos hz]; simpa using hc)
    · rw [if_pos (by simpa using hz), w64_id (by omega) (by omega)]
      exact ih k (i + 1) (c + 1) (by omega) (by omega) (by omega) (by rw [hnt, if_neg hz, hc]; rfl)

theorem in_f (n lo hi : Int) : ref1_In.f n lo hi = some (decide (lo ≤ n ∧ n ≤ hi)) := by
  unfold ref1_In.f
  by_cases h : lo ≤ n
  · simp [h]
  · simp [h]

theorem plays_l0 {n : Int} (hn : 1 ≤ n) (hn2 : n ≤ 30) (l : List herdsmanlaw22_Ask) (raw : Bool) : ∀ (m k : Nat) (f : floor_Floor) (i : Int), i + m = 60 → 0 ≤ i → m < k → Plays n f →
    law22_FloorPlays.l0 k l raw n f.words f.count f.words i = some true := by
  intro m
  have stop : ∀ (k : Nat) (f : floor_Floor) (i : Int), ((decide (i < (List.length l : Int))) && (decide (i < 60))) = false → Plays n f → law22_FloorPlays.l0 (k + 1) l raw n f.words f.count f.words i = some true := by
    intro k f i h hs
    have eta : floor_Floor.mk f.words f.count = f := rfl
    have hlen := hs.fl.1
    rw [law22_FloorPlays.l0, h, eta, words_f hs.fl (by omega)]
    simp [told22, same_f f.words f.words (by omega)]
  induction m with
  | zero =>
    intro k f i hi h0 hk hs
    obtain ⟨k, rfl⟩ : ∃ q, k = q + 1 := ⟨k - 1, by omega⟩
    exact stop k f i (by simp; omega) hs
  | succ m ih =>
    intro k f i hi h0 hk hs
    obtain ⟨k, rfl⟩ : ∃ q, k = q + 1 := ⟨k - 1, by omega⟩
    by_cases hl : i < l.length
    · rw [law22_FloorPlays.l0, if_pos (by simp; omega), if_pos (by omega)]
      have hw : ∃ a b, (if (!raw) = true then ((ref1_Within.f ((rd l i).A) (-1) n).bind fun v19 => (ref1_Within.f ((rd l i).B) (-1) n).bind fun v20 => some (v19, v20)) else (some ((rd l i).A, (rd l i).B))) = some (a, b) := by
        split
        · rw [within_f (by omega) (by omega) (by omega) (by omega), within_f (by omega) (by omega) (by omega) (by omega)]; exact ⟨_, _, rfl⟩
        · exact ⟨_, _, rfl⟩
      obtain ⟨a, b, hab⟩ := hw
      rw [hab]
      simp only [Option.bind_some, in_f, w64_id (x := n - 1) (by omega) (by omega), within_f (n := (rd l i).Kind) (lo := 0) (hi := 5) (by omega) (by omega) (by omega) (by omega)]
      obtain ⟨f', hf', e⟩ := play_step hn hn2 hs a b (0 + (rd l i).Kind % (5 - 0 + 1))
      have hlen := hf'.fl.1
      rw [e]
      simp only [Option.bind_some]
      have hx : (if decide (0 ≤ a ∧ a ≤ n - 1) = true then (if (0 ≤ a ∧ a < (List.length f'.words : Int)) then (some (w64 ((w64 (rd f'.words a)) - 1))) else none) else (some (-1))) = some (fWho n f' a) := by
        rw [hlen]; unfold fWho
        by_cases ha : 0 ≤ a ∧ a < n
        · have hr := hf'.fl.2 a ha.1 ha.2
          rw [if_pos (by simp; omega), if_pos ha, if_pos ha, w64_id (x := rd f'.words a) (by omega) (by omega), w64_id (by omega) (by omega)]
        · rw [if_neg (by simp; omega), if_neg ha]
      rw [hx, Option.bind_some, plays_l1 hn hn2 hf' a n.toNat fuel 0 0 (by omega) (by omega) (by rw [fuel_eq]; omega) (by simp [nz])]
      simp only [Option.bind_some]
      rw [w64_id (by omega) (by omega)]
      exact ih k f' (i + 1) (by omega) (by omega) (by omega) hf'
    · exact stop k f i (by simp; omega) hs

theorem FloorPlays_pure : law22_FloorPlays.Pure := by
  intro n l raw _ _
  unfold law22_FloorPlays.f
  have h1 := within_in (n := n) (lo := 1) (hi := 30) (by omega)
  simp only [Option.bind_some, within_f (n := n) (lo := 1) (hi := 30) (by omega) (by omega) (by omega) (by omega), new_f]
  generalize 1 + n % (30 - 1 + 1) = a at h1
  rw [if_pos (by omega)]
  simp only [optm]
  rw [if_pos (by omega)]
  have hz : nz (List.replicate a.toNat 0) = 0 := by unfold nz; rw [List.countP_replicate]; simp
  exact plays_l0 h1.1 h1.2 l raw 60 fuel (floor_Floor.mk (List.replicate a.toNat 0) 0) 0 (by omega) (by omega) (by rw [fuel_eq]; omega) ⟨new_s (by omega), by simp [hz]⟩
end Go.Proofs.Ytmfonhkkkfmpdaa
