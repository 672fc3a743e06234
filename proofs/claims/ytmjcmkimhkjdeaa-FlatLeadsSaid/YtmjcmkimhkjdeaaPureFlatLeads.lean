/- Each direction leads to a cell that is nearer by just what it costs; no side ahead of it does: any map of numbers, any goal. No condition. -/
import Derived.Test.YtmjcmkimhkjdeaaFLFlatLeads
import Derived.Test.YtmjcmkimhkjdeaaPfar
namespace Go.Proofs.Ytmjcmkimhkjdeaa
open Go.Hx
set_option linter.unusedVariables false
set_option linter.unusedSimpArgs false

theorem leads_l1 {m : api_Map} {t : Int} {D : List Int} (hm : MapOk m) (hc : CostOk m) (hf : Far m t D) {c : Int} (hi : inMap m c) : ∀ (n k : Nat) (j : Int), j + n = 4 → 0 ≤ j → n < k →
    law17_FlatLeads.l1 k m (D, 0) (dirsP m D D.length, 0) c j = some (Sum.inr ()) := by
  have hl := hm.2.1
  have hD := hf.len
  have hi1 := hi.1
  have hi2 := hi.2
  obtain ⟨d1, d2, d3, d4, d5⟩ := dir_spec hm hc hf hi
  have hdl := dirsP_len m D D.length
  have hdr := dirsP_rd m D (n := D.length) (j := c) hi1 (by omega)
  intro n
  induction n with
  | zero =>
    intro k j hj h0 hk
    obtain ⟨k, rfl⟩ := kpos hk
    rw [law17_FlatLeads.l1, if_neg (c := j ≤ 3) (by omega), Option.bind_some, if_neg (by simp)]
  | succ n ih =>
    intro k j hj h0 hk
    obtain ⟨k, rfl⟩ := kpos hk
    rw [law17_FlatLeads.l1, if_pos (c := j ≤ 3) (by omega)]
    simp only
    rw [hdl, if_pos (c := 0 ≤ c ∧ c < ((D.length : Nat) : Int)) ⟨hi1, by omega⟩, hdr, Option.bind_some]
    by_cases hjd : j ≤ dirP m D c
    · rw [decide_eq_true hjd, if_pos rfl, rstep_f, Option.bind_some]
      have hby : (if sStep m.W m.H c j ≥ 0 then (if (0 ≤ sStep m.W m.H c j ∧ sStep m.W m.H c j < (List.length m.C : Int)) then (if ((rd m.C (sStep m.W m.H c j)) != 255) = true then (if (0 ≤ sStep m.W m.H c j ∧ sStep m.W m.H c j < (List.length D : Int)) then (if (0 ≤ c ∧ c < (List.length D : Int)) then (some ((w64 ((rd D (sStep m.W m.H c j)) + (w64 (rd m.C (sStep m.W m.H c j))))) == (rd D c))) else none) else none) else (some false)) else none) else (some false)) = some (byP m D c j) := by
        unfold byP
        by_cases hn : sStep m.W m.H c j ≥ 0
        · have hin := step_in hm hn
          have hin2 := hin.2
          have hcn := hc _ hin
          have t1 := hf.top _ hin
          have t0 := far_nn hc hf hin
          rw [if_pos hn, if_pos ⟨hin.1, by omega⟩]
          by_cases hw : rd m.C (sStep m.W m.H c j) = 255
          · rw [if_neg (by simpa using hw), decide_eq_false (fun q => q.1.2 hw)]
          · rw [if_pos (by simpa using hw), if_pos ⟨hin.1, by omega⟩, if_pos ⟨hi1, by omega⟩, w64_id (x := rd m.C _) (by omega) (by omega), w64_id (by omega) (by omega)]
            congr 1
            rw [Bool.eq_iff_iff]
            simp [Opn, hin, hw, Int.add_comm]
        · rw [if_neg hn, decide_eq_false (fun q => hn q.1.1.1)]
      rw [hby, Option.bind_some]
      have hno : (if (!(byP m D c j == (j == dirP m D c))) = true then (some (decide (dirP m D c ≤ 3))) else (some false)) = some false := by
        by_cases hd3 : dirP m D c ≤ 3
        · obtain ⟨b1, b2⟩ := d5 hd3
          by_cases hq : j = dirP m D c
          · rw [if_neg]; rw [hq, b1]; simp
          · rw [if_neg]
            rw [b2 j h0 (by omega)]
            simp [hq]
        · rw [decide_eq_false hd3]; split <;> rfl
      rw [if_pos ⟨hi1, by omega⟩, hno, Option.bind_some, if_neg (by simp), w64_id (by omega) (by omega)]
      exact ih k (j + 1) (by omega) (by omega) (by omega)
    · rw [decide_eq_false hjd, if_neg (by simp)]
theorem leads_l0 {m : api_Map} {t : Int} {D : List Int} (hm : MapOk m) (hc : CostOk m) (hf : Far m t D) : ∀ (n k : Nat) (i : Int), i + n = D.length → 0 ≤ i → n < k → law17_FlatLeads.l0 k m (D, 0) (dirsP m D D.length, 0) i = some true := by
  have hl := hm.2.1
  have hD := hf.len
  have hpp := may_prod hm.1
  intro n
  induction n with
  | zero =>
    intro k i hi h0 hk
    obtain ⟨k, rfl⟩ := kpos hk
    rw [law17_FlatLeads.l0, if_neg (by simp only; omega), told17]; rfl
  | succ n ih =>
    intro k i hi h0 hk
    obtain ⟨k, rfl⟩ := kpos hk
    have hin : inMap m i := ⟨h0, by omega⟩
    obtain ⟨d1, d2, d3, d4, d5⟩ := dir_spec hm hc hf hin
    have hdr := dirsP_rd m D (n := D.length) (j := i) h0 (by omega)
    rw [law17_FlatLeads.l0, if_pos (by simp only; omega)]
    simp only
    rw [dirsP_len, if_pos (c := 0 ≤ i ∧ i < ((D.length : Nat) : Int)) ⟨h0, by omega⟩, if_pos ⟨h0, by omega⟩, hdr]
    have e1 : (dirP m D i == 5) = (rd D i == (1099511627776 : Int)) := by rw [Bool.eq_iff_iff]; simpa using d3
    have e2 : (dirP m D i == 4) = (rd D i == 0) := by rw [Bool.eq_iff_iff]; simpa using d4
    rw [e1, e2, if_neg (by simp), if_neg (by simp), if_neg (by omega), Option.bind_some, decide_eq_false (by omega), if_neg (by simp), leads_l1 hm hc hf hin 4 fuel 0 (by omega) (by omega) (by rw [fuelv]; omega)]
    simp only [Option.bind_some]
    rw [w64_id (by omega) (by omega)]
    exact ih k (i + 1) (by omega) (by omega) (by omega)
theorem FlatLeads_pure : law17_FlatLeads.Pure := by
  intro w h c goal _ _ hc _ _
  unfold law17_FlatLeads.f
  obtain ⟨m, e, hm, hco, hl, h1, h2, hw, hh⟩ := made17 w h (c := c) (fun y hy => hc y hy)
  rw [e, Option.bind_some, w64_id (x := (m.C.length : Int) - 1) (by omega) (by omega)]
  have i1 := within_in (n := goal) (lo := 0) (hi := (m.C.length : Int) - 1) (by omega)
  rw [within_f (by omega) (by omega) (by omega) (by omega), Option.bind_some]
  generalize 0 + goal % ((m.C.length : Int) - 1 - 0 + 1) = t at *
  have ht : inMap m t := ⟨i1.1, by omega⟩
  obtain ⟨D, l1, hD⟩ := look_f hm hco ht
  have hlen := hD.len
  rw [dist_of l1, Option.bind_some, dirs_of hm hco hD l1, Option.bind_some, if_neg (by simp), if_neg (by simp [hlen]), Option.bind_some, if_neg (by simp [hlen, dirsP_len])]
  exact leads_l0 hm hco hD D.length fuel 0 (by omega) (by omega) (by rw [fuelv]; omega)
end Go.Proofs.Ytmjcmkimhkjdeaa
