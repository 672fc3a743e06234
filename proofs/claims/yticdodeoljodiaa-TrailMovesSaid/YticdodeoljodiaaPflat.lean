import Derived.Test.YticdodeoljodiaaPspread2
import Derived.Test.YticdodeoljodiaaPints
import Derived.Test.YticdodeoljodiaaPmade
namespace Go.Proofs.Yticdodeoljodiaa
open Go.Hx
set_option linter.unusedVariables false
set_option linter.unusedSimpArgs false

/-! ### a list of one thing -/
theorem and32 {n : Int} (h0 : 0 ≤ n) (h1 : n < 4294967296) : ((BitVec.toNat (BitVec.ofInt (IntKind.bits .u64) n &&& BitVec.ofInt (IntKind.bits .u64) 4294967295) : Nat) : Int) = n := by
  obtain ⟨k, rfl⟩ : ∃ k : Nat, n = (k : Int) := ⟨n.toNat, by omega⟩
  have e1 : (BitVec.ofInt (IntKind.bits .u64) (k : Int)).toNat = k := by
    show (BitVec.ofInt 64 (k : Int)).toNat = k
    rw [BitVec.toNat_ofInt]; omega
  have e2 : (BitVec.ofInt (IntKind.bits .u64) 4294967295).toNat = 2 ^ 32 - 1 := by rfl
  rw [BitVec.toNat_and, e1, e2, Nat.and_two_pow_sub_one_eq_mod]
  omega
theorem wu64_id {x : Int} (h1 : 0 ≤ x) (h2 : x ≤ 18446744073709551615) : wu64 x = x := by
  unfold wu64 IntKind.wrap IntKind.signed IntKind.bits
  simp
  omega
theorem mul_f {n : Int} (h0 : 0 ≤ n) (h1 : n < 4294967296) : math_bits_Mul.f 1 n = some (0, n) := by
  unfold math_bits_Mul.f math_bits_Mul64.f
  have a1 : Int.fdiv 1 (2 ^ 32) = 0 := by rfl
  have a2 : Int.fdiv n (2 ^ 32) = 0 := by rw [Int.fdiv_eq_ediv_of_nonneg _ (by omega)]; omega
  have a3 : ((BitVec.toNat (BitVec.ofInt (IntKind.bits .u64) 1 &&& BitVec.ofInt (IntKind.bits .u64) 4294967295) : Nat) : Int) = 1 := and32 (by omega) (by omega)
  have a4 := and32 h0 h1
  have w0 : wu64 0 = 0 := wu64_id (by omega) (by omega)
  have w1 : wu64 1 = 1 := wu64_id (by omega) (by omega)
  have wn : wu64 n = n := wu64_id h0 (by omega)
  have a5 : ((BitVec.toNat (BitVec.ofInt (IntKind.bits .u64) 0 &&& BitVec.ofInt (IntKind.bits .u64) 4294967295) : Nat) : Int) = 0 := and32 (by omega) (by omega)
  have f0 : Int.fdiv 0 (2 ^ 32) = 0 := by rfl
  simp only [a1, a2, a3, a4, Int.zero_mul, Int.mul_zero, Int.one_mul, w0, w1, wn, Int.zero_add, a2, a5, f0, Option.bind_some]
theorem rep_l {v : Int} : ∀ (n k : Nat) (x : List Int) (i : Int), i + n ≥ x.length → 1 ≤ i → (x.length : Int) ≤ 1000000000 → n < k → (∀ j : Int, 0 ≤ j → j < i → j < x.length → rd x j = v) →
    slices_Repeat_int_int.l0 k x i = some (List.replicate x.length v) := by
  intro n
  induction n with
  | zero =>
    intro k x i hi h1 hb hk hx
    obtain ⟨k, rfl⟩ := kpos hk
    rw [slices_Repeat_int_int.l0, if_neg (by omega)]
    congr 1
    apply rdext (by simp)
    intro j j0 j1
    rw [hx j j0 (by omega) j1, rdrep j0 (by omega)]
  | succ n ih =>
    intro k x i hi h1 hb hk hx
    obtain ⟨k, rfl⟩ := kpos hk
    by_cases hq : i < x.length
    · have s1 : (sub' x 0 i).length = i.toNat := by rw [sub_length (by omega)]; omega
      have s2 : (sub' x i (x.length : Int)).length = (x.length - i.toNat) := by rw [sub_length (by omega)]; omega
      rw [slices_Repeat_int_int.l0, if_pos hq, if_pos (by omega), if_pos (by omega), s1, s2]
      have hlen : (cpy x i.toNat (min i.toNat (x.length - i.toNat)) (sub' x 0 i)).length = x.length := cpy_length (by omega) (by rw [s1]; omega)
      rw [w64_id (by omega) (by omega)]
      have := ih k (cpy x i.toNat (min i.toNat (x.length - i.toNat)) (sub' x 0 i)) (i + ((min i.toNat (x.length - i.toNat) : Nat) : Int)) (by rw [hlen]; omega) (by omega) (by rw [hlen]; omega) (by omega) (fun j j0 j1 j2 => ?_)
      · rw [this, hlen]
      · rw [hlen] at j2
        unfold cpy
        by_cases hji : j < i
        · rw [rdl j0 (by rw [List.length_take]; omega)]
          have : rd (x.take i.toNat) j = rd x j := by
            unfold rd; simp [List.getD, List.getElem?_take, show j.toNat < i.toNat by omega]
          rw [this]; exact hx j j0 hji (by omega)
        · rw [rdr (by rw [List.length_take]; omega), List.length_take, show ((min i.toNat x.length : Nat) : Int) = i by omega]
          rw [rdl (by omega) (by rw [List.length_take, s1]; omega)]
          have : rd ((sub' x 0 i).take (min i.toNat (x.length - i.toNat))) (j - i) = rd x (j - i) := by
            unfold rd sub'
            simp [List.getD, List.getElem?_take, show (j - i).toNat < i.toNat by omega, show (j - i).toNat < x.length - i.toNat by omega]
            rw [if_pos (by omega)]
          rw [this]; exact hx (j - i) (by omega) (by omega) (by omega)
    · rw [slices_Repeat_int_int.l0, if_neg hq]
      congr 1
      apply rdext (by simp)
      intro j j0 j1
      rw [hx j j0 (by omega) j1, rdrep j0 (by omega)]
theorem repeat_f {v : Int} {n : Nat} (h0 : 1 ≤ n) (h1 : n ≤ 1000000000) : slices_Repeat_int_int.f [v] (n : Int) = some (List.replicate n v) := by
  unfold slices_Repeat_int_int.f
  have e1 : wu64 (([v] : List Int).length : Int) = 1 := by rw [show (([v] : List Int).length : Int) = 1 from rfl]; exact wu64_id (by omega) (by omega)
  rw [if_neg (by omega), e1, wu64_id (x := (n : Int)) (by omega) (by omega), mul_f (by omega) (by omega), Option.bind_some]
  simp only
  rw [if_neg (by simp; omega), w64_id (by omega) (by omega), if_pos (by omega), Int.toNat_natCast]
  have e2 : min ([v] : List Int).length (List.replicate n (0 : Int)).length = 1 := by rw [List.length_replicate]; simp; omega
  rw [e2]
  have e3 : cpy (List.replicate n (0 : Int)) 0 1 [v] = v :: List.replicate (n - 1) 0 := by
    unfold cpy
    simp
  have hl : (v :: List.replicate (n - 1) (0 : Int)).length = n := by simp; omega
  rw [e3, rep_l (v := v) n fuel _ ((1 : Nat) : Int) (by omega) (by omega) (by omega) (by rw [fuelv]; omega) (fun j j0 j1 _ => by
    rw [show j = 0 by omega]; rfl), hl]
  rfl

/-! ### what the functions tell -/
theorem cost_ok {m : api_Map} (hm : MapOk m) (hb : ∀ y ∈ m.C, inU8 y) : CostOk m := by
  intro c hc
  have hl := hm.2.1
  have h2 := hc.2
  have hmem := rdmem (a := m.C) hc.1 (by omega)
  have h1 := hb _ hmem
  have : rd m.C c ≠ 0 := fun q => hm.2.2 (q ▸ hmem)
  unfold inU8 at h1; omega
theorem look_f {m : api_Map} (hm : MapOk m) (hc : CostOk m) {t : Int} (ht : inMap m t) : ∃ D, flat_look.f m t = some (some (flat_plain.mk m D), 0) ∧ Far m t D := by
  have hl := hm.2.1
  have hpp := may_prod hm.1
  have ht2 := ht.2
  have hsec : ¬ sSector m.W m.H t < 0 := fun q => sector_neg.mp q (in_cell hm ht)
  unfold flat_look.f
  rw [atlas_may_f m (by omega), Option.bind_some, decide_eq_true hm, if_neg (by simp), sector_f, Option.bind_some, if_neg hsec, repeat_f (by omega) (by omega), Option.bind_some, if_pos ⟨ht.1, by omega⟩]
  by_cases ho : rd m.C t = 255
  · rw [if_neg (by simpa using ho)]
    refine ⟨_, rfl, by simp, fun c hi hlt => ?_, fun c k hw => ?_, fun c hi => ?_⟩
    · rw [rdrep hi.1 (by have := hi.2; omega)] at hlt; omega
    · exact absurd ho (way_goal hw).2
    · rw [rdrep hi.1 (by have := hi.2; omega)]; omega
  · rw [if_pos (by simpa using ho)]
    obtain ⟨D, e, hf⟩ := spread_f (p := flat_plain.mk m (List.replicate m.C.length (1099511627776 : Int))) (t := t) hm hc rfl ⟨ht, ho⟩
    rw [e, Option.bind_some]
    exact ⟨D, rfl, hf⟩
theorem look_arg {m : api_Map} (hm : ¬ MapOk m) (hb : m.C.length ≤ 1099511627776) (t : Int) : flat_look.f m t = some (none, 1) := by
  unfold flat_look.f
  rw [atlas_may_f m (by omega), Option.bind_some, decide_eq_false hm, if_pos (by simp)]
theorem look_out {m : api_Map} (hm : MapOk m) {t : Int} (ht : ¬ CellS m.W m.H t) : flat_look.f m t = some (none, 7) := by
  have hl := hm.2.1
  have hpp := may_prod hm.1
  unfold flat_look.f
  rw [atlas_may_f m (by omega), Option.bind_some, decide_eq_true hm, if_neg (by simp), sector_f, Option.bind_some, if_pos (sector_neg.mpr ht)]
theorem dirs_no {m : api_Map} {t e : Int} (he : e ≠ 0) (h : flat_look.f m t = some (none, e)) : flat_Dirs.f m t = some ([], e) := by
  unfold flat_Dirs.f
  rw [h, Option.bind_some]
  simp [optm, he]
theorem query_no {m : api_Map} {t c e : Int} (he : e ≠ 0) (h : flat_look.f m t = some (none, e)) : flat_Query.f m t c = some (0, 0, e) := by
  unfold flat_Query.f
  rw [h, Option.bind_some]
  simp [optm, he]

/-- does a cell's distance come about by a side -/
def byP (m : api_Map) (D : List Int) (c s : Int) : Bool := decide (Opn m (sStep m.W m.H c s) ∧ rd m.C (sStep m.W m.H c s) + rd D (sStep m.W m.H c s) = rd D c)
def dirP (m : api_Map) (D : List Int) (c : Int) : Int := if rd D c = (1099511627776 : Int) then 5 else if rd D c = 0 then 4 else if byP m D c 0 = true then 0 else if byP m D c 1 = true then 1 else if byP m D c 2 = true then 2 else 3
theorem by_f {m : api_Map} {t : Int} {D : List Int} (hm : MapOk m) (hc : CostOk m) (hf : Far m t D) {c s : Int} (hi : inMap m c) (s0 : 0 ≤ s) (s3 : s ≤ 3) : flat_plain_by.f (flat_plain.mk m D) c s = some (byP m D c s) := by
  have hl := hm.2.1
  have hD := hf.len
  have hi2 := hi.2
  unfold flat_plain_by.f byP
  rw [beside_f (p := flat_plain.mk m D) hm hi s0 s3, Option.bind_some]
  simp only
  by_cases hn : sStep m.W m.H c s ≥ 0
  · have hin := step_in hm hn
    have hin2 := hin.2
    have hcn := hc _ hin
    have h1 := far_nn hc hf hin
    have h2 := hf.top _ hin
    rw [if_pos hn, if_pos ⟨hin.1, by omega⟩]
    by_cases hw : rd m.C (sStep m.W m.H c s) = 255
    · rw [if_neg (by simpa using hw), Option.bind_some, decide_eq_false (fun q => q.1.2 hw)]
    · rw [if_pos (by simpa using hw), if_pos ⟨hin.1, by omega⟩, if_pos ⟨hi.1, by omega⟩, Option.bind_some, w64_id (x := rd m.C _) (by omega) (by omega), w64_id (by omega) (by omega)]
      congr 1
      rw [Bool.eq_iff_iff]
      simp [Opn, hin, hw]
  · rw [if_neg hn, Option.bind_some, decide_eq_false (fun q => hn q.1.1.1)]
theorem dir_f {m : api_Map} {t : Int} {D : List Int} (hm : MapOk m) (hc : CostOk m) (hf : Far m t D) {c : Int} (hi : inMap m c) : flat_plain_dir.f (flat_plain.mk m D) c = some (dirP m D c) := by
  have hl := hm.2.1
  have hD := hf.len
  have hi2 := hi.2
  unfold flat_plain_dir.f dirP
  simp only [by_f hm hc hf hi (s := 0) (by omega) (by omega), by_f hm hc hf hi (s := 1) (by omega) (by omega), by_f hm hc hf hi (s := 2) (by omega) (by omega), Option.bind_some]
  rw [if_pos ⟨hi.1, by omega⟩]
  by_cases h1 : rd D c = (1099511627776 : Int)
  · rw [if_pos (by simpa using h1), if_pos h1]
  · rw [if_neg (by simpa using h1), if_neg h1]
    by_cases h2 : rd D c = 0
    · rw [if_pos (by simpa using h2), if_pos h2]
    · rw [if_neg (by simpa using h2), if_neg h2, if_pos (by rfl)]
      split
      · rfl
      · split
        · rfl
        · split <;> rfl
/-- what a direction is -/
theorem dir_spec {m : api_Map} {t : Int} {D : List Int} (hm : MapOk m) (hc : CostOk m) (hf : Far m t D) {c : Int} (hi : inMap m c) :
    0 ≤ dirP m D c ∧ dirP m D c ≤ 5 ∧ (dirP m D c = 5 ↔ rd D c = (1099511627776 : Int)) ∧ (dirP m D c = 4 ↔ rd D c = 0) ∧ (dirP m D c ≤ 3 → byP m D c (dirP m D c) = true ∧ ∀ s : Int, 0 ≤ s → s < dirP m D c → byP m D c s = false) := by
  unfold dirP
  by_cases h1 : rd D c = (1099511627776 : Int)
  · rw [if_pos h1]; exact ⟨by omega, by omega, ⟨fun _ => h1, fun _ => rfl⟩, ⟨fun q => by omega, fun q => by omega⟩, fun q => by omega⟩
  rw [if_neg h1]
  by_cases h2 : rd D c = 0
  · rw [if_pos h2]; exact ⟨by omega, by omega, ⟨fun q => by omega, fun q => absurd q h1⟩, ⟨fun _ => h2, fun _ => rfl⟩, fun q => by omega⟩
  rw [if_neg h2]
  have some_side : ∃ s : Int, 0 ≤ s ∧ s ≤ 3 ∧ byP m D c s = true := by
    have hne : c ≠ t := by
      rintro rfl
      by_cases ho : Opn m c
      · exact h2 (far_goal hc hf ho)
      · exact h1 (far_wall hf hi ho)
    obtain ⟨n, s, s0, s3, hs, hn, e, _⟩ := far_step hm hc hf hi (by have := hf.top c hi; omega) hne
    exact ⟨s, s0, s3, by unfold byP; rw [hs]; exact decide_eq_true ⟨hn, by omega⟩⟩
  by_cases b0 : byP m D c 0 = true
  · rw [if_pos b0]; exact ⟨by omega, by omega, ⟨fun q => by omega, fun q => absurd q h1⟩, ⟨fun q => by omega, fun q => absurd q h2⟩, fun _ => ⟨b0, fun s q1 q2 => by omega⟩⟩
  rw [if_neg b0]
  by_cases b1 : byP m D c 1 = true
  · rw [if_pos b1]
    exact ⟨by omega, by omega, ⟨fun q => by omega, fun q => absurd q h1⟩, ⟨fun q => by omega, fun q => absurd q h2⟩, fun _ => ⟨b1, fun s q1 q2 => by rw [show s = 0 by omega]; simpa using b0⟩⟩
  rw [if_neg b1]
  by_cases b2 : byP m D c 2 = true
  · rw [if_pos b2]
    refine ⟨by omega, by omega, ⟨fun q => by omega, fun q => absurd q h1⟩, ⟨fun q => by omega, fun q => absurd q h2⟩, fun _ => ⟨b2, fun s q1 q2 => ?_⟩⟩
    have : s = 0 ∨ s = 1 := by omega
    rcases this with rfl | rfl
    · simpa using b0
    · simpa using b1
  rw [if_neg b2]
  refine ⟨by omega, by omega, ⟨fun q => by omega, fun q => absurd q h1⟩, ⟨fun q => by omega, fun q => absurd q h2⟩, fun _ => ⟨?_, fun s q1 q2 => ?_⟩⟩
  · obtain ⟨s, s0, s3, hs⟩ := some_side
    have : s = 0 ∨ s = 1 ∨ s = 2 ∨ s = 3 := by omega
    rcases this with rfl | rfl | rfl | rfl
    · exact absurd hs b0
    · exact absurd hs b1
    · exact absurd hs b2
    · exact hs
  · have : s = 0 ∨ s = 1 ∨ s = 2 := by omega
    rcases this with rfl | rfl | rfl
    · simpa using b0
    · simpa using b1
    · simpa using b2
def dirsP (m : api_Map) (D : List Int) (n : Nat) : List Int := (List.range n).map (fun i : Nat => dirP m D (i : Int))
theorem dirs_of {m : api_Map} {t : Int} {D : List Int} (hm : MapOk m) (hc : CostOk m) (hf : Far m t D) (h : flat_look.f m t = some (some (flat_plain.mk m D), 0)) : flat_Dirs.f m t = some (dirsP m D D.length, 0) := by
  have hl := hm.2.1
  have hD := hf.len
  have hpp := may_prod hm.1
  unfold flat_Dirs.f
  rw [h, Option.bind_some]
  simp only [optm]
  rw [if_neg (by simp), if_pos (by omega), Int.toNat_natCast]
  have key : ∀ (n k : Nat) (x : List Int) (i : Int), i + n = D.length → 0 ≤ i → n < k → x.length = D.length → (∀ j : Int, 0 ≤ j → j < i → rd x j = dirP m D j) →
      flat_Dirs.l0 k m (flat_plain.mk m D) x i = some (dirsP m D D.length, 0) := by
    intro n
    induction n with
    | zero =>
      intro k x i hi h0 hk hx hr
      obtain ⟨k, rfl⟩ := kpos hk
      rw [flat_Dirs.l0, if_neg (by simp; omega)]
      congr 2
      apply rdext (by simp [dirsP, hx])
      intro j j0 j1
      rw [hr j j0 (by omega)]
      unfold dirsP
      rw [rdmap (L := List.range D.length) (f := fun i : Nat => dirP m D (i : Int)) j0 (by simp; omega)]
      have : rd (List.range D.length) j = j.toNat := by
        unfold rd; simp [List.getD]
        rw [List.getElem?_eq_getElem (by simp; omega)]
        simp
      rw [this, show ((j.toNat : Nat) : Int) = j by omega]
    | succ n ih =>
      intro k x i hi h0 hk hx hr
      obtain ⟨k, rfl⟩ := kpos hk
      have hd := dir_f hm hc hf (c := i) ⟨h0, by omega⟩
      rw [flat_Dirs.l0, if_pos (by simp; omega)]
      simp only
      rw [hd, Option.bind_some, if_pos (by omega), w64_id (by omega) (by omega)]
      refine ih k _ (i + 1) (by omega) (by omega) (by omega) (by simpa using hx) (fun j j0 j1 => ?_)
      rw [rds h0 (by omega) j0]
      by_cases hj : j = i
      · rw [if_pos hj, hj]
      · rw [if_neg hj]; exact hr j j0 (by omega)
  exact key D.length fuel _ 0 (by omega) (by omega) (by rw [fuelv]; omega) (by simp) (fun j j0 j1 => by omega)
theorem dirsP_len (m : api_Map) (D : List Int) (n : Nat) : (dirsP m D n).length = n := by simp [dirsP]
theorem dirsP_rd (m : api_Map) (D : List Int) {n : Nat} {j : Int} (j0 : 0 ≤ j) (j1 : j < n) : rd (dirsP m D n) j = dirP m D j := by
  unfold dirsP
  rw [rdmap (L := List.range n) (f := fun i : Nat => dirP m D (i : Int)) j0 (by simp; omega)]
  have : rd (List.range n) j = j.toNat := by
    unfold rd; simp [List.getD]
    rw [List.getElem?_eq_getElem (by simp; omega)]
    simp
  rw [this, show ((j.toNat : Nat) : Int) = j by omega]
theorem query_of {m : api_Map} {t : Int} {D : List Int} (hm : MapOk m) (hc : CostOk m) (hf : Far m t D) (h : flat_look.f m t = some (some (flat_plain.mk m D), 0)) (c : Int) : flat_Query.f m t c = some (if CellS m.W m.H c then (rd D c, dirP m D c, 0) else (0, 0, 7)) := by
  have hl := hm.2.1
  have hD := hf.len
  unfold flat_Query.f
  rw [h, Option.bind_some]
  simp only [optm]
  rw [if_neg (by simp), sector_f, Option.bind_some]
  by_cases hcell : CellS m.W m.H c
  · have hi : inMap m c := ⟨hcell.2.1, hcell.2.2⟩
    have hi2 := hi.2
    have hd := dir_f hm hc hf hi
    rw [if_neg (fun q => sector_neg.mp q hcell), if_pos ⟨hi.1, by omega⟩, if_pos hcell, hd]; rfl
  · rw [if_pos (sector_neg.mpr hcell), if_neg hcell]
end Go.Proofs.Yticdodeoljodiaa
