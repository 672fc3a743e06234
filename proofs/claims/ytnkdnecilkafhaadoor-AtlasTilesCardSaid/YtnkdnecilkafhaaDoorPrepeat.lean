import Derived.Test.YtnkdnecilkafhaaDoorPpack
namespace Go.Proofs.YtnkdnecilkafhaaDoor
open Go.Hx

theorem wu64_id {x : Int} (h1 : 0 ≤ x) (h2 : x ≤ 18446744073709551615) : wu64 x = x := by
  unfold wu64 IntKind.wrap IntKind.signed IntKind.bits
  simp
  omega
theorem and_low {x : Int} (h0 : 0 ≤ x) (h1 : x ≤ 4294967295) : (((BitVec.ofInt (IntKind.bits .u64) x &&& BitVec.ofInt (IntKind.bits .u64) 4294967295).toNat : Nat) : Int) = x := by
  rw [BitVec.toNat_and]
  have e1 : (BitVec.ofInt (IntKind.bits .u64) 4294967295).toNat = 2 ^ 32 - 1 := by decide
  have e2 : (BitVec.ofInt (IntKind.bits .u64) x).toNat = x.toNat := by
    rw [BitVec.toNat_ofInt]
    show (x % ((2 ^ 64 : Nat) : Int)).toNat = x.toNat
    rw [Int.emod_eq_of_lt h0 (by omega)]
  rw [e1, e2, Nat.and_two_pow_sub_one_eq_mod, Nat.mod_eq_of_lt (by omega)]
  omega
theorem fdiv0 {x : Int} (h0 : 0 ≤ x) (h1 : x ≤ 4294967295) : Int.fdiv x (2 ^ 32) = 0 := by
  rw [Int.fdiv_eq_ediv_of_nonneg _ (by omega)]
  exact Int.ediv_eq_zero_of_lt h0 (by omega)
theorem mul_f {x y : Int} (hx : 0 ≤ x ∧ x ≤ 1) (hy : 0 ≤ y ∧ y ≤ 65536) : math_bits_Mul.f x y = some (0, x * y) := by
  have hxy : 0 ≤ x * y ∧ x * y ≤ 65536 := by
    have : x = 0 ∨ x = 1 := by omega
    rcases this with rfl | rfl <;> omega
  unfold math_bits_Mul.f math_bits_Mul64.f
  simp only [Option.bind_some]
  rw [fdiv0 hx.1 (by omega), fdiv0 hy.1 (by omega)]
  simp only [Int.zero_mul, Int.mul_zero]
  rw [and_low hx.1 (by omega), and_low hy.1 (by omega), wu64_id hx.1 (by omega), wu64_id hy.1 (by omega), wu64_id hxy.1 (by omega), fdiv0 hxy.1 (by omega)]
  have z : wu64 0 = 0 := wu64_id (by omega) (by omega)
  simp only [Int.add_zero, z]
  have f0 : Int.fdiv 0 (2 ^ 32) = 0 := by decide
  rw [f0]
  have a0 : (((BitVec.ofInt (IntKind.bits .u64) 0 &&& BitVec.ofInt (IntKind.bits .u64) 4294967295).toNat : Nat) : Int) = 0 := by decide
  simp only [a0, z, Int.add_zero, f0]

theorem rep_l {c m : Int} {v1 : Int × Int} (hv : w64 v1.2 = m) (hm : 1 ≤ m ∧ m ≤ 8192) : ∀ (n k : Nat) (x : List Int) (p : Int), p + n = m → 1 ≤ p → n < k → (x.length : Int) = m → (∀ j : Int, 0 ≤ j → j < p → rd x j = c) →
    bytes_Repeat.l0 k v1 m x p = some (List.replicate m.toNat c) := by
  intro n
  induction n using Nat.strongRecOn with
  | _ n ih =>
    intro k x p hp p1 hk hx hc
    obtain ⟨k, rfl⟩ := kpos hk
    rw [bytes_Repeat.l0, hv]
    by_cases hn : n = 0
    · rw [if_neg (by omega)]
      congr 1
      refine rdext (by simp; omega) (fun j j0 j1 => ?_)
      rw [hc j j0 (by omega), rdrep j0 (by omega)]
    · have emin : (if m < p then m else p) = p := by rw [if_neg (by omega)]
      rw [if_pos (by omega), emin, if_pos (by omega), if_pos (by omega)]
      have hl1 : (sub' x 0 p).length = p.toNat := by simp [sub']; omega
      have hl2 : (sub' x p (x.length : Int)).length = (m - p).toNat := by simp [sub']; omega
      have hcl : (cpy x p.toNat (min (sub' x 0 p).length (sub' x p (x.length : Int)).length) (sub' x 0 p)).length = x.length := cpy_length (by omega) (by omega)
      rw [hl1, hl2] at hcl ⊢
      rw [w64_id (by omega) (by omega)]
      refine ih (n - (min p.toNat (m - p).toNat)) (by omega) k _ _ (by omega) (by omega) (by omega) (by omega) (fun j j0 j1 => ?_)
      -- what is copied
      have hrd : rd (cpy x p.toNat (min p.toNat (m - p).toNat) (sub' x 0 p)) j = if j < p then rd x j else rd x (j - p) := by
        unfold cpy
        by_cases hj : j < p
        · rw [if_pos hj, rdl j0 (by simp; omega)]
          unfold rd
          rw [List.getD_eq_getElem?_getD, List.getD_eq_getElem?_getD, List.getElem?_take_of_lt (by omega)]
        · rw [if_neg hj, rdr (by simp; omega), rdl (by simp; omega) (by simp [sub']; omega)]
          have e : j - ((List.take p.toNat x).length : Int) = j - p := by simp; omega
          rw [e]
          unfold rd sub'
          rw [List.getD_eq_getElem?_getD, List.getD_eq_getElem?_getD, List.getElem?_take_of_lt (by omega), List.getElem?_take_of_lt (by omega)]
          simp
      rw [hrd]
      by_cases hj : j < p
      · rw [if_pos hj]; exact hc j j0 hj
      · rw [if_neg hj]; exact hc (j - p) (by omega) (by omega)
theorem repeat1 {c m : Int} (hm : 1 ≤ m ∧ m ≤ 8192) : bytes_Repeat.f [c] m = some (List.replicate m.toNat c) := by
  unfold bytes_Repeat.f
  have e1 : wu64 ((List.length [c] : Nat) : Int) = 1 := wu64_id (by simp) (by simp)
  have e2 : wu64 m = m := wu64_id (by omega) (by omega)
  rw [if_neg (by simp; omega), if_neg (by omega), e1, e2, mul_f (by omega) (by omega), Option.bind_some, Int.one_mul]
  have e3 : w64 m = m := w64_id (by omega) (by omega)
  have hb : ((decide ((0 : Int) > 0)) || (decide (m > 9223372036854775807))) = false := by
    rw [decide_eq_false (by omega), decide_eq_false (by omega)]; rfl
  simp only [hb, e3]
  rw [if_neg (by simp), if_neg (by simp), if_neg (by omega), Option.bind_some, if_pos (by omega)]
  refine anyL_i (nzP_some m) (fun x hx => ?_)
  obtain ⟨hl, _⟩ := hx
  rw [if_pos (by omega)]
  have hmin : min (List.length [c]) x.length = 1 := by simp; omega
  rw [hmin]
  have := rep_l (c := c) (v1 := (0, m)) (m := m) e3 hm (m - 1).toNat fuel (cpy x 0 1 [c]) 1 (by omega) (by omega) (by rw [fuel_eq]; omega) (by rw [cpy_length (by omega) (by simp)]; omega) (fun j j0 j1 => by
    have : j = 0 := by omega
    subst this
    simp [cpy]; rfl)
  rw [show (((1 : Nat) : Int)) = 1 by rfl, this, Option.bind_some]
theorem repeat0 {m : Int} (hm : 1 ≤ m ∧ m ≤ 8192) : bytes_Repeat.f [] m = some [] := by
  unfold bytes_Repeat.f
  have e1 : wu64 ((List.length ([] : List Int) : Nat) : Int) = 0 := wu64_id (by simp) (by simp)
  have e2 : wu64 m = m := wu64_id (by omega) (by omega)
  rw [if_neg (by simp; omega), if_neg (by omega), e1, e2, mul_f (by omega) (by omega), Option.bind_some, Int.zero_mul]
  simp
end Go.Proofs.YtnkdnecilkafhaaDoor
