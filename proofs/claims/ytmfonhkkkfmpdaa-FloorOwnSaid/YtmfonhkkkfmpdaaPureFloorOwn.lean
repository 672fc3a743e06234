/- What was answered may be changed by who has it: the floor's is not. At any size up to 30, any cell, any number. No condition. -/
import Derived.Test.YtmfonhkkkfmpdaaFLFloorOwn
import Derived.Test.YtmfonhkkkfmpdaaPlaw22
namespace Go.Proofs.Ytmfonhkkkfmpdaa
open Go.Hx

theorem own_l (v1 v6 v7 : Int) (v8 : Bool × floor_Floor) (R : Option Bool) (hR : ∀ x, law22_FloorOwn.l0 1 v1 v6 v7 v8 x x.length = R) : ∀ (n k : Nat) (x : List Int) (i : Int), i + n = x.length → 0 ≤ i → x.length ≤ 30 → n < k → law22_FloorOwn.l0 k v1 v6 v7 v8 x i = R := by
  intro n
  induction n with
  | zero =>
    intro k x i hi h0 hx hk
    obtain ⟨k, rfl⟩ : ∃ q, k = q + 1 := ⟨k - 1, by omega⟩
    have := hR x
    rw [law22_FloorOwn.l0, if_neg (by omega)] at this ⊢
    exact this
  | succ n ih =>
    intro k x i hi h0 hx hk
    obtain ⟨k, rfl⟩ : ∃ q, k = q + 1 := ⟨k - 1, by omega⟩
    rw [law22_FloorOwn.l0, if_pos (by omega), if_pos (by omega), w64_id (by omega) (by omega)]
    exact ih k _ (i + 1) (by simp; omega) (by omega) (by simp; omega) (by omega)

theorem FloorOwn_pure : law22_FloorOwn.Pure := by
  intro n cell id _ _ _
  unfold law22_FloorOwn.f
  have h1 := within_in (n := n) (lo := 1) (hi := 30) (by omega)
  have h3 := within_in (n := id) (lo := 0) (hi := 4294967294) (by omega)
  simp only [Option.bind_some, within_f (n := n) (lo := 1) (hi := 30) (by omega) (by omega) (by omega) (by omega), new_f,
    within_f (n := id) (lo := 0) (hi := 4294967294) (by omega) (by omega) (by omega) (by omega)]
  generalize 1 + n % (30 - 1 + 1) = a at h1
  generalize 0 + id % (4294967294 - 0 + 1) = d at h3
  have h2 := within_in (n := cell) (lo := 0) (hi := a - 1) (by omega)
  rw [if_pos (by omega), w64_id (x := a - 1) (by omega) (by omega)]
  simp only [optm, within_f (n := cell) (lo := 0) (hi := a - 1) (by omega) (by omega) (by omega) (by omega), Option.bind_some]
  generalize 0 + cell % (a - 1 - 0 + 1) = c at h2
  have hs := new_s h1.1
  rw [put_f hs (by simp)]
  have hf : fFree a (floor_Floor.mk (List.replicate a.toNat 0) 0) c := ⟨h2.1, by omega, rd_rep h2.1 (by omega)⟩
  have e : fPut a (floor_Floor.mk (List.replicate a.toNat 0) 0) c d = (true, fSet (floor_Floor.mk (List.replicate a.toNat 0) 0) c (d + 1) 1) := by
    unfold fPut; rw [if_pos ⟨hf, by omega, by omega⟩]
  have hs2 : FloorS a (fSet (floor_Floor.mk (List.replicate a.toNat 0) 0) c (d + 1) 1) := set_s hs h2.1 (by omega) (by omega) (by omega)
  simp only [Option.bind_some, e, Bool.not_true, Bool.false_eq_true, if_false, words_f hs2 (by omega)]
  have hlen := hs2.1
  have hrd : rd (fSet (floor_Floor.mk (List.replicate a.toNat 0) 0) c (d + 1) 1).words c = d + 1 := by
    rw [rd_fset hs h2.1 (by omega) h2.1, if_pos rfl]
  refine own_l a c d _ _ (fun x => ?_) (fSet (floor_Floor.mk (List.replicate a.toNat 0) 0) c (d + 1) 1).words.length fuel _ 0 (by omega) (by omega) (by omega) (by rw [fuel_eq]; omega)
  rw [law22_FloorOwn.l0, if_neg (by omega)]
  simp only [words_f hs2 (by omega), Option.bind_some, told22, hlen, who_f hs2, hrd]
  rw [if_pos (by simp), if_pos (by omega), w64_id (x := d + 1) (by omega) (by omega), wu32_id (by omega) (by omega)]
  have ew : fWho a (fSet (floor_Floor.mk (List.replicate a.toNat 0) 0) c (d + 1) 1) c = d := by
    unfold fWho; rw [if_pos ⟨h2.1, by omega⟩, hrd]; omega
  have ec : floor_Floor_Count.f (fSet (floor_Floor.mk (List.replicate a.toNat 0) 0) c (d + 1) 1) = some 1 := by rfl
  simp [ew, ec]
end Go.Proofs.Ytmfonhkkkfmpdaa
