import Derived.Test.YtnkdnecilkafhaaDoorFLAtlasTurned
import Derived.Test.YtnkdnecilkafhaaDoorPinv
namespace Go.Proofs.YtnkdnecilkafhaaDoor
open Go.Hx

theorem wu8_in (x : Int) : inU8 (wu8 x) := by
  rw [wu8_m]; unfold inU8; omega
theorem xor_id {x y : Int} (hx : inU8 x) (hy : inU8 y) : wu8 (BitVec.toNat (BitVec.ofInt (IntKind.bits .u8) x ^^^ BitVec.ofInt (IntKind.bits .u8) y)) = x ↔ y = 0 := by
  unfold inU8 at hx hy
  have e : ∀ z : Int, 0 ≤ z → z ≤ 255 → (BitVec.ofInt (IntKind.bits .u8) z).toNat = z.toNat := by
    intro z z0 z1
    rw [BitVec.toNat_ofInt]
    show (z % ((2 ^ 8 : Nat) : Int)).toNat = z.toNat
    rw [Int.emod_eq_of_lt z0 (by omega)]
  have hlt : (BitVec.ofInt (IntKind.bits .u8) x ^^^ BitVec.ofInt (IntKind.bits .u8) y).toNat < 256 := BitVec.isLt _
  rw [wu8_id (by omega) (by omega)]
  constructor
  · intro h
    have h1 : (BitVec.ofInt (IntKind.bits .u8) x ^^^ BitVec.ofInt (IntKind.bits .u8) y) = BitVec.ofInt (IntKind.bits .u8) x := by
      apply BitVec.eq_of_toNat_eq
      rw [e x hx.1 hx.2]; omega
    have h2 : BitVec.ofInt (IntKind.bits .u8) y = 0 := by
      have h3 := congrArg (fun z => BitVec.ofInt (IntKind.bits .u8) x ^^^ z) h1
      simp only [← BitVec.xor_assoc, BitVec.xor_self, BitVec.zero_xor] at h3
      exact h3
    have h4 := congrArg BitVec.toNat h2
    rw [e y hy.1 hy.2] at h4
    have : (0 : BitVec (IntKind.bits .u8)).toNat = 0 := by decide
    rw [this] at h4
    omega
  · intro h
    subst h
    have e0 : BitVec.ofInt (IntKind.bits .u8) x ^^^ BitVec.ofInt (IntKind.bits .u8) 0 = BitVec.ofInt (IntKind.bits .u8) x := BitVec.xor_zero
    rw [e0, e x hx.1 hx.2]; omega
theorem set_self {L : List Int} {i : Int} (h0 : 0 ≤ i) (h1 : i < L.length) : L.set i.toNat (rd L i) = L := by
  refine rdext (by simp) (fun j j0 j1 => ?_)
  rw [rd_set h0 h1 j0]
  by_cases hj : j = i
  · rw [if_pos hj, hj]
  · rw [if_neg hj]
theorem same_iff {a m : api_Map} (ha : MapB a) (hm : MapB m) : ∃ q, atlas_Same.f a m = some q ∧ (q = true ↔ a = m) := by
  have u : ∀ {t : api_Map}, MapB t → ∀ y ∈ t.C, inU8 y := fun ht y hy => by have := ht.by_ y hy; exact ⟨by omega, by omega⟩
  unfold atlas_Same.f bytes_Equal.f
  by_cases hW : a.W = m.W
  · by_cases hH : a.H = m.H
    · refine ⟨strEq a.C m.C, by simp [hW, hH], fun hs => ?_, fun q => by rw [q]; exact strEq_self _⟩
      have hC := strEq_inj (u ha) (u hm) hs
      cases a; cases m; simp_all
    · exact ⟨false, by simp [hW, hH], by simp; exact fun q => hH (by rw [q])⟩
  · exact ⟨false, by simp [hW], by simp; exact fun q => hW (by rw [q])⟩
theorem AtlasTurned_pure : law4_AtlasTurned.Pure := by
  intro w h c p3 p4 _ _ hc _ h4 hcl
  unfold law4_AtlasTurned.f
  obtain ⟨m, e, hm, hl, hbig⟩ := made_b w h hc
  have h6 := bytes_len hm
  have g := within_in (n := p3) (lo := 0) (hi := ((bytesOf m).length : Int) - 1) (by omega)
  rw [e, Option.bind_some, put_f hm, Option.bind_some]
  simp only [List.nil_append]
  rw [if_neg (by simp; omega), if_pos (by simp; omega), w64_id (x := ((bytesOf m).length : Int) - 1) (by omega) (by omega), within_f (by omega) (by omega) (by omega) (by omega), Option.bind_some]
  have key : ∀ b : List Int, b.length = (bytesOf m).length → (∀ y ∈ b, inU8 y) → (b = bytesOf m ↔ p4 = 0) → ((atlas_Get.f b).bind fun v4 => if (v4.2 != 0) = true then (((law4_told.f).bind fun v7 => if v7 = true then (if ((List.length v4.1.C : Int) == 0) = true then (if (v4.1.W == 0) = true then (if (v4.1.H == 0) = true then (if (v4.2 == 2) = true then (some true) else (some (v4.2 == 3))) else (some false)) else (some false)) else (some false)) else (some false)).bind fun x5 => some x5) else ((atlas_Put.f v4.1).bind fun v8 => ((law4_told.f).bind fun v11 => if (v11 && (v8.2 == 0)) = true then ((ref1_Bytes.f v8.1 b).bind fun v12 => if v12 = true then ((atlas_Same.f v4.1 m).bind fun v13 => some (v13 == (p4 == 0))) else (some false)) else (some false)).bind fun x9 => some x9)) = some true := by
    intro b hbl hb hiff
    obtain ⟨x, cc, eg, hx⟩ := get_inv hb (by omega)
    rw [eg, Option.bind_some, told4]
    rcases hx with ⟨rfl, q⟩ | ⟨rfl, hxm, hxb⟩
    · rcases q with rfl | rfl <;> rfl
    · rw [if_neg (by simp)]
      simp only
      rw [put_f hxm, hxb]
      unfold ref1_Bytes.f
      obtain ⟨q, eq, hq⟩ := same_iff hxm hm
      simp only [Option.bind_some, strEq_self, beq_self_eq_true, Bool.and_self, if_true, eq]
      congr 1
      have : (x = m) ↔ p4 = 0 := by
        rw [← hiff]
        constructor
        · intro q; rw [← hxb, q]
        · intro q
          have h1 := get_put_map hm (by omega)
          rw [← q, eg] at h1
          exact (Prod.mk.inj (Option.some.inj h1)).1
      by_cases hp : p4 = 0
      · have : q = true := hq.mpr (this.mpr hp)
        simp [hp, this]
      · have : q = false := by
          cases hqq : q
          · rfl
          · exact absurd (this.mp (hq.mp hqq)) hp
        simp [hp, this]
  generalize 0 + p3 % (((bytesOf m).length : Int) - 1 - 0 + 1) = p at g ⊢
  rw [if_pos (show 0 ≤ p ∧ p < ((bytesOf m).length : Int) by omega)]
  have hpu : inU8 (rd (bytesOf m) p) := bytes_u8 hm _ (rd_mem (by omega) (by omega))
  refine key _ (by simp) (fun y hy => ?_) ⟨fun q => ?_, fun q => ?_⟩
  · rcases List.mem_or_eq_of_mem_set hy with q | q
    · exact bytes_u8 hm y q
    · rw [q]; exact wu8_in _
  · refine (xor_id hpu h4).mp ?_
    have h1 := congrArg (fun l => rd l p) q
    have h1 : rd (List.set (bytesOf m) p.toNat _) p = rd (bytesOf m) p := h1
    rw [rd_set (by omega) (by omega) (by omega), if_pos rfl] at h1
    exact h1
  · rw [(xor_id hpu h4).mpr q]
    exact set_self (by omega) (by omega)
end Go.Proofs.YtnkdnecilkafhaaDoor
