import Derived.Test.YtonjonpepfepfaaDoorFLPackTurned
import Derived.Test.YtonjonpepfepfaaDoorPurePackBack
namespace Go.Proofs.YtonjonpepfepfaaDoor
open Go.Hx

theorem xor0 {x : Int} (h0 : 0 ≤ x ∧ x ≤ 255) : wu8 (BitVec.toNat (BitVec.ofInt (IntKind.bits .u8) x ^^^ BitVec.ofInt (IntKind.bits .u8) 0)) = x := by
  have e : BitVec.ofInt (IntKind.bits .u8) x ^^^ BitVec.ofInt (IntKind.bits .u8) 0 = BitVec.ofInt (IntKind.bits .u8) x := BitVec.xor_zero
  rw [e]
  have e2 : (BitVec.ofInt (IntKind.bits .u8) x).toNat = x.toNat := by
    rw [BitVec.toNat_ofInt]
    show (x % ((2 ^ 8 : Nat) : Int)).toNat = x.toNat
    rw [Int.emod_eq_of_lt h0.1 (by omega)]
  rw [e2, wu8_id (by omega) (by omega)]; omega
theorem wu8_in (x : Int) : inU8 (wu8 x) := by
  unfold wu8 IntKind.wrap IntKind.signed IntKind.bits inU8
  simp
  omega
theorem set_self {L : List Int} {i : Int} (h0 : 0 ≤ i) (h1 : i < L.length) : L.set i.toNat (rd L i) = L := by
  refine rdext (by simp) (fun j j0 j1 => ?_)
  rw [rd_set h0 h1 j0]
  by_cases hj : j = i
  · rw [if_pos hj, hj]
  · rw [if_neg hj]
theorem out_u8 {t : api_Tile} (h : TileOk t) (hu : ∀ y ∈ t.C, 1 ≤ y ∧ y ≤ 255) {i : Int} {L : List Int} (he : Enc t.C i L) : ∀ y ∈ L, inU8 y := by
  have hl := tile_len h
  induction he with
  | done => intro y hy; simp at hy
  | @run i e L i0 e1 hie same stop rest ih =>
    intro y hy
    simp only [List.mem_cons] at hy
    have hm := hu _ (rd_mem i0 (show i < (t.C.length : Int) by omega))
    rcases hy with q | q | q
    · rw [q]; exact ⟨by omega, by omega⟩
    · rw [q]; exact ⟨by omega, by omega⟩
    · exact ih y q
theorem PackTurned_pure : law3_PackTurned.Pure := by
  intro c w h few p4 p5 hc _ _ _ _ h5 hcl
  unfold law3_PackTurned.f
  obtain ⟨v, e, hv, hu⟩ := near_u ⟨0, 0, c⟩ w h few (fun y hy => by have := hc y hy; unfold inU8 at this; omega)
  obtain ⟨L, f, out, e2, hL⟩ := put_ok hv
  have ol := out_len hv hL
  have hvl := tile_len hv
  have hout : ∀ y ∈ out, inU8 y := by
    have hC : ∀ y ∈ v.C, inU8 y := fun y hy => by have := hu y hy; exact ⟨by omega, by omega⟩
    by_cases hn : uni v.C
    · rw [(hL.uni0 hn).2]
      intro y hy
      simp only [List.mem_cons, List.not_mem_nil, or_false] at hy
      rcases hy with q | q
      · rw [q]; exact ⟨by omega, by omega⟩
      · rw [q]; exact hC _ (rd_mem (by omega) (by omega))
    · by_cases hs : L.length < v.C.length
      · rw [(hL.short hn hs).2]
        intro y hy
        simp only [List.mem_cons] at hy
        rcases hy with q | q
        · rw [q]; exact ⟨by omega, by omega⟩
        · exact out_u8 hv hu hL.enc y q
      · rw [(hL.long hn hs).2]
        intro y hy
        simp only [List.mem_cons] at hy
        rcases hy with q | q
        · rw [q]; exact ⟨by omega, by omega⟩
        · exact hC y q
  have key : ∀ b : List Int, b.length = out.length → (∀ y ∈ b, inU8 y) → (p5 = 0 → b = out) → ((pack_Get.f b v.W v.H).bind fun v4 => if (v4.2.2 != 0) = true then (((law3_told.f).bind fun v7 => if (v7 && (v4.2.1 == 0)) = true then (if ((List.length v4.1.C : Int) == 0) = true then (if (v4.2.2 == 2) = true then (some true) else (some (v4.2.2 == 3))) else (some false)) else (some false)).bind fun x5 => some x5) else ((pack_Put.f v4.1).bind fun v8 => ((law3_told.f).bind fun v11 => if ((v11 && (v8.2 == 0)) && (decide (v4.2.1 ≤ (List.length b : Int)))) = true then (if (0 ≤ (0 : Int) ∧ (0 : Int) ≤ v4.2.1 ∧ v4.2.1 ≤ (List.length b : Int)) then ((ref1_Bytes.f v8.1 (sub' b 0 v4.2.1)).bind fun v12 => if v12 = true then (if (p5 != 0) = true then (some true) else ((ref1_SameTile.f v4.1 v).bind fun v13 => some v13)) else (some false)) else none) else (some false)).bind fun x9 => some x9)) = some true := by
    intro b hbl hb hb'
    obtain ⟨w1, w2, h1, h2, hc', hz⟩ := id hv
    obtain ⟨res, e3, _, e4⟩ := get_joint hb (by omega) ⟨w1, w2⟩ ⟨h1, h2⟩
    rw [e3, Option.bind_some]
    rcases e4 with ⟨q1, q2, q3⟩ | ⟨q1, q2, q3, q4, out2, q5, q6⟩
    · rw [told3, q1, q2]
      rcases q3 with q3 | q3
      · rw [q3]; rfl
      · rw [q3]; rfl
    · rw [q1, if_neg (by simp), q5, told3]
      simp only [Option.bind_some, Bool.true_and, beq_self_eq_true]
      rw [if_pos (by simpa using q4), if_pos (by omega)]
      unfold ref1_Bytes.f
      rw [q6]
      simp only [Option.bind_some, if_true]
      by_cases h0 : p5 = 0
      · have hbo : b = out := by
          exact hb' h0
        have := get_put hv hu e2 hL (b := b) (by omega) (fun j j0 j1 j2 => by rw [hbo])
        rw [e3, if_pos (by omega)] at this
        rw [Option.some.inj this, h0]
        simp [ref1_SameTile.f, ref1_Bytes.f, strEq_self]
      · have : (p5 != 0) = true := by simpa using h0
        rw [this]; rfl
  have g := within_in (n := p4) (lo := 0) (hi := (out.length : Int) - 1) (by omega)
  rw [e, Option.bind_some, e2, Option.bind_some, if_neg (by simp; intro q; rw [q] at ol; simp at ol), if_pos (by simp; omega)]
  simp only [List.nil_append]
  rw [w64_id (x := (out.length : Int) - 1) (by omega) (by omega), within_f (by omega) (by omega) (by omega) (by omega), Option.bind_some]
  generalize 0 + p4 % ((out.length : Int) - 1 - 0 + 1) = p at g ⊢
  rw [if_pos (show 0 ≤ p ∧ p < (out.length : Int) by omega)]
  refine key _ (by simp) (fun y hy => ?_) (fun h0 => ?_)
  · rcases List.mem_or_eq_of_mem_set hy with q | q
    · exact hout y q
    · rw [q]; exact wu8_in _
  · rw [h0, xor0 (by have := hout _ (rd_mem (a := out) (i := p) (by omega) (by omega)); unfold inU8 at this; omega), set_self (by omega) (by omega)]
end Go.Proofs.YtonjonpepfepfaaDoor
