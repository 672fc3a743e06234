import Derived.Test.YtnkdnecilkafhaaDoorFLAtlasReads
import Derived.Test.YtnkdnecilkafhaaDoorPjoin
namespace Go.Proofs.YtnkdnecilkafhaaDoor
open Go.Hx

theorem laid_l {b : List Int} (hb : ∀ y ∈ b, inU8 y) (hbl : b.length ≤ 1500) (p4 : Int) : ∀ (n k : Nat) (i : Int) (x : List Int), i + n = 3 → 0 ≤ i → n < k → 1 ≤ x.length → x.length ≤ 100000 → (∀ y ∈ x, inU8 y) →
    ∃ x', law4_AtlasReads.l0 k b p4 x i = some x' ∧ x'.length = x.length ∧ ∀ y ∈ x', inU8 y := by
  intro n
  induction n with
  | zero =>
    intro k i x hi i0 hk h1 h2 hx
    obtain ⟨k, rfl⟩ := kpos hk
    exact ⟨x, by rw [law4_AtlasReads.l0, if_neg (by simp; omega)], rfl, hx⟩
  | succ n ih =>
    intro k i x hi i0 hk h1 h2 hx
    obtain ⟨k, rfl⟩ := kpos hk
    rw [law4_AtlasReads.l0]
    by_cases hi2 : i < (b.length : Int)
    · have g := within_in (n := w64 (p4 + i)) (lo := 0) (hi := (x.length : Int) - 1) (by omega)
      rw [if_pos (by simp; omega), if_pos (by omega), w64_id (x := (x.length : Int) - 1) (by omega) (by omega), within_f (by omega) (by omega) (by omega) (by omega), Option.bind_some]
      generalize 0 + w64 (p4 + i) % ((x.length : Int) - 1 - 0 + 1) = p at g ⊢
      rw [if_pos (show 0 ≤ p ∧ p < (x.length : Int) by omega), w64_id (x := i + 1) (by omega) (by omega)]
      obtain ⟨x', e, l, u⟩ := ih k (i + 1) (List.set x p.toNat (rd b i)) (by omega) (by omega) (by omega) (by simpa using h1) (by simpa using h2) (fun y hy => by
        rcases List.mem_or_eq_of_mem_set hy with q | q
        · exact hx y q
        · rw [q]; exact hb _ (rd_mem i0 hi2))
      exact ⟨x', e, by rw [l]; simp, u⟩
    · exact ⟨x, by rw [if_neg (by simp; omega)], rfl, hx⟩
theorem AtlasReads_pure : law4_AtlasReads.Pure := by
  intro b w h c p4 raw hb _ _ hc _ hbl hcl
  unfold law4_AtlasReads.f
  by_cases hl : (b.length : Int) > 1500
  · rw [if_pos hl, told4]; rfl
  · rw [if_neg hl, if_pos (by simp; omega)]
    have start : ∃ x2, (if (!raw) = true then ((ref1_Made.f w h c).bind fun v4 => (ref1_PutMap.f v4).bind fun v5 => law4_AtlasReads.l0 fuel b p4 v5 0) else (some (([] : List Int) ++ b))) = some x2 ∧ x2.length ≤ 100000 ∧ ∀ y ∈ x2, inU8 y := by
      cases raw
      · obtain ⟨m, e, hm, hml, hbig⟩ := made_b w h hc
        have h6 := bytes_len hm
        obtain ⟨x', e2, l, u⟩ := laid_l hb (by omega) p4 3 fuel 0 (bytesOf m) (by omega) (by omega) (by rw [fuel_eq]; omega) (by omega) (by omega) (bytes_u8 hm)
        refine ⟨x', ?_, by omega, u⟩
        rw [if_pos (show (!false) = true from rfl), e, Option.bind_some, rput_f hm, Option.bind_some, e2]
      · exact ⟨b, by rw [if_neg (by simp)]; rfl, by omega, hb⟩
    obtain ⟨x2, e, hxl, hxb⟩ := start
    rw [e, Option.bind_some]
    have rest : (if List.length ([] : List Int) + List.length x2 ≤ 1099511627776 then ((atlas_Get.f x2).bind fun v15 => (ref1_GetMap.f x2).bind fun v16 => ((law4_told.f).bind fun v19 => if (v19 && (v15.2 == v16.2)) = true then ((ref1_SameMap.f v15.1 v16.1).bind fun v20 => if v20 = true then ((ref1_Bytes.f x2 (([] : List Int) ++ x2)).bind fun v21 => some v21) else (some false)) else (some false)).bind fun x17 => some x17) else none) = some true := by
      obtain ⟨res, g1, g2⟩ := get_same hxb hxl
      rw [if_pos (by simp; omega), g1, g2, told4]
      simp [same_f, ref1_Bytes.f, strEq_self]
    have cond : ∃ t, (if (List.length x2 : Int) ≥ 4 then (if (0 ≤ (0 : Int) ∧ (0 : Int) < (List.length x2 : Int)) then (if (0 ≤ (1 : Int) ∧ (1 : Int) < (List.length x2 : Int)) then (if (0 ≤ (2 : Int) ∧ (2 : Int) < (List.length x2 : Int)) then (if (0 ≤ (3 : Int) ∧ (3 : Int) < (List.length x2 : Int)) then (some (decide ((w64 ((w64 ((w64 (rd x2 0)) + (w64 (256 * (w64 (rd x2 1)))))) * (w64 ((w64 (rd x2 2)) + (w64 (256 * (w64 (rd x2 3)))))))) > 60000))) else none) else none) else none) else none) else (some false)) = some t := by
      by_cases h4 : (x2.length : Int) ≥ 4
      · rw [if_pos h4, if_pos (by omega), if_pos (by omega), if_pos (by omega), if_pos (by omega)]
        exact ⟨_, rfl⟩
      · rw [if_neg h4]; exact ⟨_, rfl⟩
    obtain ⟨t, et⟩ := cond
    rw [et, Option.bind_some]
    cases t
    · rw [if_neg (by simp)]; exact rest
    · rw [if_pos rfl, told4]; rfl
end Go.Proofs.YtnkdnecilkafhaaDoor
