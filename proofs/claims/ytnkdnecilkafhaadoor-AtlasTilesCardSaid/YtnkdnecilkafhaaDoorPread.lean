import Derived.Test.YtnkdnecilkafhaaDoorPrepeat
import Derived.Test.YtnkdnecilkafhaaDoorErrs
namespace Go.Proofs.YtnkdnecilkafhaaDoor
open Go.Hx

theorem rd_sub {L : List Int} {lo hi j : Int} (h0 : 0 ≤ lo) (j0 : 0 ≤ j) (j1 : lo + j < hi) : rd (sub' L lo hi) j = rd L (lo + j) := by
  unfold rd sub'
  rw [List.getD_eq_getElem?_getD, List.getD_eq_getElem?_getD, List.getElem?_take_of_lt (by omega), List.getElem?_drop, show (lo + j).toNat = lo.toNat + j.toNat by omega]
theorem sub_len {L : List Int} {lo hi : Int} (h0 : 0 ≤ lo) (h1 : lo ≤ hi) (h2 : hi ≤ L.length) : ((sub' L lo hi).length : Int) = hi - lo := by rw [sub_length ⟨h0, h1, h2⟩]; omega
theorem sub_mem {L : List Int} {lo hi : Int} {P : Int → Prop} (h : ∀ y ∈ L, P y) : ∀ y ∈ sub' L lo hi, P y := fun y hy => h y (List.mem_of_mem_drop (List.mem_of_mem_take hy))
theorem take_short {b : List Int} {a n : Int} (hb : b.length ≤ 100000) (a0 : 0 ≤ a) (a1 : a ≤ b.length) (h : b.length < a + n) : pack_reader_take.f ⟨b, a⟩ n = some ([], .glob 2, ⟨b, a⟩) := by
  unfold pack_reader_take.f
  simp only
  rw [w64_id (x := _ - a) (by omega) (by omega), if_pos (by omega)]
theorem take_ok {b : List Int} {a n : Int} (hb : b.length ≤ 100000) (a0 : 0 ≤ a) (n0 : 0 ≤ n) (h : a + n ≤ b.length) : pack_reader_take.f ⟨b, a⟩ n = some (sub' b a (a + n), .nil, ⟨b, a + n⟩) := by
  unfold pack_reader_take.f
  simp only
  rw [w64_id (x := _ - a) (by omega) (by omega), if_neg (by omega), w64_id (x := a + n) (by omega) (by omega), w64_id (x := a + n - n) (by omega) (by omega), if_pos (by omega), show a + n - n = a by omega]

inductive Res where
  | short : Res
  | form : Res
  | ok : List Int → Int → Res
def PL (b : List Int) : Res → Option (Sum (List Int × Er × pack_reader) (List Int × Int)) → Prop
  | .short, o => ∃ q, o = some (.inl ([], .glob 2, ⟨b, q⟩))
  | .form, o => ∃ q, o = some (.inl ([], .glob 1, ⟨b, q⟩))
  | .ok x p, o => o = some (.inr (x, p))
def RL : Res → Option (Sum (api_Map × Int × Int) (List Int × Int)) → Prop
  | .short, o => o = some (.inl (⟨0, 0, []⟩, 0, 2))
  | .form, o => o = some (.inl (⟨0, 0, []⟩, 0, 3))
  | .ok x p, o => o = some (.inr (x, p))
theorem u8 {b : List Int} (hb : ∀ y ∈ b, inU8 y) {i : Int} (h0 : 0 ≤ i) (h1 : i < b.length) : 0 ≤ rd b i ∧ rd b i ≤ 255 := by
  have := hb _ (rd_mem h0 h1)
  unfold inU8 at this
  omega
theorem l2_f {b : List Int} (hb : ∀ y ∈ b, inU8 y) {a : Int} (a0 : 0 ≤ a) (a1 : a + 1 < b.length) (hl : b.length ≤ 100000) : ∀ (n k : Nat) (x : List Int) (i : Int), i + n = rd b a + 1 → 0 ≤ i → n < k → x.length + n ≤ 100000 →
    ref1_GetTile.l2 k b a x i = some (.inr (x ++ List.replicate n (rd b (a + 1)))) := by
  have hu := u8 hb a0 (by omega)
  intro n
  induction n with
  | zero =>
    intro k x i hi i0 hk hx
    obtain ⟨k, rfl⟩ := kpos hk
    rw [ref1_GetTile.l2, w64_id (x := rd b a) (by omega) (by omega), w64_id (by omega) (by omega), if_neg (by omega)]; simp
  | succ n ih =>
    intro k x i hi i0 hk hx
    obtain ⟨k, rfl⟩ := kpos hk
    rw [ref1_GetTile.l2, w64_id (x := rd b a) (by omega) (by omega), w64_id (x := rd b a + 1) (by omega) (by omega), if_pos (by omega), if_pos (by omega), w64_id (x := i + 1) (by omega) (by omega), w64_id (x := a + 1) (by omega) (by omega), ih k _ (i + 1) (by omega) (by omega) (by omega) (by simp; omega)]
    simp [List.replicate_succ]
theorem runs_joint {b : List Int} (hb : ∀ y ∈ b, inU8 y) (hl : b.length ≤ 100000) {w h n : Int} (hn : w64 (w * h) = n) (n1 : 1 ≤ n ∧ n ≤ 256) (c : Int) : ∀ (m k1 k2 : Nat) (x : List Int) (a : Int), n = x.length + m → 0 ≤ a → a ≤ b.length → m < k1 → m < k2 → (∀ y ∈ x, 1 ≤ y ∧ y ≤ 255) →
    ∃ r, PL b r (pack_reader_runs.l0 k1 ⟨b, c⟩ n a x) ∧ RL r (ref1_GetTile.l1 k2 b w h x a) ∧ ∀ y p, r = .ok y p → (y.length : Int) = n ∧ (∀ z ∈ y, 1 ≤ z ∧ z ≤ 255) ∧ 0 ≤ p ∧ p ≤ b.length := by
  intro m
  induction m using Nat.strongRecOn with
  | _ m ih =>
    intro k1 k2 x a hm a0 a1 hk1 hk2 hx
    obtain ⟨k1, rfl⟩ := kpos hk1
    obtain ⟨k2, rfl⟩ := kpos hk2
    rw [pack_reader_runs.l0, ref1_GetTile.l1, hn]
    by_cases h0 : m = 0
    · rw [if_neg (by omega), if_neg (by omega)]
      refine ⟨.ok x a, rfl, rfl, fun y p e => ?_⟩
      injection e with e1 e2
      subst e1; subst e2
      exact ⟨by omega, hx, a0, a1⟩
    · rw [if_pos (by omega), if_pos (by omega), w64_id (x := (b.length : Int) - a) (by omega) (by omega)]
      by_cases hs : (b.length : Int) - a < 2
      · rw [take_short hl a0 a1 (by omega), if_pos hs]
        exact ⟨.short, ⟨a, rfl⟩, rfl, fun y p e => by cases e⟩
      · have ha2 : a + 2 ≤ b.length := by omega
        rw [take_ok hl a0 (by omega) ha2, if_neg hs, Option.bind_some]
        simp only [Er.isNil, Bool.not_true, Bool.false_eq_true, if_false]
        have r0 : rd (sub' b a (a + 2)) 0 = rd b a := by rw [rd_sub a0 (by omega) (by omega), Int.add_zero]
        have r1 : rd (sub' b a (a + 2)) 1 = rd b (a + 1) := by rw [rd_sub a0 (by omega) (by omega)]
        have sl : ((sub' b a (a + 2)).length : Int) = 2 := by rw [sub_len a0 (by omega) ha2]; omega
        have u0 := u8 hb a0 (show a < b.length by omega)
        have u1 := u8 hb (i := a + 1) (by omega) (by omega)
        rw [sl, r0, r1, if_pos (by omega), if_pos (by omega), w64_id (x := rd b a) (by omega) (by omega), w64_id (x := rd b a + 1) (by omega) (by omega), w64_id (x := n - _) (by omega) (by omega), w64_id (x := a + 1) (by omega) (by omega), w64_id (x := (x.length : Int) + _) (by omega) (by omega), if_pos (show 0 ≤ a ∧ a < (b.length : Int) by omega), if_pos (show 0 ≤ a + 1 ∧ a + 1 < (b.length : Int) by omega)]
        have bad : ∃ r, PL b r (some (.inl ([], .glob 1, ⟨b, a + 2⟩))) ∧ RL r (some (.inl (⟨0, 0, []⟩, 0, 3))) ∧ ∀ y p, r = .ok y p → (y.length : Int) = n ∧ (∀ z ∈ y, 1 ≤ z ∧ z ≤ 255) ∧ 0 ≤ p ∧ p ≤ b.length := ⟨.form, ⟨_, rfl⟩, rfl, fun y p e => by cases e⟩
        by_cases z : rd b (a + 1) = 0
        · rw [z]
          exact bad
        · have z' : (rd b (a + 1) == 0) = false := by simpa using z
          simp only [z', Bool.false_or, Bool.false_eq_true, if_false]
          by_cases g : rd b a + 1 > n - x.length
          · rw [if_pos (by simpa using g), if_pos (by omega)]
            exact bad
          · have g' : decide (rd b a + 1 > n - x.length) = false := by simpa using g
            have go : ∃ r, PL b r ((bytes_Repeat.f [rd b (a + 1)] (rd b a + 1)).bind fun v12 => if x.length + v12.length ≤ 1099511627776 then pack_reader_runs.l0 k1 ⟨b, c⟩ n (a + 2) (x ++ v12) else none) ∧
                RL r ((ref1_GetTile.l2 fuel b a x 0).bind fun zz => match zz with | Sum.inl q => some (Sum.inl q) | Sum.inr x18 => ref1_GetTile.l1 k2 b w h x18 (w64 (a + 2))) ∧ ∀ y p, r = .ok y p → (y.length : Int) = n ∧ (∀ z ∈ y, 1 ≤ z ∧ z ≤ 255) ∧ 0 ≤ p ∧ p ≤ b.length := by
              rw [repeat1 (by omega), Option.bind_some, l2_f hb a0 (by omega) hl (rd b a + 1).toNat fuel x 0 (by omega) (by omega) (by rw [fuel_eq]; omega) (by omega), Option.bind_some, if_pos (by simp; omega), w64_id (x := a + 2) (by omega) (by omega)]
              exact ih (m - (rd b a + 1).toNat) (by omega) k1 k2 _ (a + 2) (by simp; omega) (by omega) (by omega) (by omega) (by omega) (fun y hy => by
                rw [List.mem_append] at hy
                rcases hy with hy | hy
                · exact hx y hy
                · rw [List.mem_replicate] at hy; rw [hy.2]; omega)
            simp only [g', Bool.false_eq_true, if_false]
            rw [if_neg (show ¬ ((x.length : Int) + (rd b a + 1) > n) by omega)]
            by_cases hz : (x.length : Int) > 0
            · rw [if_pos hz, w64_id (x := (x.length : Int) - 1) (by omega) (by omega), if_pos (by omega), Option.bind_some]
              by_cases hq : rd x ((x.length : Int) - 1) = rd b (a + 1)
              · rw [hq]
                simp only [beq_self_eq_true, if_true, Option.bind_some]
                exact bad
              · have hq' : (rd x ((x.length : Int) - 1) == rd b (a + 1)) = false := by simpa using hq
                simp only [hq', Bool.false_eq_true, if_false, Option.bind_some]
                exact go
            · rw [if_neg hz]
              simp only [Bool.false_eq_true, if_false, Option.bind_some]
              exact go
theorem enc_dec {C b : List Int} (hC : ∀ y ∈ C, 1 ≤ y ∧ y ≤ 255) (hl : C.length ≤ 256) (hb : b.length ≤ 100000) (c : Int) {i : Int} {L : List Int} (he : Enc C i L) : ∀ (a : Int) (k : Nat), 0 ≤ i → i ≤ C.length → C.length - i < k → 0 ≤ a → a ≤ b.length →
    (∀ j : Int, 0 ≤ j → j < L.length → a + j < b.length → rd b (a + j) = rd L j) → (i = 0 ∨ i = C.length ∨ rd C (i - 1) ≠ rd C i) →
    (a + L.length ≤ b.length → pack_reader_runs.l0 k ⟨b, c⟩ C.length a (C.take i.toNat) = some (.inr (C, a + L.length))) ∧
    (¬ a + L.length ≤ b.length → ∃ q, pack_reader_runs.l0 k ⟨b, c⟩ C.length a (C.take i.toNat) = some (.inl ([], .glob 2, ⟨b, q⟩))) := by
  induction he with
  | done =>
    intro a k i0 i1 hk a0 a1 hag hst
    obtain ⟨k, rfl⟩ : ∃ q, k = q + 1 := ⟨k - 1, by omega⟩
    rw [pack_reader_runs.l0, if_neg (by simp)]
    exact ⟨fun _ => by simp, fun q => absurd (by simpa using a1) q⟩
  | @run i e L i0' e1 hie same stop rest ih =>
    intro a k i0 i1 hk a0 a1 hag hst
    obtain ⟨k, rfl⟩ : ∃ q, k = q + 1 := ⟨k - 1, by omega⟩
    have htl : ((C.take i.toNat).length : Int) = i := by simp; omega
    rw [pack_reader_runs.l0, htl, if_pos (by omega)]
    by_cases hs : (b.length : Int) < a + 2
    · rw [take_short hb a0 a1 hs]
      exact ⟨fun q => by simp at q; omega, fun _ => ⟨a, rfl⟩⟩
    · have ha2 : a + 2 ≤ b.length := by omega
      rw [take_ok hb a0 (by omega) ha2, Option.bind_some]
      simp only [Er.isNil, Bool.not_true, Bool.false_eq_true, if_false]
      have r0 : rd (sub' b a (a + 2)) 0 = e - 1 := by
        rw [rd_sub a0 (by omega) (by omega), hag 0 (by omega) (by simp; omega) (by omega)]; rfl
      have r1 : rd (sub' b a (a + 2)) 1 = rd C i := by
        rw [rd_sub a0 (by omega) (by omega), hag 1 (by omega) (by simp; omega) (by omega)]; rfl
      have sl : ((sub' b a (a + 2)).length : Int) = 2 := by rw [sub_len a0 (by omega) ha2]; omega
      have hci := hC _ (rd_mem i0 (show i < (C.length : Int) by omega))
      rw [sl, r0, r1, if_pos (by omega), if_pos (by omega), w64_id (x := e - 1) (by omega) (by omega), w64_id (x := e - 1 + 1) (by omega) (by omega), w64_id (x := (C.length : Int) - i) (by omega) (by omega)]
      have z' : (rd C i == 0) = false := by simp; omega
      have g' : decide (e - 1 + 1 > (C.length : Int) - i) = false := by simp; omega
      simp only [z', g', Bool.false_or, Bool.false_eq_true, if_false]
      have go : ((a + (((e - 1) :: rd C i :: L).length : Nat) ≤ b.length → ((bytes_Repeat.f [rd C i] (e - 1 + 1)).bind fun v12 => if (C.take i.toNat).length + v12.length ≤ 1099511627776 then pack_reader_runs.l0 k ⟨b, c⟩ C.length (a + 2) (C.take i.toNat ++ v12) else none) = some (.inr (C, a + (((e - 1) :: rd C i :: L).length : Nat))))) ∧
          (¬ a + (((e - 1) :: rd C i :: L).length : Nat) ≤ b.length → ∃ q, ((bytes_Repeat.f [rd C i] (e - 1 + 1)).bind fun v12 => if (C.take i.toNat).length + v12.length ≤ 1099511627776 then pack_reader_runs.l0 k ⟨b, c⟩ C.length (a + 2) (C.take i.toNat ++ v12) else none) = some (.inl ([], .glob 2, ⟨b, q⟩))) := by
        have htk : C.take i.toNat ++ List.replicate (e - 1 + 1).toNat (rd C i) = C.take (i + e).toNat := by
          refine rdext (by simp; omega) (fun j j0 j1 => ?_)
          have hlt : j < i + e := by simp at j1; omega
          have e2 : rd (C.take (i + e).toNat) j = rd C j := by
            unfold rd
            rw [List.getD_eq_getElem?_getD, List.getD_eq_getElem?_getD, List.getElem?_take_of_lt (by omega)]
          rw [e2]
          by_cases hj : j < i
          · rw [rdl j0 (by omega)]
            unfold rd
            rw [List.getD_eq_getElem?_getD, List.getD_eq_getElem?_getD, List.getElem?_take_of_lt (by omega)]
          · rw [rdr (by omega), rdrep (by omega) (by omega), same j (by omega) hlt]
        rw [repeat1 (by omega), Option.bind_some, if_pos (by simp; omega), htk]
        have := ih (a + 2) k (by omega) (by omega) (by omega) (by omega) ha2 (fun j j0 j1 j2 => by
          have := hag (j + 2) (by omega) (by simp; omega) (by omega)
          rw [show a + 2 + j = a + (j + 2) by omega, this]
          unfold rd
          rw [show (j + 2).toNat = j.toNat + 2 by omega]; rfl) (by
          rcases stop with h | h
          · exact .inr (.inl h)
          · refine .inr (.inr ?_)
            rw [same (i + e - 1) (by omega) (by omega)]
            exact fun q => h q.symm)
        have e3 : a + (((e - 1) :: rd C i :: L).length : Nat) = a + 2 + L.length := by simp; omega
        rw [e3]
        exact this
      by_cases hz : i > 0
      · rw [if_pos hz, w64_id (x := i - 1) (by omega) (by omega), if_pos (by omega)]
        have e2 : rd (C.take i.toNat) (i - 1) = rd C (i - 1) := by
          unfold rd
          rw [List.getD_eq_getElem?_getD, List.getD_eq_getElem?_getD, List.getElem?_take_of_lt (by omega)]
        have hne : rd C (i - 1) ≠ rd C i := by
          rcases hst with h | h | h
          · omega
          · omega
          · exact h
        have hq' : (rd (C.take i.toNat) (i - 1) == rd C i) = false := by rw [e2]; simpa using hne
        simp only [hq', Bool.false_eq_true, if_false, Option.bind_some]
        exact go
      · rw [if_neg hz]
        simp only [Bool.false_eq_true, if_false, Option.bind_some]
        exact go
end Go.Proofs.YtnkdnecilkafhaaDoor
