import Derived.Test.YtnkdnecilkafhaaDoorPwhere
import Derived.Test.YtnkdnecilkafhaaDoorFref1
import Derived.Test.YtnkdnecilkafhaaDoorFtile
import Derived.Test.YtnkdnecilkafhaaDoorFpack
namespace Go.Proofs.YtnkdnecilkafhaaDoor
open Go.Hx

theorem wu32_id {x : Int} (h1 : 0 ≤ x) (h2 : x ≤ 4294967295) : wu32 x = x := by
  unfold wu32 IntKind.wrap IntKind.signed IntKind.bits
  simp
  omega
theorem wu32_in (x : Int) : 0 ≤ wu32 x ∧ wu32 x ≤ 4294967295 := by
  unfold wu32 IntKind.wrap IntKind.signed IntKind.bits
  simp
  omega
theorem fuel_eq : fuel = 18446744073709551616 := by unfold fuel; rfl
theorem rd_set {α : Type} [Inhabited α] {L : List α} {i c : Int} {v : α} (h0 : 0 ≤ i) (h1 : i < L.length) (c0 : 0 ≤ c) : rd (List.set L i.toNat v) c = if c = i then v else rd L c := by
  unfold rd
  by_cases hc : c = i
  · subst hc; rw [if_pos rfl]; simp [List.getD, show c.toNat < L.length by omega]
  · rw [if_neg hc]
    have : i.toNat ≠ c.toNat := by omega
    simp [List.getD, this]
theorem rd_append {α : Type} [Inhabited α] {L : List α} {v : α} {c : Int} (c0 : 0 ≤ c) (h : c ≤ L.length) : rd (L ++ [v]) c = if c = L.length then v else rd L c := by
  unfold rd
  by_cases hc : c = L.length
  · rw [if_pos hc, hc]; simp [List.getD]
  · rw [if_neg hc]
    simp [List.getD, List.getElem?_append_left (show c.toNat < L.length by omega)]
theorem rd_rep {α : Type} [Inhabited α] {n : Nat} {v : α} {c : Int} (c0 : 0 ≤ c) (h : c < n) : rd (List.replicate n v) c = v := by
  unfold rd
  simp [List.getD, show c.toNat < n by omega]

theorem drop_rd {α : Type} [Inhabited α] {a : List α} {i : Int} (h0 : 0 ≤ i) (h1 : i < a.length) : a.drop i.toNat = rd a i :: a.drop (i + 1).toNat := by
  have hlt : i.toNat < a.length := by omega
  rw [rd_eq hlt, show (i + 1).toNat = i.toNat + 1 by omega]
  exact List.drop_eq_getElem_cons hlt
theorem rd_mem {α : Type} [Inhabited α] {a : List α} {i : Int} (h0 : 0 ≤ i) (h1 : i < a.length) : rd a i ∈ a := by
  rw [rd_eq (by omega)]; exact List.getElem_mem _
theorem index_l (s : List Int) (v : Int) (hb : s.length ≤ 4611686018427387904) : ∀ (n k : Nat) (i : Int), i + n = s.length → 0 ≤ i → n < k →
    ∃ r, slices_Index_byte_byte.l0 k s v i = some r ∧ (0 ≤ r ↔ v ∈ s.drop i.toNat) := by
  intro n
  induction n with
  | zero =>
    intro k i hi h0 hk
    obtain ⟨k, rfl⟩ : ∃ q, k = q + 1 := ⟨k - 1, by omega⟩
    rw [slices_Index_byte_byte.l0, if_neg (by omega), List.drop_of_length_le (by omega)]
    exact ⟨_, rfl, by simp⟩
  | succ n ih =>
    intro k i hi h0 hk
    obtain ⟨k, rfl⟩ : ∃ q, k = q + 1 := ⟨k - 1, by omega⟩
    rw [slices_Index_byte_byte.l0, if_pos (by omega), if_pos (by omega), drop_rd h0 (by omega)]
    by_cases he : v = rd s i
    · rw [if_pos (by simpa using he)]
      exact ⟨_, rfl, by simp [he, h0]⟩
    · rw [if_neg (by simpa using he), w64_id (by omega) (by omega)]
      obtain ⟨r, h1, h2⟩ := ih k (i + 1) (by omega) (by omega) (by omega)
      exact ⟨r, h1, by rw [h2]; simp [he]⟩
theorem contains_f (s : List Int) (v : Int) (hb : s.length < 4611686018427387904) : slices_Contains_byte_byte.f s v = some (decide (v ∈ s)) := by
  unfold slices_Contains_byte_byte.f slices_Index_byte_byte.f
  obtain ⟨r, h1, h2⟩ := index_l s v (by omega) s.length fuel 0 (by omega) (by omega) (by rw [fuel_eq]; omega)
  rw [h1, Option.bind_some]
  congr 1
  rw [Bool.eq_iff_iff]; simpa using h2
theorem full_l (s : List Int) (hb : s.length ≤ 4611686018427387904) : ∀ (n k : Nat) (i : Int), i + n = s.length → 0 ≤ i → n < k → ref1_full.l0 k s i = some (decide (0 ∉ s.drop i.toNat)) := by
  intro n
  induction n with
  | zero =>
    intro k i hi h0 hk
    obtain ⟨k, rfl⟩ : ∃ q, k = q + 1 := ⟨k - 1, by omega⟩
    rw [ref1_full.l0, if_neg (by omega), List.drop_of_length_le (by omega)]; simp
  | succ n ih =>
    intro k i hi h0 hk
    obtain ⟨k, rfl⟩ : ∃ q, k = q + 1 := ⟨k - 1, by omega⟩
    rw [ref1_full.l0, if_pos (by omega), if_pos (by omega), drop_rd h0 (by omega)]
    by_cases he : rd s i = 0
    · rw [if_pos (by simpa using he)]; simp [he]
    · rw [if_neg (by simpa using he), w64_id (by omega) (by omega), ih k (i + 1) (by omega) (by omega) (by omega)]
      congr 1
      rw [Bool.eq_iff_iff]; simp; intro _ h; exact he h.symm
theorem full_f (s : List Int) (hb : s.length < 4611686018427387904) : ref1_full.f s = some (decide (0 ∉ s)) := by
  unfold ref1_full.f
  rw [full_l s (by omega) s.length fuel 0 (by omega) (by omega) (by rw [fuel_eq]; omega)]; simp
theorem wu8_id {x : Int} (h1 : 0 ≤ x) (h2 : x ≤ 255) : wu8 x = x := by
  unfold wu8 IntKind.wrap IntKind.signed IntKind.bits
  simp
  omega
theorem refcost_f {x : Int} (h0 : 0 ≤ x) (h1 : x ≤ 255) : ∃ v, ref1_Cost.f x = some v ∧ 1 ≤ v ∧ v ≤ 255 := by
  unfold ref1_Cost.f
  rw [tmod_pos h0, tmod_pos h0]
  by_cases h7 : x % 8 = 7
  · rw [if_pos (by simpa using h7)]; exact ⟨_, rfl, by omega, by omega⟩
  · rw [if_neg (by simpa using h7)]
    by_cases h2 : x < 160
    · rw [if_pos h2, wu8_id (by omega) (by omega)]; exact ⟨_, rfl, by omega, by omega⟩
    · rw [if_neg h2]; exact ⟨_, rfl, by omega, by omega⟩

def TileOk (t : api_Map) : Prop := 1 ≤ t.W ∧ t.W ≤ 16 ∧ 1 ≤ t.H ∧ t.H ≤ 16 ∧ (t.C.length : Int) = t.W * t.H ∧ 0 ∉ t.C
instance (t : api_Map) : Decidable (TileOk t) := by unfold TileOk; infer_instance
theorem tile_len {t : api_Map} (h : TileOk t) : 1 ≤ t.C.length ∧ t.C.length ≤ 256 := by
  obtain ⟨a, b, c, d, e, _⟩ := h
  have h1 : t.W * t.H ≤ 16 * 16 := mul_le (by omega) (by omega) b d
  have h2 : 1 * 1 ≤ t.W * t.H := mul_le (by omega) (by omega) a c
  omega
theorem tmay_f (t : api_Map) (hb : t.C.length < 4611686018427387904) : tile_May.f t = some (decide (TileOk t)) := by
  unfold tile_May.f tile_sized.f
  simp only [Option.bind_some]
  by_cases hw : 1 ≤ t.W ∧ t.W ≤ 16
  · by_cases hh : 1 ≤ t.H ∧ t.H ≤ 16
    · have h1 : t.W * t.H ≤ 16 * 16 := mul_le (by omega) (by omega) hw.2 hh.2
      have h2 : 0 ≤ t.W * t.H := mul_nn (by omega) (by omega)
      rw [if_pos (by simp; omega), if_pos (by simp; omega), w64_id (by omega) (by omega), contains_f _ _ hb]
      by_cases hl : (t.C.length : Int) = t.W * t.H
      · rw [if_pos (by simpa using hl)]
        simp only [Option.bind_some]
        congr 1
        rw [Bool.eq_iff_iff]
        simp [TileOk, hw, hh, hl]
      · rw [if_neg (by simpa using hl), decide_eq_false (fun q => hl q.2.2.2.2.1)]; rfl
    · rw [if_pos (by simp; omega), if_neg (by simp; omega), decide_eq_false (fun q => hh ⟨q.2.2.1, q.2.2.2.1⟩)]; rfl
  · rw [if_neg (by simp; omega), decide_eq_false (fun q => hw ⟨q.1, q.2.1⟩)]; rfl
/-- how far a run goes -/
theorem run_l {c : List Int} (hc : c.length ≤ 100000) {a : Int} (a0 : 0 ≤ a) (a1 : a < c.length) : ∀ (n k : Nat) (x : Int), a + x + n = c.length → 1 ≤ x → n < k → (∀ j : Int, a ≤ j → j < a + x → rd c j = rd c a) →
    ∃ e, ref1_runs.l1 k c a x = some e ∧ x ≤ e ∧ a + e ≤ c.length ∧ (∀ j : Int, a ≤ j → j < a + e → rd c j = rd c a) ∧ (a + e = c.length ∨ rd c (a + e) ≠ rd c a) := by
  intro n
  induction n with
  | zero =>
    intro k x hx x1 hk hr
    obtain ⟨k, rfl⟩ := kpos hk
    refine ⟨x, ?_, by omega, by omega, hr, .inl (by omega)⟩
    rw [ref1_runs.l1, w64_id (by omega) (by omega), if_neg (c := a + x < _) (by omega), Option.bind_some, if_neg (by simp)]
  | succ n ih =>
    intro k x hx x1 hk hr
    obtain ⟨k, rfl⟩ := kpos hk
    rw [ref1_runs.l1, w64_id (x := a + x) (by omega) (by omega), if_pos (by omega), if_pos (by omega), if_pos (by omega), Option.bind_some]
    by_cases hq : rd c (a + x) = rd c a
    · rw [if_pos (by simpa using hq), w64_id (by omega) (by omega)]
      obtain ⟨e, h1, h2, h3, h4, h5⟩ := ih k (x + 1) (by omega) (by omega) (by omega) (fun j j0 j1 => by
        by_cases hj : j = a + x
        · rw [hj, hq]
        · exact hr j j0 (by omega))
      exact ⟨e, h1, by omega, h3, h4, h5⟩
    · rw [if_neg (by simpa using hq)]
      exact ⟨x, rfl, by omega, by omega, hr, .inr hq⟩
/-- the runs of costs, from a place on -/
inductive Enc (c : List Int) : Int → List Int → Prop
  | done : Enc c c.length []
  | run {a e : Int} {L : List Int} (a0 : 0 ≤ a) (e1 : 1 ≤ e) (he : a + e ≤ c.length) (same : ∀ j : Int, a ≤ j → j < a + e → rd c j = rd c a) (stop : a + e = c.length ∨ rd c (a + e) ≠ rd c a) (rest : Enc c (a + e) L) : Enc c a ((e - 1) :: rd c a :: L)
theorem runs_l {c : List Int} (hc : c.length ≤ 256) : ∀ (n k : Nat) (a : Int) (x : List Int), a + n = c.length → 0 ≤ a → n < k → x.length ≤ 1 + 2 * a.toNat →
    ∃ L, ref1_runs.l0 k c x a = some (x ++ L) ∧ (n = 0 → L = []) ∧ L.length ≤ 2 * n ∧ (∃ q, L.length = 2 * q) ∧ (0 < n → 2 ≤ L.length ∧ (L.length = 2 ↔ ∀ j : Int, a ≤ j → j < c.length → rd c j = rd c a)) ∧ Enc c a L := by
  intro n
  induction n using Nat.strongRecOn with
  | _ n ih =>
    intro k a x ha a0 hk hx
    obtain ⟨k, rfl⟩ := kpos hk
    by_cases hn : n = 0
    · subst hn
      have : a = c.length := by omega
      refine ⟨[], by rw [ref1_runs.l0, if_neg (by omega)]; simp, fun _ => rfl, by simp, ⟨0, rfl⟩, fun q => by omega, by rw [this]; exact .done⟩
    · have a1 : a < (c.length : Int) := by omega
      obtain ⟨e, h1, h2, h3, h4, h5⟩ := run_l (c := c) (by omega) a0 a1 (n - 1) fuel 1 (by omega) (by omega) (by rw [fuel_eq]; omega) (fun j j0 j1 => by rw [show j = a by omega])
      have ewu : wu8 (w64 (e - 1)) = e - 1 := by rw [w64_id (by omega) (by omega), wu8_id (by omega) (by omega)]
      obtain ⟨L, e1, e2, e3, ⟨q, e4⟩, e5, e6⟩ := ih (n - e.toNat) (by omega) k (a + e) (x ++ [e - 1, rd c a]) (by omega) (by omega) (by omega) (by simp; omega)
      refine ⟨(e - 1) :: rd c a :: L, ?_, fun q => by omega, by simp; omega, ⟨q + 1, by simp; omega⟩, fun _ => ⟨by simp, ?_⟩, .run a0 h2 h3 h4 h5 e6⟩
      · rw [ref1_runs.l0, if_pos a1, h1, Option.bind_some, if_pos ⟨a0, a1⟩, if_pos (by omega), w64_id (x := a + e) (by omega) (by omega), ewu]
        simp only [Option.bind_some]
        rw [e1]
        simp
      · constructor
        · intro hl
          have hl2 : L.length = 0 := by simp at hl; simp [hl]
          have hend : a + e = c.length := by
            by_cases hz : n - e.toNat = 0
            · omega
            · have := (e5 (by omega)).1; omega
          intro j j0 j1
          exact h4 j j0 (by omega)
        · intro hall
          have hend : a + e = c.length := by
            rcases h5 with h5 | h5
            · exact h5
            · by_cases hz : a + e = c.length
              · exact hz
              · exact absurd (hall (a + e) (by omega) (by omega)) h5
          have := e2 (by omega)
          rw [this]; rfl
theorem put_l1 (t : api_Map) : ∀ (k : Nat) (a x : Int), pack_put.l1 k t a x = ref1_runs.l1 k t.C a x := by
  intro k
  induction k with
  | zero => intro a x; rfl
  | succ k ih => intro a x; simp only [pack_put.l1, ref1_runs.l1, ih]
theorem put_l0 (t : api_Map) : ∀ (k : Nat) (x : List Int) (a : Int), pack_put.l0 k t x a = ref1_runs.l0 k t.C x a := by
  intro k
  induction k with
  | zero => intro x a; rfl
  | succ k ih => intro x a; simp only [pack_put.l0, ref1_runs.l0, ih, put_l1]
/-- all costs alike -/
def uni (c : List Int) : Prop := ∀ j : Int, 0 ≤ j → j < c.length → rd c j = rd c 0
theorem contains_diff (t : api_Map) (h1 : 1 ≤ t.C.length) (hb : t.C.length ≤ 100000) : ∃ b, slices_ContainsFunc_byte_byte.f t.C t = some b ∧ (b = false ↔ uni t.C) := by
  unfold slices_ContainsFunc_byte_byte.f slices_IndexFunc_byte_byte.f
  have key : ∀ (n k : Nat) (i : Int), i + n = t.C.length → 0 ≤ i → n < k → ∃ r, slices_IndexFunc_byte_byte.l0 k t.C t i = some r ∧ (r < 0 ↔ ∀ j : Int, i ≤ j → j < t.C.length → rd t.C j = rd t.C 0) := by
    intro n
    induction n with
    | zero =>
      intro k i hi h0 hk
      obtain ⟨k, rfl⟩ := kpos hk
      exact ⟨-1, by rw [slices_IndexFunc_byte_byte.l0, if_neg (by omega)], ⟨fun _ j j0 j1 => by omega, fun _ => by omega⟩⟩
    | succ n ih =>
      intro k i hi h0 hk
      obtain ⟨k, rfl⟩ := kpos hk
      have e : pack_put_1.f (rd t.C i) t = some (rd t.C i != rd t.C 0) := by unfold pack_put_1.f; rw [if_pos (by omega)]
      rw [slices_IndexFunc_byte_byte.l0, if_pos (by omega), if_pos (by omega), e, Option.bind_some]
      by_cases hq : rd t.C i = rd t.C 0
      · rw [if_neg (by simpa using hq), w64_id (by omega) (by omega)]
        obtain ⟨r, r1, r2⟩ := ih k (i + 1) (by omega) (by omega) (by omega)
        refine ⟨r, r1, ?_⟩
        rw [r2]
        constructor
        · intro h j j0 j1
          by_cases hj : j = i
          · rw [hj, hq]
          · exact h j (by omega) j1
        · intro h j j0 j1; exact h j (by omega) j1
      · rw [if_pos (by simpa using hq)]
        exact ⟨i, rfl, ⟨fun h => by omega, fun h => absurd (h i (by omega) (by omega)) hq⟩⟩
  obtain ⟨r, r1, r2⟩ := key t.C.length fuel 0 (by omega) (by omega) (by rw [fuel_eq]; omega)
  rw [r1, Option.bind_some]
  refine ⟨_, rfl, ?_⟩
  unfold uni
  rw [← r2]
  simp
/-- what the least form is -/
structure Least (t : api_Map) (L : List Int) (f : Int) (out : List Int) : Prop where
  runs : ref1_runs.f t.C = some (2 :: L)
  two : L.length = 2 ↔ uni t.C
  even : ∃ q, L.length = 2 * q
  enc : Enc t.C 0 L
  ge : 2 ≤ L.length
  le : L.length ≤ 512
  uni0 : uni t.C → f = 0 ∧ out = [0, rd t.C 0]
  long : ¬ uni t.C → ¬ L.length < t.C.length → f = 1 ∧ out = 1 :: t.C
  short : ¬ uni t.C → L.length < t.C.length → f = 2 ∧ out = 2 :: L
theorem least_f (t : api_Map) (h1 : 1 ≤ t.C.length) (hb : t.C.length ≤ 256) : ∃ L f out, pack_least.f t = some (f, out) ∧ Least t L f out := by
  obtain ⟨L, e1, _, e3, e4, e5, e8⟩ := runs_l (c := t.C) (by omega) t.C.length fuel 0 [2] (by omega) (by omega) (by rw [fuel_eq]; omega) (by simp)
  have e5 := e5 (by omega)
  have e6 : L.length = 2 ↔ uni t.C := e5.2
  obtain ⟨b, c1, c2⟩ := contains_diff t h1 (by omega)
  obtain ⟨k, hk⟩ : ∃ k, fuel = k + 4 := ⟨fuel - 4, by rw [fuel_eq]⟩
  have p0 : pack_put.f t 0 = some (if b = true then [] else [0, rd t.C 0]) := by
    unfold pack_put.f
    have : wu8 0 = 0 := wu8_id (by omega) (by omega)
    rw [if_pos (by rfl), c1, Option.bind_some, this]
    cases b
    · rw [if_neg (by simp), if_pos (by omega), if_pos (by simp)]; rfl
    · rfl
  have p1 : pack_put.f t 1 = some (1 :: t.C) := by
    unfold pack_put.f
    have : wu8 1 = 1 := wu8_id (by omega) (by omega)
    rw [if_neg (by simp), if_pos (by rfl), this, if_pos (by simp; omega)]; rfl
  have p2 : pack_put.f t 2 = some (2 :: L) := by
    unfold pack_put.f
    have : wu8 2 = 2 := wu8_id (by omega) (by omega)
    rw [if_neg (by simp), if_neg (by simp), this, put_l0, e1]; rfl
  have n1 : w64 (0 + 1) = 1 := w64_id (by omega) (by omega)
  have n2 : w64 (1 + 1) = 2 := w64_id (by omega) (by omega)
  have n3 : w64 (2 + 1) = 3 := w64_id (by omega) (by omega)
  have hrun : ref1_runs.f t.C = some (2 :: L) := by unfold ref1_runs.f; rw [e1]; rfl
  unfold pack_least.f
  rw [hk, pack_least.l0, if_pos (by omega), p0, Option.bind_some, n1]
  by_cases hu : uni t.C
  · have hbf : b = false := c2.mpr hu
    subst hbf
    rw [if_neg (c := false = true) (by simp)]
    simp only [List.isEmpty_cons, List.isEmpty_nil, Bool.not_false, if_true, Option.bind_some]
    rw [pack_least.l0, if_pos (by omega), p1, Option.bind_some, n2]
    simp only [List.isEmpty_cons, Bool.not_false, if_true, Bool.false_eq_true, if_false, Option.bind_some]
    rw [if_neg (by simp; omega), pack_least.l0, if_pos (by omega), p2, Option.bind_some, n3]
    simp only [List.isEmpty_cons, Bool.not_false, if_true, Bool.false_eq_true, if_false, Option.bind_some]
    rw [if_neg (by simp; omega), pack_least.l0, if_neg (by omega)]
    exact ⟨L, 0, [0, rd t.C 0], rfl, ⟨hrun, e6, e4, e8, e5.1, by omega, fun _ => ⟨rfl, rfl⟩, fun q => absurd hu q, fun q => absurd hu q⟩⟩
  · have hbt : b = true := by
      cases hb : b
      · exact absurd (c2.mp hb) hu
      · rfl
    subst hbt
    simp only [if_true, List.isEmpty_nil, Bool.not_true, Bool.false_eq_true, if_false, Option.bind_some]
    rw [pack_least.l0, if_pos (by omega), p1, Option.bind_some, n2]
    simp only [List.isEmpty_cons, List.isEmpty_nil, Bool.not_false, if_true, Option.bind_some]
    rw [pack_least.l0, if_pos (by omega), p2, Option.bind_some, n3]
    simp only [List.isEmpty_cons, Bool.not_false, if_true, Bool.false_eq_true, if_false, Option.bind_some]
    by_cases hs : L.length < t.C.length
    · rw [if_pos (by simp; omega), pack_least.l0, if_neg (by omega)]
      exact ⟨L, 2, 2 :: L, rfl, ⟨hrun, e6, e4, e8, e5.1, by omega, fun q => absurd q hu, fun _ q => absurd hs q, fun _ _ => ⟨rfl, rfl⟩⟩⟩
    · rw [if_neg (by simp; omega), pack_least.l0, if_neg (by omega)]
      exact ⟨L, 1, 1 :: t.C, rfl, ⟨hrun, e6, e4, e8, e5.1, by omega, fun q => absurd q hu, fun _ _ => ⟨rfl, rfl⟩, fun _ q => absurd q hs⟩⟩
theorem put_ok {t : api_Map} (h : TileOk t) : ∃ L f out, pack_Put.f t = some (out, 0) ∧ Least t L f out := by
  have hl := tile_len h
  obtain ⟨L, f, out, e, hL⟩ := least_f t hl.1 hl.2
  refine ⟨L, f, out, ?_, hL⟩
  unfold pack_Put.f; rw [tmay_f t (by omega), decide_eq_true h, Option.bind_some, if_neg (by simp), e]; rfl
theorem put_no {t : api_Map} (hb : t.C.length < 4611686018427387904) (h : ¬ TileOk t) : pack_Put.f t = some ([], 1) := by
  unfold pack_Put.f; rw [tmay_f t hb, decide_eq_false h, Option.bind_some, if_pos (by simp)]
end Go.Proofs.YtnkdnecilkafhaaDoor
