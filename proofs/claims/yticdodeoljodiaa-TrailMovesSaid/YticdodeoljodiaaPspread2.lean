import Derived.Test.YticdodeoljodiaaPspread
namespace Go.Proofs.Yticdodeoljodiaa
open Go.Hx
set_option linter.unusedVariables false
set_option linter.unusedSimpArgs false

/-- how many cells are not told yet; how many wait -/
def uns (D : List Int) : Int := lsum (fun x => if x = (1099511627776 : Int) then 1 else 0) D
def tot (B : List (List Int)) : Int := lsum (fun l => (l.length : Int)) B
theorem len_nn (x : List Int) : (0 : Int) ≤ ((x.length : Nat) : Int) := by omega
theorem uns_nn (D : List Int) : 0 ≤ uns D := lsum_nn _ _ (fun x _ => by
  show (0 : Int) ≤ if x = (1099511627776 : Int) then 1 else 0
  split <;> omega)
theorem tot_mem {B : List (List Int)} {r : Int} (h0 : 0 ≤ r) (h1 : r < B.length) : ((rd B r).length : Int) ≤ tot B := lsum_mem (fun l : List Int => (l.length : Int)) B (fun (x : List Int) _ => len_nn x) (rdmem h0 h1)
theorem tot_set {B : List (List Int)} {r : Int} (l : List Int) (h0 : 0 ≤ r) (h1 : r < B.length) : tot (List.set B r.toNat l) = tot B - (rd B r).length + l.length := by
  unfold tot
  rw [lsum_set _ B r.toNat l (by omega), show ((r.toNat : Nat) : Int) = r by omega]
theorem uns_set {D : List Int} {c d : Int} (h0 : 0 ≤ c) (h1 : c < D.length) (hc : rd D c = (1099511627776 : Int)) (hd : d ≠ (1099511627776 : Int)) : uns (List.set D c.toNat d) = uns D - 1 := by
  unfold uns
  rw [lsum_set _ D c.toNat d (by omega), show ((c.toNat : Nat) : Int) = c by omega, hc]
  simp only [if_true]
  rw [if_neg hd]; omega

/-- where the spread stands ahead of distance d -/
structure Sp (m : api_Map) (t : Int) (D : List Int) (B : List (List Int)) (d h left : Int) : Prop where
  lenD : D.length = m.C.length
  lenB : B.length = 256
  d0 : 0 ≤ d
  fin : ∀ c : Int, inMap m c → rd D c ≠ (1099511627776 : Int) → 0 ≤ rd D c ∧ rd D c < d ∧ Way m t c (rd D c)
  low : ∀ c k : Int, Way m t c k → k < d → rd D c ≠ (1099511627776 : Int) ∧ rd D c ≤ k
  wait : ∀ c n s : Int, inMap m c → rd D c ≠ (1099511627776 : Int) → 0 ≤ s → s ≤ 3 → sStep m.W m.H n s = c → Opn m n → rd D n = (1099511627776 : Int) → d ≤ rd D c + rd m.C c ∧ n ∈ rd B ((rd D c + rd m.C c) % 256)
  start : rd D t = (1099511627776 : Int) → d = 0 ∧ t ∈ rd B 0
  ent : ∀ r : Int, 0 ≤ r → r < 256 → ∀ e : Int, e ∈ rd B r → ∃ κ : Int, κ % 256 = r ∧ d ≤ κ ∧ κ < h ∧ Way m t e κ
  hor : h ≤ d + 256
  cnt : left = tot B
  few : left + 4 * uns D ≤ 4 * m.C.length + 1
/-- within distance d: the first i of L are done -/
structure Sm (m : api_Map) (t : Int) (L : List Int) (i : Int) (D : List Int) (B : List (List Int)) (d h left : Int) : Prop where
  lenD : D.length = m.C.length
  lenB : B.length = 256
  d0 : 0 ≤ d
  fin : ∀ c : Int, inMap m c → rd D c ≠ (1099511627776 : Int) → 0 ≤ rd D c ∧ rd D c ≤ d ∧ Way m t c (rd D c)
  low : ∀ c k : Int, Way m t c k → k < d → rd D c ≠ (1099511627776 : Int) ∧ rd D c ≤ k
  wait : ∀ c n s : Int, inMap m c → rd D c ≠ (1099511627776 : Int) → 0 ≤ s → s ≤ 3 → sStep m.W m.H n s = c → Opn m n → rd D n = (1099511627776 : Int) → (d < rd D c + rd m.C c ∧ n ∈ rd B ((rd D c + rd m.C c) % 256)) ∨ (rd D c + rd m.C c = d ∧ n ∈ L.drop i.toNat)
  start : rd D t = (1099511627776 : Int) → d = 0 ∧ t ∈ L.drop i.toNat
  ent : ∀ r : Int, 0 ≤ r → r < 256 → ∀ e : Int, e ∈ rd B r → ∃ κ : Int, κ % 256 = r ∧ d < κ ∧ κ < h ∧ Way m t e κ
  hor : h ≤ d + 256
  cnt : left = tot B
  few : left + 4 * uns D ≤ 4 * m.C.length + 1

variable {m : api_Map} {t : Int}
theorem sp_begin (hm : MapOk m) (hc : CostOk m) {D : List Int} {B : List (List Int)} {d h left : Int} (hs : Sp m t D B d h left) :
    Sm m t (rd B (d % 256)) 0 D (List.set B (d % 256).toNat []) d h (left - (rd B (d % 256)).length) ∧ ∀ e ∈ rd B (d % 256), Way m t e d := by
  have hB := hs.lenB
  have hd0 := hs.d0
  have hr : 0 ≤ d % 256 ∧ d % 256 < 256 := by omega
  have hrd : ∀ r : Int, 0 ≤ r → rd (List.set B (d % 256).toNat []) r = if r = d % 256 then [] else rd B r := fun r r0 => rds hr.1 (by omega) r0
  refine ⟨⟨hs.lenD, by simpa using hB, hd0, fun c hc h => ?_, hs.low, fun c n s h1 h2 h3 h4 h5 h6 h7 => ?_, fun q => ?_, fun r r0 r1 e he => ?_, hs.hor, ?_, by have := hs.few; omega⟩, fun e he => ?_⟩
  · obtain ⟨a, b, c⟩ := hs.fin c hc h; exact ⟨a, by omega, c⟩
  · obtain ⟨a1, a2⟩ := hs.wait c n s h1 h2 h3 h4 h5 h6 h7
    obtain ⟨b0, b1, _⟩ := hs.fin c h1 h2
    have := hc c h1
    by_cases hq : rd D c + rd m.C c = d
    · exact .inr ⟨hq, by rw [hq] at a2; simpa using a2⟩
    · refine .inl ⟨by omega, ?_⟩
      rw [hrd _ (by omega), if_neg (by omega)]; exact a2
  · obtain ⟨a, b⟩ := hs.start q
    refine ⟨a, ?_⟩
    subst a; simpa using b
  · rw [hrd r r0] at he
    split at he
    · cases he
    · obtain ⟨κ, k1, k2, k3, k4⟩ := hs.ent r r0 r1 e he
      exact ⟨κ, k1, by omega, k3, k4⟩
  · rw [tot_set _ hr.1 (by omega), hs.cnt]; simp
  · obtain ⟨κ, k1, k2, k3, k4⟩ := hs.ent _ hr.1 hr.2 e he
    have := hs.hor
    have : κ = d := by omega
    rw [this] at k4; exact k4
theorem sm_end (hm : MapOk m) (hc : CostOk m) {L : List Int} {D : List Int} {B : List (List Int)} {d h left : Int} (hs : Sm m t L L.length D B d h left) : Sp m t D B (d + 1) h left := by
  have hdrop : L.drop ((L.length : Nat) : Int).toNat = [] := List.drop_of_length_le (by omega)
  have hd0 := hs.d0
  refine ⟨hs.lenD, hs.lenB, by omega, fun c hc h => ?_, fun c k hw hk => ?_, fun c n s h1 h2 h3 h4 h5 h6 h7 => ?_, fun q => ?_, fun r r0 r1 e he => ?_, by have := hs.hor; omega, hs.cnt, hs.few⟩
  · obtain ⟨a, b, c⟩ := hs.fin c hc h; exact ⟨a, by omega, c⟩
  · by_cases hkd : k < d
    · exact hs.low c k hw hkd
    · have hkd : k = d := by omega
      have hne : rd D c ≠ (1099511627776 : Int) := by
        intro hinf
        cases hw with
        | here ho =>
          have := (hs.start hinf).2
          rw [hdrop] at this; cases this
        | @go c' k' n s h1 s0 s3 hst ho =>
          have hoc := way_open h1
          have hcc := hc _ hoc.1
          obtain ⟨a1, a2⟩ := hs.low c' k' h1 (by omega)
          rcases hs.wait c' c s hoc.1 a1 s0 s3 hst ho hinf with ⟨b1, b2⟩ | ⟨_, b2⟩
          · omega
          · rw [hdrop] at b2; cases b2
      exact ⟨hne, by have := hs.fin c (way_open hw).1 hne; omega⟩
  · rcases hs.wait c n s h1 h2 h3 h4 h5 h6 h7 with ⟨b1, b2⟩ | ⟨_, b2⟩
    · exact ⟨by omega, b2⟩
    · rw [hdrop] at b2; cases b2
  · have := (hs.start q).2
    rw [hdrop] at this; cases this
  · obtain ⟨κ, k1, k2, k3, k4⟩ := hs.ent r r0 r1 e he
    exact ⟨κ, k1, by omega, k3, k4⟩
/-- a cell of L is told -/
theorem sm_put (hm : MapOk m) (hc : CostOk m) {L : List Int} {i : Int} {D : List Int} {B : List (List Int)} {d h left : Int} (hs : Sm m t L i D B d h left) (i0 : 0 ≤ i) (i1 : i < L.length) (hw : Way m t (rd L i) d) (hd : d < (1099511627776 : Int))
    (hinf : rd D (rd L i) = (1099511627776 : Int)) {A : List Int} (hA : A.length ≤ 4) (hW : Waits m (List.set D (rd L i).toNat d) (rd L i) 0 A) :
    Sm m t L (i + 1) (List.set D (rd L i).toNat d) (List.set B ((d + rd m.C (rd L i)) % 256).toNat (rd B ((d + rd m.C (rd L i)) % 256) ++ A)) d (max h (d + 255)) (left + A.length) := by
  generalize hcc : rd L i = c at *
  have hoc := way_open hw
  have hin := hoc.1
  have hco := hc c hin
  have hl := hm.2.1
  have hc254 : rd m.C c ≤ 254 := by have := hoc.2; omega
  have hlD := hs.lenD
  have hB := hs.lenB
  have hd0 := hs.d0
  have hin2 := hin.2
  have hto : 0 ≤ (d + rd m.C c) % 256 ∧ (d + rd m.C c) % 256 < 256 := by omega
  have hD : ∀ x : Int, 0 ≤ x → rd (List.set D c.toNat d) x = if x = c then d else rd D x := fun x x0 => rds hin.1 (by omega) x0
  have hBr : ∀ r : Int, 0 ≤ r → rd (List.set B ((d + rd m.C c) % 256).toNat (rd B ((d + rd m.C c) % 256) ++ A)) r = if r = (d + rd m.C c) % 256 then rd B ((d + rd m.C c) % 256) ++ A else rd B r := fun r r0 => rds hto.1 (by omega) r0
  have hdr : L.drop i.toNat = c :: L.drop (i + 1).toNat := by rw [dropc i0 i1, hcc]
  have hB2 : ∀ (r : Int) (e : Int), 0 ≤ r → e ∈ rd B r → e ∈ rd (List.set B ((d + rd m.C c) % 256).toNat (rd B ((d + rd m.C c) % 256) ++ A)) r := by
    intro r e r0 he
    rw [hBr r r0]
    split
    · rename_i q; rw [q] at he; exact List.mem_append_left _ he
    · exact he
  refine ⟨by simpa using hlD, by simpa using hB, hd0, fun x hx q => ?_, fun x k hx hk => ?_, fun x n s h1 h2 h3 h4 h5 h6 h7 => ?_, fun q => ?_, fun r r0 r1 e he => ?_, by have := hs.hor; omega, ?_, ?_⟩
  · rw [hD x hx.1] at q ⊢
    by_cases hxc : x = c
    · rw [if_pos hxc, hxc]; exact ⟨hd0, by omega, hw⟩
    · rw [if_neg hxc] at q ⊢; exact hs.fin x hx q
  · obtain ⟨a1, a2⟩ := hs.low x k hx hk
    have hxc : x ≠ c := fun q => a1 (q ▸ hinf)
    rw [hD x (way_open hx).1.1, if_neg hxc]; exact ⟨a1, a2⟩
  · have hnc : n ≠ c := by
      rintro rfl
      rw [hD n h6.1.1, if_pos rfl] at h7
      omega
    rw [hD n h6.1.1, if_neg hnc] at h7
    rw [hD x h1.1] at h2 ⊢
    by_cases hxc : x = c
    · rw [if_pos hxc, hxc]
      refine .inl ⟨by omega, ?_⟩
      rw [hBr _ hto.1, if_pos rfl]
      apply List.mem_append_right
      rw [hxc] at h5
      obtain ⟨s', s0, s3, e⟩ := beside_back hm h6.1 hin h3 h4 h5
      exact (hW n).mpr ⟨s', s0, s3, e, h6, by rw [hD n h6.1.1, if_neg hnc]; exact h7⟩
    · rw [if_neg hxc] at h2 ⊢
      have hf := hs.fin x h1 h2
      have := hc x h1
      rcases hs.wait x n s h1 h2 h3 h4 h5 h6 h7 with ⟨b1, b2⟩ | ⟨b1, b2⟩
      · exact .inl ⟨b1, hB2 _ _ (by omega) b2⟩
      · rw [hdr] at b2
        rcases List.mem_cons.mp b2 with b2 | b2
        · exact absurd b2 hnc
        · exact .inr ⟨b1, b2⟩
  · have htc : t ≠ c := by
      rintro rfl
      rw [hD t hin.1, if_pos rfl] at q
      omega
    have ht0 := (way_goal hw).1.1
    rw [hD t ht0, if_neg htc] at q
    obtain ⟨a, b⟩ := hs.start q
    rw [hdr] at b
    rcases List.mem_cons.mp b with b | b
    · exact absurd b htc
    · exact ⟨a, b⟩
  · rw [hBr r r0] at he
    have old : e ∈ rd B r → ∃ κ : Int, κ % 256 = r ∧ d < κ ∧ κ < max h (d + 255) ∧ Way m t e κ := fun he => by
      obtain ⟨κ, k1, k2, k3, k4⟩ := hs.ent r r0 r1 e he
      exact ⟨κ, k1, k2, by omega, k4⟩
    split at he
    · rename_i q
      rcases List.mem_append.mp he with he | he
      · exact old (q ▸ he)
      · obtain ⟨s, q1, q2, q3, q4, q5⟩ := (hW e).mp he
        obtain ⟨s', s0, s3, e'⟩ := beside_back hm hin q4.1 q1 q2 q3
        exact ⟨d + rd m.C c, q.symm, by omega, by omega, Way.go s' hw s0 s3 e' q4⟩
    · exact old he
  · rw [tot_set _ hto.1 (by omega), hs.cnt]
    simp only [List.length_append]; push_cast; omega
  · rw [uns_set hin.1 (by omega) hinf (by omega)]
    have := hs.few; omega
theorem sm_skip {L : List Int} {i : Int} {D : List Int} {B : List (List Int)} {d h left : Int} (hs : Sm m t L i D B d h left) (i0 : 0 ≤ i) (i1 : i < L.length) (hne : rd D (rd L i) ≠ (1099511627776 : Int)) : Sm m t L (i + 1) D B d h left := by
  have hdr : L.drop i.toNat = rd L i :: L.drop (i + 1).toNat := dropc i0 i1
  refine ⟨hs.lenD, hs.lenB, hs.d0, hs.fin, hs.low, fun x n s h1 h2 h3 h4 h5 h6 h7 => ?_, fun q => ?_, hs.ent, hs.hor, hs.cnt, hs.few⟩
  · rcases hs.wait x n s h1 h2 h3 h4 h5 h6 h7 with b | ⟨b1, b2⟩
    · exact .inl b
    · rw [hdr] at b2
      rcases List.mem_cons.mp b2 with b2 | b2
      · exact absurd (b2 ▸ h7) hne
      · exact .inr ⟨b1, b2⟩
  · obtain ⟨a, b⟩ := hs.start q
    rw [hdr] at b
    rcases List.mem_cons.mp b with b | b
    · exact absurd (b ▸ q) hne
    · exact ⟨a, b⟩
theorem spread_l1 {p : flat_plain} (hm : MapOk p.Map) (hc : CostOk p.Map) (x6 : List (List Int)) (d : Int) (d1 : d ≤ 2000000000) (hL : ∀ e ∈ rd x6 (Int.tmod d 256), Way p.Map t e d) (hLl : (rd x6 (Int.tmod d 256)).length ≤ 100000000) : ∀ (n k : Nat) (i : Int) (D : List Int) (B : List (List Int)) (h left : Int), i + n = (rd x6 (Int.tmod d 256)).length → 0 ≤ i → n < k →
    Sm p.Map t (rd x6 (Int.tmod d 256)) i D B d h left →
    ∃ D' B' h' left', flat_plain_spread.l1 k p x6 d D B left i = some (D', B', left') ∧ Sm p.Map t (rd x6 (Int.tmod d 256)) (rd x6 (Int.tmod d 256)).length D' B' d h' left' ∧ ((uns D' = uns D ∧ h' = h) ∨ (uns D' + 1 ≤ uns D ∧ h' ≤ d + 256)) := by
  have hpp := may_prod hm.1
  have hl := hm.2.1
  intro n
  induction n with
  | zero =>
    intro k i D B h left hi h0 hk hs
    obtain ⟨k, rfl⟩ := kpos hk
    refine ⟨D, B, h, left, by rw [flat_plain_spread.l1, if_neg (by omega)], ?_, .inl ⟨rfl, rfl⟩⟩
    rw [show i = ((rd x6 (Int.tmod d 256)).length : Int) by omega] at hs; exact hs
  | succ n ih =>
    intro k i D B h left hi h0 hk hs
    obtain ⟨k, rfl⟩ := kpos hk
    have i1 : i < ((rd x6 (Int.tmod d 256)).length : Int) := by omega
    have hw := hL _ (rdmem h0 i1)
    have hoc := way_open hw
    have hin2 := hoc.1.2
    have hlD := hs.lenD
    rw [flat_plain_spread.l1, if_pos i1, if_pos ⟨h0, i1⟩, if_pos ⟨hoc.1.1, by omega⟩, w64_id (x := i + 1) (by omega) (by omega)]
    by_cases hne : rd D (rd (rd x6 (Int.tmod d 256)) i) = (1099511627776 : Int)
    · rw [if_neg (by simpa using hne)]
      have hfew := hs.few
      have hun := uns_nn D
      have htn : 0 ≤ left := by rw [hs.cnt]; exact lsum_nn _ _ (fun (x : List Int) _ => len_nn x)
      have htm := tot_mem (B := B) (r := (d + rd p.Map.C (rd (rd x6 (Int.tmod d 256)) i)) % 256) (by omega) (by rw [hs.lenB]; omega)
      have hcnt := hs.cnt
      obtain ⟨A, e, hA, hW⟩ := spread_l2 hm hc x6 d D i (c := rd (rd x6 (Int.tmod d 256)) i) rfl hoc.1 hlD hs.d0 (by omega) hoc.2 4 fuel 0 B left (by omega) (by omega) (by rw [fuelv]; omega) hs.lenB htn (by omega) (by omega)
      have hp := sm_put hm hc hs h0 i1 hw (by omega) hne hA hW
      obtain ⟨D', B', h', left', e2, hs', hch⟩ := ih k (i + 1) _ _ _ _ (by omega) (by omega) (by omega) hp
      rw [e, Option.bind_some]
      refine ⟨D', B', h', left', e2, hs', .inr ?_⟩
      have hu := uns_set (D := D) (d := d) hoc.1.1 (by omega) hne (by omega)
      have := hs'.hor
      rcases hch with ⟨q1, q2⟩ | ⟨q1, q2⟩
      · exact ⟨by omega, by omega⟩
      · exact ⟨by omega, q2⟩
    · rw [if_pos (by simpa using hne), Option.bind_some]
      exact ih k (i + 1) D B h left (by omega) (by omega) (by omega) (sm_skip hs h0 i1 hne)
theorem sp_far (hm : MapOk m) (hc : CostOk m) {D : List Int} {B : List (List Int)} {d h left : Int} (hs : Sp m t D B d h left) (h0 : left ≤ 0) (hd : d ≤ (1099511627776 : Int)) : Far m t D := by
  have hB := hs.lenB
  have hemp : ∀ (r : Int) (e : Int), 0 ≤ r → r < 256 → e ∈ rd B r → False := by
    intro r e r0 r1 he
    have := tot_mem (B := B) (r := r) r0 (by omega)
    have hl : (rd B r).length = 0 := by have := hs.cnt; omega
    rw [List.length_eq_zero_iff.mp hl] at he; cases he
  have hall : ∀ c k : Int, Way m t c k → rd D c ≠ (1099511627776 : Int) := by
    intro c k hw
    induction hw with
    | here ho => intro q; exact hemp 0 t (by omega) (by omega) (hs.start q).2
    | @go c' k' n s h1 s0 s3 hst ho ih =>
      intro q
      have hf := hs.fin c' (way_open h1).1 ih
      have := hc c' (way_open h1).1
      exact hemp _ n (by omega) (by omega) (hs.wait c' n s (way_open h1).1 ih s0 s3 hst ho q).2
  refine ⟨hs.lenD, fun c hi hlt => (hs.fin c hi (by omega)).2.2, fun c k hw => ?_, fun c hi => ?_⟩
  · by_cases hk : k < d
    · exact (hs.low c k hw hk).2
    · have := hs.fin c (way_open hw).1 (hall c k hw); omega
  · by_cases hq : rd D c = (1099511627776 : Int)
    · omega
    · have := hs.fin c hi hq; omega
theorem spread_l0 {p : flat_plain} (hm : MapOk p.Map) (hc : CostOk p.Map) : ∀ (n k : Nat) (D : List Int) (B : List (List Int)) (d h left : Int), n < k → Sp p.Map t D B d h left → 256 * uns D + (h - d) ≤ n → d + n ≤ 1000000000 →
    ∃ D', flat_plain_spread.l0 k p D B d left = some (flat_plain.mk p.Map D') ∧ Far p.Map t D' := by
  have hpp := may_prod hm.1
  have hl := hm.2.1
  have done : ∀ (k : Nat) (D : List Int) (B : List (List Int)) (d h left : Int), 0 < k → Sp p.Map t D B d h left → d ≤ 1000000000 → left ≤ 0 → ∃ D', flat_plain_spread.l0 k p D B d left = some (flat_plain.mk p.Map D') ∧ Far p.Map t D' := by
    intro k D B d h left hk hs hd hle
    obtain ⟨k, rfl⟩ := kpos hk
    exact ⟨D, by rw [flat_plain_spread.l0, if_neg (by omega)], sp_far hm hc hs hle (by omega)⟩
  have some_h : ∀ (D : List Int) (B : List (List Int)) (d h left : Int), Sp p.Map t D B d h left → 0 < left → d + 1 ≤ h := by
    intro D B d h left hs hpos
    by_cases hall : ∀ x ∈ B, ((x.length : Nat) : Int) = 0
    · have : tot B = 0 := lsum_zero _ _ hall
      have := hs.cnt; omega
    · obtain ⟨x, hx⟩ := Classical.not_forall.mp hall
      obtain ⟨hx1, hx2⟩ := Classical.not_imp.mp hx
      obtain ⟨r, r0, r1, rfl⟩ := memrd hx1
      have hB := hs.lenB
      have hmem : rd (rd B r) 0 ∈ rd B r := rdmem (by omega) (by omega)
      obtain ⟨κ, k1, k2, k3, k4⟩ := hs.ent r r0 (by omega) _ hmem
      omega
  intro n
  induction n with
  | zero =>
    intro k D B d h left hk hs hN hd
    refine done k D B d h left hk hs (by omega) ?_
    by_cases hq : left ≤ 0
    · exact hq
    · have := some_h D B d h left hs (by omega)
      have := uns_nn D; omega
  | succ n ih =>
    intro k D B d h left hk hs hN hd
    by_cases hq : left ≤ 0
    · exact done k D B d h left (by omega) hs (by omega) hq
    · obtain ⟨k, rfl⟩ := kpos hk
      have hh := some_h D B d h left hs (by omega)
      have hd0 := hs.d0
      have hB := hs.lenB
      have hmod : Int.tmod d 256 = d % 256 := tmod_pos hd0
      have hr : 0 ≤ d % 256 ∧ d % 256 < 256 := by omega
      have hun := uns_nn D
      have hfew := hs.few
      have htm := tot_mem (B := B) (r := d % 256) hr.1 (by omega)
      have hcnt := hs.cnt
      obtain ⟨hb, hL⟩ := sp_begin hm hc hs
      rw [← hmod] at hb hL hr htm
      obtain ⟨D', B', h', left', e, hs', hch⟩ := spread_l1 hm hc B d (by omega) hL (by omega) (rd B (Int.tmod d 256)).length fuel 0 D _ h _ (by omega) (by omega) (by rw [fuelv]; omega) hb
      have hsp := sm_end hm hc hs'
      rw [flat_plain_spread.l0, if_pos (by omega), if_pos hr, if_pos hr, w64_id (x := left - _) (by omega) (by omega), e]
      simp only [Option.bind_some]
      rw [w64_id (x := d + 1) (by omega) (by omega)]
      refine ih k D' B' (d + 1) h' left' (by omega) hsp ?_ (by omega)
      have := uns_nn D'
      rcases hch with ⟨q1, q2⟩ | ⟨q1, q2⟩
      · omega
      · omega
theorem spread_f {p : flat_plain} (hm : MapOk p.Map) (hc : CostOk p.Map) (hD : p.dist = List.replicate p.Map.C.length (1099511627776 : Int)) (ho : Opn p.Map t) : ∃ D', flat_plain_spread.f p t = some (flat_plain.mk p.Map D') ∧ Far p.Map t D' := by
  have hpp := may_prod hm.1
  have hl := hm.2.1
  have hB : ∀ r : Int, 0 ≤ r → r < 256 → rd (List.set (List.replicate 256 ([] : List Int)) (Int.toNat 0) [t]) r = if r = 0 then [t] else [] := by
    intro r r0 r1
    rw [rds (by omega) (by rw [List.length_replicate]; omega) r0]
    split
    · rfl
    · exact rdrep r0 (by omega)
  have hDr : ∀ c : Int, inMap p.Map c → rd p.dist c = (1099511627776 : Int) := fun c hc => by rw [hD]; exact rdrep hc.1 (by have := hc.2; omega)
  have hun : uns p.dist ≤ p.Map.C.length := by
    unfold uns; rw [hD, lsum_rep]; simp
  have hsp : Sp p.Map t p.dist (List.set (List.replicate 256 ([] : List Int)) (Int.toNat 0) [t]) 0 1 1 := by
    refine ⟨by rw [hD, List.length_replicate], by rw [List.length_set, List.length_replicate], by omega, fun c hi h => absurd (hDr c hi) h, fun c k hw hk => ?_, fun c n s h1 h2 => absurd (hDr c h1) h2, fun _ => ⟨rfl, ?_⟩, fun r r0 r1 e he => ?_, by omega, ?_, by omega⟩
    · have := way_nn hc hw; omega
    · rw [hB 0 (by omega) (by omega), if_pos rfl]; exact List.mem_singleton.mpr rfl
    · rw [hB r r0 r1] at he
      split at he
      · rename_i q
        have : e = t := by simpa using he
        subst this
        exact ⟨0, by omega, by omega, by omega, Way.here ho⟩
      · cases he
    · have e1 := tot_set (B := List.replicate 256 ([] : List Int)) (r := 0) [t] (by omega) (by rw [List.length_replicate]; omega)
      have e2 : tot (List.replicate 256 ([] : List Int)) = 0 := lsum_zero _ _ (fun x hx => by rw [List.eq_of_mem_replicate hx]; rfl)
      have e3 : rd (List.replicate 256 ([] : List Int)) 0 = [] := rdrep (by omega) (by omega)
      rw [e3, e2] at e1
      have e4 : tot (List.set (List.replicate 256 ([] : List Int)) (Int.toNat 0) [t]) = 1 := by rw [e1]; rfl
      rw [e4]
  unfold flat_plain_spread.f
  rw [if_pos (by omega)]
  exact spread_l0 hm hc 300000000 fuel p.dist _ 0 1 1 (by rw [fuelv]; omega) hsp (by omega) (by omega)
end Go.Proofs.Yticdodeoljodiaa
