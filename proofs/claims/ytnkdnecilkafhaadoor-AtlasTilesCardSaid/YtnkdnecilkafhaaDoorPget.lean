import Derived.Test.YtnkdnecilkafhaaDoorPread
namespace Go.Proofs.YtnkdnecilkafhaaDoor
open Go.Hx

def BR (b : List Int) : Res → Option (List Int × Er × pack_reader) → Prop
  | .short, o => ∃ x q, o = some (x, .glob 2, ⟨b, q⟩) ∧ x.length ≤ 100000
  | .form, o => ∃ x q, o = some (x, .glob 1, ⟨b, q⟩) ∧ x.length ≤ 100000
  | .ok x p, o => o = some (x, .nil, ⟨b, p⟩)
def fin' (b : List Int) (w h : Int) (x : List Int) (p : Int) : Option (api_Map × Int × Int) :=
  (ref1_PutTile.f (api_Map.mk w h x)).bind fun v28 => if (0 ≤ (0 : Int) ∧ (0 : Int) ≤ p ∧ p ≤ (List.length b : Int)) then ((ref1_Bytes.f v28.2 (sub' b 0 p)).bind fun v29 => if (!v29) = true then (some ((api_Map.mk 0 0 []), 0, 3)) else (some ((api_Map.mk w h x), p, 0))) else none
def RR (b : List Int) (w h n : Int) : Res → Option (api_Map × Int × Int) → Prop
  | .short, o => o = some (⟨0, 0, []⟩, 0, 2)
  | .form, o => o = some (⟨0, 0, []⟩, 0, 3)
  | .ok x p, o => (x.length : Int) = n ∧ (∀ z ∈ x, 1 ≤ z ∧ z ≤ 255) ∧ 0 ≤ p ∧ p ≤ b.length ∧ o = fin' b w h x p
theorem l0_f {b : List Int} {w h n : Int} (hn : w64 (w * h) = n) (n1 : 1 ≤ n ∧ n ≤ 256) (hb : 2 ≤ b.length) : ∀ (m k : Nat) (x : List Int) (i : Int), i + m = n → 0 ≤ i → m < k → x.length = i → ref1_GetTile.l0 k b w h x i = some (.inr (x ++ List.replicate m (rd b 1), 2)) := by
  intro m
  induction m with
  | zero =>
    intro k x i hi i0 hk hx
    obtain ⟨k, rfl⟩ := kpos hk
    rw [ref1_GetTile.l0, hn, if_neg (by omega)]; simp
  | succ m ih =>
    intro k x i hi i0 hk hx
    obtain ⟨k, rfl⟩ := kpos hk
    rw [ref1_GetTile.l0, hn, if_pos (by omega), if_pos (by omega), if_pos (by omega), w64_id (x := i + 1) (by omega) (by omega), ih k _ (i + 1) (by omega) (by omega) (by omega) (by simp; omega)]
    simp [List.replicate_succ]
theorem costs_short {b : List Int} {a n : Int} (hb : b.length ≤ 100000) (a0 : 0 ≤ a) (a1 : a ≤ b.length) (h : b.length < a + n) : pack_reader_costs.f ⟨b, a⟩ n = some ([], .glob 2, ⟨b, a⟩) := by
  unfold pack_reader_costs.f
  rw [take_short hb a0 a1 h]; rfl
theorem costs_ok {b : List Int} {a n : Int} (hb : b.length ≤ 100000) (a0 : 0 ≤ a) (n0 : 0 ≤ n) (h : a + n ≤ b.length) : pack_reader_costs.f ⟨b, a⟩ n = some (sub' b a (a + n), if 0 ∈ sub' b a (a + n) then .glob 1 else .nil, ⟨b, a + n⟩) := by
  unfold pack_reader_costs.f
  have hl := sub_len a0 (show a ≤ a + n by omega) h
  rw [take_ok hb a0 n0 h, Option.bind_some]
  simp only [Er.isNil, if_true]
  rw [contains_f _ _ (by omega)]
  simp only [Option.bind_some]
  by_cases hz : 0 ∈ sub' b a (a + n)
  · rw [if_pos hz, if_pos (by simpa using hz)]
  · rw [if_neg hz, if_neg (by simpa using hz)]
theorem body_ref {b : List Int} (hb : ∀ y ∈ b, inU8 y) (hl : b.length ≤ 100000) {w h n : Int} (hw : 1 ≤ w ∧ w ≤ 16) (hh : 1 ≤ h ∧ h ≤ 16) (hn : w * h = n) (n1 : 1 ≤ n ∧ n ≤ 256) :
    ∃ r, BR b r (pack_reader_body.f ⟨b, 0⟩ n) ∧ RR b w h n r (ref1_GetTile.f b w h) := by
  have hn' : w64 (w * h) = n := by rw [hn, w64_id (by omega) (by omega)]
  unfold pack_reader_body.f ref1_GetTile.f ref1_In.f
  have ew : (decide (w ≥ 1) && decide (w ≤ 16)) = true := by simp; omega
  have eh : (decide (h ≥ 1) && decide (h ≤ 16)) = true := by simp; omega
  simp only [ew, eh, Option.bind_some, Bool.not_true, Bool.false_eq_true, if_false]
  by_cases h0 : (b.length : Int) = 0
  · rw [take_short hl (by omega) (by omega) (by omega), if_pos (by simpa using h0)]
    exact ⟨.short, ⟨[], 0, rfl, by simp⟩, rfl⟩
  · have h0' : ((b.length : Int) == 0) = false := by simpa using h0
    rw [take_ok hl (by omega) (by omega) (by omega), Option.bind_some]
    simp only [h0', Er.isNil, Bool.not_true, Bool.false_eq_true, if_false]
    have sl : ((sub' b 0 (0 + 1)).length : Int) = 1 := by rw [sub_len (by omega) (by omega) (by omega)]; omega
    have r0 : rd (sub' b 0 (0 + 1)) 0 = rd b 0 := by rw [rd_sub (by omega) (by omega) (by omega), Int.add_zero]
    rw [if_pos (show 0 ≤ (0 : Int) ∧ (0 : Int) < ((sub' b 0 (0 + 1)).length : Int) by omega), if_pos (show 0 ≤ (0 : Int) ∧ (0 : Int) < (b.length : Int) by omega), r0, hn', show (0 : Int) + 1 = 1 by omega]
    -- a whole tile that may hold noughts
    have full : ∀ (x : List Int) (p : Int), (x.length : Int) = n → (∀ y ∈ x, inU8 y) → 0 ≤ p → p ≤ b.length →
        (0 ∈ x → ((ref1_full.f x).bind fun v27 => if (!v27) = true then (some ((api_Map.mk 0 0 []), (0 : Int), (3 : Int))) else fin' b w h x p) = some (⟨0, 0, []⟩, 0, 3)) ∧
        (0 ∉ x → RR b w h n (.ok x p) ((ref1_full.f x).bind fun v27 => if (!v27) = true then (some ((api_Map.mk 0 0 []), (0 : Int), (3 : Int))) else fin' b w h x p)) := by
      intro x p hx hu p0 p1
      rw [full_f x (by omega), Option.bind_some]
      constructor
      · intro hz; rw [if_pos (by simpa using hz)]
      · intro hz
        rw [if_neg (by simpa using hz)]
        refine ⟨hx, fun z hz' => ?_, p0, p1, rfl⟩
        have := hu z hz'
        unfold inU8 at this
        have : z ≠ 0 := fun q => hz (q ▸ hz')
        omega
    by_cases q0 : rd b 0 = 0
    · rw [if_pos (by simpa using q0), if_pos (by simpa using q0)]
      by_cases hs : (b.length : Int) < 2
      · rw [if_pos hs, costs_short hl (by omega) (by omega) (by omega), Option.bind_some, repeat0 (by omega), Option.bind_some]
        exact ⟨.short, ⟨_, _, rfl, by simp⟩, rfl⟩
      · rw [if_neg hs, costs_ok hl (by omega) (by omega) (by omega), Option.bind_some, show (1 : Int) + 1 = 2 by omega]
        have e1 : sub' b 1 2 = [rd b 1] := by
          refine rdext (by have := sub_len (L := b) (lo := 1) (hi := 2) (by omega) (by omega) (by omega); simp; omega) (fun j j0 j1 => ?_)
          have hl1 := sub_len (L := b) (lo := 1) (hi := 2) (by omega) (by omega) (by omega)
          rw [rd_sub (by omega) j0 (by omega), show j = 0 by omega]; rfl
        rw [e1]
        simp only
        rw [repeat1 (by omega), Option.bind_some, l0_f hn' n1 (by omega) n.toNat fuel [] 0 (by omega) (by omega) (by rw [fuel_eq]; omega) rfl]
        simp only [Option.bind_some, List.nil_append]
        obtain ⟨f1, f2⟩ := full (List.replicate n.toNat (rd b 1)) 2 (by simp; omega) (fun y hy => by rw [List.mem_replicate] at hy; rw [hy.2]; exact hb _ (rd_mem (by omega) (by omega))) (by omega) (by omega)
        unfold fin' at f1 f2
        by_cases hz : 0 = rd b 1
        · rw [if_pos (by simpa using hz)]
          have hm : 0 ∈ List.replicate n.toNat (rd b 1) := by rw [List.mem_replicate]; exact ⟨by omega, hz⟩
          exact ⟨.form, ⟨_, _, rfl, by simp; omega⟩, f1 hm⟩
        · rw [if_neg (by simpa using hz)]
          have hm : 0 ∉ List.replicate n.toNat (rd b 1) := by rw [List.mem_replicate]; exact fun q => hz q.2
          exact ⟨.ok _ 2, rfl, f2 hm⟩
    · have q0' : (rd b 0 == 0) = false := by simpa using q0
      simp only [q0', Bool.false_eq_true, if_false]
      by_cases q1 : rd b 0 = 1
      · have q1' : (rd b 0 == 1) = true := by simpa using q1
        simp only [q1', if_true]
        rw [w64_id (x := (b.length : Int) - 1) (by omega) (by omega), w64_id (x := 1 + n) (by omega) (by omega)]
        by_cases hs : (b.length : Int) - 1 < n
        · rw [if_pos hs, costs_short hl (by omega) (by omega) (by omega)]
          exact ⟨.short, ⟨_, _, rfl, by simp⟩, rfl⟩
        · have hsl := sub_len (L := b) (lo := 1) (hi := 1 + n) (by omega) (by omega) (by omega)
          rw [if_neg hs, costs_ok hl (by omega) (by omega) (by omega), Option.bind_some, if_pos (show 0 ≤ (1 : Int) ∧ (1 : Int) ≤ 1 + n ∧ 1 + n ≤ (b.length : Int) by omega), if_pos (show ([] : List Int).length + (sub' b 1 (1 + n)).length ≤ 1099511627776 by simp only [List.length_nil]; omega)]
          simp only [Option.bind_some, List.nil_append]
          obtain ⟨f1, f2⟩ := full (sub' b 1 (1 + n)) (1 + n) (by omega) (sub_mem hb) (by omega) (by omega)
          unfold fin' at f1 f2
          by_cases hz : 0 ∈ sub' b 1 (1 + n)
          · rw [if_pos hz]
            exact ⟨.form, ⟨_, _, rfl, by omega⟩, f1 hz⟩
          · rw [if_neg hz]
            exact ⟨.ok _ (1 + n), rfl, f2 hz⟩
      · have q1' : (rd b 0 == 1) = false := by simpa using q1
        simp only [q1', Bool.false_eq_true, if_false]
        by_cases q2 : rd b 0 = 2
        · have q2' : (rd b 0 == 2) = true := by simpa using q2
          simp only [q2', if_true]
          unfold pack_reader_runs.f
          obtain ⟨r, h1, h2, h3⟩ := runs_joint hb hl hn' n1 1 n.toNat fuel fuel [] 1 (by simp; omega) (by omega) (by omega) (by rw [fuel_eq]; omega) (by rw [fuel_eq]; omega) (by simp)
          cases r with
          | short =>
            obtain ⟨q, h1⟩ := h1
            have h2 : _ = _ := h2
            rw [h1, h2]
            exact ⟨.short, ⟨_, _, rfl, by simp⟩, rfl⟩
          | form =>
            obtain ⟨q, h1⟩ := h1
            have h2 : _ = _ := h2
            rw [h1, h2]
            exact ⟨.form, ⟨_, _, rfl, by simp⟩, rfl⟩
          | ok x p =>
            have h1 : _ = _ := h1
            have h2 : _ = _ := h2
            obtain ⟨g1, g2, g3, g4⟩ := h3 x p rfl
            rw [h1, h2]
            simp only [Option.bind_some]
            obtain ⟨f1, f2⟩ := full x p g1 (fun y hy => by have := g2 y hy; exact ⟨by omega, by omega⟩) g3 g4
            unfold fin' at f1 f2
            exact ⟨.ok x p, rfl, f2 (fun q => by have := g2 0 q; omega)⟩
        · have q2' : (rd b 0 == 2) = false := by simpa using q2
          simp only [q2', Bool.false_eq_true, if_false]
          exact ⟨.form, ⟨_, _, rfl, by simp⟩, rfl⟩
theorem refput {t : api_Map} {L : List Int} {f : Int} {out : List Int} (h1 : 1 ≤ t.C.length) (hb : t.C.length ≤ 256) (h : Least t L f out) : ref1_PutTile.f t = some (f, out) := by
  unfold ref1_PutTile.f
  rw [h.runs, Option.bind_some]
  have hge := h.ge
  have hle := h.le
  have hlen : (((2 :: L : List Int).length : Nat) : Int) = L.length + 1 := by simp
  rw [hlen]
  by_cases hu : uni t.C
  · have := h.two.mpr hu
    obtain ⟨e1, e2⟩ := h.uni0 hu
    rw [if_pos (by simp; omega), if_pos (by omega), e1, e2]
  · have hne : ¬ L.length = 2 := fun q => hu (h.two.mp q)
    rw [if_neg (by simp; omega), w64_id (by omega) (by omega)]
    by_cases hs : L.length < t.C.length
    · obtain ⟨e1, e2⟩ := h.short hu hs
      rw [if_pos (by omega), e1, e2]
    · obtain ⟨e1, e2⟩ := h.long hu hs
      rw [if_neg (by omega), if_pos (by simp; omega), e1, e2]; rfl
/-- what Get answers, body known -/
theorem get_short {b : List Int} {w h n : Int} (hw : 1 ≤ w ∧ w ≤ 16) (hh : 1 ≤ h ∧ h ≤ 16) (hn : w64 (w * h) = n) {x : List Int} {q : Int} (hx : x.length ≤ 100000) (hr : pack_reader_body.f ⟨b, 0⟩ n = some (x, .glob 2, ⟨b, q⟩)) : pack_Get.f b w h = some (⟨0, 0, []⟩, 0, 2) := by
  unfold pack_Get.f pack_reader_tile.f slices_Clone_byte_byte.f
  have e : (((decide (w < 1) || decide (w > 16)) || decide (h < 1)) || decide (h > 16)) = false := by simp; omega
  rw [hn, hr]
  simp only [e, Bool.false_eq_true, if_false, Option.bind_some, Er.isNil]
  rw [if_pos (by simp; omega)]
  rfl
theorem get_form {b : List Int} {w h n : Int} (hw : 1 ≤ w ∧ w ≤ 16) (hh : 1 ≤ h ∧ h ≤ 16) (hn : w64 (w * h) = n) {x : List Int} {q : Int} (hx : x.length ≤ 100000) (hr : pack_reader_body.f ⟨b, 0⟩ n = some (x, .glob 1, ⟨b, q⟩)) : pack_Get.f b w h = some (⟨0, 0, []⟩, 0, 3) := by
  unfold pack_Get.f pack_reader_tile.f slices_Clone_byte_byte.f
  have e : (((decide (w < 1) || decide (w > 16)) || decide (h < 1)) || decide (h > 16)) = false := by simp; omega
  rw [hn, hr]
  simp only [e, Bool.false_eq_true, if_false, Option.bind_some, Er.isNil]
  rw [if_pos (by simp; omega)]
  rfl
theorem get_ok {b : List Int} {w h n : Int} (hw : 1 ≤ w ∧ w ≤ 16) (hh : 1 ≤ h ∧ h ≤ 16) (hn : w64 (w * h) = n) {x : List Int} {p : Int} (hx : x.length ≤ 100000) (hp : 0 ≤ p ∧ p ≤ b.length) (hr : pack_reader_body.f ⟨b, 0⟩ n = some (x, .nil, ⟨b, p⟩)) {out : List Int} {f : Int} (hput : pack_Put.f ⟨w, h, x⟩ = some (out, f)) :
    pack_Get.f b w h = some (if strEq out (sub' b 0 p) = true then (⟨w, h, x⟩, p, 0) else (⟨0, 0, []⟩, 0, 3)) := by
  unfold pack_Get.f pack_reader_tile.f slices_Clone_byte_byte.f bytes_Equal.f
  have e : (((decide (w < 1) || decide (w > 16)) || decide (h < 1)) || decide (h > 16)) = false := by simp; omega
  rw [hn, hr]
  simp only [e, Bool.false_eq_true, if_false, Option.bind_some, Er.isNil, if_true, List.nil_append]
  rw [if_pos (by simp; omega)]
  simp only [Option.bind_some, Er.isNil, if_true]
  rw [hput]
  simp only [Option.bind_some]
  rw [if_pos (by omega)]
  cases hs : strEq out (sub' b 0 p)
  · rfl
  · rfl
end Go.Proofs.YtnkdnecilkafhaaDoor
