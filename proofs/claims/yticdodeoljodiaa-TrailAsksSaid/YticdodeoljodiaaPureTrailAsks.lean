/- A path, what it costs, is what the document says: any map of at most 2,500 costs, near or raw, any goal, any cell, any list of which the first 40 are looked at. No condition. -/
import Derived.Test.YticdodeoljodiaaFLTrailAsks
import Derived.Test.YticdodeoljodiaaPtrail
namespace Go.Proofs.Yticdodeoljodiaa
open Go.Hx
set_option linter.unusedVariables false
set_option linter.unusedSimpArgs false

theorem asks_l0 (v : api_Map) (g c : Int) (hb : v.C.length ≤ 100000) : ∀ (n k : Nat) (i at' : Int) (x : List Int), i + n = x.length → (x.length : Int) ≤ 1000 → 0 ≤ i → n < k →
    ∃ y, law30_TrailAsks.l0 k v g c x at' i = some (g, c, v.W, v.H, v.C, y) ∧ y.length = x.length := by
  intro n
  induction n with
  | zero =>
    intro k i at' x hi hx h0 hk
    obtain ⟨k, rfl⟩ := kpos hk
    exact ⟨x, by rw [law30_TrailAsks.l0, if_neg (by omega)], rfl⟩
  | succ n ih =>
    intro k i at' x hi hx h0 hk
    obtain ⟨k, rfl⟩ := kpos hk
    rw [law30_TrailAsks.l0, if_pos (by omega), if_pos (by omega), within_f (by omega) (by omega) (by omega) (by omega), Option.bind_some, rstep_f, Option.bind_some, w64_id (x := i + 1) (by omega) (by omega)]
    split
    · obtain ⟨y, e, hy⟩ := ih k (i + 1) _ (List.set x i.toNat (sStep v.W v.H at' (0 + rd x i % (3 - 0 + 1)))) (by rw [List.length_set]; omega) (by rw [List.length_set]; omega) (by omega) (by omega)
      exact ⟨y, e, by rw [hy, List.length_set]⟩
    · obtain ⟨y, e, hy⟩ := ih k (i + 1) _ (List.set x i.toNat at') (by rw [List.length_set]; omega) (by rw [List.length_set]; omega) (by omega) (by omega)
      exact ⟨y, e, by rw [hy, List.length_set]⟩
theorem TrailAsks_pure : law30_TrailAsks.Pure := by
  intro m goal cell l raw hmb _ _ _ _ _
  unfold law30_TrailAsks.f
  by_cases hbig : (List.length m.C : Int) > 2500
  · rw [if_pos hbig, told30]; rfl
  rw [if_neg hbig]
  have hown : ref1_Own.f m = some m := by
    unfold ref1_Own.f
    rw [if_pos (by simp; omega)]; simp
  rw [hown, Option.bind_some]
  have h40 : 0 ≤ (if 40 < (List.length l : Int) then 40 else (List.length l : Int)) ∧ (if 40 < (List.length l : Int) then 40 else (List.length l : Int)) ≤ (List.length l : Int) ∧ (if 40 < (List.length l : Int) then 40 else (List.length l : Int)) ≤ 40 := by split <;> omega
  generalize (if 40 < (List.length l : Int) then 40 else (List.length l : Int)) = q at *
  have hsl : (sub' l 0 q).length = q.toNat := by rw [sub_length ⟨by omega, h40.1, h40.2.1⟩]; omega
  rw [if_pos ⟨by omega, h40.1, h40.2.1⟩, if_pos (by rw [hsl]; simp; omega)]
  have hk : ∃ x : api_Map, ∃ g c : Int, ∃ y : List Int, (if (!raw) = true then ((ref1_Made.f m.W m.H m.C).bind fun v10 => (ref1_Within.f goal (-1) (List.length v10.C : Int)).bind fun v11 => (ref1_Within.f cell (-1) (List.length v10.C : Int)).bind fun v12 => (ref1_Within.f v12 0 (w64 ((List.length v10.C : Int) - 1))).bind fun v13 => law30_TrailAsks.l0 fuel v10 v11 v12 (([] : List Int) ++ (sub' l 0 q)) v13 0) else (some (goal, cell, m.W, m.H, m.C, (([] : List Int) ++ (sub' l 0 q))))) = some (g, c, x.W, x.H, x.C, y) ∧ x.C.length ≤ 2500 ∧ (∀ y ∈ x.C, inU8 y) ∧ y.length ≤ 40 := by
    cases raw
    · obtain ⟨x, e, hm, hco, hl, h1, h2, _⟩ := made17 m.W m.H (c := m.C) (fun y hy => hmb.2.2 y hy)
      rw [if_pos (by simp), e, Option.bind_some, within_f (by omega) (by omega) (by omega) (by omega), Option.bind_some, within_f (by omega) (by omega) (by omega) (by omega), Option.bind_some, w64_id (x := (x.C.length : Int) - 1) (by omega) (by omega), within_f (by omega) (by omega) (by omega) (by omega), Option.bind_some]
      have hlen : ((([] : List Int) ++ (sub' l 0 q)).length : Int) ≤ 40 := by rw [List.nil_append, hsl]; omega
      obtain ⟨y, ey, hy⟩ := asks_l0 x (-1 + goal % ((x.C.length : Int) - -1 + 1)) (-1 + cell % ((x.C.length : Int) - -1 + 1)) (by omega) (([] : List Int) ++ (sub' l 0 q)).length fuel 0 (0 + (-1 + cell % ((x.C.length : Int) - -1 + 1)) % ((x.C.length : Int) - 1 - 0 + 1)) (([] : List Int) ++ (sub' l 0 q)) (by omega) (by omega) (by omega) (by rw [fuelv]; omega)
      refine ⟨x, _, _, y, ey, by omega, fun y hy => ?_, by omega⟩
      obtain ⟨j, j0, j1, rfl⟩ := memrd hy
      have := hco j ⟨j0, by omega⟩
      unfold inU8; omega
    · exact ⟨m, goal, cell, _, rfl, by omega, hmb.2.2, by rw [List.nil_append, hsl]; omega⟩
  obtain ⟨x, g, c, y, e, hxl, hxb, hyl⟩ := hk
  rw [e]
  simp only [Option.bind_some]
  have eta : api_Map.mk x.W x.H x.C = x := rfl
  rw [eta]
  by_cases hm : MapOk x
  · have hco := cost_ok hm hxb
    have hl := hm.2.1
    obtain ⟨c1, c2⟩ := cost_f' hm hco y (by omega)
    rw [c1, c2]
    have hpath : ∃ p b, trail_Path.f x g c = some (p, b) ∧ ref27_Path.f x g c = some (p, b) ∧ p.length ≤ 300000001 := by
      by_cases hg : CellS x.W x.H g
      · have hgi : inMap x g := ⟨hg.2.1, hg.2.2⟩
        obtain ⟨D, l1, hD⟩ := look_f hm hco hgi
        obtain ⟨E, r1, hE⟩ := flat_ref hm hco hgi (by omega)
        have hED : E = D := far_eq hm hE hD
        subst hED
        by_cases hcell : CellS x.W x.H c
        · have hci : inMap x c := ⟨hcell.2.1, hcell.2.2⟩
          by_cases hlt : rd E c < (1099511627776 : Int)
          · obtain ⟨p, _, a1, a2, a3⟩ := path_of hm hco hD l1 hci hlt
            exact ⟨p, true, a1, a3 r1, a2⟩
          · obtain ⟨a1, a2⟩ := path_far hm hco hD l1 hci hlt hgi
            exact ⟨[], false, a1, a2 r1, by simp⟩
        · refine ⟨[], false, ?_, ?_, by simp⟩
          · unfold trail_Path.f
            rw [query_of hm hco hD l1, if_neg hcell, Option.bind_some]
            rfl
          · unfold ref27_Path.f
            rw [ref_may_f x (by omega), Option.bind_some, decide_eq_true hm, if_neg (by simp), riscell_f, decide_eq_true hg, Option.bind_some, if_neg (by simp), riscell_f, decide_eq_false hcell]
            rfl
      · refine ⟨[], false, ?_, ?_, by simp⟩
        · unfold trail_Path.f
          rw [query_no (by omega) (look_out hm hg), Option.bind_some]
          rfl
        · unfold ref27_Path.f
          rw [ref_may_f x (by omega), Option.bind_some, decide_eq_true hm, if_neg (by simp), riscell_f, decide_eq_false hg]
          rfl
    obtain ⟨p, b, e1, e2, hp⟩ := hpath
    rw [e1, e2, told30]
    simp only [Option.bind_some]
    rw [if_pos (by simp), ints_self (by omega)]
    simp
  · obtain ⟨c1, c2⟩ := cost_no hm (by omega) y
    rw [c1, c2]
    have e1 : trail_Path.f x g c = some ([], false) := by
      unfold trail_Path.f
      rw [query_no (by omega) (look_arg hm (by omega) g), Option.bind_some]
      rfl
    have e2 : ref27_Path.f x g c = some ([], false) := by
      unfold ref27_Path.f
      rw [ref_may_f x (by omega), Option.bind_some, decide_eq_false hm]
      rfl
    rw [e1, e2, told30]
    simp only [Option.bind_some]
    rw [if_pos (by simp), ints_self (by simp)]
    simp
end Go.Proofs.Yticdodeoljodiaa
