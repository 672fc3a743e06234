import Derived.Test.YticdodeoljodiaaPnodes
import Derived.Test.YticdodeoljodiaaPints
import Derived.Test.YticdodeoljodiaaPmade
import Derived.Test.YticdodeoljodiaaFlaw11
namespace Go.Proofs.Yticdodeoljodiaa
open Go.Hx
set_option linter.unusedVariables false
set_option linter.unusedSimpArgs false

def tM : api_Map := api_Map.mk 17 1 (List.replicate 17 1)
theorem t_nodes : sNodes tM 0 = [15] := by decide +kernel
theorem t_cross : sCross tM 15 = [api_Edge.mk 16 1] := by rfl
theorem t_runs : sRuns tM 0 1 = [api_Run.mk 0 1] := by rfl
theorem new_s {m : api_Map} {e : Int} (hm : MapOk m) (hb : ∀ y ∈ m.C, 1 ≤ y ∧ y ≤ 255) (he : 0 ≤ e ∧ e ≤ 4611686018427387904) : GridS (grid_Grid.mk m (e + 1) (List.replicate (sCount m.W m.H).toNat (e + 1))) 1000 := by
  have hc := count_in m.W m.H
  refine ⟨hm, fun c c0 c1 => hb _ (rd_mem c0 (by rw [hm.2.1]; exact c1)), by simp; omega, by simp only; omega⟩
theorem t_ok : MapOk tM := ⟨by decide, by decide, by decide⟩
theorem t_by : ∀ y ∈ tM.C, 1 ≤ y ∧ y ≤ 255 := by
  intro y hy
  have : y = 1 := List.eq_of_mem_replicate hy
  omega
def tG : grid_Grid := grid_Grid.mk tM (0 + 1) (List.replicate (sCount tM.W tM.H).toNat (0 + 1))
theorem tG_s : GridS tG 1000 := new_s t_ok t_by (e := 0) (by omega)
theorem t_new : grid_New.f tM 0 = some (some tG) := by
  rw [gnew_f tM 0 (by unfold tM; simp)]
  unfold gNew; rw [if_pos ⟨t_ok, by omega, by omega⟩]; rfl
theorem tG_nodes : border_Nodes.f tG 0 = some [15] := by
  rw [nodes_f tG_s]; exact congrArg some t_nodes
theorem tG_cross : border_Cross.f tG 15 = some [api_Edge.mk 16 1] := by
  rw [cross_f tG_s]; exact congrArg some t_cross
theorem tG_runs : border_Runs.f tG 0 1 = some [api_Run.mk 0 1] := by
  rw [runs_f tG_s]; exact congrArg some t_runs
theorem optm_s' {α β : Type} (y : α) (d : Option β) (f : α → Option β) : optm (some y) d f = f y := rfl
theorem told11_end (k : Nat) (i : Int) (hi : i = 17) (x : List Int) (hx : x = List.replicate 17 1) : law11_told.l0 (k + 1) x i = some true := by
  subst hx
  rw [law11_told.l0, if_neg (by omega)]
  have e1 : grid_New.f (api_Map.mk 17 1 (List.replicate 17 1)) 0 = some (some tG) := t_new
  rw [e1, Option.bind_some, optm_s' tG]
  rw [tG_nodes, Option.bind_some, ints_self (by simp), Option.bind_some, if_pos rfl, tG_cross, Option.bind_some, edges_self _ (by simp), Option.bind_some, if_pos rfl, tG_runs, Option.bind_some, runs_self _ (by simp)]
  rfl
theorem told11_l : ∀ (n k : Nat) (i : Int), i + n = 17 → 0 ≤ i → n < k → law11_told.l0 k (List.replicate i.toNat 1 ++ List.replicate n 0) i = some true := by
  intro n
  induction n with
  | zero =>
    intro k i hi h0 hk
    obtain ⟨k, rfl⟩ := kpos hk
    exact told11_end k i (by omega) _ (by rw [show i.toNat = 17 by omega]; rfl)
  | succ n ih =>
    intro k i hi h0 hk
    obtain ⟨k, rfl⟩ := kpos hk
    have e : List.set (List.replicate i.toNat (1 : Int) ++ List.replicate (n + 1) 0) i.toNat 1 = List.replicate (i + 1).toNat 1 ++ List.replicate n 0 := by
      rw [List.set_append_right _ _ (by simp), show (i + 1).toNat = i.toNat + 1 by omega, List.replicate_succ' (n := i.toNat), List.replicate_succ]
      simp
    rw [law11_told.l0, if_pos (by omega), if_pos (by simp; omega), e, w64_id (by omega) (by omega)]
    exact ih k (i + 1) (by omega) (by omega) (by omega)
theorem told11 : law11_told.f = some true := by
  unfold law11_told.f
  rw [if_pos (by omega)]
  have := told11_l 17 fuel 0 (by omega) (by omega) (by rw [fuelv]; omega)
  exact this
/-- the map that the numbers make, and its grid -/
theorem made_g (w h : Int) {c : List Int} (hc : ∀ y ∈ c, 0 ≤ y ∧ y ≤ 255) : ∃ m, ref1_Made.f w h c = some m ∧ grid_New.f m 0 = some (some (grid_Grid.mk m 1 (List.replicate (sCount m.W m.H).toNat 1))) ∧ MapOk m ∧ m.W ≤ 40 ∧ m.H ≤ 40 ∧ (m.C.length : Int) = m.W * m.H ∧ m.W * m.H ≤ 1600 ∧ (∀ c : Int, inMap m c → 1 ≤ rd m.C c ∧ rd m.C c ≤ 255) ∧ GridS (grid_Grid.mk m 1 (List.replicate (sCount m.W m.H).toNat 1)) 1000 := by
  obtain ⟨m, e, hm, hw, hh, hb⟩ := made_f w h (c := c) hc
  have hl := hm.2.1
  have hp : m.W * m.H ≤ 40 * 40 := by
    obtain ⟨⟨a1, a2, a3, a4⟩, _⟩ := hm
    exact mul_le (by omega) (by omega) hw hh
  refine ⟨m, e, ?_, hm, hw, hh, hl, by omega, fun c hc => hb _ (rd_mem hc.1 (by rw [hl]; exact hc.2)), new_s (e := 0) hm hb (by omega)⟩
  rw [gnew_f m 0 (by omega)]
  unfold gNew; rw [if_pos ⟨hm, by omega, by omega⟩]
  rfl
end Go.Proofs.Yticdodeoljodiaa
