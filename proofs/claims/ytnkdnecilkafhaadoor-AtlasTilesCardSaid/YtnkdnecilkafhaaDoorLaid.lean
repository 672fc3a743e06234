import Derived.Test.YtnkdnecilkafhaaDoorErrs
import Derived.Test.YtnkdnecilkafhaaDoorRows
import Derived.ChangeSame
import Derived.ChangeVars
import Derived.JoinedOf
import Derived.RowKit
import Derived.RowKitTokens
import Derived.LaidLaws
import Derived.LaidHandle
import Derived.Handed
import Derived.Stop.LaidTwo
namespace Go.Proofs.YtnkdnecilkafhaaDoor
open Go.ChangeShapes Go.WideShapes Go.RowKit Go.Hx
set_option maxRecDepth 100000
set_option linter.unusedVariables false
def laid_ : List (String × DataW Unit) := [("errors.errorType", Rows.laid_errors_errorType), ("herdsman/pack.errEnd", Rows.laid_herdsman_pack_errEnd), ("herdsman/pack.errForm", Rows.laid_herdsman_pack_errForm)]
theorem l_gH : Tryd.prog.globalNamed "errors.errorType" = some 0 := by kernel_rfl
theorem l_g0 : Tryd.prog.globalNamed "herdsman/pack.errEnd" = some 2 := by kernel_rfl
theorem l_t0 : (Tryd.prog.globals[2]?).map (·.type) = some 59 := by kernel_rfl
theorem l_g1 : Tryd.prog.globalNamed "herdsman/pack.errForm" = some 1 := by kernel_rfl
theorem l_t1 : (Tryd.prog.globals[1]?).map (·.type) = some 59 := by kernel_rfl
theorem l_rt : (Tryd.prog.cutTypes.find? (·.1 == "internal/reflectlite.rtype")).map (·.2) = some 108 := by kernel_rfl
theorem l_row : ((List.range 175).filter fun t => Tryd.prog.rowNamed t [101, 114, 114, 111, 114]) = [59] := by kernel_rfl
theorem l_size : Tryd.prog.types.size = 175 := by kernel_rfl
theorem l_hd : typeHandle Tryd.prog 59 = .pointer (some ⟨4, 59, none⟩) := by kernel_rfl
theorem l_cE : Tryd.prog.cellsOf 163 = 1 := by kernel_rfl
theorem l_cS : Tryd.prog.cellsOf 9 = 1 := by kernel_rfl
theorem l_u0 : Tryd.prog.underlying 59 = some (.interface #[("Error", 143)]) := by kernel_rfl
theorem l_u1 : Tryd.prog.underlying 142 = some (.pointer 163) := by kernel_rfl
theorem l_u3 : Tryd.prog.underlying 9 = some .string := by kernel_rfl
theorem l_star : "*" ++ "errors.errorString" = "*errors.errorString" := by decide
theorem l_es (u : TypeId) (h : Tryd.prog.typeName? 3 u = some "*errors.errorString") : u = 142 :=
  typeName_ptr_named (nm := "errors.errorString") (by rw [l_star]; kernel_rfl) (by kernel_rfl) (by decide) u (by rw [l_star]; exact h)
theorem var_heap {P : Program} {W : World} {n : String} {g : Nat} {cs : Array Value} (hg : P.globalNamed n = some g) (h : W.var? P n = some cs) : ∃ T fr, W.heap[g]? = some (.cells cs T fr) := by
  simp only [World.var?, hg, Option.bind_some] at h
  split at h
  · rename_i c T fr hh
    exact ⟨T, fr, by rw [hh, Option.some.inj h]⟩
  · cases h
theorem laid_parts {W : World} (h : laidMetH Tryd.prog laid_ W) : laidMet Tryd.prog [("herdsman/pack.errEnd", Rows.laid_herdsman_pack_errEnd), ("herdsman/pack.errForm", Rows.laid_herdsman_pack_errForm)] W ∧ handlesMet Tryd.prog [("errors.errorType", Rows.laid_errors_errorType)] W := h
theorem handle_of_laid {W : World} (h : laidMetH Tryd.prog laid_ W) : ∃ T fr, W.heap[0]? = some (.cells #[.iface 108 (.agg #[.pointer (some ⟨4, 59, none⟩)])] T fr) := by
  obtain ⟨name, u, ty, e1, e2, e3, e4, e5⟩ := (laid_parts h).2 _ (List.mem_singleton.2 rfl)
  have en : name = [101, 114, 114, 111, 114] := (Option.some.inj e1).symm
  subst en
  obtain rfl := Option.some.inj (l_rt.symm.trans e2)
  have hm : ty ∈ (List.range 175).filter fun t => Tryd.prog.rowNamed t [101, 114, 114, 111, 114] := List.mem_filter.2 ⟨List.mem_range.2 (by rw [← l_size]; exact e3), e4⟩
  rw [l_row] at hm
  obtain rfl := List.mem_singleton.1 hm
  rw [l_hd] at e5
  exact var_heap l_gH e5
theorem glb_of_laid {W : World} (h : laidMetH Tryd.prog laid_ W) : ∃ el : Nat → Addr, Glb 142 gs_ lits_ el (allOf W) := by
  obtain ⟨a0, a1, s0, s1, c0, c1, t0, t1, hv0, hv1, hc0, hs0, hz0, hc1, hs1, hz1, hne, hb0, hb1⟩ := laid_sentinels2 (laid_parts h).1 l_g0 l_t0 l_g1 l_t1 l_u0 l_es l_u1 (by kernel_rfl : Tryd.prog.underlying 163 = some (.struct #[{ name := "s", type := 9, offset := 0, byteOffset := 0, embedded := false, tag := "", pkgPath := "errors" }])) rfl rfl l_u3 l_cE l_cS
  obtain ⟨T0, f0, g0⟩ := var_heap l_g0 hv0
  obtain ⟨T1, f1, g1⟩ := var_heap l_g1 hv1
  obtain ⟨T2, f2, g2⟩ := handle_of_laid h
  refine ⟨fun g => if g = 2 then a0 else a1, fun g hg => ?_, fun g hg => ?_, fun a ha b hb q => ?_, fun p hp => ?_⟩
  · have : g = 1 ∨ g = 2 := by simpa [gs_] using hg
    rcases this with rfl | rfl
    · exact ⟨T1, f1, by simpa using all_mem g1⟩
    · exact ⟨T0, f0, by simpa using all_mem g0⟩
  · have : g = 1 ∨ g = 2 := by simpa [gs_] using hg
    rcases this with rfl | rfl
    · exact ⟨c1, t1, by simpa using all_mem hb1⟩
    · exact ⟨c0, t0, by simpa using all_mem hb0⟩
  · have ha : a = 1 ∨ a = 2 := by simpa [gs_] using ha
    have hb : b = 1 ∨ b = 2 := by simpa [gs_] using hb
    rcases ha with rfl | rfl <;> rcases hb with rfl | rfl
    · rfl
    · exact absurd (by simpa using q.symm) hne
    · exact absurd (by simpa using q) hne
    · rfl
  · have : p = (0, .iface 108 (.agg #[.pointer (some ⟨4, 59, none⟩)])) := by simpa [lits_] using hp
    subst this
    exact ⟨T2, f2, all_mem g2⟩
noncomputable def l_low : Nat := (World.holding Tryd.prog default ⟨#[], #[], []⟩).heap.size
noncomputable def laidWorld (os : Os) : World :=
  let w0 := World.holding Tryd.prog os ⟨#[.cells #[.string { data := #[116, 104, 101, 32, 98, 121, 116, 101, 115, 32, 101, 110, 100] }] 163, .cells #[.string { data := #[110, 111, 98, 111, 100, 121, 32, 119, 114, 105, 116, 101, 115, 32, 115, 111] }] 163], #[], []⟩
  { w0 with heap := ((w0.heap.modify 2 fun
      | .cells _ t frozen => .cells #[.iface 142 (.pointer (some ⟨l_low, 0, none⟩))] t frozen
      | o => o).modify 1 fun
      | .cells _ t frozen => .cells #[.iface 142 (.pointer (some ⟨l_low + 1, 0, none⟩))] t frozen
      | o => o).modify 0 fun
      | .cells _ t frozen => .cells #[.iface 108 (.agg #[.pointer (some ⟨4, 59, none⟩)])] t frozen
      | o => o }
theorem laidWorld_met (os : Os) (args : Array Value) : laidMetH Tryd.prog laid_ ((laidWorld os).forCall (fun _ _ => 0) ⟨#[], args, []⟩).memory :=
  laidMetH_of_parts (laidMet_of_run (ps := [.cell 2 0, .cell l_low 0, .cell 1 0, .cell (l_low + 1) 0]) 8 (by kernel_rfl) (by kernel_rfl) (by kernel_rfl)) (by kernel_rfl)
end Go.Proofs.YtnkdnecilkafhaaDoor
