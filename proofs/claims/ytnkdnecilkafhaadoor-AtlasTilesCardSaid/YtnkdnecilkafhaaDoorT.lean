import Derived.Test.YtnkdnecilkafhaaDoorErrs
import Derived.Test.YtnkdnecilkafhaaDoorHy
import Derived.Test.YtnkdnecilkafhaaDoorProg
import Derived.KernelRfl
namespace Go.Proofs.YtnkdnecilkafhaaDoor
open Go.Hx
set_option maxRecDepth 100000
set_option linter.unusedVariables false
structure api_Map where
  W : Int
  H : Int
  C : (List Int)
instance : Inhabited api_Map := ⟨⟨default, default, default⟩⟩
structure pack_reader where
  b : (List Int)
  f_at : Int
instance : Inhabited pack_reader := ⟨⟨default, default⟩⟩
def q_api_Map : Kd api_Map where
  size := 3
  own := fun x cs H => ∃ (a0 : Option Addr) (n0 : Nat) (H0 : Hp), SliceO (Fl.int .u8) 5 x.C a0 n0 H0 ∧ cs = [.int .i64 x.W, .int .i64 x.H, .slice a0 (List.length x.C) n0] ∧ H = List.flatten [H0]
  rdr := fun x cs H => ∃ (a0 : Option Addr) (n0 : Nat), (SliceR (Fl.int .u8) x.C a0 H ∧ List.length x.C ≤ n0) ∧ cs = [.int .i64 x.W, .int .i64 x.H, .slice a0 (List.length x.C) n0]
  len := by
    rintro x cs H ⟨a0, n0, H0, s0, rfl, rfl⟩
    rfl
  plain := by
    rintro x cs H ⟨a0, n0, H0, s0, rfl, rfl⟩ v hv
    simp only [List.mem_cons, List.not_mem_nil, or_false] at hv
    rcases hv with rfl | rfl | rfl <;> rfl
  r := by
    rintro x cs H ⟨a0, n0, H0, s0, rfl, rfl⟩
    exact ⟨a0, n0, ⟨s0.r.mono (fun c hc => mem_group (HL := [H0]) (j := 0) rfl hc), s0.cap_le⟩, rfl⟩
  mono := by
    rintro x cs H H' ⟨a0, n0, ⟨r0, c0⟩, rfl⟩ hs
    exact ⟨a0, n0, ⟨r0.mono hs, c0⟩, rfl⟩
  pos := by decide
theorem u3 : Tryd.prog.underlying 3 = some (.int .i64) := by kernel_rfl
theorem u4 : Tryd.prog.underlying 4 = some (.bool) := by kernel_rfl
theorem u5 : Tryd.prog.underlying 5 = some (.int .u8) := by kernel_rfl
theorem u9 : Tryd.prog.underlying 9 = some (.string) := by kernel_rfl
theorem u22 : Tryd.prog.underlying 22 = some (.slice 5) := by kernel_rfl
theorem u26 : Tryd.prog.underlying 26 = some (.struct #[⟨ "W", 3, 0, false, "", "", 0⟩, ⟨ "H", 3, 1, false, "", "", 8⟩, ⟨ "C", 22, 2, false, "", "", 16⟩]) := by kernel_rfl
theorem u41 : Tryd.prog.underlying 41 = some (.struct #[⟨ "W", 3, 0, false, "", "", 0⟩, ⟨ "H", 3, 1, false, "", "", 8⟩, ⟨ "C", 22, 2, false, "", "", 16⟩]) := by kernel_rfl
theorem u49 : Tryd.prog.underlying 49 = some (.slice 41) := by kernel_rfl
theorem u54 : Tryd.prog.underlying 54 = some (.int .u64) := by kernel_rfl
theorem u59 : Tryd.prog.underlying 59 = some (.interface #[("Error", 143)]) := by kernel_rfl
theorem u62 : Tryd.prog.underlying 62 = some (.int .i64) := by kernel_rfl
theorem u64 : Tryd.prog.underlying 64 = some (.pointer 62) := by kernel_rfl
theorem u79 : Tryd.prog.underlying 79 = some (.pointer 81) := by kernel_rfl
theorem u81 : Tryd.prog.underlying 81 = some (.struct #[⟨ "sector", 3, 0, false, "", "herdsman/atlas", 0⟩, ⟨ "of", 59, 1, false, "", "herdsman/atlas", 8⟩]) := by kernel_rfl
theorem u100 : Tryd.prog.underlying 100 = some (.struct #[⟨ "b", 22, 0, false, "", "herdsman/pack", 0⟩, ⟨ "at", 3, 1, false, "", "herdsman/pack", 24⟩]) := by kernel_rfl
theorem u103 : Tryd.prog.underlying 103 = some (.pointer 106) := by kernel_rfl
theorem u104 : Tryd.prog.underlying 104 = some (.pointer 103) := by kernel_rfl
theorem u106 : Tryd.prog.underlying 106 = some (.struct #[⟨ "at", 3, 0, false, "", "herdsman/pack", 0⟩, ⟨ "code", 3, 1, false, "", "herdsman/pack", 8⟩, ⟨ "of", 59, 2, false, "", "herdsman/pack", 16⟩]) := by kernel_rfl
theorem u139 : Tryd.prog.underlying 139 = some (.int .u64) := by kernel_rfl
theorem i3 : ((Tryd.prog.info? 3).map fun i => (i.size, i.bytes, i.zero)) = some (1, 8, some (.int .i64 0)) := by kernel_rfl
theorem i5 : ((Tryd.prog.info? 5).map fun i => (i.size, i.bytes, i.zero)) = some (1, 1, some (.int .u8 0)) := by kernel_rfl
theorem i22 : ((Tryd.prog.info? 22).map fun i => (i.size, i.bytes, i.zero)) = some (1, 24, some (.slice none 0 0)) := by kernel_rfl
theorem i26 : ((Tryd.prog.info? 26).map fun i => (i.size, i.bytes, i.zero)) = some (3, 40, some (.agg #[(.int .i64 0), (.int .i64 0), (.slice none 0 0)])) := by kernel_rfl
theorem i41 : ((Tryd.prog.info? 41).map fun i => (i.size, i.bytes, i.zero)) = some (3, 40, some (.agg #[(.int .i64 0), (.int .i64 0), (.slice none 0 0)])) := by kernel_rfl
theorem i59 : ((Tryd.prog.info? 59).map fun i => (i.size, i.bytes, i.zero)) = some (1, 16, some .nilIface) := by kernel_rfl
theorem i62 : ((Tryd.prog.info? 62).map fun i => (i.size, i.bytes, i.zero)) = some (1, 8, some (.int .i64 0)) := by kernel_rfl
theorem i81 : ((Tryd.prog.info? 81).map fun i => (i.size, i.bytes, i.zero)) = some (2, 24, some (.agg #[(.int .i64 0), .nilIface])) := by kernel_rfl
theorem i100 : ((Tryd.prog.info? 100).map fun i => (i.size, i.bytes, i.zero)) = some (2, 32, some (.agg #[(.slice none 0 0), (.int .i64 0)])) := by kernel_rfl
theorem i103 : ((Tryd.prog.info? 103).map fun i => (i.size, i.bytes, i.zero)) = some (1, 8, some (.pointer none)) := by kernel_rfl
theorem i106 : ((Tryd.prog.info? 106).map fun i => (i.size, i.bytes, i.zero)) = some (3, 32, some (.agg #[(.int .i64 0), (.int .i64 0), .nilIface])) := by kernel_rfl
noncomputable def T : Ty Tryd.prog := Ty.of [(3, .int .i64), (4, .bool), (5, .int .u8), (9, .string), (22, .slice 5), (26, .struct #[⟨ "W", 3, 0, false, "", "", 0⟩, ⟨ "H", 3, 1, false, "", "", 8⟩, ⟨ "C", 22, 2, false, "", "", 16⟩]), (41, .struct #[⟨ "W", 3, 0, false, "", "", 0⟩, ⟨ "H", 3, 1, false, "", "", 8⟩, ⟨ "C", 22, 2, false, "", "", 16⟩]), (49, .slice 41), (54, .int .u64), (59, .interface #[("Error", 143)]), (62, .int .i64), (64, .pointer 62), (79, .pointer 81), (81, .struct #[⟨ "sector", 3, 0, false, "", "herdsman/atlas", 0⟩, ⟨ "of", 59, 1, false, "", "herdsman/atlas", 8⟩]), (100, .struct #[⟨ "b", 22, 0, false, "", "herdsman/pack", 0⟩, ⟨ "at", 3, 1, false, "", "herdsman/pack", 24⟩]), (103, .pointer 106), (104, .pointer 103), (106, .struct #[⟨ "at", 3, 0, false, "", "herdsman/pack", 0⟩, ⟨ "code", 3, 1, false, "", "herdsman/pack", 8⟩, ⟨ "of", 59, 2, false, "", "herdsman/pack", 16⟩]), (139, .int .u64)]
  [(3, (1, 8, (.int .i64 0))), (5, (1, 1, (.int .u8 0))), (22, (1, 24, (.slice none 0 0))), (26, (3, 40, (.agg #[(.int .i64 0), (.int .i64 0), (.slice none 0 0)]))), (41, (3, 40, (.agg #[(.int .i64 0), (.int .i64 0), (.slice none 0 0)]))), (59, (1, 16, .nilIface)), (62, (1, 8, (.int .i64 0))), (81, (2, 24, (.agg #[(.int .i64 0), .nilIface]))), (100, (2, 32, (.agg #[(.slice none 0 0), (.int .i64 0)]))), (103, (1, 8, (.pointer none))), (106, (3, 32, (.agg #[(.int .i64 0), (.int .i64 0), .nilIface])))]
  ⟨u3, u4, u5, u9, u22, u26, u41, u49, u54, u59, u62, u64, u79, u81, u100, u103, u104, u106, u139, trivial⟩
  ⟨i3, i5, i22, i26, i41, i59, i62, i81, i100, i103, i106, trivial⟩
theorem has9 : Has Tryd.prog 9 := ⟨⟨_, Tryd.func9, by kernel_rfl, by kernel_rfl⟩⟩
theorem has10 : Has Tryd.prog 10 := ⟨⟨_, Tryd.func10, by kernel_rfl, by kernel_rfl⟩⟩
theorem has11 : Has Tryd.prog 11 := ⟨⟨_, Tryd.func11, by kernel_rfl, by kernel_rfl⟩⟩
theorem has12 : Has Tryd.prog 12 := ⟨⟨_, Tryd.func12, by kernel_rfl, by kernel_rfl⟩⟩
theorem has13 : Has Tryd.prog 13 := ⟨⟨_, Tryd.func13, by kernel_rfl, by kernel_rfl⟩⟩
theorem has14 : Has Tryd.prog 14 := ⟨⟨_, Tryd.func14, by kernel_rfl, by kernel_rfl⟩⟩
theorem has15 : Has Tryd.prog 15 := ⟨⟨_, Tryd.func15, by kernel_rfl, by kernel_rfl⟩⟩
theorem has16 : Has Tryd.prog 16 := ⟨⟨_, Tryd.func16, by kernel_rfl, by kernel_rfl⟩⟩
theorem has17 : Has Tryd.prog 17 := ⟨⟨_, Tryd.func17, by kernel_rfl, by kernel_rfl⟩⟩
theorem has18 : Has Tryd.prog 18 := ⟨⟨_, Tryd.func18, by kernel_rfl, by kernel_rfl⟩⟩
theorem has19 : Has Tryd.prog 19 := ⟨⟨_, Tryd.func19, by kernel_rfl, by kernel_rfl⟩⟩
theorem has20 : Has Tryd.prog 20 := ⟨⟨_, Tryd.func20, by kernel_rfl, by kernel_rfl⟩⟩
theorem has21 : Has Tryd.prog 21 := ⟨⟨_, Tryd.func21, by kernel_rfl, by kernel_rfl⟩⟩
theorem has22 : Has Tryd.prog 22 := ⟨⟨_, Tryd.func22, by kernel_rfl, by kernel_rfl⟩⟩
theorem has23 : Has Tryd.prog 23 := ⟨⟨_, Tryd.func23, by kernel_rfl, by kernel_rfl⟩⟩
theorem has24 : Has Tryd.prog 24 := ⟨⟨_, Tryd.func24, by kernel_rfl, by kernel_rfl⟩⟩
theorem has25 : Has Tryd.prog 25 := ⟨⟨_, Tryd.func25, by kernel_rfl, by kernel_rfl⟩⟩
theorem has26 : Has Tryd.prog 26 := ⟨⟨_, Tryd.func26, by kernel_rfl, by kernel_rfl⟩⟩
theorem has27 : Has Tryd.prog 27 := ⟨⟨_, Tryd.func27, by kernel_rfl, by kernel_rfl⟩⟩
theorem has28 : Has Tryd.prog 28 := ⟨⟨_, Tryd.func28, by kernel_rfl, by kernel_rfl⟩⟩
theorem has29 : Has Tryd.prog 29 := ⟨⟨_, Tryd.func29, by kernel_rfl, by kernel_rfl⟩⟩
theorem has30 : Has Tryd.prog 30 := ⟨⟨_, Tryd.func30, by kernel_rfl, by kernel_rfl⟩⟩
theorem has31 : Has Tryd.prog 31 := ⟨⟨_, Tryd.func31, by kernel_rfl, by kernel_rfl⟩⟩
theorem has32 : Has Tryd.prog 32 := ⟨⟨_, Tryd.func32, by kernel_rfl, by kernel_rfl⟩⟩
theorem has33 : Has Tryd.prog 33 := ⟨⟨_, Tryd.func33, by kernel_rfl, by kernel_rfl⟩⟩
theorem has34 : Has Tryd.prog 34 := ⟨⟨_, Tryd.func34, by kernel_rfl, by kernel_rfl⟩⟩
theorem has35 : Has Tryd.prog 35 := ⟨⟨_, Tryd.func35, by kernel_rfl, by kernel_rfl⟩⟩
theorem has36 : Has Tryd.prog 36 := ⟨⟨_, Tryd.func36, by kernel_rfl, by kernel_rfl⟩⟩
theorem has37 : Has Tryd.prog 37 := ⟨⟨_, Tryd.func37, by kernel_rfl, by kernel_rfl⟩⟩
theorem has38 : Has Tryd.prog 38 := ⟨⟨_, Tryd.func38, by kernel_rfl, by kernel_rfl⟩⟩
theorem has39 : Has Tryd.prog 39 := ⟨⟨_, Tryd.func39, by kernel_rfl, by kernel_rfl⟩⟩
theorem has40 : Has Tryd.prog 40 := ⟨⟨_, Tryd.func40, by kernel_rfl, by kernel_rfl⟩⟩
theorem has41 : Has Tryd.prog 41 := ⟨⟨_, Tryd.func41, by kernel_rfl, by kernel_rfl⟩⟩
theorem has42 : Has Tryd.prog 42 := ⟨⟨_, Tryd.func42, by kernel_rfl, by kernel_rfl⟩⟩
theorem has43 : Has Tryd.prog 43 := ⟨⟨_, Tryd.func43, by kernel_rfl, by kernel_rfl⟩⟩
theorem has44 : Has Tryd.prog 44 := ⟨⟨_, Tryd.func44, by kernel_rfl, by kernel_rfl⟩⟩
theorem has45 : Has Tryd.prog 45 := ⟨⟨_, Tryd.func45, by kernel_rfl, by kernel_rfl⟩⟩
theorem has46 : Has Tryd.prog 46 := ⟨⟨_, Tryd.func46, by kernel_rfl, by kernel_rfl⟩⟩
theorem has47 : Has Tryd.prog 47 := ⟨⟨_, Tryd.func47, by kernel_rfl, by kernel_rfl⟩⟩
theorem has48 : Has Tryd.prog 48 := ⟨⟨_, Tryd.func48, by kernel_rfl, by kernel_rfl⟩⟩
theorem has49 : Has Tryd.prog 49 := ⟨⟨_, Tryd.func49, by kernel_rfl, by kernel_rfl⟩⟩
theorem has50 : Has Tryd.prog 50 := ⟨⟨_, Tryd.func50, by kernel_rfl, by kernel_rfl⟩⟩
theorem has51 : Has Tryd.prog 51 := ⟨⟨_, Tryd.func51, by kernel_rfl, by kernel_rfl⟩⟩
theorem has56 : Has Tryd.prog 56 := ⟨⟨_, Tryd.func56, by kernel_rfl, by kernel_rfl⟩⟩
theorem has57 : Has Tryd.prog 57 := ⟨⟨_, Tryd.func57, by kernel_rfl, by kernel_rfl⟩⟩
theorem has58 : Has Tryd.prog 58 := ⟨⟨_, Tryd.func58, by kernel_rfl, by kernel_rfl⟩⟩
theorem has59 : Has Tryd.prog 59 := ⟨⟨_, Tryd.func59, by kernel_rfl, by kernel_rfl⟩⟩
theorem has60 : Has Tryd.prog 60 := ⟨⟨_, Tryd.func60, by kernel_rfl, by kernel_rfl⟩⟩
theorem has61 : Has Tryd.prog 61 := ⟨⟨_, Tryd.func61, by kernel_rfl, by kernel_rfl⟩⟩
theorem has62 : Has Tryd.prog 62 := ⟨⟨_, Tryd.func62, by kernel_rfl, by kernel_rfl⟩⟩
theorem has66 : Has Tryd.prog 66 := ⟨⟨_, Tryd.func66, by kernel_rfl, by kernel_rfl⟩⟩
theorem has67 : Has Tryd.prog 67 := ⟨⟨_, Tryd.func67, by kernel_rfl, by kernel_rfl⟩⟩
theorem has68 : Has Tryd.prog 68 := ⟨⟨_, Tryd.func68, by kernel_rfl, by kernel_rfl⟩⟩
theorem has69 : Has Tryd.prog 69 := ⟨⟨_, Tryd.func69, by kernel_rfl, by kernel_rfl⟩⟩
theorem has70 : Has Tryd.prog 70 := ⟨⟨_, Tryd.func70, by kernel_rfl, by kernel_rfl⟩⟩
theorem has71 : Has Tryd.prog 71 := ⟨⟨_, Tryd.func71, by kernel_rfl, by kernel_rfl⟩⟩
theorem has72 : Has Tryd.prog 72 := ⟨⟨_, Tryd.func72, by kernel_rfl, by kernel_rfl⟩⟩
theorem has73 : Has Tryd.prog 73 := ⟨⟨_, Tryd.func73, by kernel_rfl, by kernel_rfl⟩⟩
theorem has74 : Has Tryd.prog 74 := ⟨⟨_, Tryd.func74, by kernel_rfl, by kernel_rfl⟩⟩
theorem has75 : Has Tryd.prog 75 := ⟨⟨_, Tryd.func75, by kernel_rfl, by kernel_rfl⟩⟩
theorem has76 : Has Tryd.prog 76 := ⟨⟨_, Tryd.func76, by kernel_rfl, by kernel_rfl⟩⟩
theorem has78 : Has Tryd.prog 78 := ⟨⟨_, Tryd.func78, by kernel_rfl, by kernel_rfl⟩⟩
theorem has79 : Has Tryd.prog 79 := ⟨⟨_, Tryd.func79, by kernel_rfl, by kernel_rfl⟩⟩
theorem has82 : Has Tryd.prog 82 := ⟨⟨_, Tryd.func82, by kernel_rfl, by kernel_rfl⟩⟩
theorem mix : Tryd.prog.follows .mixedOrders = true := by kernel_rfl
end Go.Proofs.YtnkdnecilkafhaaDoor
