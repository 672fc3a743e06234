import Derived.Test.YtonjonpepfepfaaDoorErrs
import Derived.Test.YtonjonpepfepfaaDoorHy
import Derived.Test.YtonjonpepfepfaaDoorProg
import Derived.KernelRfl
namespace Go.Proofs.YtonjonpepfepfaaDoor
open Go.Hx
set_option maxRecDepth 100000
set_option linter.unusedVariables false
structure api_Tile where
  W : Int
  H : Int
  C : (List Int)
instance : Inhabited api_Tile := ⟨⟨default, default, default⟩⟩
structure pack_reader where
  b : (List Int)
  f_at : Int
instance : Inhabited pack_reader := ⟨⟨default, default⟩⟩
theorem u3 : Tryd.prog.underlying 3 = some (.int .i64) := by kernel_rfl
theorem u4 : Tryd.prog.underlying 4 = some (.bool) := by kernel_rfl
theorem u5 : Tryd.prog.underlying 5 = some (.int .u8) := by kernel_rfl
theorem u9 : Tryd.prog.underlying 9 = some (.string) := by kernel_rfl
theorem u22 : Tryd.prog.underlying 22 = some (.slice 5) := by kernel_rfl
theorem u26 : Tryd.prog.underlying 26 = some (.struct #[⟨ "W", 3, 0, false, "", "", 0⟩, ⟨ "H", 3, 1, false, "", "", 8⟩, ⟨ "C", 22, 2, false, "", "", 16⟩]) := by kernel_rfl
theorem u40 : Tryd.prog.underlying 40 = some (.struct #[⟨ "b", 22, 0, false, "", "herdsman/pack", 0⟩, ⟨ "at", 3, 1, false, "", "herdsman/pack", 24⟩]) := by kernel_rfl
theorem u42 : Tryd.prog.underlying 42 = some (.interface #[("Error", 111)]) := by kernel_rfl
theorem u45 : Tryd.prog.underlying 45 = some (.pointer 49) := by kernel_rfl
theorem u47 : Tryd.prog.underlying 47 = some (.pointer 45) := by kernel_rfl
theorem u49 : Tryd.prog.underlying 49 = some (.struct #[⟨ "at", 3, 0, false, "", "herdsman/pack", 0⟩, ⟨ "code", 3, 1, false, "", "herdsman/pack", 8⟩, ⟨ "of", 42, 2, false, "", "herdsman/pack", 16⟩]) := by kernel_rfl
theorem u96 : Tryd.prog.underlying 96 = some (.int .u64) := by kernel_rfl
theorem u107 : Tryd.prog.underlying 107 = some (.int .u64) := by kernel_rfl
theorem i3 : ((Tryd.prog.info? 3).map fun i => (i.size, i.bytes, i.zero)) = some (1, 8, some (.int .i64 0)) := by kernel_rfl
theorem i5 : ((Tryd.prog.info? 5).map fun i => (i.size, i.bytes, i.zero)) = some (1, 1, some (.int .u8 0)) := by kernel_rfl
theorem i22 : ((Tryd.prog.info? 22).map fun i => (i.size, i.bytes, i.zero)) = some (1, 24, some (.slice none 0 0)) := by kernel_rfl
theorem i26 : ((Tryd.prog.info? 26).map fun i => (i.size, i.bytes, i.zero)) = some (3, 40, some (.agg #[(.int .i64 0), (.int .i64 0), (.slice none 0 0)])) := by kernel_rfl
theorem i40 : ((Tryd.prog.info? 40).map fun i => (i.size, i.bytes, i.zero)) = some (2, 32, some (.agg #[(.slice none 0 0), (.int .i64 0)])) := by kernel_rfl
theorem i42 : ((Tryd.prog.info? 42).map fun i => (i.size, i.bytes, i.zero)) = some (1, 16, some .nilIface) := by kernel_rfl
theorem i45 : ((Tryd.prog.info? 45).map fun i => (i.size, i.bytes, i.zero)) = some (1, 8, some (.pointer none)) := by kernel_rfl
theorem i49 : ((Tryd.prog.info? 49).map fun i => (i.size, i.bytes, i.zero)) = some (3, 32, some (.agg #[(.int .i64 0), (.int .i64 0), .nilIface])) := by kernel_rfl
noncomputable def T : Ty Tryd.prog := Ty.of [(3, .int .i64), (4, .bool), (5, .int .u8), (9, .string), (22, .slice 5), (26, .struct #[⟨ "W", 3, 0, false, "", "", 0⟩, ⟨ "H", 3, 1, false, "", "", 8⟩, ⟨ "C", 22, 2, false, "", "", 16⟩]), (40, .struct #[⟨ "b", 22, 0, false, "", "herdsman/pack", 0⟩, ⟨ "at", 3, 1, false, "", "herdsman/pack", 24⟩]), (42, .interface #[("Error", 111)]), (45, .pointer 49), (47, .pointer 45), (49, .struct #[⟨ "at", 3, 0, false, "", "herdsman/pack", 0⟩, ⟨ "code", 3, 1, false, "", "herdsman/pack", 8⟩, ⟨ "of", 42, 2, false, "", "herdsman/pack", 16⟩]), (96, .int .u64), (107, .int .u64)]
  [(3, (1, 8, (.int .i64 0))), (5, (1, 1, (.int .u8 0))), (22, (1, 24, (.slice none 0 0))), (26, (3, 40, (.agg #[(.int .i64 0), (.int .i64 0), (.slice none 0 0)]))), (40, (2, 32, (.agg #[(.slice none 0 0), (.int .i64 0)]))), (42, (1, 16, .nilIface)), (45, (1, 8, (.pointer none))), (49, (3, 32, (.agg #[(.int .i64 0), (.int .i64 0), .nilIface])))]
  ⟨u3, u4, u5, u9, u22, u26, u40, u42, u45, u47, u49, u96, u107, trivial⟩
  ⟨i3, i5, i22, i26, i40, i42, i45, i49, trivial⟩
theorem has7 : Has Tryd.prog 7 := ⟨⟨_, Tryd.func7, by kernel_rfl, by kernel_rfl⟩⟩
theorem has8 : Has Tryd.prog 8 := ⟨⟨_, Tryd.func8, by kernel_rfl, by kernel_rfl⟩⟩
theorem has9 : Has Tryd.prog 9 := ⟨⟨_, Tryd.func9, by kernel_rfl, by kernel_rfl⟩⟩
theorem has10 : Has Tryd.prog 10 := ⟨⟨_, Tryd.func10, by kernel_rfl, by kernel_rfl⟩⟩
theorem has11 : Has Tryd.prog 11 := ⟨⟨_, Tryd.func11, by kernel_rfl, by kernel_rfl⟩⟩
theorem has12 : Has Tryd.prog 12 := ⟨⟨_, Tryd.func12, by kernel_rfl, by kernel_rfl⟩⟩
theorem has13 : Has Tryd.prog 13 := ⟨⟨_, Tryd.func13, by kernel_rfl, by kernel_rfl⟩⟩
theorem has14 : Has Tryd.prog 14 := ⟨⟨_, Tryd.func14, by kernel_rfl, by kernel_rfl⟩⟩
theorem has15 : Has Tryd.prog 15 := ⟨⟨_, Tryd.func15, by kernel_rfl, by kernel_rfl⟩⟩
theorem has16 : Has Tryd.prog 16 := ⟨⟨_, Tryd.func16, by kernel_rfl, by kernel_rfl⟩⟩
theorem has17 : Has Tryd.prog 17 := ⟨⟨_, Tryd.func17, by kernel_rfl, by kernel_rfl⟩⟩
theorem has18 : Has Tryd.prog 18 := ⟨⟨_, Tryd.func18, by kernel_rfl, by kernel_rfl⟩⟩
theorem has19 : Has Tryd.prog 19 := ⟨⟨_, Tryd.func19, by kernel_rfl, by kernel_rfl⟩⟩
theorem has20 : Has Tryd.prog 20 := ⟨⟨_, Tryd.func20, by kernel_rfl, by kernel_rfl⟩⟩
theorem has21 : Has Tryd.prog 21 := ⟨⟨_, Tryd.func21, by kernel_rfl, by kernel_rfl⟩⟩
theorem has22 : Has Tryd.prog 22 := ⟨⟨_, Tryd.func22, by kernel_rfl, by kernel_rfl⟩⟩
theorem has23 : Has Tryd.prog 23 := ⟨⟨_, Tryd.func23, by kernel_rfl, by kernel_rfl⟩⟩
theorem has24 : Has Tryd.prog 24 := ⟨⟨_, Tryd.func24, by kernel_rfl, by kernel_rfl⟩⟩
theorem has25 : Has Tryd.prog 25 := ⟨⟨_, Tryd.func25, by kernel_rfl, by kernel_rfl⟩⟩
theorem has26 : Has Tryd.prog 26 := ⟨⟨_, Tryd.func26, by kernel_rfl, by kernel_rfl⟩⟩
theorem has27 : Has Tryd.prog 27 := ⟨⟨_, Tryd.func27, by kernel_rfl, by kernel_rfl⟩⟩
theorem has32 : Has Tryd.prog 32 := ⟨⟨_, Tryd.func32, by kernel_rfl, by kernel_rfl⟩⟩
theorem has33 : Has Tryd.prog 33 := ⟨⟨_, Tryd.func33, by kernel_rfl, by kernel_rfl⟩⟩
theorem has34 : Has Tryd.prog 34 := ⟨⟨_, Tryd.func34, by kernel_rfl, by kernel_rfl⟩⟩
theorem has35 : Has Tryd.prog 35 := ⟨⟨_, Tryd.func35, by kernel_rfl, by kernel_rfl⟩⟩
theorem has36 : Has Tryd.prog 36 := ⟨⟨_, Tryd.func36, by kernel_rfl, by kernel_rfl⟩⟩
theorem has37 : Has Tryd.prog 37 := ⟨⟨_, Tryd.func37, by kernel_rfl, by kernel_rfl⟩⟩
theorem has38 : Has Tryd.prog 38 := ⟨⟨_, Tryd.func38, by kernel_rfl, by kernel_rfl⟩⟩
theorem has39 : Has Tryd.prog 39 := ⟨⟨_, Tryd.func39, by kernel_rfl, by kernel_rfl⟩⟩
theorem has40 : Has Tryd.prog 40 := ⟨⟨_, Tryd.func40, by kernel_rfl, by kernel_rfl⟩⟩
theorem has45 : Has Tryd.prog 45 := ⟨⟨_, Tryd.func45, by kernel_rfl, by kernel_rfl⟩⟩
theorem has46 : Has Tryd.prog 46 := ⟨⟨_, Tryd.func46, by kernel_rfl, by kernel_rfl⟩⟩
theorem has47 : Has Tryd.prog 47 := ⟨⟨_, Tryd.func47, by kernel_rfl, by kernel_rfl⟩⟩
theorem has48 : Has Tryd.prog 48 := ⟨⟨_, Tryd.func48, by kernel_rfl, by kernel_rfl⟩⟩
theorem has50 : Has Tryd.prog 50 := ⟨⟨_, Tryd.func50, by kernel_rfl, by kernel_rfl⟩⟩
theorem has52 : Has Tryd.prog 52 := ⟨⟨_, Tryd.func52, by kernel_rfl, by kernel_rfl⟩⟩
theorem mix : Tryd.prog.follows .mixedOrders = true := by kernel_rfl
end Go.Proofs.YtonjonpepfepfaaDoor
