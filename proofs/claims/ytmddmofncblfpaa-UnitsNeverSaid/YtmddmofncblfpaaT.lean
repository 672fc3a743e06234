import Derived.Test.YtmddmofncblfpaaHx
import Derived.Test.YtmddmofncblfpaaProg
import Derived.KernelRfl
namespace Go.Proofs.Ytmddmofncblfpaa
open Go.Hx
set_option maxRecDepth 100000
set_option linter.unusedVariables false
structure api_Unit where
  Id : Int
  Cell : Int
  Goal : Int
instance : Inhabited api_Unit := ⟨⟨default, default, default⟩⟩
def k_api_Unit : Fl api_Unit := ⟨3, fun x => [.int .i64 x.Id, .int .i64 x.Cell, .int .i64 x.Goal], fun _ => rfl, fun _ v h => by
  simp only [List.mem_cons, List.not_mem_nil, or_false] at h
  rcases h with rfl | rfl | rfl <;> rfl, Nat.le_of_ble_eq_true rfl⟩
structure units_Units where
  most : Int
  next : Int
  live : (List (Int × api_Unit))
  order : (List Int)
instance : Inhabited units_Units := ⟨⟨default, default, default, default⟩⟩
structure herdsmanlaw21_Ask where
  Kind : Int
  Id : Int
  Cell : Int
  Goal : Int
instance : Inhabited herdsmanlaw21_Ask := ⟨⟨default, default, default, default⟩⟩
def k_herdsmanlaw21_Ask : Fl herdsmanlaw21_Ask := ⟨4, fun x => [.int .i64 x.Kind, .int .i64 x.Id, .int .i64 x.Cell, .int .i64 x.Goal], fun _ => rfl, fun _ v h => by
  simp only [List.mem_cons, List.not_mem_nil, or_false] at h
  rcases h with rfl | rfl | rfl | rfl <;> rfl, Nat.le_of_ble_eq_true rfl⟩
structure herdsmanref21_Units where
  Most : Int
  Next : Int
  L : (List api_Unit)
instance : Inhabited herdsmanref21_Units := ⟨⟨default, default, default⟩⟩
structure api_Pair where
  Goal : Int
  Sector : Int
  Ids : (List Int)
instance : Inhabited api_Pair := ⟨⟨default, default, default⟩⟩
theorem u3 : Try.prog.underlying 3 = some (.int .i64) := by kernel_rfl
theorem u4 : Try.prog.underlying 4 = some (.bool) := by kernel_rfl
theorem u38 : Try.prog.underlying 38 = some (.slice 3) := by kernel_rfl
theorem u40 : Try.prog.underlying 40 = some (.pointer 80) := by kernel_rfl
theorem u44 : Try.prog.underlying 44 = some (.slice 47) := by kernel_rfl
theorem u47 : Try.prog.underlying 47 = some (.struct #[⟨ "Id", 3, 0, false, "", "", 0⟩, ⟨ "Cell", 3, 1, false, "", "", 8⟩, ⟨ "Goal", 3, 2, false, "", "", 16⟩]) := by kernel_rfl
theorem u50 : Try.prog.underlying 50 = some (.slice 55) := by kernel_rfl
theorem u53 : Try.prog.underlying 53 = some (.struct #[⟨ "Most", 3, 0, false, "", "", 0⟩, ⟨ "Next", 3, 1, false, "", "", 8⟩, ⟨ "L", 44, 2, false, "", "", 16⟩]) := by kernel_rfl
theorem u55 : Try.prog.underlying 55 = some (.struct #[⟨ "Kind", 3, 0, false, "", "", 0⟩, ⟨ "Id", 3, 1, false, "", "", 8⟩, ⟨ "Cell", 3, 2, false, "", "", 16⟩, ⟨ "Goal", 3, 3, false, "", "", 24⟩]) := by kernel_rfl
theorem u78 : Try.prog.underlying 78 = some (.map 3 47) := by kernel_rfl
theorem u80 : Try.prog.underlying 80 = some (.struct #[⟨ "most", 3, 0, false, "", "herdsman/units", 0⟩, ⟨ "next", 3, 1, false, "", "herdsman/units", 8⟩, ⟨ "live", 78, 2, false, "", "herdsman/units", 16⟩, ⟨ "order", 38, 3, false, "", "herdsman/units", 24⟩]) := by kernel_rfl
theorem u89 : Try.prog.underlying 89 = some (.map 3 4) := by kernel_rfl
theorem i3 : ((Try.prog.info? 3).map fun i => (i.size, i.bytes, i.zero)) = some (1, 8, some (.int .i64 0)) := by kernel_rfl
theorem i4 : ((Try.prog.info? 4).map fun i => (i.size, i.bytes, i.zero)) = some (1, 1, some (.bool false)) := by kernel_rfl
theorem i38 : ((Try.prog.info? 38).map fun i => (i.size, i.bytes, i.zero)) = some (1, 24, some (.slice none 0 0)) := by kernel_rfl
theorem i44 : ((Try.prog.info? 44).map fun i => (i.size, i.bytes, i.zero)) = some (1, 24, some (.slice none 0 0)) := by kernel_rfl
theorem i47 : ((Try.prog.info? 47).map fun i => (i.size, i.bytes, i.zero)) = some (3, 24, some (.agg #[(.int .i64 0), (.int .i64 0), (.int .i64 0)])) := by kernel_rfl
theorem i53 : ((Try.prog.info? 53).map fun i => (i.size, i.bytes, i.zero)) = some (3, 40, some (.agg #[(.int .i64 0), (.int .i64 0), (.slice none 0 0)])) := by kernel_rfl
theorem i55 : ((Try.prog.info? 55).map fun i => (i.size, i.bytes, i.zero)) = some (4, 32, some (.agg #[(.int .i64 0), (.int .i64 0), (.int .i64 0), (.int .i64 0)])) := by kernel_rfl
theorem i78 : ((Try.prog.info? 78).map fun i => (i.size, i.bytes, i.zero)) = some (1, 8, some (.map none)) := by kernel_rfl
theorem i80 : ((Try.prog.info? 80).map fun i => (i.size, i.bytes, i.zero)) = some (4, 48, some (.agg #[(.int .i64 0), (.int .i64 0), (.map none), (.slice none 0 0)])) := by kernel_rfl
noncomputable def T : Ty Try.prog := Ty.of [(3, .int .i64), (4, .bool), (38, .slice 3), (40, .pointer 80), (44, .slice 47), (47, .struct #[⟨ "Id", 3, 0, false, "", "", 0⟩, ⟨ "Cell", 3, 1, false, "", "", 8⟩, ⟨ "Goal", 3, 2, false, "", "", 16⟩]), (50, .slice 55), (53, .struct #[⟨ "Most", 3, 0, false, "", "", 0⟩, ⟨ "Next", 3, 1, false, "", "", 8⟩, ⟨ "L", 44, 2, false, "", "", 16⟩]), (55, .struct #[⟨ "Kind", 3, 0, false, "", "", 0⟩, ⟨ "Id", 3, 1, false, "", "", 8⟩, ⟨ "Cell", 3, 2, false, "", "", 16⟩, ⟨ "Goal", 3, 3, false, "", "", 24⟩]), (78, .map 3 47), (80, .struct #[⟨ "most", 3, 0, false, "", "herdsman/units", 0⟩, ⟨ "next", 3, 1, false, "", "herdsman/units", 8⟩, ⟨ "live", 78, 2, false, "", "herdsman/units", 16⟩, ⟨ "order", 38, 3, false, "", "herdsman/units", 24⟩]), (89, .map 3 4)]
  [(3, (1, 8, (.int .i64 0))), (4, (1, 1, (.bool false))), (38, (1, 24, (.slice none 0 0))), (44, (1, 24, (.slice none 0 0))), (47, (3, 24, (.agg #[(.int .i64 0), (.int .i64 0), (.int .i64 0)]))), (53, (3, 40, (.agg #[(.int .i64 0), (.int .i64 0), (.slice none 0 0)]))), (55, (4, 32, (.agg #[(.int .i64 0), (.int .i64 0), (.int .i64 0), (.int .i64 0)]))), (78, (1, 8, (.map none))), (80, (4, 48, (.agg #[(.int .i64 0), (.int .i64 0), (.map none), (.slice none 0 0)])))]
  ⟨u3, u4, u38, u40, u44, u47, u50, u53, u55, u78, u80, u89, trivial⟩
  ⟨i3, i4, i38, i44, i47, i53, i55, i78, i80, trivial⟩
theorem has15 : Has Try.prog 15 := ⟨⟨_, Try.func15, by kernel_rfl, by kernel_rfl⟩⟩
theorem has26 : Has Try.prog 26 := ⟨⟨_, Try.func26, by kernel_rfl, by kernel_rfl⟩⟩
theorem has27 : Has Try.prog 27 := ⟨⟨_, Try.func27, by kernel_rfl, by kernel_rfl⟩⟩
theorem has28 : Has Try.prog 28 := ⟨⟨_, Try.func28, by kernel_rfl, by kernel_rfl⟩⟩
theorem has29 : Has Try.prog 29 := ⟨⟨_, Try.func29, by kernel_rfl, by kernel_rfl⟩⟩
theorem has30 : Has Try.prog 30 := ⟨⟨_, Try.func30, by kernel_rfl, by kernel_rfl⟩⟩
theorem has31 : Has Try.prog 31 := ⟨⟨_, Try.func31, by kernel_rfl, by kernel_rfl⟩⟩
theorem has32 : Has Try.prog 32 := ⟨⟨_, Try.func32, by kernel_rfl, by kernel_rfl⟩⟩
theorem has33 : Has Try.prog 33 := ⟨⟨_, Try.func33, by kernel_rfl, by kernel_rfl⟩⟩
theorem has34 : Has Try.prog 34 := ⟨⟨_, Try.func34, by kernel_rfl, by kernel_rfl⟩⟩
theorem has35 : Has Try.prog 35 := ⟨⟨_, Try.func35, by kernel_rfl, by kernel_rfl⟩⟩
theorem has36 : Has Try.prog 36 := ⟨⟨_, Try.func36, by kernel_rfl, by kernel_rfl⟩⟩
theorem has37 : Has Try.prog 37 := ⟨⟨_, Try.func37, by kernel_rfl, by kernel_rfl⟩⟩
theorem has38 : Has Try.prog 38 := ⟨⟨_, Try.func38, by kernel_rfl, by kernel_rfl⟩⟩
theorem has39 : Has Try.prog 39 := ⟨⟨_, Try.func39, by kernel_rfl, by kernel_rfl⟩⟩
theorem has40 : Has Try.prog 40 := ⟨⟨_, Try.func40, by kernel_rfl, by kernel_rfl⟩⟩
theorem has49 : Has Try.prog 49 := ⟨⟨_, Try.func49, by kernel_rfl, by kernel_rfl⟩⟩
theorem has55 : Has Try.prog 55 := ⟨⟨_, Try.func55, by kernel_rfl, by kernel_rfl⟩⟩
theorem has56 : Has Try.prog 56 := ⟨⟨_, Try.func56, by kernel_rfl, by kernel_rfl⟩⟩
theorem has57 : Has Try.prog 57 := ⟨⟨_, Try.func57, by kernel_rfl, by kernel_rfl⟩⟩
theorem has58 : Has Try.prog 58 := ⟨⟨_, Try.func58, by kernel_rfl, by kernel_rfl⟩⟩
theorem has59 : Has Try.prog 59 := ⟨⟨_, Try.func59, by kernel_rfl, by kernel_rfl⟩⟩
theorem mix : Try.prog.follows .mixedOrders = true := by kernel_rfl
theorem sq47 : Try.prog.stoodInHeld 47 = false ∧ Try.prog.eqGuardType Try.prog.depth 47 = false := ⟨by kernel_rfl, by kernel_rfl⟩
@[reducible] def O_units_Units (o : Option units_Units) (v : Value) (G : List Hp) : Prop := match o with
  | none => v = .pointer none ∧ G = []
  | some x => ∃ (b : Nat) (a0 : Nat) (H0 : Hp) (a1 : Option Addr) (n1 : Nat) (H1 : Hp), MapO (Ky.int .i64 u3) (fun x : api_Unit => Value.agg #[.int .i64 x.Id, .int .i64 x.Cell, .int .i64 x.Goal]) x.live a0 H0 ∧ SliceO (Fl.int .i64) 3 x.order a1 n1 H1 ∧ v = .pointer (some ⟨b, 0, none⟩) ∧ G = [[(b, Obj.cells #[(.int .i64 x.most), (.int .i64 x.next), (.map (some a0)), (.slice a1 (List.length x.order) n1)] 80 (0, 0))], H0, H1]
end Go.Proofs.Ytmddmofncblfpaa
