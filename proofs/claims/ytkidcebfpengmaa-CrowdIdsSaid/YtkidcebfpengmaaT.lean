import Derived.Test.YtkidcebfpengmaaHx
import Derived.Test.YtkidcebfpengmaaProg
import Derived.KernelRfl
namespace Go.Proofs.Ytkidcebfpengmaa
open Go.Hx
set_option maxRecDepth 100000
set_option linter.unusedVariables false
structure api_Unit where
  Id : Int
  Cell : Int
  Goal : Int
instance : Inhabited api_Unit := ⟨⟨default, default, default⟩⟩
def k_api_Unit : Fl api_Unit := ⟨3, fun x => [.int .i64 x.Id, .int .i64 x.Cell, .int .i64 x.Goal], fun _ => rfl, fun _ v h => by
  simp only [List.mem_cons, List.not_mem_nil, or_false] at h
  rcases h with rfl | rfl | rfl <;> rfl, Nat.le_of_ble_eq_true rfl⟩
structure api_Move where
  Id : Int
  To : Int
instance : Inhabited api_Move := ⟨⟨default, default⟩⟩
def k_api_Move : Fl api_Move := ⟨2, fun x => [.int .i64 x.Id, .int .i64 x.To], fun _ => rfl, fun _ v h => by
  simp only [List.mem_cons, List.not_mem_nil, or_false] at h
  rcases h with rfl | rfl <;> rfl, Nat.le_of_ble_eq_true rfl⟩
structure march_field where
  w : Int
  h : Int
  stand : (List (Int × Bool))
  moves : (List api_Move)
  gone : (List Int)
instance : Inhabited march_field := ⟨⟨default, default, default, default, default⟩⟩
structure units_Units where
  most : Int
  next : Int
  live : (List (Int × api_Unit))
  order : (List Int)
instance : Inhabited units_Units := ⟨⟨default, default, default, default⟩⟩
structure floor_Floor where
  words : (List Int)
  count : Int
instance : Inhabited floor_Floor := ⟨⟨default, default⟩⟩
structure crowd_Crowd where
  w : Int
  h : Int
  most : Int
  units : units_Units
  floor : floor_Floor
instance : Inhabited crowd_Crowd := ⟨⟨default, default, default, default, default⟩⟩
structure herdsmanlaw25_Ask where
  Kind : Int
  A : Int
  B : Int
instance : Inhabited herdsmanlaw25_Ask := ⟨⟨default, default, default⟩⟩
def k_herdsmanlaw25_Ask : Fl herdsmanlaw25_Ask := ⟨3, fun x => [.int .i64 x.Kind, .int .i64 x.A, .int .i64 x.B], fun _ => rfl, fun _ v h => by
  simp only [List.mem_cons, List.not_mem_nil, or_false] at h
  rcases h with rfl | rfl | rfl <;> rfl, Nat.le_of_ble_eq_true rfl⟩
structure herdsmanref21_Units where
  Most : Int
  Next : Int
  L : (List api_Unit)
instance : Inhabited herdsmanref21_Units := ⟨⟨default, default, default⟩⟩
structure herdsmanref21_Crowd where
  W : Int
  H : Int
  U : herdsmanref21_Units
instance : Inhabited herdsmanref21_Crowd := ⟨⟨default, default, default⟩⟩
theorem u3 : Try.prog.underlying 3 = some (.int .i64) := by kernel_rfl
theorem u4 : Try.prog.underlying 4 = some (.bool) := by kernel_rfl
theorem u22 : Try.prog.underlying 22 = some (.slice 40) := by kernel_rfl
theorem u23 : Try.prog.underlying 23 = some (.slice 3) := by kernel_rfl
theorem u27 : Try.prog.underlying 27 = some (.slice 42) := by kernel_rfl
theorem u40 : Try.prog.underlying 40 = some (.struct #[⟨ "Id", 3, 0, false, "", "", 0⟩, ⟨ "Cell", 3, 1, false, "", "", 8⟩, ⟨ "Goal", 3, 2, false, "", "", 16⟩]) := by kernel_rfl
theorem u42 : Try.prog.underlying 42 = some (.struct #[⟨ "Id", 3, 0, false, "", "", 0⟩, ⟨ "To", 3, 1, false, "", "", 8⟩]) := by kernel_rfl
theorem u46 : Try.prog.underlying 46 = some (.pointer 92) := by kernel_rfl
theorem u54 : Try.prog.underlying 54 = some (.slice 57) := by kernel_rfl
theorem u55 : Try.prog.underlying 55 = some (.map 3 3) := by kernel_rfl
theorem u57 : Try.prog.underlying 57 = some (.struct #[⟨ "Kind", 3, 0, false, "", "", 0⟩, ⟨ "A", 3, 1, false, "", "", 8⟩, ⟨ "B", 3, 2, false, "", "", 16⟩]) := by kernel_rfl
theorem u66 : Try.prog.underlying 66 = some (.struct #[⟨ "Most", 3, 0, false, "", "", 0⟩, ⟨ "Next", 3, 1, false, "", "", 8⟩, ⟨ "L", 22, 2, false, "", "", 16⟩]) := by kernel_rfl
theorem u68 : Try.prog.underlying 68 = some (.struct #[⟨ "W", 3, 0, false, "", "", 0⟩, ⟨ "H", 3, 1, false, "", "", 8⟩, ⟨ "U", 66, 2, false, "", "", 16⟩]) := by kernel_rfl
theorem u70 : Try.prog.underlying 70 = some (.slice 74) := by kernel_rfl
theorem u74 : Try.prog.underlying 74 = some (.int .u32) := by kernel_rfl
theorem u80 : Try.prog.underlying 80 = some (.map 3 4) := by kernel_rfl
theorem u82 : Try.prog.underlying 82 = some (.struct #[⟨ "w", 3, 0, false, "", "herdsman/march", 0⟩, ⟨ "h", 3, 1, false, "", "herdsman/march", 8⟩, ⟨ "stand", 80, 2, false, "", "herdsman/march", 16⟩, ⟨ "moves", 27, 3, false, "", "herdsman/march", 24⟩, ⟨ "gone", 23, 4, false, "", "herdsman/march", 48⟩]) := by kernel_rfl
theorem u87 : Try.prog.underlying 87 = some (.pointer 102) := by kernel_rfl
theorem u89 : Try.prog.underlying 89 = some (.pointer 104) := by kernel_rfl
theorem u92 : Try.prog.underlying 92 = some (.struct #[⟨ "w", 3, 0, false, "", "herdsman/crowd", 0⟩, ⟨ "h", 3, 1, false, "", "herdsman/crowd", 8⟩, ⟨ "most", 3, 2, false, "", "herdsman/crowd", 16⟩, ⟨ "units", 87, 3, false, "", "herdsman/crowd", 24⟩, ⟨ "floor", 89, 4, false, "", "herdsman/crowd", 32⟩]) := by kernel_rfl
theorem u100 : Try.prog.underlying 100 = some (.map 3 40) := by kernel_rfl
theorem u102 : Try.prog.underlying 102 = some (.struct #[⟨ "most", 3, 0, false, "", "herdsman/units", 0⟩, ⟨ "next", 3, 1, false, "", "herdsman/units", 8⟩, ⟨ "live", 100, 2, false, "", "herdsman/units", 16⟩, ⟨ "order", 23, 3, false, "", "herdsman/units", 24⟩]) := by kernel_rfl
theorem u104 : Try.prog.underlying 104 = some (.struct #[⟨ "words", 70, 0, false, "", "herdsman/floor", 0⟩, ⟨ "count", 3, 1, false, "", "herdsman/floor", 24⟩]) := by kernel_rfl
theorem i3 : ((Try.prog.info? 3).map fun i => (i.size, i.bytes, i.zero)) = some (1, 8, some (.int .i64 0)) := by kernel_rfl
theorem i4 : ((Try.prog.info? 4).map fun i => (i.size, i.bytes, i.zero)) = some (1, 1, some (.bool false)) := by kernel_rfl
theorem i22 : ((Try.prog.info? 22).map fun i => (i.size, i.bytes, i.zero)) = some (1, 24, some (.slice none 0 0)) := by kernel_rfl
theorem i23 : ((Try.prog.info? 23).map fun i => (i.size, i.bytes, i.zero)) = some (1, 24, some (.slice none 0 0)) := by kernel_rfl
theorem i27 : ((Try.prog.info? 27).map fun i => (i.size, i.bytes, i.zero)) = some (1, 24, some (.slice none 0 0)) := by kernel_rfl
theorem i40 : ((Try.prog.info? 40).map fun i => (i.size, i.bytes, i.zero)) = some (3, 24, some (.agg #[(.int .i64 0), (.int .i64 0), (.int .i64 0)])) := by kernel_rfl
theorem i42 : ((Try.prog.info? 42).map fun i => (i.size, i.bytes, i.zero)) = some (2, 16, some (.agg #[(.int .i64 0), (.int .i64 0)])) := by kernel_rfl
theorem i57 : ((Try.prog.info? 57).map fun i => (i.size, i.bytes, i.zero)) = some (3, 24, some (.agg #[(.int .i64 0), (.int .i64 0), (.int .i64 0)])) := by kernel_rfl
theorem i66 : ((Try.prog.info? 66).map fun i => (i.size, i.bytes, i.zero)) = some (3, 40, some (.agg #[(.int .i64 0), (.int .i64 0), (.slice none 0 0)])) := by kernel_rfl
theorem i68 : ((Try.prog.info? 68).map fun i => (i.size, i.bytes, i.zero)) = some (5, 56, some (.agg #[(.int .i64 0), (.int .i64 0), (.int .i64 0), (.int .i64 0), (.slice none 0 0)])) := by kernel_rfl
theorem i70 : ((Try.prog.info? 70).map fun i => (i.size, i.bytes, i.zero)) = some (1, 24, some (.slice none 0 0)) := by kernel_rfl
theorem i74 : ((Try.prog.info? 74).map fun i => (i.size, i.bytes, i.zero)) = some (1, 4, some (.int .u32 0)) := by kernel_rfl
theorem i80 : ((Try.prog.info? 80).map fun i => (i.size, i.bytes, i.zero)) = some (1, 8, some (.map none)) := by kernel_rfl
theorem i82 : ((Try.prog.info? 82).map fun i => (i.size, i.bytes, i.zero)) = some (5, 72, some (.agg #[(.int .i64 0), (.int .i64 0), (.map none), (.slice none 0 0), (.slice none 0 0)])) := by kernel_rfl
theorem i87 : ((Try.prog.info? 87).map fun i => (i.size, i.bytes, i.zero)) = some (1, 8, some (.pointer none)) := by kernel_rfl
theorem i89 : ((Try.prog.info? 89).map fun i => (i.size, i.bytes, i.zero)) = some (1, 8, some (.pointer none)) := by kernel_rfl
theorem i92 : ((Try.prog.info? 92).map fun i => (i.size, i.bytes, i.zero)) = some (5, 40, some (.agg #[(.int .i64 0), (.int .i64 0), (.int .i64 0), (.pointer none), (.pointer none)])) := by kernel_rfl
theorem i100 : ((Try.prog.info? 100).map fun i => (i.size, i.bytes, i.zero)) = some (1, 8, some (.map none)) := by kernel_rfl
theorem i102 : ((Try.prog.info? 102).map fun i => (i.size, i.bytes, i.zero)) = some (4, 48, some (.agg #[(.int .i64 0), (.int .i64 0), (.map none), (.slice none 0 0)])) := by kernel_rfl
theorem i104 : ((Try.prog.info? 104).map fun i => (i.size, i.bytes, i.zero)) = some (2, 32, some (.agg #[(.slice none 0 0), (.int .i64 0)])) := by kernel_rfl
noncomputable def T : Ty Try.prog := Ty.of [(3, .int .i64), (4, .bool), (22, .slice 40), (23, .slice 3), (27, .slice 42), (40, .struct #[⟨ "Id", 3, 0, false, "", "", 0⟩, ⟨ "Cell", 3, 1, false, "", "", 8⟩, ⟨ "Goal", 3, 2, false, "", "", 16⟩]), (42, .struct #[⟨ "Id", 3, 0, false, "", "", 0⟩, ⟨ "To", 3, 1, false, "", "", 8⟩]), (46, .pointer 92), (54, .slice 57), (55, .map 3 3), (57, .struct #[⟨ "Kind", 3, 0, false, "", "", 0⟩, ⟨ "A", 3, 1, false, "", "", 8⟩, ⟨ "B", 3, 2, false, "", "", 16⟩]), (66, .struct #[⟨ "Most", 3, 0, false, "", "", 0⟩, ⟨ "Next", 3, 1, false, "", "", 8⟩, ⟨ "L", 22, 2, false, "", "", 16⟩]), (68, .struct #[⟨ "W", 3, 0, false, "", "", 0⟩, ⟨ "H", 3, 1, false, "", "", 8⟩, ⟨ "U", 66, 2, false, "", "", 16⟩]), (70, .slice 74), (74, .int .u32), (80, .map 3 4), (82, .struct #[⟨ "w", 3, 0, false, "", "herdsman/march", 0⟩, ⟨ "h", 3, 1, false, "", "herdsman/march", 8⟩, ⟨ "stand", 80, 2, false, "", "herdsman/march", 16⟩, ⟨ "moves", 27, 3, false, "", "herdsman/march", 24⟩, ⟨ "gone", 23, 4, false, "", "herdsman/march", 48⟩]), (87, .pointer 102), (89, .pointer 104), (92, .struct #[⟨ "w", 3, 0, false, "", "herdsman/crowd", 0⟩, ⟨ "h", 3, 1, false, "", "herdsman/crowd", 8⟩, ⟨ "most", 3, 2, false, "", "herdsman/crowd", 16⟩, ⟨ "units", 87, 3, false, "", "herdsman/crowd", 24⟩, ⟨ "floor", 89, 4, false, "", "herdsman/crowd", 32⟩]), (100, .map 3 40), (102, .struct #[⟨ "most", 3, 0, false, "", "herdsman/units", 0⟩, ⟨ "next", 3, 1, false, "", "herdsman/units", 8⟩, ⟨ "live", 100, 2, false, "", "herdsman/units", 16⟩, ⟨ "order", 23, 3, false, "", "herdsman/units", 24⟩]), (104, .struct #[⟨ "words", 70, 0, false, "", "herdsman/floor", 0⟩, ⟨ "count", 3, 1, false, "", "herdsman/floor", 24⟩])]
  [(3, (1, 8, (.int .i64 0))), (4, (1, 1, (.bool false))), (22, (1, 24, (.slice none 0 0))), (23, (1, 24, (.slice none 0 0))), (27, (1, 24, (.slice none 0 0))), (40, (3, 24, (.agg #[(.int .i64 0), (.int .i64 0), (.int .i64 0)]))), (42, (2, 16, (.agg #[(.int .i64 0), (.int .i64 0)]))), (57, (3, 24, (.agg #[(.int .i64 0), (.int .i64 0), (.int .i64 0)]))), (66, (3, 40, (.agg #[(.int .i64 0), (.int .i64 0), (.slice none 0 0)]))), (68, (5, 56, (.agg #[(.int .i64 0), (.int .i64 0), (.int .i64 0), (.int .i64 0), (.slice none 0 0)]))), (70, (1, 24, (.slice none 0 0))), (74, (1, 4, (.int .u32 0))), (80, (1, 8, (.map none))), (82, (5, 72, (.agg #[(.int .i64 0), (.int .i64 0), (.map none), (.slice none 0 0), (.slice none 0 0)]))), (87, (1, 8, (.pointer none))), (89, (1, 8, (.pointer none))), (92, (5, 40, (.agg #[(.int .i64 0), (.int .i64 0), (.int .i64 0), (.pointer none), (.pointer none)]))), (100, (1, 8, (.map none))), (102, (4, 48, (.agg #[(.int .i64 0), (.int .i64 0), (.map none), (.slice none 0 0)]))), (104, (2, 32, (.agg #[(.slice none 0 0), (.int .i64 0)])))]
  ⟨u3, u4, u22, u23, u27, u40, u42, u46, u54, u55, u57, u66, u68, u70, u74, u80, u82, u87, u89, u92, u100, u102, u104, trivial⟩
  ⟨i3, i4, i22, i23, i27, i40, i42, i57, i66, i68, i70, i74, i80, i82, i87, i89, i92, i100, i102, i104, trivial⟩
theorem has12 : Has Try.prog 12 := ⟨⟨_, Try.func12, by kernel_rfl, by kernel_rfl⟩⟩
theorem has13 : Has Try.prog 13 := ⟨⟨_, Try.func13, by kernel_rfl, by kernel_rfl⟩⟩
theorem has14 : Has Try.prog 14 := ⟨⟨_, Try.func14, by kernel_rfl, by kernel_rfl⟩⟩
theorem has15 : Has Try.prog 15 := ⟨⟨_, Try.func15, by kernel_rfl, by kernel_rfl⟩⟩
theorem has16 : Has Try.prog 16 := ⟨⟨_, Try.func16, by kernel_rfl, by kernel_rfl⟩⟩
theorem has17 : Has Try.prog 17 := ⟨⟨_, Try.func17, by kernel_rfl, by kernel_rfl⟩⟩
theorem has18 : Has Try.prog 18 := ⟨⟨_, Try.func18, by kernel_rfl, by kernel_rfl⟩⟩
theorem has19 : Has Try.prog 19 := ⟨⟨_, Try.func19, by kernel_rfl, by kernel_rfl⟩⟩
theorem has20 : Has Try.prog 20 := ⟨⟨_, Try.func20, by kernel_rfl, by kernel_rfl⟩⟩
theorem has21 : Has Try.prog 21 := ⟨⟨_, Try.func21, by kernel_rfl, by kernel_rfl⟩⟩
theorem has22 : Has Try.prog 22 := ⟨⟨_, Try.func22, by kernel_rfl, by kernel_rfl⟩⟩
theorem has23 : Has Try.prog 23 := ⟨⟨_, Try.func23, by kernel_rfl, by kernel_rfl⟩⟩
theorem has24 : Has Try.prog 24 := ⟨⟨_, Try.func24, by kernel_rfl, by kernel_rfl⟩⟩
theorem has25 : Has Try.prog 25 := ⟨⟨_, Try.func25, by kernel_rfl, by kernel_rfl⟩⟩
theorem has26 : Has Try.prog 26 := ⟨⟨_, Try.func26, by kernel_rfl, by kernel_rfl⟩⟩
theorem has27 : Has Try.prog 27 := ⟨⟨_, Try.func27, by kernel_rfl, by kernel_rfl⟩⟩
theorem has28 : Has Try.prog 28 := ⟨⟨_, Try.func28, by kernel_rfl, by kernel_rfl⟩⟩
theorem has29 : Has Try.prog 29 := ⟨⟨_, Try.func29, by kernel_rfl, by kernel_rfl⟩⟩
theorem has30 : Has Try.prog 30 := ⟨⟨_, Try.func30, by kernel_rfl, by kernel_rfl⟩⟩
theorem has31 : Has Try.prog 31 := ⟨⟨_, Try.func31, by kernel_rfl, by kernel_rfl⟩⟩
theorem has32 : Has Try.prog 32 := ⟨⟨_, Try.func32, by kernel_rfl, by kernel_rfl⟩⟩
theorem has33 : Has Try.prog 33 := ⟨⟨_, Try.func33, by kernel_rfl, by kernel_rfl⟩⟩
theorem has34 : Has Try.prog 34 := ⟨⟨_, Try.func34, by kernel_rfl, by kernel_rfl⟩⟩
theorem has35 : Has Try.prog 35 := ⟨⟨_, Try.func35, by kernel_rfl, by kernel_rfl⟩⟩
theorem has36 : Has Try.prog 36 := ⟨⟨_, Try.func36, by kernel_rfl, by kernel_rfl⟩⟩
theorem has37 : Has Try.prog 37 := ⟨⟨_, Try.func37, by kernel_rfl, by kernel_rfl⟩⟩
theorem has38 : Has Try.prog 38 := ⟨⟨_, Try.func38, by kernel_rfl, by kernel_rfl⟩⟩
theorem has39 : Has Try.prog 39 := ⟨⟨_, Try.func39, by kernel_rfl, by kernel_rfl⟩⟩
theorem has40 : Has Try.prog 40 := ⟨⟨_, Try.func40, by kernel_rfl, by kernel_rfl⟩⟩
theorem has41 : Has Try.prog 41 := ⟨⟨_, Try.func41, by kernel_rfl, by kernel_rfl⟩⟩
theorem has42 : Has Try.prog 42 := ⟨⟨_, Try.func42, by kernel_rfl, by kernel_rfl⟩⟩
theorem has43 : Has Try.prog 43 := ⟨⟨_, Try.func43, by kernel_rfl, by kernel_rfl⟩⟩
theorem has44 : Has Try.prog 44 := ⟨⟨_, Try.func44, by kernel_rfl, by kernel_rfl⟩⟩
theorem has45 : Has Try.prog 45 := ⟨⟨_, Try.func45, by kernel_rfl, by kernel_rfl⟩⟩
theorem has46 : Has Try.prog 46 := ⟨⟨_, Try.func46, by kernel_rfl, by kernel_rfl⟩⟩
theorem has47 : Has Try.prog 47 := ⟨⟨_, Try.func47, by kernel_rfl, by kernel_rfl⟩⟩
theorem has48 : Has Try.prog 48 := ⟨⟨_, Try.func48, by kernel_rfl, by kernel_rfl⟩⟩
theorem has49 : Has Try.prog 49 := ⟨⟨_, Try.func49, by kernel_rfl, by kernel_rfl⟩⟩
theorem has50 : Has Try.prog 50 := ⟨⟨_, Try.func50, by kernel_rfl, by kernel_rfl⟩⟩
theorem has51 : Has Try.prog 51 := ⟨⟨_, Try.func51, by kernel_rfl, by kernel_rfl⟩⟩
theorem has52 : Has Try.prog 52 := ⟨⟨_, Try.func52, by kernel_rfl, by kernel_rfl⟩⟩
theorem has53 : Has Try.prog 53 := ⟨⟨_, Try.func53, by kernel_rfl, by kernel_rfl⟩⟩
theorem has54 : Has Try.prog 54 := ⟨⟨_, Try.func54, by kernel_rfl, by kernel_rfl⟩⟩
theorem has55 : Has Try.prog 55 := ⟨⟨_, Try.func55, by kernel_rfl, by kernel_rfl⟩⟩
theorem has56 : Has Try.prog 56 := ⟨⟨_, Try.func56, by kernel_rfl, by kernel_rfl⟩⟩
theorem has57 : Has Try.prog 57 := ⟨⟨_, Try.func57, by kernel_rfl, by kernel_rfl⟩⟩
theorem has58 : Has Try.prog 58 := ⟨⟨_, Try.func58, by kernel_rfl, by kernel_rfl⟩⟩
theorem has59 : Has Try.prog 59 := ⟨⟨_, Try.func59, by kernel_rfl, by kernel_rfl⟩⟩
theorem has60 : Has Try.prog 60 := ⟨⟨_, Try.func60, by kernel_rfl, by kernel_rfl⟩⟩
theorem has61 : Has Try.prog 61 := ⟨⟨_, Try.func61, by kernel_rfl, by kernel_rfl⟩⟩
theorem has62 : Has Try.prog 62 := ⟨⟨_, Try.func62, by kernel_rfl, by kernel_rfl⟩⟩
theorem has63 : Has Try.prog 63 := ⟨⟨_, Try.func63, by kernel_rfl, by kernel_rfl⟩⟩
theorem has64 : Has Try.prog 64 := ⟨⟨_, Try.func64, by kernel_rfl, by kernel_rfl⟩⟩
theorem has65 : Has Try.prog 65 := ⟨⟨_, Try.func65, by kernel_rfl, by kernel_rfl⟩⟩
theorem has66 : Has Try.prog 66 := ⟨⟨_, Try.func66, by kernel_rfl, by kernel_rfl⟩⟩
theorem has67 : Has Try.prog 67 := ⟨⟨_, Try.func67, by kernel_rfl, by kernel_rfl⟩⟩
theorem has68 : Has Try.prog 68 := ⟨⟨_, Try.func68, by kernel_rfl, by kernel_rfl⟩⟩
theorem has69 : Has Try.prog 69 := ⟨⟨_, Try.func69, by kernel_rfl, by kernel_rfl⟩⟩
theorem has70 : Has Try.prog 70 := ⟨⟨_, Try.func70, by kernel_rfl, by kernel_rfl⟩⟩
theorem has71 : Has Try.prog 71 := ⟨⟨_, Try.func71, by kernel_rfl, by kernel_rfl⟩⟩
theorem has72 : Has Try.prog 72 := ⟨⟨_, Try.func72, by kernel_rfl, by kernel_rfl⟩⟩
theorem has73 : Has Try.prog 73 := ⟨⟨_, Try.func73, by kernel_rfl, by kernel_rfl⟩⟩
theorem has74 : Has Try.prog 74 := ⟨⟨_, Try.func74, by kernel_rfl, by kernel_rfl⟩⟩
theorem has75 : Has Try.prog 75 := ⟨⟨_, Try.func75, by kernel_rfl, by kernel_rfl⟩⟩
theorem has76 : Has Try.prog 76 := ⟨⟨_, Try.func76, by kernel_rfl, by kernel_rfl⟩⟩
theorem has77 : Has Try.prog 77 := ⟨⟨_, Try.func77, by kernel_rfl, by kernel_rfl⟩⟩
theorem has78 : Has Try.prog 78 := ⟨⟨_, Try.func78, by kernel_rfl, by kernel_rfl⟩⟩
theorem has79 : Has Try.prog 79 := ⟨⟨_, Try.func79, by kernel_rfl, by kernel_rfl⟩⟩
theorem has80 : Has Try.prog 80 := ⟨⟨_, Try.func80, by kernel_rfl, by kernel_rfl⟩⟩
theorem has81 : Has Try.prog 81 := ⟨⟨_, Try.func81, by kernel_rfl, by kernel_rfl⟩⟩
theorem has82 : Has Try.prog 82 := ⟨⟨_, Try.func82, by kernel_rfl, by kernel_rfl⟩⟩
theorem has83 : Has Try.prog 83 := ⟨⟨_, Try.func83, by kernel_rfl, by kernel_rfl⟩⟩
theorem has84 : Has Try.prog 84 := ⟨⟨_, Try.func84, by kernel_rfl, by kernel_rfl⟩⟩
theorem has85 : Has Try.prog 85 := ⟨⟨_, Try.func85, by kernel_rfl, by kernel_rfl⟩⟩
theorem mix : Try.prog.follows .mixedOrders = true := by kernel_rfl
theorem sq40 : Try.prog.stoodInHeld 40 = false ∧ Try.prog.eqGuardType Try.prog.depth 40 = false := ⟨by kernel_rfl, by kernel_rfl⟩
theorem sq42 : Try.prog.stoodInHeld 42 = false ∧ Try.prog.eqGuardType Try.prog.depth 42 = false := ⟨by kernel_rfl, by kernel_rfl⟩
@[reducible] def O_crowd_Crowd (o : Option crowd_Crowd) (v : Value) (G : List Hp) : Prop := match o with
  | none => v = .pointer none ∧ G = []
  | some x => ∃ (b : Nat) (b0 : Nat) (a1 : Nat) (H1 : Hp) (a2 : Option Addr) (n2 : Nat) (H2 : Hp) (b3 : Nat) (a4 : Option Addr) (n4 : Nat) (H4 : Hp), MapO (Ky.int .i64 u3) (fun x : api_Unit => Value.agg #[.int .i64 x.Id, .int .i64 x.Cell, .int .i64 x.Goal]) x.units.live a1 H1 ∧ SliceO (Fl.int .i64) 3 x.units.order a2 n2 H2 ∧ SliceO (Fl.int .u32) 74 x.floor.words a4 n4 H4 ∧ v = .pointer (some ⟨b, 0, none⟩) ∧ G = [[(b, Obj.cells #[(.int .i64 x.w), (.int .i64 x.h), (.int .i64 x.most), (.pointer (some ⟨b0, 0, none⟩)), (.pointer (some ⟨b3, 0, none⟩))] 92 (0, 0))], [(b0, Obj.cells #[(.int .i64 x.units.most), (.int .i64 x.units.next), (.map (some a1)), (.slice a2 (List.length x.units.order) n2)] 102 (0, 0))], H1, H2, [(b3, Obj.cells #[(.slice a4 (List.length x.floor.words) n4), (.int .i64 x.floor.count)] 104 (0, 0))], H4]
@[reducible] def O_units_Units (o : Option units_Units) (v : Value) (G : List Hp) : Prop := match o with
  | none => v = .pointer none ∧ G = []
  | some x => ∃ (b : Nat) (a0 : Nat) (H0 : Hp) (a1 : Option Addr) (n1 : Nat) (H1 : Hp), MapO (Ky.int .i64 u3) (fun x : api_Unit => Value.agg #[.int .i64 x.Id, .int .i64 x.Cell, .int .i64 x.Goal]) x.live a0 H0 ∧ SliceO (Fl.int .i64) 3 x.order a1 n1 H1 ∧ v = .pointer (some ⟨b, 0, none⟩) ∧ G = [[(b, Obj.cells #[(.int .i64 x.most), (.int .i64 x.next), (.map (some a0)), (.slice a1 (List.length x.order) n1)] 102 (0, 0))], H0, H1]
@[reducible] def O_floor_Floor (o : Option floor_Floor) (v : Value) (G : List Hp) : Prop := match o with
  | none => v = .pointer none ∧ G = []
  | some x => ∃ (b : Nat) (a0 : Option Addr) (n0 : Nat) (H0 : Hp), SliceO (Fl.int .u32) 74 x.words a0 n0 H0 ∧ v = .pointer (some ⟨b, 0, none⟩) ∧ G = [[(b, Obj.cells #[(.slice a0 (List.length x.words) n0), (.int .i64 x.count)] 104 (0, 0))], H0]
end Go.Proofs.Ytkidcebfpengmaa
