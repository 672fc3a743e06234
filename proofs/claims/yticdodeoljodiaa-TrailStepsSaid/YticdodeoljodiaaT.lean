import Derived.Test.YticdodeoljodiaaHx
import Derived.Test.YticdodeoljodiaaProg
import Derived.KernelRfl
namespace Go.Proofs.Yticdodeoljodiaa
open Go.Hx
set_option maxRecDepth 100000
set_option linter.unusedVariables false
structure api_Map where
  W : Int
  H : Int
  C : (List Int)
instance : Inhabited api_Map := ⟨⟨default, default, default⟩⟩
structure grid_Grid where
  m : api_Map
  epoch : Int
  versions : (List Int)
instance : Inhabited grid_Grid := ⟨⟨default, default, default⟩⟩
structure api_Edge where
  To : Int
  Cost : Int
instance : Inhabited api_Edge := ⟨⟨default, default⟩⟩
def k_api_Edge : Fl api_Edge := ⟨2, fun x => [.int .i64 x.To, .int .i64 x.Cost], fun _ => rfl, fun _ v h => by
  simp only [List.mem_cons, List.not_mem_nil, or_false] at h
  rcases h with rfl | rfl <;> rfl, Nat.le_of_ble_eq_true rfl⟩
structure api_Run where
  From : Int
  Len : Int
instance : Inhabited api_Run := ⟨⟨default, default⟩⟩
def k_api_Run : Fl api_Run := ⟨2, fun x => [.int .i64 x.From, .int .i64 x.Len], fun _ => rfl, fun _ v h => by
  simp only [List.mem_cons, List.not_mem_nil, or_false] at h
  rcases h with rfl | rfl <;> rfl, Nat.le_of_ble_eq_true rfl⟩
structure flat_plain where
  Map : api_Map
  dist : (List Int)
instance : Inhabited flat_plain := ⟨⟨default, default⟩⟩
structure api_Unit where
  Id : Int
  Cell : Int
  Goal : Int
instance : Inhabited api_Unit := ⟨⟨default, default, default⟩⟩
def k_api_Unit : Fl api_Unit := ⟨3, fun x => [.int .i64 x.Id, .int .i64 x.Cell, .int .i64 x.Goal], fun _ => rfl, fun _ v h => by
  simp only [List.mem_cons, List.not_mem_nil, or_false] at h
  rcases h with rfl | rfl | rfl <;> rfl, Nat.le_of_ble_eq_true rfl⟩
theorem u2 : Try.prog.underlying 2 = some (.int .i64) := by kernel_rfl
theorem u3 : Try.prog.underlying 3 = some (.int .i64) := by kernel_rfl
theorem u4 : Try.prog.underlying 4 = some (.bool) := by kernel_rfl
theorem u5 : Try.prog.underlying 5 = some (.int .u8) := by kernel_rfl
theorem u22 : Try.prog.underlying 22 = some (.slice 5) := by kernel_rfl
theorem u24 : Try.prog.underlying 24 = some (.struct #[⟨ "W", 3, 0, false, "", "", 0⟩, ⟨ "H", 3, 1, false, "", "", 8⟩, ⟨ "C", 22, 2, false, "", "", 16⟩]) := by kernel_rfl
theorem u26 : Try.prog.underlying 26 = some (.pointer 81) := by kernel_rfl
theorem u30 : Try.prog.underlying 30 = some (.slice 52) := by kernel_rfl
theorem u35 : Try.prog.underlying 35 = some (.slice 3) := by kernel_rfl
theorem u40 : Try.prog.underlying 40 = some (.slice 49) := by kernel_rfl
theorem u49 : Try.prog.underlying 49 = some (.struct #[⟨ "From", 3, 0, false, "", "", 0⟩, ⟨ "Len", 3, 1, false, "", "", 8⟩]) := by kernel_rfl
theorem u52 : Try.prog.underlying 52 = some (.struct #[⟨ "To", 3, 0, false, "", "", 0⟩, ⟨ "Cost", 3, 1, false, "", "", 8⟩]) := by kernel_rfl
theorem u64 : Try.prog.underlying 64 = some (.slice 4) := by kernel_rfl
theorem u66 : Try.prog.underlying 66 = some (.slice 72) := by kernel_rfl
theorem u72 : Try.prog.underlying 72 = some (.struct #[⟨ "Id", 3, 0, false, "", "", 0⟩, ⟨ "Cell", 3, 1, false, "", "", 8⟩, ⟨ "Goal", 3, 2, false, "", "", 16⟩]) := by kernel_rfl
theorem u79 : Try.prog.underlying 79 = some (.slice 2) := by kernel_rfl
theorem u81 : Try.prog.underlying 81 = some (.struct #[⟨ "m", 24, 0, false, "", "herdsman/grid", 0⟩, ⟨ "epoch", 2, 3, false, "", "herdsman/grid", 40⟩, ⟨ "versions", 79, 4, false, "", "herdsman/grid", 48⟩]) := by kernel_rfl
theorem u84 : Try.prog.underlying 84 = some (.array 4 3) := by kernel_rfl
theorem u96 : Try.prog.underlying 96 = some (.struct #[⟨ "Map", 24, 0, true, "", "", 0⟩, ⟨ "dist", 35, 3, false, "", "herdsman/flat", 40⟩]) := by kernel_rfl
theorem u104 : Try.prog.underlying 104 = some (.map 3 35) := by kernel_rfl
theorem u106 : Try.prog.underlying 106 = some (.int .u64) := by kernel_rfl
theorem u109 : Try.prog.underlying 109 = some (.array 256 35) := by kernel_rfl
theorem u113 : Try.prog.underlying 113 = some (.int .u64) := by kernel_rfl
theorem i2 : ((Try.prog.info? 2).map fun i => (i.size, i.bytes, i.zero)) = some (1, 8, some (.int .i64 0)) := by kernel_rfl
theorem i3 : ((Try.prog.info? 3).map fun i => (i.size, i.bytes, i.zero)) = some (1, 8, some (.int .i64 0)) := by kernel_rfl
theorem i4 : ((Try.prog.info? 4).map fun i => (i.size, i.bytes, i.zero)) = some (1, 1, some (.bool false)) := by kernel_rfl
theorem i5 : ((Try.prog.info? 5).map fun i => (i.size, i.bytes, i.zero)) = some (1, 1, some (.int .u8 0)) := by kernel_rfl
theorem i22 : ((Try.prog.info? 22).map fun i => (i.size, i.bytes, i.zero)) = some (1, 24, some (.slice none 0 0)) := by kernel_rfl
theorem i24 : ((Try.prog.info? 24).map fun i => (i.size, i.bytes, i.zero)) = some (3, 40, some (.agg #[(.int .i64 0), (.int .i64 0), (.slice none 0 0)])) := by kernel_rfl
theorem i35 : ((Try.prog.info? 35).map fun i => (i.size, i.bytes, i.zero)) = some (1, 24, some (.slice none 0 0)) := by kernel_rfl
theorem i49 : ((Try.prog.info? 49).map fun i => (i.size, i.bytes, i.zero)) = some (2, 16, some (.agg #[(.int .i64 0), (.int .i64 0)])) := by kernel_rfl
theorem i52 : ((Try.prog.info? 52).map fun i => (i.size, i.bytes, i.zero)) = some (2, 16, some (.agg #[(.int .i64 0), (.int .i64 0)])) := by kernel_rfl
theorem i72 : ((Try.prog.info? 72).map fun i => (i.size, i.bytes, i.zero)) = some (3, 24, some (.agg #[(.int .i64 0), (.int .i64 0), (.int .i64 0)])) := by kernel_rfl
theorem i79 : ((Try.prog.info? 79).map fun i => (i.size, i.bytes, i.zero)) = some (1, 24, some (.slice none 0 0)) := by kernel_rfl
theorem i81 : ((Try.prog.info? 81).map fun i => (i.size, i.bytes, i.zero)) = some (5, 72, some (.agg #[(.int .i64 0), (.int .i64 0), (.slice none 0 0), (.int .i64 0), (.slice none 0 0)])) := by kernel_rfl
theorem i84 : ((Try.prog.info? 84).map fun i => (i.size, i.bytes, i.zero)) = some (4, 32, some (.agg #[(.int .i64 0), (.int .i64 0), (.int .i64 0), (.int .i64 0)])) := by kernel_rfl
theorem i96 : ((Try.prog.info? 96).map fun i => (i.size, i.bytes, i.zero)) = some (4, 64, some (.agg #[(.int .i64 0), (.int .i64 0), (.slice none 0 0), (.slice none 0 0)])) := by kernel_rfl
theorem i109 : ((Try.prog.info? 109).map fun i => (i.size, i.bytes, i.zero)) = some (256, 6144, some (.agg #[(.slice none 0 0), (.slice none 0 0), (.slice none 0 0), (.slice none 0 0), (.slice none 0 0), (.slice none 0 0), (.slice none 0 0), (.slice none 0 0), (.slice none 0 0), (.slice none 0 0), (.slice none 0 0), (.slice none 0 0), (.slice none 0 0), (.slice none 0 0), (.slice none 0 0), (.slice none 0 0), (.slice none 0 0), (.slice none 0 0), (.slice none 0 0), (.slice none 0 0), (.slice none 0 0), (.slice none 0 0), (.slice none 0 0), (.slice none 0 0), (.slice none 0 0), (.slice none 0 0), (.slice none 0 0), (.slice none 0 0), (.slice none 0 0), (.slice none 0 0), (.slice none 0 0), (.slice none 0 0), (.slice none 0 0), (.slice none 0 0), (.slice none 0 0), (.slice none 0 0), (.slice none 0 0), (.slice none 0 0), (.slice none 0 0), (.slice none 0 0), (.slice none 0 0), (.slice none 0 0), (.slice none 0 0), (.slice none 0 0), (.slice none 0 0), (.slice none 0 0), (.slice none 0 0), (.slice none 0 0), (.slice none 0 0), (.slice none 0 0), (.slice none 0 0), (.slice none 0 0), (.slice none 0 0), (.slice none 0 0), (.slice none 0 0), (.slice none 0 0), (.slice none 0 0), (.slice none 0 0), (.slice none 0 0), (.slice none 0 0), (.slice none 0 0), (.slice none 0 0), (.slice none 0 0), (.slice none 0 0), (.slice none 0 0), (.slice none 0 0), (.slice none 0 0), (.slice none 0 0), (.slice none 0 0), (.slice none 0 0), (.slice none 0 0), (.slice none 0 0), (.slice none 0 0), (.slice none 0 0), (.slice none 0 0), (.slice none 0 0), (.slice none 0 0), (.slice none 0 0), (.slice none 0 0), (.slice none 0 0), (.slice none 0 0), (.slice none 0 0), (.slice none 0 0), (.slice none 0 0), (.slice none 0 0), (.slice none 0 0), (.slice none 0 0), (.slice none 0 0), (.slice none 0 0), (.slice none 0 0), (.slice none 0 0), (.slice none 0 0), (.slice none 0 0), (.slice none 0 0), (.slice none 0 0), (.slice none 0 0), (.slice none 0 0), (.slice none 0 0), (.slice none 0 0), (.slice none 0 0), (.slice none 0 0), (.slice none 0 0), (.slice none 0 0), (.slice none 0 0), (.slice none 0 0), (.slice none 0 0), (.slice none 0 0), (.slice none 0 0), (.slice none 0 0), (.slice none 0 0), (.slice none 0 0), (.slice none 0 0), (.slice none 0 0), (.slice none 0 0), (.slice none 0 0), (.slice none 0 0), (.slice none 0 0), (.slice none 0 0), (.slice none 0 0), (.slice none 0 0), (.slice none 0 0), (.slice none 0 0), (.slice none 0 0), (.slice none 0 0), (.slice none 0 0), (.slice none 0 0), (.slice none 0 0), (.slice none 0 0), (.slice none 0 0), (.slice none 0 0), (.slice none 0 0), (.slice none 0 0), (.slice none 0 0), (.slice none 0 0), (.slice none 0 0), (.slice none 0 0), (.slice none 0 0), (.slice none 0 0), (.slice none 0 0), (.slice none 0 0), (.slice none 0 0), (.slice none 0 0), (.slice none 0 0), (.slice none 0 0), (.slice none 0 0), (.slice none 0 0), (.slice none 0 0), (.slice none 0 0), (.slice none 0 0), (.slice none 0 0), (.slice none 0 0), (.slice none 0 0), (.slice none 0 0), (.slice none 0 0), (.slice none 0 0), (.slice none 0 0), (.slice none 0 0), (.slice none 0 0), (.slice none 0 0), (.slice none 0 0), (.slice none 0 0), (.slice none 0 0), (.slice none 0 0), (.slice none 0 0), (.slice none 0 0), (.slice none 0 0), (.slice none 0 0), (.slice none 0 0), (.slice none 0 0), (.slice none 0 0), (.slice none 0 0), (.slice none 0 0), (.slice none 0 0), (.slice none 0 0), (.slice none 0 0), (.slice none 0 0), (.slice none 0 0), (.slice none 0 0), (.slice none 0 0), (.slice none 0 0), (.slice none 0 0), (.slice none 0 0), (.slice none 0 0), (.slice none 0 0), (.slice none 0 0), (.slice none 0 0), (.slice none 0 0), (.slice none 0 0), (.slice none 0 0), (.slice none 0 0), (.slice none 0 0), (.slice none 0 0), (.slice none 0 0), (.slice none 0 0), (.slice none 0 0), (.slice none 0 0), (.slice none 0 0), (.slice none 0 0), (.slice none 0 0), (.slice none 0 0), (.slice none 0 0), (.slice none 0 0), (.slice none 0 0), (.slice none 0 0), (.slice none 0 0), (.slice none 0 0), (.slice none 0 0), (.slice none 0 0), (.slice none 0 0), (.slice none 0 0), (.slice none 0 0), (.slice none 0 0), (.slice none 0 0), (.slice none 0 0), (.slice none 0 0), (.slice none 0 0), (.slice none 0 0), (.slice none 0 0), (.slice none 0 0), (.slice none 0 0), (.slice none 0 0), (.slice none 0 0), (.slice none 0 0), (.slice none 0 0), (.slice none 0 0), (.slice none 0 0), (.slice none 0 0), (.slice none 0 0), (.slice none 0 0), (.slice none 0 0), (.slice none 0 0), (.slice none 0 0), (.slice none 0 0), (.slice none 0 0), (.slice none 0 0), (.slice none 0 0), (.slice none 0 0), (.slice none 0 0), (.slice none 0 0), (.slice none 0 0), (.slice none 0 0), (.slice none 0 0), (.slice none 0 0), (.slice none 0 0), (.slice none 0 0), (.slice none 0 0), (.slice none 0 0), (.slice none 0 0), (.slice none 0 0), (.slice none 0 0), (.slice none 0 0), (.slice none 0 0), (.slice none 0 0), (.slice none 0 0), (.slice none 0 0), (.slice none 0 0)])) := by kernel_rfl
noncomputable def T : Ty Try.prog := Ty.of [(2, .int .i64), (3, .int .i64), (4, .bool), (5, .int .u8), (22, .slice 5), (24, .struct #[⟨ "W", 3, 0, false, "", "", 0⟩, ⟨ "H", 3, 1, false, "", "", 8⟩, ⟨ "C", 22, 2, false, "", "", 16⟩]), (26, .pointer 81), (30, .slice 52), (35, .slice 3), (40, .slice 49), (49, .struct #[⟨ "From", 3, 0, false, "", "", 0⟩, ⟨ "Len", 3, 1, false, "", "", 8⟩]), (52, .struct #[⟨ "To", 3, 0, false, "", "", 0⟩, ⟨ "Cost", 3, 1, false, "", "", 8⟩]), (64, .slice 4), (66, .slice 72), (72, .struct #[⟨ "Id", 3, 0, false, "", "", 0⟩, ⟨ "Cell", 3, 1, false, "", "", 8⟩, ⟨ "Goal", 3, 2, false, "", "", 16⟩]), (79, .slice 2), (81, .struct #[⟨ "m", 24, 0, false, "", "herdsman/grid", 0⟩, ⟨ "epoch", 2, 3, false, "", "herdsman/grid", 40⟩, ⟨ "versions", 79, 4, false, "", "herdsman/grid", 48⟩]), (84, .array 4 3), (96, .struct #[⟨ "Map", 24, 0, true, "", "", 0⟩, ⟨ "dist", 35, 3, false, "", "herdsman/flat", 40⟩]), (104, .map 3 35), (106, .int .u64), (109, .array 256 35), (113, .int .u64)]
  [(2, (1, 8, (.int .i64 0))), (3, (1, 8, (.int .i64 0))), (4, (1, 1, (.bool false))), (5, (1, 1, (.int .u8 0))), (22, (1, 24, (.slice none 0 0))), (24, (3, 40, (.agg #[(.int .i64 0), (.int .i64 0), (.slice none 0 0)]))), (35, (1, 24, (.slice none 0 0))), (49, (2, 16, (.agg #[(.int .i64 0), (.int .i64 0)]))), (52, (2, 16, (.agg #[(.int .i64 0), (.int .i64 0)]))), (72, (3, 24, (.agg #[(.int .i64 0), (.int .i64 0), (.int .i64 0)]))), (79, (1, 24, (.slice none 0 0))), (81, (5, 72, (.agg #[(.int .i64 0), (.int .i64 0), (.slice none 0 0), (.int .i64 0), (.slice none 0 0)]))), (84, (4, 32, (.agg #[(.int .i64 0), (.int .i64 0), (.int .i64 0), (.int .i64 0)]))), (96, (4, 64, (.agg #[(.int .i64 0), (.int .i64 0), (.slice none 0 0), (.slice none 0 0)]))), (109, (256, 6144, (.agg #[(.slice none 0 0), (.slice none 0 0), (.slice none 0 0), (.slice none 0 0), (.slice none 0 0), (.slice none 0 0), (.slice none 0 0), (.slice none 0 0), (.slice none 0 0), (.slice none 0 0), (.slice none 0 0), (.slice none 0 0), (.slice none 0 0), (.slice none 0 0), (.slice none 0 0), (.slice none 0 0), (.slice none 0 0), (.slice none 0 0), (.slice none 0 0), (.slice none 0 0), (.slice none 0 0), (.slice none 0 0), (.slice none 0 0), (.slice none 0 0), (.slice none 0 0), (.slice none 0 0), (.slice none 0 0), (.slice none 0 0), (.slice none 0 0), (.slice none 0 0), (.slice none 0 0), (.slice none 0 0), (.slice none 0 0), (.slice none 0 0), (.slice none 0 0), (.slice none 0 0), (.slice none 0 0), (.slice none 0 0), (.slice none 0 0), (.slice none 0 0), (.slice none 0 0), (.slice none 0 0), (.slice none 0 0), (.slice none 0 0), (.slice none 0 0), (.slice none 0 0), (.slice none 0 0), (.slice none 0 0), (.slice none 0 0), (.slice none 0 0), (.slice none 0 0), (.slice none 0 0), (.slice none 0 0), (.slice none 0 0), (.slice none 0 0), (.slice none 0 0), (.slice none 0 0), (.slice none 0 0), (.slice none 0 0), (.slice none 0 0), (.slice none 0 0), (.slice none 0 0), (.slice none 0 0), (.slice none 0 0), (.slice none 0 0), (.slice none 0 0), (.slice none 0 0), (.slice none 0 0), (.slice none 0 0), (.slice none 0 0), (.slice none 0 0), (.slice none 0 0), (.slice none 0 0), (.slice none 0 0), (.slice none 0 0), (.slice none 0 0), (.slice none 0 0), (.slice none 0 0), (.slice none 0 0), (.slice none 0 0), (.slice none 0 0), (.slice none 0 0), (.slice none 0 0), (.slice none 0 0), (.slice none 0 0), (.slice none 0 0), (.slice none 0 0), (.slice none 0 0), (.slice none 0 0), (.slice none 0 0), (.slice none 0 0), (.slice none 0 0), (.slice none 0 0), (.slice none 0 0), (.slice none 0 0), (.slice none 0 0), (.slice none 0 0), (.slice none 0 0), (.slice none 0 0), (.slice none 0 0), (.slice none 0 0), (.slice none 0 0), (.slice none 0 0), (.slice none 0 0), (.slice none 0 0), (.slice none 0 0), (.slice none 0 0), (.slice none 0 0), (.slice none 0 0), (.slice none 0 0), (.slice none 0 0), (.slice none 0 0), (.slice none 0 0), (.slice none 0 0), (.slice none 0 0), (.slice none 0 0), (.slice none 0 0), (.slice none 0 0), (.slice none 0 0), (.slice none 0 0), (.slice none 0 0), (.slice none 0 0), (.slice none 0 0), (.slice none 0 0), (.slice none 0 0), (.slice none 0 0), (.slice none 0 0), (.slice none 0 0), (.slice none 0 0), (.slice none 0 0), (.slice none 0 0), (.slice none 0 0), (.slice none 0 0), (.slice none 0 0), (.slice none 0 0), (.slice none 0 0), (.slice none 0 0), (.slice none 0 0), (.slice none 0 0), (.slice none 0 0), (.slice none 0 0), (.slice none 0 0), (.slice none 0 0), (.slice none 0 0), (.slice none 0 0), (.slice none 0 0), (.slice none 0 0), (.slice none 0 0), (.slice none 0 0), (.slice none 0 0), (.slice none 0 0), (.slice none 0 0), (.slice none 0 0), (.slice none 0 0), (.slice none 0 0), (.slice none 0 0), (.slice none 0 0), (.slice none 0 0), (.slice none 0 0), (.slice none 0 0), (.slice none 0 0), (.slice none 0 0), (.slice none 0 0), (.slice none 0 0), (.slice none 0 0), (.slice none 0 0), (.slice none 0 0), (.slice none 0 0), (.slice none 0 0), (.slice none 0 0), (.slice none 0 0), (.slice none 0 0), (.slice none 0 0), (.slice none 0 0), (.slice none 0 0), (.slice none 0 0), (.slice none 0 0), (.slice none 0 0), (.slice none 0 0), (.slice none 0 0), (.slice none 0 0), (.slice none 0 0), (.slice none 0 0), (.slice none 0 0), (.slice none 0 0), (.slice none 0 0), (.slice none 0 0), (.slice none 0 0), (.slice none 0 0), (.slice none 0 0), (.slice none 0 0), (.slice none 0 0), (.slice none 0 0), (.slice none 0 0), (.slice none 0 0), (.slice none 0 0), (.slice none 0 0), (.slice none 0 0), (.slice none 0 0), (.slice none 0 0), (.slice none 0 0), (.slice none 0 0), (.slice none 0 0), (.slice none 0 0), (.slice none 0 0), (.slice none 0 0), (.slice none 0 0), (.slice none 0 0), (.slice none 0 0), (.slice none 0 0), (.slice none 0 0), (.slice none 0 0), (.slice none 0 0), (.slice none 0 0), (.slice none 0 0), (.slice none 0 0), (.slice none 0 0), (.slice none 0 0), (.slice none 0 0), (.slice none 0 0), (.slice none 0 0), (.slice none 0 0), (.slice none 0 0), (.slice none 0 0), (.slice none 0 0), (.slice none 0 0), (.slice none 0 0), (.slice none 0 0), (.slice none 0 0), (.slice none 0 0), (.slice none 0 0), (.slice none 0 0), (.slice none 0 0), (.slice none 0 0), (.slice none 0 0), (.slice none 0 0), (.slice none 0 0), (.slice none 0 0), (.slice none 0 0), (.slice none 0 0), (.slice none 0 0), (.slice none 0 0), (.slice none 0 0), (.slice none 0 0), (.slice none 0 0), (.slice none 0 0), (.slice none 0 0), (.slice none 0 0), (.slice none 0 0), (.slice none 0 0), (.slice none 0 0), (.slice none 0 0), (.slice none 0 0), (.slice none 0 0), (.slice none 0 0), (.slice none 0 0)])))]
  ⟨u2, u3, u4, u5, u22, u24, u26, u30, u35, u40, u49, u52, u64, u66, u72, u79, u81, u84, u96, u104, u106, u109, u113, trivial⟩
  ⟨i2, i3, i4, i5, i22, i24, i35, i49, i52, i72, i79, i81, i84, i96, i109, trivial⟩
theorem has13 : Has Try.prog 13 := ⟨⟨_, Try.func13, by kernel_rfl, by kernel_rfl⟩⟩
theorem has14 : Has Try.prog 14 := ⟨⟨_, Try.func14, by kernel_rfl, by kernel_rfl⟩⟩
theorem has15 : Has Try.prog 15 := ⟨⟨_, Try.func15, by kernel_rfl, by kernel_rfl⟩⟩
theorem has16 : Has Try.prog 16 := ⟨⟨_, Try.func16, by kernel_rfl, by kernel_rfl⟩⟩
theorem has17 : Has Try.prog 17 := ⟨⟨_, Try.func17, by kernel_rfl, by kernel_rfl⟩⟩
theorem has18 : Has Try.prog 18 := ⟨⟨_, Try.func18, by kernel_rfl, by kernel_rfl⟩⟩
theorem has19 : Has Try.prog 19 := ⟨⟨_, Try.func19, by kernel_rfl, by kernel_rfl⟩⟩
theorem has20 : Has Try.prog 20 := ⟨⟨_, Try.func20, by kernel_rfl, by kernel_rfl⟩⟩
theorem has21 : Has Try.prog 21 := ⟨⟨_, Try.func21, by kernel_rfl, by kernel_rfl⟩⟩
theorem has22 : Has Try.prog 22 := ⟨⟨_, Try.func22, by kernel_rfl, by kernel_rfl⟩⟩
theorem has23 : Has Try.prog 23 := ⟨⟨_, Try.func23, by kernel_rfl, by kernel_rfl⟩⟩
theorem has24 : Has Try.prog 24 := ⟨⟨_, Try.func24, by kernel_rfl, by kernel_rfl⟩⟩
theorem has25 : Has Try.prog 25 := ⟨⟨_, Try.func25, by kernel_rfl, by kernel_rfl⟩⟩
theorem has26 : Has Try.prog 26 := ⟨⟨_, Try.func26, by kernel_rfl, by kernel_rfl⟩⟩
theorem has27 : Has Try.prog 27 := ⟨⟨_, Try.func27, by kernel_rfl, by kernel_rfl⟩⟩
theorem has28 : Has Try.prog 28 := ⟨⟨_, Try.func28, by kernel_rfl, by kernel_rfl⟩⟩
theorem has29 : Has Try.prog 29 := ⟨⟨_, Try.func29, by kernel_rfl, by kernel_rfl⟩⟩
theorem has30 : Has Try.prog 30 := ⟨⟨_, Try.func30, by kernel_rfl, by kernel_rfl⟩⟩
theorem has31 : Has Try.prog 31 := ⟨⟨_, Try.func31, by kernel_rfl, by kernel_rfl⟩⟩
theorem has32 : Has Try.prog 32 := ⟨⟨_, Try.func32, by kernel_rfl, by kernel_rfl⟩⟩
theorem has33 : Has Try.prog 33 := ⟨⟨_, Try.func33, by kernel_rfl, by kernel_rfl⟩⟩
theorem has34 : Has Try.prog 34 := ⟨⟨_, Try.func34, by kernel_rfl, by kernel_rfl⟩⟩
theorem has35 : Has Try.prog 35 := ⟨⟨_, Try.func35, by kernel_rfl, by kernel_rfl⟩⟩
theorem has36 : Has Try.prog 36 := ⟨⟨_, Try.func36, by kernel_rfl, by kernel_rfl⟩⟩
theorem has37 : Has Try.prog 37 := ⟨⟨_, Try.func37, by kernel_rfl, by kernel_rfl⟩⟩
theorem has38 : Has Try.prog 38 := ⟨⟨_, Try.func38, by kernel_rfl, by kernel_rfl⟩⟩
theorem has39 : Has Try.prog 39 := ⟨⟨_, Try.func39, by kernel_rfl, by kernel_rfl⟩⟩
theorem has40 : Has Try.prog 40 := ⟨⟨_, Try.func40, by kernel_rfl, by kernel_rfl⟩⟩
theorem has41 : Has Try.prog 41 := ⟨⟨_, Try.func41, by kernel_rfl, by kernel_rfl⟩⟩
theorem has42 : Has Try.prog 42 := ⟨⟨_, Try.func42, by kernel_rfl, by kernel_rfl⟩⟩
theorem has47 : Has Try.prog 47 := ⟨⟨_, Try.func47, by kernel_rfl, by kernel_rfl⟩⟩
theorem has48 : Has Try.prog 48 := ⟨⟨_, Try.func48, by kernel_rfl, by kernel_rfl⟩⟩
theorem has49 : Has Try.prog 49 := ⟨⟨_, Try.func49, by kernel_rfl, by kernel_rfl⟩⟩
theorem has50 : Has Try.prog 50 := ⟨⟨_, Try.func50, by kernel_rfl, by kernel_rfl⟩⟩
theorem has51 : Has Try.prog 51 := ⟨⟨_, Try.func51, by kernel_rfl, by kernel_rfl⟩⟩
theorem has52 : Has Try.prog 52 := ⟨⟨_, Try.func52, by kernel_rfl, by kernel_rfl⟩⟩
theorem has53 : Has Try.prog 53 := ⟨⟨_, Try.func53, by kernel_rfl, by kernel_rfl⟩⟩
theorem has54 : Has Try.prog 54 := ⟨⟨_, Try.func54, by kernel_rfl, by kernel_rfl⟩⟩
theorem has55 : Has Try.prog 55 := ⟨⟨_, Try.func55, by kernel_rfl, by kernel_rfl⟩⟩
theorem has56 : Has Try.prog 56 := ⟨⟨_, Try.func56, by kernel_rfl, by kernel_rfl⟩⟩
theorem has57 : Has Try.prog 57 := ⟨⟨_, Try.func57, by kernel_rfl, by kernel_rfl⟩⟩
theorem has58 : Has Try.prog 58 := ⟨⟨_, Try.func58, by kernel_rfl, by kernel_rfl⟩⟩
theorem has59 : Has Try.prog 59 := ⟨⟨_, Try.func59, by kernel_rfl, by kernel_rfl⟩⟩
theorem has60 : Has Try.prog 60 := ⟨⟨_, Try.func60, by kernel_rfl, by kernel_rfl⟩⟩
theorem has61 : Has Try.prog 61 := ⟨⟨_, Try.func61, by kernel_rfl, by kernel_rfl⟩⟩
theorem has62 : Has Try.prog 62 := ⟨⟨_, Try.func62, by kernel_rfl, by kernel_rfl⟩⟩
theorem has63 : Has Try.prog 63 := ⟨⟨_, Try.func63, by kernel_rfl, by kernel_rfl⟩⟩
theorem has64 : Has Try.prog 64 := ⟨⟨_, Try.func64, by kernel_rfl, by kernel_rfl⟩⟩
theorem has65 : Has Try.prog 65 := ⟨⟨_, Try.func65, by kernel_rfl, by kernel_rfl⟩⟩
theorem has66 : Has Try.prog 66 := ⟨⟨_, Try.func66, by kernel_rfl, by kernel_rfl⟩⟩
theorem has67 : Has Try.prog 67 := ⟨⟨_, Try.func67, by kernel_rfl, by kernel_rfl⟩⟩
theorem has68 : Has Try.prog 68 := ⟨⟨_, Try.func68, by kernel_rfl, by kernel_rfl⟩⟩
theorem has69 : Has Try.prog 69 := ⟨⟨_, Try.func69, by kernel_rfl, by kernel_rfl⟩⟩
theorem has70 : Has Try.prog 70 := ⟨⟨_, Try.func70, by kernel_rfl, by kernel_rfl⟩⟩
theorem has71 : Has Try.prog 71 := ⟨⟨_, Try.func71, by kernel_rfl, by kernel_rfl⟩⟩
theorem has72 : Has Try.prog 72 := ⟨⟨_, Try.func72, by kernel_rfl, by kernel_rfl⟩⟩
theorem has73 : Has Try.prog 73 := ⟨⟨_, Try.func73, by kernel_rfl, by kernel_rfl⟩⟩
theorem has74 : Has Try.prog 74 := ⟨⟨_, Try.func74, by kernel_rfl, by kernel_rfl⟩⟩
theorem has77 : Has Try.prog 77 := ⟨⟨_, Try.func77, by kernel_rfl, by kernel_rfl⟩⟩
theorem has78 : Has Try.prog 78 := ⟨⟨_, Try.func78, by kernel_rfl, by kernel_rfl⟩⟩
theorem has79 : Has Try.prog 79 := ⟨⟨_, Try.func79, by kernel_rfl, by kernel_rfl⟩⟩
theorem has80 : Has Try.prog 80 := ⟨⟨_, Try.func80, by kernel_rfl, by kernel_rfl⟩⟩
theorem has81 : Has Try.prog 81 := ⟨⟨_, Try.func81, by kernel_rfl, by kernel_rfl⟩⟩
theorem has82 : Has Try.prog 82 := ⟨⟨_, Try.func82, by kernel_rfl, by kernel_rfl⟩⟩
theorem has83 : Has Try.prog 83 := ⟨⟨_, Try.func83, by kernel_rfl, by kernel_rfl⟩⟩
theorem has84 : Has Try.prog 84 := ⟨⟨_, Try.func84, by kernel_rfl, by kernel_rfl⟩⟩
theorem has85 : Has Try.prog 85 := ⟨⟨_, Try.func85, by kernel_rfl, by kernel_rfl⟩⟩
theorem has87 : Has Try.prog 87 := ⟨⟨_, Try.func87, by kernel_rfl, by kernel_rfl⟩⟩
theorem has88 : Has Try.prog 88 := ⟨⟨_, Try.func88, by kernel_rfl, by kernel_rfl⟩⟩
theorem has89 : Has Try.prog 89 := ⟨⟨_, Try.func89, by kernel_rfl, by kernel_rfl⟩⟩
theorem has91 : Has Try.prog 91 := ⟨⟨_, Try.func91, by kernel_rfl, by kernel_rfl⟩⟩
theorem mix : Try.prog.follows .mixedOrders = true := by kernel_rfl
theorem sq49 : Try.prog.stoodInHeld 49 = false ∧ Try.prog.eqGuardType Try.prog.depth 49 = false := ⟨by kernel_rfl, by kernel_rfl⟩
theorem sq52 : Try.prog.stoodInHeld 52 = false ∧ Try.prog.eqGuardType Try.prog.depth 52 = false := ⟨by kernel_rfl, by kernel_rfl⟩
@[reducible] def O_grid_Grid (o : Option grid_Grid) (v : Value) (G : List Hp) : Prop := match o with
  | none => v = .pointer none ∧ G = []
  | some x => ∃ (b : Nat) (a0 : Option Addr) (n0 : Nat) (H0 : Hp) (a1 : Option Addr) (n1 : Nat) (H1 : Hp), SliceO (Fl.int .u8) 5 x.m.C a0 n0 H0 ∧ SliceO (Fl.int .i64) 2 x.versions a1 n1 H1 ∧ v = .pointer (some ⟨b, 0, none⟩) ∧ G = [[(b, Obj.cells #[(.int .i64 x.m.W), (.int .i64 x.m.H), (.slice a0 (List.length x.m.C) n0), (.int .i64 x.epoch), (.slice a1 (List.length x.versions) n1)] 81 (0, 0))], H0, H1]
@[reducible] def O_flat_plain_b10 (w0 : Value) (o : Option flat_plain) (v : Value) (G : List Hp) : Prop := match o with
  | none => v = .pointer none ∧ G = []
  | some x => ∃ (b : Nat) (a0 : Option Addr) (n0 : Nat) (H0 : Hp), SliceO (Fl.int .i64) 3 x.dist a0 n0 H0 ∧ v = .pointer (some ⟨b, 0, none⟩) ∧ G = [[(b, Obj.cells #[(.int .i64 x.Map.W), (.int .i64 x.Map.H), w0, (.slice a0 (List.length x.dist) n0)] 96 (0, 0))], H0]
end Go.Proofs.Yticdodeoljodiaa
