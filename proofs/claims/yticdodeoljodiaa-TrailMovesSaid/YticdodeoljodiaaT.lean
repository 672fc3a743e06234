import Derived.Test.YticdodeoljodiaaHx
import Derived.Test.YticdodeoljodiaaProg
import Derived.KernelRfl
namespace Go.Proofs.Yticdodeoljodiaa
open Go.Hx
set_option maxRecDepth 100000
set_option linter.unusedVariables false
structure api_Map where
  W : Int
  H : Int
  C : (List Int)
instance : Inhabited api_Map := ⟨⟨default, default, default⟩⟩
structure flat_plain where
  Map : api_Map
  dist : (List Int)
instance : Inhabited flat_plain := ⟨⟨default, default⟩⟩
structure api_Unit where
  Id : Int
  Cell : Int
  Goal : Int
instance : Inhabited api_Unit := ⟨⟨default, default, default⟩⟩
def k_api_Unit : Fl api_Unit := ⟨3, fun x => [.int .i64 x.Id, .int .i64 x.Cell, .int .i64 x.Goal], fun _ => rfl, fun _ v h => by
  simp only [List.mem_cons, List.not_mem_nil, or_false] at h
  rcases h with rfl | rfl | rfl <;> rfl, Nat.le_of_ble_eq_true rfl⟩
theorem u3 : Try.prog.underlying 3 = some (.int .i64) := by kernel_rfl
theorem u4 : Try.prog.underlying 4 = some (.bool) := by kernel_rfl
theorem u5 : Try.prog.underlying 5 = some (.int .u8) := by kernel_rfl
theorem u22 : Try.prog.underlying 22 = some (.slice 5) := by kernel_rfl
theorem u24 : Try.prog.underlying 24 = some (.struct #[⟨ "W", 3, 0, false, "", "", 0⟩, ⟨ "H", 3, 1, false, "", "", 8⟩, ⟨ "C", 22, 2, false, "", "", 16⟩]) := by kernel_rfl
theorem u35 : Try.prog.underlying 35 = some (.slice 3) := by kernel_rfl
theorem u64 : Try.prog.underlying 64 = some (.slice 4) := by kernel_rfl
theorem u66 : Try.prog.underlying 66 = some (.slice 72) := by kernel_rfl
theorem u72 : Try.prog.underlying 72 = some (.struct #[⟨ "Id", 3, 0, false, "", "", 0⟩, ⟨ "Cell", 3, 1, false, "", "", 8⟩, ⟨ "Goal", 3, 2, false, "", "", 16⟩]) := by kernel_rfl
theorem u96 : Try.prog.underlying 96 = some (.struct #[⟨ "Map", 24, 0, true, "", "", 0⟩, ⟨ "dist", 35, 3, false, "", "herdsman/flat", 40⟩]) := by kernel_rfl
theorem u104 : Try.prog.underlying 104 = some (.map 3 35) := by kernel_rfl
theorem u106 : Try.prog.underlying 106 = some (.int .u64) := by kernel_rfl
theorem u109 : Try.prog.underlying 109 = some (.array 256 35) := by kernel_rfl
theorem u113 : Try.prog.underlying 113 = some (.int .u64) := by kernel_rfl
theorem i3 : ((Try.prog.info? 3).map fun i => (i.size, i.bytes, i.zero)) = some (1, 8, some (.int .i64 0)) := by kernel_rfl
theorem i4 : ((Try.prog.info? 4).map fun i => (i.size, i.bytes, i.zero)) = some (1, 1, some (.bool false)) := by kernel_rfl
theorem i5 : ((Try.prog.info? 5).map fun i => (i.size, i.bytes, i.zero)) = some (1, 1, some (.int .u8 0)) := by kernel_rfl
theorem i22 : ((Try.prog.info? 22).map fun i => (i.size, i.bytes, i.zero)) = some (1, 24, some (.slice none 0 0)) := by kernel_rfl
theorem i24 : ((Try.prog.info? 24).map fun i => (i.size, i.bytes, i.zero)) = some (3, 40, some (.agg #[(.int .i64 0), (.int .i64 0), (.slice none 0 0)])) := by kernel_rfl
theorem i35 : ((Try.prog.info? 35).map fun i => (i.size, i.bytes, i.zero)) = some (1, 24, some (.slice none 0 0)) := by kernel_rfl
theorem i72 : ((Try.prog.info? 72).map fun i => (i.size, i.bytes, i.zero)) = some (3, 24, some (.agg #[(.int .i64 0), (.int .i64 0), (.int .i64 0)])) := by kernel_rfl
theorem i96 : ((Try.prog.info? 96).map fun i => (i.size, i.bytes, i.zero)) = some (4, 64, some (.agg #[(.int .i64 0), (.int .i64 0), (.slice none 0 0), (.slice none 0 0)])) := by kernel_rfl
theorem i109 : ((Try.prog.info? 109).map fun i => (i.size, i.bytes, i.zero)) = some (256, 6144, some (.agg #[(.slice none 0 0), (.slice none 0 0), (.slice none 0 0), (.slice none 0 0), (.slice none 0 0), (.slice none 0 0), (.slice none 0 0), (.slice none 0 0), (.slice none 0 0), (.slice none 0 0), (.slice none 0 0), (.slice none 0 0), (.slice none 0 0), (.slice none 0 0), (.slice none 0 0), (.slice none 0 0), (.slice none 0 0), (.slice none 0 0), (.slice none 0 0), (.slice none 0 0), (.slice none 0 0), (.slice none 0 0), (.slice none 0 0), (.slice none 0 0), (.slice none 0 0), (.slice none 0 0), (.slice none 0 0), (.slice none 0 0), (.slice none 0 0), (.slice none 0 0), (.slice none 0 0), (.slice none 0 0), (.slice none 0 0), (.slice none 0 0), (.slice none 0 0), (.slice none 0 0), (.slice none 0 0), (.slice none 0 0), (.slice none 0 0), (.slice none 0 0), (.slice none 0 0), (.slice none 0 0), (.slice none 0 0), (.slice none 0 0), (.slice none 0 0), (.slice none 0 0), (.slice none 0 0), (.slice none 0 0), (.slice none 0 0), (.slice none 0 0), (.slice none 0 0), (.slice none 0 0), (.slice none 0 0), (.slice none 0 0), (.slice none 0 0), (.slice none 0 0), (.slice none 0 0), (.slice none 0 0), (.slice none 0 0), (.slice none 0 0), (.slice none 0 0), (.slice none 0 0), (.slice none 0 0), (.slice none 0 0), (.slice none 0 0), (.slice none 0 0), (.slice none 0 0), (.slice none 0 0), (.slice none 0 0), (.slice none 0 0), (.slice none 0 0), (.slice none 0 0), (.slice none 0 0), (.slice none 0 0), (.slice none 0 0), (.slice none 0 0), (.slice none 0 0), (.slice none 0 0), (.slice none 0 0), (.slice none 0 0), (.slice none 0 0), (.slice none 0 0), (.slice none 0 0), (.slice none 0 0), (.slice none 0 0), (.slice none 0 0), (.slice none 0 0), (.slice none 0 0), (.slice none 0 0), (.slice none 0 0), (.slice none 0 0), (.slice none 0 0), (.slice none 0 0), (.slice none 0 0), (.slice none 0 0), (.slice none 0 0), (.slice none 0 0), (.slice none 0 0), (.slice none 0 0), (.slice none 0 0), (.slice none 0 0), (.slice none 0 0), (.slice none 0 0), (.slice none 0 0), (.slice none 0 0), (.slice none 0 0), (.slice none 0 0), (.slice none 0 0), (.slice none 0 0), (.slice none 0 0), (.slice none 0 0), (.slice none 0 0), (.slice none 0 0), (.slice none 0 0), (.slice none 0 0), (.slice none 0 0), (.slice none 0 0), (.slice none 0 0), (.slice none 0 0), (.slice none 0 0), (.slice none 0 0), (.slice none 0 0), (.slice none 0 0), (.slice none 0 0), (.slice none 0 0), (.slice none 0 0), (.slice none 0 0), (.slice none 0 0), (.slice none 0 0), (.slice none 0 0), (.slice none 0 0), (.slice none 0 0), (.slice none 0 0), (.slice none 0 0), (.slice none 0 0), (.slice none 0 0), (.slice none 0 0), (.slice none 0 0), (.slice none 0 0), (.slice none 0 0), (.slice none 0 0), (.slice none 0 0), (.slice none 0 0), (.slice none 0 0), (.slice none 0 0), (.slice none 0 0), (.slice none 0 0), (.slice none 0 0), (.slice none 0 0), (.slice none 0 0), (.slice none 0 0), (.slice none 0 0), (.slice none 0 0), (.slice none 0 0), (.slice none 0 0), (.slice none 0 0), (.slice none 0 0), (.slice none 0 0), (.slice none 0 0), (.slice none 0 0), (.slice none 0 0), (.slice none 0 0), (.slice none 0 0), (.slice none 0 0), (.slice none 0 0), (.slice none 0 0), (.slice none 0 0), (.slice none 0 0), (.slice none 0 0), (.slice none 0 0), (.slice none 0 0), (.slice none 0 0), (.slice none 0 0), (.slice none 0 0), (.slice none 0 0), (.slice none 0 0), (.slice none 0 0), (.slice none 0 0), (.slice none 0 0), (.slice none 0 0), (.slice none 0 0), (.slice none 0 0), (.slice none 0 0), (.slice none 0 0), (.slice none 0 0), (.slice none 0 0), (.slice none 0 0), (.slice none 0 0), (.slice none 0 0), (.slice none 0 0), (.slice none 0 0), (.slice none 0 0), (.slice none 0 0), (.slice none 0 0), (.slice none 0 0), (.slice none 0 0), (.slice none 0 0), (.slice none 0 0), (.slice none 0 0), (.slice none 0 0), (.slice none 0 0), (.slice none 0 0), (.slice none 0 0), (.slice none 0 0), (.slice none 0 0), (.slice none 0 0), (.slice none 0 0), (.slice none 0 0), (.slice none 0 0), (.slice none 0 0), (.slice none 0 0), (.slice none 0 0), (.slice none 0 0), (.slice none 0 0), (.slice none 0 0), (.slice none 0 0), (.slice none 0 0), (.slice none 0 0), (.slice none 0 0), (.slice none 0 0), (.slice none 0 0), (.slice none 0 0), (.slice none 0 0), (.slice none 0 0), (.slice none 0 0), (.slice none 0 0), (.slice none 0 0), (.slice none 0 0), (.slice none 0 0), (.slice none 0 0), (.slice none 0 0), (.slice none 0 0), (.slice none 0 0), (.slice none 0 0), (.slice none 0 0), (.slice none 0 0), (.slice none 0 0), (.slice none 0 0), (.slice none 0 0), (.slice none 0 0), (.slice none 0 0), (.slice none 0 0), (.slice none 0 0), (.slice none 0 0), (.slice none 0 0), (.slice none 0 0), (.slice none 0 0), (.slice none 0 0), (.slice none 0 0), (.slice none 0 0), (.slice none 0 0), (.slice none 0 0), (.slice none 0 0), (.slice none 0 0), (.slice none 0 0), (.slice none 0 0)])) := by kernel_rfl
noncomputable def T : Ty Try.prog := Ty.of [(3, .int .i64), (4, .bool), (5, .int .u8), (22, .slice 5), (24, .struct #[⟨ "W", 3, 0, false, "", "", 0⟩, ⟨ "H", 3, 1, false, "", "", 8⟩, ⟨ "C", 22, 2, false, "", "", 16⟩]), (35, .slice 3), (64, .slice 4), (66, .slice 72), (72, .struct #[⟨ "Id", 3, 0, false, "", "", 0⟩, ⟨ "Cell", 3, 1, false, "", "", 8⟩, ⟨ "Goal", 3, 2, false, "", "", 16⟩]), (96, .struct #[⟨ "Map", 24, 0, true, "", "", 0⟩, ⟨ "dist", 35, 3, false, "", "herdsman/flat", 40⟩]), (104, .map 3 35), (106, .int .u64), (109, .array 256 35), (113, .int .u64)]
  [(3, (1, 8, (.int .i64 0))), (4, (1, 1, (.bool false))), (5, (1, 1, (.int .u8 0))), (22, (1, 24, (.slice none 0 0))), (24, (3, 40, (.agg #[(.int .i64 0), (.int .i64 0), (.slice none 0 0)]))), (35, (1, 24, (.slice none 0 0))), (72, (3, 24, (.agg #[(.int .i64 0), (.int .i64 0), (.int .i64 0)]))), (96, (4, 64, (.agg #[(.int .i64 0), (.int .i64 0), (.slice none 0 0), (.slice none 0 0)]))), (109, (256, 6144, (.agg #[(.slice none 0 0), (.slice none 0 0), (.slice none 0 0), (.slice none 0 0), (.slice none 0 0), (.slice none 0 0), (.slice none 0 0), (.slice none 0 0), (.slice none 0 0), (.slice none 0 0), (.slice none 0 0), (.slice none 0 0), (.slice none 0 0), (.slice none 0 0), (.slice none 0 0), (.slice none 0 0), (.slice none 0 0), (.slice none 0 0), (.slice none 0 0), (.slice none 0 0), (.slice none 0 0), (.slice none 0 0), (.slice none 0 0), (.slice none 0 0), (.slice none 0 0), (.slice none 0 0), (.slice none 0 0), (.slice none 0 0), (.slice none 0 0), (.slice none 0 0), (.slice none 0 0), (.slice none 0 0), (.slice none 0 0), (.slice none 0 0), (.slice none 0 0), (.slice none 0 0), (.slice none 0 0), (.slice none 0 0), (.slice none 0 0), (.slice none 0 0), (.slice none 0 0), (.slice none 0 0), (.slice none 0 0), (.slice none 0 0), (.slice none 0 0), (.slice none 0 0), (.slice none 0 0), (.slice none 0 0), (.slice none 0 0), (.slice none 0 0), (.slice none 0 0), (.slice none 0 0), (.slice none 0 0), (.slice none 0 0), (.slice none 0 0), (.slice none 0 0), (.slice none 0 0), (.slice none 0 0), (.slice none 0 0), (.slice none 0 0), (.slice none 0 0), (.slice none 0 0), (.slice none 0 0), (.slice none 0 0), (.slice none 0 0), (.slice none 0 0), (.slice none 0 0), (.slice none 0 0), (.slice none 0 0), (.slice none 0 0), (.slice none 0 0), (.slice none 0 0), (.slice none 0 0), (.slice none 0 0), (.slice none 0 0), (.slice none 0 0), (.slice none 0 0), (.slice none 0 0), (.slice none 0 0), (.slice none 0 0), (.slice none 0 0), (.slice none 0 0), (.slice none 0 0), (.slice none 0 0), (.slice none 0 0), (.slice none 0 0), (.slice none 0 0), (.slice none 0 0), (.slice none 0 0), (.slice none 0 0), (.slice none 0 0), (.slice none 0 0), (.slice none 0 0), (.slice none 0 0), (.slice none 0 0), (.slice none 0 0), (.slice none 0 0), (.slice none 0 0), (.slice none 0 0), (.slice none 0 0), (.slice none 0 0), (.slice none 0 0), (.slice none 0 0), (.slice none 0 0), (.slice none 0 0), (.slice none 0 0), (.slice none 0 0), (.slice none 0 0), (.slice none 0 0), (.slice none 0 0), (.slice none 0 0), (.slice none 0 0), (.slice none 0 0), (.slice none 0 0), (.slice none 0 0), (.slice none 0 0), (.slice none 0 0), (.slice none 0 0), (.slice none 0 0), (.slice none 0 0), (.slice none 0 0), (.slice none 0 0), (.slice none 0 0), (.slice none 0 0), (.slice none 0 0), (.slice none 0 0), (.slice none 0 0), (.slice none 0 0), (.slice none 0 0), (.slice none 0 0), (.slice none 0 0), (.slice none 0 0), (.slice none 0 0), (.slice none 0 0), (.slice none 0 0), (.slice none 0 0), (.slice none 0 0), (.slice none 0 0), (.slice none 0 0), (.slice none 0 0), (.slice none 0 0), (.slice none 0 0), (.slice none 0 0), (.slice none 0 0), (.slice none 0 0), (.slice none 0 0), (.slice none 0 0), (.slice none 0 0), (.slice none 0 0), (.slice none 0 0), (.slice none 0 0), (.slice none 0 0), (.slice none 0 0), (.slice none 0 0), (.slice none 0 0), (.slice none 0 0), (.slice none 0 0), (.slice none 0 0), (.slice none 0 0), (.slice none 0 0), (.slice none 0 0), (.slice none 0 0), (.slice none 0 0), (.slice none 0 0), (.slice none 0 0), (.slice none 0 0), (.slice none 0 0), (.slice none 0 0), (.slice none 0 0), (.slice none 0 0), (.slice none 0 0), (.slice none 0 0), (.slice none 0 0), (.slice none 0 0), (.slice none 0 0), (.slice none 0 0), (.slice none 0 0), (.slice none 0 0), (.slice none 0 0), (.slice none 0 0), (.slice none 0 0), (.slice none 0 0), (.slice none 0 0), (.slice none 0 0), (.slice none 0 0), (.slice none 0 0), (.slice none 0 0), (.slice none 0 0), (.slice none 0 0), (.slice none 0 0), (.slice none 0 0), (.slice none 0 0), (.slice none 0 0), (.slice none 0 0), (.slice none 0 0), (.slice none 0 0), (.slice none 0 0), (.slice none 0 0), (.slice none 0 0), (.slice none 0 0), (.slice none 0 0), (.slice none 0 0), (.slice none 0 0), (.slice none 0 0), (.slice none 0 0), (.slice none 0 0), (.slice none 0 0), (.slice none 0 0), (.slice none 0 0), (.slice none 0 0), (.slice none 0 0), (.slice none 0 0), (.slice none 0 0), (.slice none 0 0), (.slice none 0 0), (.slice none 0 0), (.slice none 0 0), (.slice none 0 0), (.slice none 0 0), (.slice none 0 0), (.slice none 0 0), (.slice none 0 0), (.slice none 0 0), (.slice none 0 0), (.slice none 0 0), (.slice none 0 0), (.slice none 0 0), (.slice none 0 0), (.slice none 0 0), (.slice none 0 0), (.slice none 0 0), (.slice none 0 0), (.slice none 0 0), (.slice none 0 0), (.slice none 0 0), (.slice none 0 0), (.slice none 0 0), (.slice none 0 0), (.slice none 0 0), (.slice none 0 0), (.slice none 0 0), (.slice none 0 0), (.slice none 0 0), (.slice none 0 0), (.slice none 0 0), (.slice none 0 0), (.slice none 0 0), (.slice none 0 0), (.slice none 0 0), (.slice none 0 0), (.slice none 0 0), (.slice none 0 0), (.slice none 0 0), (.slice none 0 0), (.slice none 0 0), (.slice none 0 0)])))]
  ⟨u3, u4, u5, u22, u24, u35, u64, u66, u72, u96, u104, u106, u109, u113, trivial⟩
  ⟨i3, i4, i5, i22, i24, i35, i72, i96, i109, trivial⟩
theorem has13 : Has Try.prog 13 := ⟨⟨_, Try.func13, by kernel_rfl, by kernel_rfl⟩⟩
theorem has15 : Has Try.prog 15 := ⟨⟨_, Try.func15, by kernel_rfl, by kernel_rfl⟩⟩
theorem has17 : Has Try.prog 17 := ⟨⟨_, Try.func17, by kernel_rfl, by kernel_rfl⟩⟩
theorem has20 : Has Try.prog 20 := ⟨⟨_, Try.func20, by kernel_rfl, by kernel_rfl⟩⟩
theorem has30 : Has Try.prog 30 := ⟨⟨_, Try.func30, by kernel_rfl, by kernel_rfl⟩⟩
theorem has31 : Has Try.prog 31 := ⟨⟨_, Try.func31, by kernel_rfl, by kernel_rfl⟩⟩
theorem has32 : Has Try.prog 32 := ⟨⟨_, Try.func32, by kernel_rfl, by kernel_rfl⟩⟩
theorem has34 : Has Try.prog 34 := ⟨⟨_, Try.func34, by kernel_rfl, by kernel_rfl⟩⟩
theorem has35 : Has Try.prog 35 := ⟨⟨_, Try.func35, by kernel_rfl, by kernel_rfl⟩⟩
theorem has36 : Has Try.prog 36 := ⟨⟨_, Try.func36, by kernel_rfl, by kernel_rfl⟩⟩
theorem has37 : Has Try.prog 37 := ⟨⟨_, Try.func37, by kernel_rfl, by kernel_rfl⟩⟩
theorem has38 : Has Try.prog 38 := ⟨⟨_, Try.func38, by kernel_rfl, by kernel_rfl⟩⟩
theorem has39 : Has Try.prog 39 := ⟨⟨_, Try.func39, by kernel_rfl, by kernel_rfl⟩⟩
theorem has40 : Has Try.prog 40 := ⟨⟨_, Try.func40, by kernel_rfl, by kernel_rfl⟩⟩
theorem has41 : Has Try.prog 41 := ⟨⟨_, Try.func41, by kernel_rfl, by kernel_rfl⟩⟩
theorem has42 : Has Try.prog 42 := ⟨⟨_, Try.func42, by kernel_rfl, by kernel_rfl⟩⟩
theorem has43 : Has Try.prog 43 := ⟨⟨_, Try.func43, by kernel_rfl, by kernel_rfl⟩⟩
theorem has44 : Has Try.prog 44 := ⟨⟨_, Try.func44, by kernel_rfl, by kernel_rfl⟩⟩
theorem has45 : Has Try.prog 45 := ⟨⟨_, Try.func45, by kernel_rfl, by kernel_rfl⟩⟩
theorem has46 : Has Try.prog 46 := ⟨⟨_, Try.func46, by kernel_rfl, by kernel_rfl⟩⟩
theorem has47 : Has Try.prog 47 := ⟨⟨_, Try.func47, by kernel_rfl, by kernel_rfl⟩⟩
theorem has48 : Has Try.prog 48 := ⟨⟨_, Try.func48, by kernel_rfl, by kernel_rfl⟩⟩
theorem has49 : Has Try.prog 49 := ⟨⟨_, Try.func49, by kernel_rfl, by kernel_rfl⟩⟩
theorem has51 : Has Try.prog 51 := ⟨⟨_, Try.func51, by kernel_rfl, by kernel_rfl⟩⟩
theorem has53 : Has Try.prog 53 := ⟨⟨_, Try.func53, by kernel_rfl, by kernel_rfl⟩⟩
theorem has54 : Has Try.prog 54 := ⟨⟨_, Try.func54, by kernel_rfl, by kernel_rfl⟩⟩
theorem has66 : Has Try.prog 66 := ⟨⟨_, Try.func66, by kernel_rfl, by kernel_rfl⟩⟩
theorem has67 : Has Try.prog 67 := ⟨⟨_, Try.func67, by kernel_rfl, by kernel_rfl⟩⟩
theorem has68 : Has Try.prog 68 := ⟨⟨_, Try.func68, by kernel_rfl, by kernel_rfl⟩⟩
theorem has69 : Has Try.prog 69 := ⟨⟨_, Try.func69, by kernel_rfl, by kernel_rfl⟩⟩
theorem has70 : Has Try.prog 70 := ⟨⟨_, Try.func70, by kernel_rfl, by kernel_rfl⟩⟩
theorem has71 : Has Try.prog 71 := ⟨⟨_, Try.func71, by kernel_rfl, by kernel_rfl⟩⟩
theorem has72 : Has Try.prog 72 := ⟨⟨_, Try.func72, by kernel_rfl, by kernel_rfl⟩⟩
theorem has73 : Has Try.prog 73 := ⟨⟨_, Try.func73, by kernel_rfl, by kernel_rfl⟩⟩
theorem has74 : Has Try.prog 74 := ⟨⟨_, Try.func74, by kernel_rfl, by kernel_rfl⟩⟩
theorem has75 : Has Try.prog 75 := ⟨⟨_, Try.func75, by kernel_rfl, by kernel_rfl⟩⟩
theorem has76 : Has Try.prog 76 := ⟨⟨_, Try.func76, by kernel_rfl, by kernel_rfl⟩⟩
theorem has77 : Has Try.prog 77 := ⟨⟨_, Try.func77, by kernel_rfl, by kernel_rfl⟩⟩
theorem has78 : Has Try.prog 78 := ⟨⟨_, Try.func78, by kernel_rfl, by kernel_rfl⟩⟩
theorem has81 : Has Try.prog 81 := ⟨⟨_, Try.func81, by kernel_rfl, by kernel_rfl⟩⟩
theorem has82 : Has Try.prog 82 := ⟨⟨_, Try.func82, by kernel_rfl, by kernel_rfl⟩⟩
theorem has83 : Has Try.prog 83 := ⟨⟨_, Try.func83, by kernel_rfl, by kernel_rfl⟩⟩
theorem has84 : Has Try.prog 84 := ⟨⟨_, Try.func84, by kernel_rfl, by kernel_rfl⟩⟩
theorem has85 : Has Try.prog 85 := ⟨⟨_, Try.func85, by kernel_rfl, by kernel_rfl⟩⟩
theorem has86 : Has Try.prog 86 := ⟨⟨_, Try.func86, by kernel_rfl, by kernel_rfl⟩⟩
theorem has87 : Has Try.prog 87 := ⟨⟨_, Try.func87, by kernel_rfl, by kernel_rfl⟩⟩
theorem has88 : Has Try.prog 88 := ⟨⟨_, Try.func88, by kernel_rfl, by kernel_rfl⟩⟩
theorem has89 : Has Try.prog 89 := ⟨⟨_, Try.func89, by kernel_rfl, by kernel_rfl⟩⟩
theorem has91 : Has Try.prog 91 := ⟨⟨_, Try.func91, by kernel_rfl, by kernel_rfl⟩⟩
theorem mix : Try.prog.follows .mixedOrders = true := by kernel_rfl
@[reducible] def O_flat_plain_b10 (w0 : Value) (o : Option flat_plain) (v : Value) (G : List Hp) : Prop := match o with
  | none => v = .pointer none ∧ G = []
  | some x => ∃ (b : Nat) (a0 : Option Addr) (n0 : Nat) (H0 : Hp), SliceO (Fl.int .i64) 3 x.dist a0 n0 H0 ∧ v = .pointer (some ⟨b, 0, none⟩) ∧ G = [[(b, Obj.cells #[(.int .i64 x.Map.W), (.int .i64 x.Map.H), w0, (.slice a0 (List.length x.dist) n0)] 96 (0, 0))], H0]
end Go.Proofs.Yticdodeoljodiaa
