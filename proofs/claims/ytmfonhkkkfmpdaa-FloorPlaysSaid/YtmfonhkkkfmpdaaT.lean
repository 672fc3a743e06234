import Derived.Test.YtmfonhkkkfmpdaaHx
import Derived.Test.YtmfonhkkkfmpdaaProg
import Derived.KernelRfl
namespace Go.Proofs.Ytmfonhkkkfmpdaa
open Go.Hx
set_option maxRecDepth 100000
set_option linter.unusedVariables false
structure herdsmanlaw22_Ask where
  Kind : Int
  A : Int
  B : Int
instance : Inhabited herdsmanlaw22_Ask := ⟨⟨default, default, default⟩⟩
def k_herdsmanlaw22_Ask : Fl herdsmanlaw22_Ask := ⟨3, fun x => [.int .i64 x.Kind, .int .i64 x.A, .int .i64 x.B], fun _ => rfl, fun _ v h => by
  simp only [List.mem_cons, List.not_mem_nil, or_false] at h
  rcases h with rfl | rfl | rfl <;> rfl, Nat.le_of_ble_eq_true rfl⟩
structure floor_Floor where
  words : (List Int)
  count : Int
instance : Inhabited floor_Floor := ⟨⟨default, default⟩⟩
@[reducible] def O_floor_Floor (o : Option floor_Floor) (v : Value) (G : List Hp) : Prop := match o with
  | none => v = .pointer none ∧ G = []
  | some x => ∃ (b : Nat) (a0 : Option Addr) (n0 : Nat) (H0 : Hp), SliceO (Fl.int .u32) 30 x.words a0 n0 H0 ∧ v = .pointer (some ⟨b, 0, none⟩) ∧ G = [[(b, Obj.cells #[(.slice a0 (List.length x.words) n0), (.int .i64 x.count)] 76 (0, 0))], H0]
theorem u3 : Try.prog.underlying 3 = some (.int .i64) := by kernel_rfl
theorem u4 : Try.prog.underlying 4 = some (.bool) := by kernel_rfl
theorem u22 : Try.prog.underlying 22 = some (.slice 28) := by kernel_rfl
theorem u24 : Try.prog.underlying 24 = some (.pointer 76) := by kernel_rfl
theorem u26 : Try.prog.underlying 26 = some (.slice 30) := by kernel_rfl
theorem u28 : Try.prog.underlying 28 = some (.struct #[⟨ "Kind", 3, 0, false, "", "", 0⟩, ⟨ "A", 3, 1, false, "", "", 8⟩, ⟨ "B", 3, 2, false, "", "", 16⟩]) := by kernel_rfl
theorem u30 : Try.prog.underlying 30 = some (.int .u32) := by kernel_rfl
theorem u38 : Try.prog.underlying 38 = some (.slice 3) := by kernel_rfl
theorem u76 : Try.prog.underlying 76 = some (.struct #[⟨ "words", 26, 0, false, "", "herdsman/floor", 0⟩, ⟨ "count", 3, 1, false, "", "herdsman/floor", 24⟩]) := by kernel_rfl
theorem i3 : ((Try.prog.info? 3).map fun i => (i.size, i.bytes, i.zero)) = some (1, 8, some (.int .i64 0)) := by kernel_rfl
theorem i26 : ((Try.prog.info? 26).map fun i => (i.size, i.bytes, i.zero)) = some (1, 24, some (.slice none 0 0)) := by kernel_rfl
theorem i28 : ((Try.prog.info? 28).map fun i => (i.size, i.bytes, i.zero)) = some (3, 24, some (.agg #[(.int .i64 0), (.int .i64 0), (.int .i64 0)])) := by kernel_rfl
theorem i30 : ((Try.prog.info? 30).map fun i => (i.size, i.bytes, i.zero)) = some (1, 4, some (.int .u32 0)) := by kernel_rfl
theorem i76 : ((Try.prog.info? 76).map fun i => (i.size, i.bytes, i.zero)) = some (2, 32, some (.agg #[(.slice none 0 0), (.int .i64 0)])) := by kernel_rfl
noncomputable def T : Ty Try.prog := Ty.of [(3, .int .i64), (4, .bool), (22, .slice 28), (24, .pointer 76), (26, .slice 30), (28, .struct #[⟨ "Kind", 3, 0, false, "", "", 0⟩, ⟨ "A", 3, 1, false, "", "", 8⟩, ⟨ "B", 3, 2, false, "", "", 16⟩]), (30, .int .u32), (38, .slice 3), (76, .struct #[⟨ "words", 26, 0, false, "", "herdsman/floor", 0⟩, ⟨ "count", 3, 1, false, "", "herdsman/floor", 24⟩])]
  [(3, (1, 8, (.int .i64 0))), (26, (1, 24, (.slice none 0 0))), (28, (3, 24, (.agg #[(.int .i64 0), (.int .i64 0), (.int .i64 0)]))), (30, (1, 4, (.int .u32 0))), (76, (2, 32, (.agg #[(.slice none 0 0), (.int .i64 0)])))]
  ⟨u3, u4, u22, u24, u26, u28, u30, u38, u76, trivial⟩
  ⟨i3, i26, i28, i30, i76, trivial⟩
theorem has15 : Has Try.prog 15 := ⟨⟨_, Try.func15, by kernel_rfl, by kernel_rfl⟩⟩
theorem has16 : Has Try.prog 16 := ⟨⟨_, Try.func16, by kernel_rfl, by kernel_rfl⟩⟩
theorem has17 : Has Try.prog 17 := ⟨⟨_, Try.func17, by kernel_rfl, by kernel_rfl⟩⟩
theorem has18 : Has Try.prog 18 := ⟨⟨_, Try.func18, by kernel_rfl, by kernel_rfl⟩⟩
theorem has19 : Has Try.prog 19 := ⟨⟨_, Try.func19, by kernel_rfl, by kernel_rfl⟩⟩
theorem has20 : Has Try.prog 20 := ⟨⟨_, Try.func20, by kernel_rfl, by kernel_rfl⟩⟩
theorem has21 : Has Try.prog 21 := ⟨⟨_, Try.func21, by kernel_rfl, by kernel_rfl⟩⟩
theorem has22 : Has Try.prog 22 := ⟨⟨_, Try.func22, by kernel_rfl, by kernel_rfl⟩⟩
theorem has23 : Has Try.prog 23 := ⟨⟨_, Try.func23, by kernel_rfl, by kernel_rfl⟩⟩
theorem has24 : Has Try.prog 24 := ⟨⟨_, Try.func24, by kernel_rfl, by kernel_rfl⟩⟩
theorem has25 : Has Try.prog 25 := ⟨⟨_, Try.func25, by kernel_rfl, by kernel_rfl⟩⟩
theorem has52 : Has Try.prog 52 := ⟨⟨_, Try.func52, by kernel_rfl, by kernel_rfl⟩⟩
theorem has53 : Has Try.prog 53 := ⟨⟨_, Try.func53, by kernel_rfl, by kernel_rfl⟩⟩
theorem has54 : Has Try.prog 54 := ⟨⟨_, Try.func54, by kernel_rfl, by kernel_rfl⟩⟩
theorem mix : Try.prog.follows .mixedOrders = true := by kernel_rfl
end Go.Proofs.Ytmfonhkkkfmpdaa
