import Derived.Test.YtmddmofncblfpaaHy
import Derived.Test.YtmddmofncblfpaaProg
import Derived.KernelRfl
namespace Go.Proofs.Ytmddmofncblfpaa
open Go.Hx
set_option maxRecDepth 100000
set_option linter.unusedVariables false
structure api_Unit where
  Id : Int
  Cell : Int
  Goal : Int
instance : Inhabited api_Unit := ⟨⟨default, default, default⟩⟩
def k_api_Unit : Fl api_Unit := ⟨3, fun x => [.int .i64 x.Id, .int .i64 x.Cell, .int .i64 x.Goal], fun _ => rfl, fun _ v h => by
  simp only [List.mem_cons, List.not_mem_nil, or_false] at h
  rcases h with rfl | rfl | rfl <;> rfl, Nat.le_of_ble_eq_true rfl⟩
structure api_Pair where
  Goal : Int
  Sector : Int
  Ids : (List Int)
instance : Inhabited api_Pair := ⟨⟨default, default, default⟩⟩
def q_api_Pair : Kd api_Pair where
  size := 3
  own := fun x cs H => ∃ (a0 : Option Addr) (n0 : Nat) (H0 : Hp), SliceO (Fl.int .i64) 3 x.Ids a0 n0 H0 ∧ cs = [.int .i64 x.Goal, .int .i64 x.Sector, .slice a0 (List.length x.Ids) n0] ∧ H = List.flatten [H0]
  rdr := fun x cs H => ∃ (a0 : Option Addr) (n0 : Nat), (SliceR (Fl.int .i64) x.Ids a0 H ∧ List.length x.Ids ≤ n0) ∧ cs = [.int .i64 x.Goal, .int .i64 x.Sector, .slice a0 (List.length x.Ids) n0]
  len := by
    rintro x cs H ⟨a0, n0, H0, s0, rfl, rfl⟩
    rfl
  plain := by
    rintro x cs H ⟨a0, n0, H0, s0, rfl, rfl⟩ v hv
    simp only [List.mem_cons, List.not_mem_nil, or_false] at hv
    rcases hv with rfl | rfl | rfl <;> rfl
  r := by
    rintro x cs H ⟨a0, n0, H0, s0, rfl, rfl⟩
    exact ⟨a0, n0, ⟨s0.r.mono (fun c hc => mem_group (HL := [H0]) (j := 0) rfl hc), s0.cap_le⟩, rfl⟩
  mono := by
    rintro x cs H H' ⟨a0, n0, ⟨r0, c0⟩, rfl⟩ hs
    exact ⟨a0, n0, ⟨r0.mono hs, c0⟩, rfl⟩
  pos := by decide
theorem u3 : Try.prog.underlying 3 = some (.int .i64) := by kernel_rfl
theorem u4 : Try.prog.underlying 4 = some (.bool) := by kernel_rfl
theorem u38 : Try.prog.underlying 38 = some (.slice 3) := by kernel_rfl
theorem u44 : Try.prog.underlying 44 = some (.slice 47) := by kernel_rfl
theorem u47 : Try.prog.underlying 47 = some (.struct #[⟨ "Id", 3, 0, false, "", "", 0⟩, ⟨ "Cell", 3, 1, false, "", "", 8⟩, ⟨ "Goal", 3, 2, false, "", "", 16⟩]) := by kernel_rfl
theorem u63 : Try.prog.underlying 63 = some (.slice 72) := by kernel_rfl
theorem u72 : Try.prog.underlying 72 = some (.struct #[⟨ "Goal", 3, 0, false, "", "", 0⟩, ⟨ "Sector", 3, 1, false, "", "", 8⟩, ⟨ "Ids", 38, 2, false, "", "", 16⟩]) := by kernel_rfl
theorem u85 : Try.prog.underlying 85 = some (.map 3 63) := by kernel_rfl
theorem u86 : Try.prog.underlying 86 = some (.map 87 3) := by kernel_rfl
theorem u87 : Try.prog.underlying 87 = some (.array 2 3) := by kernel_rfl
theorem u89 : Try.prog.underlying 89 = some (.map 3 4) := by kernel_rfl
theorem i3 : ((Try.prog.info? 3).map fun i => (i.size, i.bytes, i.zero)) = some (1, 8, some (.int .i64 0)) := by kernel_rfl
theorem i4 : ((Try.prog.info? 4).map fun i => (i.size, i.bytes, i.zero)) = some (1, 1, some (.bool false)) := by kernel_rfl
theorem i38 : ((Try.prog.info? 38).map fun i => (i.size, i.bytes, i.zero)) = some (1, 24, some (.slice none 0 0)) := by kernel_rfl
theorem i47 : ((Try.prog.info? 47).map fun i => (i.size, i.bytes, i.zero)) = some (3, 24, some (.agg #[(.int .i64 0), (.int .i64 0), (.int .i64 0)])) := by kernel_rfl
theorem i63 : ((Try.prog.info? 63).map fun i => (i.size, i.bytes, i.zero)) = some (1, 24, some (.slice none 0 0)) := by kernel_rfl
theorem i72 : ((Try.prog.info? 72).map fun i => (i.size, i.bytes, i.zero)) = some (3, 40, some (.agg #[(.int .i64 0), (.int .i64 0), (.slice none 0 0)])) := by kernel_rfl
theorem i87 : ((Try.prog.info? 87).map fun i => (i.size, i.bytes, i.zero)) = some (2, 16, some (.agg #[(.int .i64 0), (.int .i64 0)])) := by kernel_rfl
noncomputable def T : Ty Try.prog := Ty.of [(3, .int .i64), (4, .bool), (38, .slice 3), (44, .slice 47), (47, .struct #[⟨ "Id", 3, 0, false, "", "", 0⟩, ⟨ "Cell", 3, 1, false, "", "", 8⟩, ⟨ "Goal", 3, 2, false, "", "", 16⟩]), (63, .slice 72), (72, .struct #[⟨ "Goal", 3, 0, false, "", "", 0⟩, ⟨ "Sector", 3, 1, false, "", "", 8⟩, ⟨ "Ids", 38, 2, false, "", "", 16⟩]), (85, .map 3 63), (86, .map 87 3), (87, .array 2 3), (89, .map 3 4)]
  [(3, (1, 8, (.int .i64 0))), (4, (1, 1, (.bool false))), (38, (1, 24, (.slice none 0 0))), (47, (3, 24, (.agg #[(.int .i64 0), (.int .i64 0), (.int .i64 0)]))), (63, (1, 24, (.slice none 0 0))), (72, (3, 40, (.agg #[(.int .i64 0), (.int .i64 0), (.slice none 0 0)]))), (87, (2, 16, (.agg #[(.int .i64 0), (.int .i64 0)])))]
  ⟨u3, u4, u38, u44, u47, u63, u72, u85, u86, u87, u89, trivial⟩
  ⟨i3, i4, i38, i47, i63, i72, i87, trivial⟩
theorem has15 : Has Try.prog 15 := ⟨⟨_, Try.func15, by kernel_rfl, by kernel_rfl⟩⟩
theorem has17 : Has Try.prog 17 := ⟨⟨_, Try.func17, by kernel_rfl, by kernel_rfl⟩⟩
theorem has30 : Has Try.prog 30 := ⟨⟨_, Try.func30, by kernel_rfl, by kernel_rfl⟩⟩
theorem has41 : Has Try.prog 41 := ⟨⟨_, Try.func41, by kernel_rfl, by kernel_rfl⟩⟩
theorem has42 : Has Try.prog 42 := ⟨⟨_, Try.func42, by kernel_rfl, by kernel_rfl⟩⟩
theorem has43 : Has Try.prog 43 := ⟨⟨_, Try.func43, by kernel_rfl, by kernel_rfl⟩⟩
theorem has44 : Has Try.prog 44 := ⟨⟨_, Try.func44, by kernel_rfl, by kernel_rfl⟩⟩
theorem has45 : Has Try.prog 45 := ⟨⟨_, Try.func45, by kernel_rfl, by kernel_rfl⟩⟩
theorem has46 : Has Try.prog 46 := ⟨⟨_, Try.func46, by kernel_rfl, by kernel_rfl⟩⟩
theorem has47 : Has Try.prog 47 := ⟨⟨_, Try.func47, by kernel_rfl, by kernel_rfl⟩⟩
theorem has48 : Has Try.prog 48 := ⟨⟨_, Try.func48, by kernel_rfl, by kernel_rfl⟩⟩
theorem has49 : Has Try.prog 49 := ⟨⟨_, Try.func49, by kernel_rfl, by kernel_rfl⟩⟩
theorem has50 : Has Try.prog 50 := ⟨⟨_, Try.func50, by kernel_rfl, by kernel_rfl⟩⟩
theorem has51 : Has Try.prog 51 := ⟨⟨_, Try.func51, by kernel_rfl, by kernel_rfl⟩⟩
theorem has60 : Has Try.prog 60 := ⟨⟨_, Try.func60, by kernel_rfl, by kernel_rfl⟩⟩
theorem has61 : Has Try.prog 61 := ⟨⟨_, Try.func61, by kernel_rfl, by kernel_rfl⟩⟩
theorem has62 : Has Try.prog 62 := ⟨⟨_, Try.func62, by kernel_rfl, by kernel_rfl⟩⟩
theorem has63 : Has Try.prog 63 := ⟨⟨_, Try.func63, by kernel_rfl, by kernel_rfl⟩⟩
theorem has64 : Has Try.prog 64 := ⟨⟨_, Try.func64, by kernel_rfl, by kernel_rfl⟩⟩
theorem has65 : Has Try.prog 65 := ⟨⟨_, Try.func65, by kernel_rfl, by kernel_rfl⟩⟩
theorem has66 : Has Try.prog 66 := ⟨⟨_, Try.func66, by kernel_rfl, by kernel_rfl⟩⟩
theorem has67 : Has Try.prog 67 := ⟨⟨_, Try.func67, by kernel_rfl, by kernel_rfl⟩⟩
theorem mix : Try.prog.follows .mixedOrders = true := by kernel_rfl
theorem sq47 : Try.prog.stoodInHeld 47 = false ∧ Try.prog.eqGuardType Try.prog.depth 47 = false := ⟨by kernel_rfl, by kernel_rfl⟩
end Go.Proofs.Ytmddmofncblfpaa
