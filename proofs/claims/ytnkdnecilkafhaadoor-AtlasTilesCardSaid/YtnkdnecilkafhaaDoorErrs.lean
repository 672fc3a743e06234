import Derived.Test.YtnkdnecilkafhaaDoorHy
import Derived.Test.YtnkdnecilkafhaaDoorProg
import Derived.WalkKit
import Derived.LaidEql
import Derived.Stop.Asserts
import Derived.RowKitTokens
import Derived.KernelRfl
namespace Go.Proofs.YtnkdnecilkafhaaDoor
set_option maxRecDepth 100000
set_option linter.unusedVariables false
set_option linter.unusedSimpArgs false
/-- the variables that hold errors -/
abbrev gs_ : List Nat := [1, 2]
abbrev lits_ : List (Nat × Value) := [(0, .iface 108 (.agg #[.pointer (some ⟨4, 59, none⟩)]))]
theorem isNZ : Go.Hx.IsNZ Tryd.prog 80 22 := ⟨⟨#[3], fun args w => run_callFunc_extern (e := Extern.BytealgMakeNoZero.makeNoZero #[3] #[22]) Tryd.func80 (by kernel_rfl) (by kernel_rfl) (by kernel_rfl) (by kernel_rfl) args w⟩⟩
section
open Go.RowKit Go.Extern.Stop Go.Stop Go.Extern
theorem isTypeOf (v : Value) (w : World) : (Extern.ReflectliteType.typeOf #[.iface 142 v]).run Tryd.prog w = .ok (.iface 108 (.agg #[.pointer (some ⟨4, 142, none⟩)])) w := by kernel_rfl
theorem isCallComp (w : World) : (callFunc 110 #[.agg #[.pointer (some ⟨4, 142, none⟩)]]).run Tryd.prog w = .ok (.value (.bool true)) w := by kernel_rfl
theorem isMethodComparable (v : Value) (w : World) : (Go.method 275 108 v "Comparable").run Tryd.prog w = .ok (110, v) w := by kernel_rfl
theorem isComp : (Tryd.prog.info? 142).map (·.comparable) = some true := by kernel_rfl
theorem isSize : (Tryd.prog.info? 163).map (·.size) = some 1 := by kernel_rfl
theorem noIsE (v : Value) (xT : TypeId) (w : World) : (Instr.typeAssert (.iface 142 v) xT 133 true).run Tryd.prog w = .ok (.tuple #[.nilIface, .bool false]) w := run_typeAssert_lacksB Tryd.underlying133 (by kernel_rfl) (by kernel_rfl) v xT w
theorem noUnwrapE (v : Value) (xT : TypeId) (w : World) : (Instr.typeAssert (.iface 142 v) xT 116 true).run Tryd.prog w = .ok (.tuple #[.nilIface, .bool false]) w := run_typeAssert_lacksB Tryd.underlying116 (by kernel_rfl) (by kernel_rfl) v xT w
theorem noUnwrapsE (v : Value) (xT : TypeId) (w : World) : (Instr.typeAssert (.iface 142 v) xT 118 true).run Tryd.prog w = .ok (.tuple #[.nilIface, .bool false]) w := run_typeAssert_lacksB Tryd.underlying118 (by kernel_rfl) (by kernel_rfl) v xT w
theorem noIs79 (v : Value) (xT : TypeId) (w : World) : (Instr.typeAssert (.iface 79 v) xT 133 true).run Tryd.prog w = .ok (.tuple #[.nilIface, .bool false]) w := run_typeAssert_lacksB Tryd.underlying133 (by kernel_rfl) (by kernel_rfl) v xT w
theorem hasUn79 (v : Value) (xT : TypeId) (w : World) : (Instr.typeAssert (.iface 79 v) xT 116 true).run Tryd.prog w = .ok (.tuple #[.iface 79 v, .bool true]) w := run_typeAssert_hasB Tryd.underlying116 (by kernel_rfl) v xT w
theorem meUn79 (v : Value) (w : World) : (Go.method 275 79 v "Unwrap").run Tryd.prog w = .ok (102, v) w := by kernel_rfl
theorem noIs103 (v : Value) (xT : TypeId) (w : World) : (Instr.typeAssert (.iface 103 v) xT 133 true).run Tryd.prog w = .ok (.tuple #[.nilIface, .bool false]) w := run_typeAssert_lacksB Tryd.underlying133 (by kernel_rfl) (by kernel_rfl) v xT w
theorem hasUn103 (v : Value) (xT : TypeId) (w : World) : (Instr.typeAssert (.iface 103 v) xT 116 true).run Tryd.prog w = .ok (.tuple #[.iface 103 v, .bool true]) w := run_typeAssert_hasB Tryd.underlying116 (by kernel_rfl) v xT w
theorem meUn103 (v : Value) (w : World) : (Go.method 275 103 v "Unwrap").run Tryd.prog w = .ok (107, v) w := by kernel_rfl
theorem noIs62 (v : Value) (xT : TypeId) (w : World) : (Instr.typeAssert (.iface 62 v) xT 133 true).run Tryd.prog w = .ok (.tuple #[.nilIface, .bool false]) w := run_typeAssert_lacksB Tryd.underlying133 (by kernel_rfl) (by kernel_rfl) v xT w
theorem noUn62 (v : Value) (xT : TypeId) (w : World) : (Instr.typeAssert (.iface 62 v) xT 116 true).run Tryd.prog w = .ok (.tuple #[.nilIface, .bool false]) w := run_typeAssert_lacksB Tryd.underlying116 (by kernel_rfl) (by kernel_rfl) v xT w
theorem noUns62 (v : Value) (xT : TypeId) (w : World) : (Instr.typeAssert (.iface 62 v) xT 118 true).run Tryd.prog w = .ok (.tuple #[.nilIface, .bool false]) w := run_typeAssert_lacksB Tryd.underlying118 (by kernel_rfl) (by kernel_rfl) v xT w
theorem noIs64 (v : Value) (xT : TypeId) (w : World) : (Instr.typeAssert (.iface 64 v) xT 133 true).run Tryd.prog w = .ok (.tuple #[.nilIface, .bool false]) w := run_typeAssert_lacksB Tryd.underlying133 (by kernel_rfl) (by kernel_rfl) v xT w
theorem noUn64 (v : Value) (xT : TypeId) (w : World) : (Instr.typeAssert (.iface 64 v) xT 116 true).run Tryd.prog w = .ok (.tuple #[.nilIface, .bool false]) w := run_typeAssert_lacksB Tryd.underlying116 (by kernel_rfl) (by kernel_rfl) v xT w
theorem noUns64 (v : Value) (xT : TypeId) (w : World) : (Instr.typeAssert (.iface 64 v) xT 118 true).run Tryd.prog w = .ok (.tuple #[.nilIface, .bool false]) w := run_typeAssert_lacksB Tryd.underlying118 (by kernel_rfl) (by kernel_rfl) v xT w
set_option maxHeartbeats 4000000 in
theorem is_same (b : Addr) (w : World) : Calls Tryd.prog 70 #[.iface 142 (.pointer (some b)), .iface 142 (.pointer (some b))] w fun e w' => e = .returned (.bool true) ∧ w' = w := by
  obtain ⟨i, hi, hcmp⟩ := Option.map_eq_some_iff.1 isComp
  obtain ⟨j, hj, hjs⟩ := Option.map_eq_some_iff.1 isSize
  have h8 := @run_callFunc_extern Tryd.prog 63 _ (Extern.ReflectliteType.typeOf) Tryd.func63 (by kernel_rfl) (by kernel_rfl) (by kernel_rfl) (by kernel_rfl)
  have h32 := isCallComp
  have tT := isTypeOf
  have mR := isMethodComparable
  have nE := noIsE
  have uE := noUnwrapE
  have vE := noUnwrapsE
  have heq := run_eql_iface_ptr_same (P := Tryd.prog) w b Tryd.underlying59 Tryd.underlying142 hi hcmp hj
  go_enter Tryd.func70, Tryd.ntmps70
  go_wp2
  refine wp_loop_rounds 1 ?_
  rw [rounds_succ]
  go_wp2
  go_ret
  exact ⟨rfl, rfl⟩
set_option maxHeartbeats 4000000 in
theorem is_other (a b : Addr) (ca cb : Array Value) (ta tb : TypeId) (w : World) (hne : a ≠ b) (ha : w.heap[a.block]? = some (.cells ca ta (0, 0))) (hb : w.heap[b.block]? = some (.cells cb tb (0, 0))) : Calls Tryd.prog 70 #[.iface 142 (.pointer (some a)), .iface 142 (.pointer (some b))] w fun e w' => e = .returned (.bool false) ∧ w' = w := by
  obtain ⟨i, hi, hcmp⟩ := Option.map_eq_some_iff.1 isComp
  obtain ⟨j, hj, hjs⟩ := Option.map_eq_some_iff.1 isSize
  have h8 := @run_callFunc_extern Tryd.prog 63 _ (Extern.ReflectliteType.typeOf) Tryd.func63 (by kernel_rfl) (by kernel_rfl) (by kernel_rfl) (by kernel_rfl)
  have h32 := isCallComp
  have tT := isTypeOf
  have mR := isMethodComparable
  have nE := noIsE
  have uE := noUnwrapE
  have vE := noUnwrapsE
  have heq := run_eql_iface_ptr_other (P := Tryd.prog) w Tryd.underlying59 Tryd.underlying142 hi hcmp hj (by rw [hjs]; decide) hne ha hb
  go_enter Tryd.func70, Tryd.ntmps70
  go_wp2
  refine wp_loop_rounds 1 ?_
  rw [rounds_succ]
  go_wp2
  go_ret
  exact ⟨rfl, rfl⟩
theorem as_nil (t : Value) (w : World) : Calls Tryd.prog 33 #[.nilIface, t] w fun e w' => e = .returned (.bool false) ∧ w' = w := by
  go_enter Tryd.func33, Tryd.ntmps33
  go_wp2
  go_ret
  exact ⟨rfl, rfl⟩
theorem rlm (z : Sem Value) (f : TypeId → Addr → Nat → Nat → Sem Value) (v : Value) :
    ReflectliteValue.method z f #[v] = (do match ← ReflectliteValue.parts v with | none => z | some (t, a, fl) => f t a fl (fl % 32)) := rfl
theorem rls (v x : Value) : ReflectliteValue.set #[v, x] = (do
    let (some (dst, a, fl), some (src, b, _)) := (← ReflectliteValue.parts v, ← ReflectliteValue.parts x)
      | unsupported (.noEntry "extern/(internal/reflectlite.Value).Set.zeroValue")
    if fl / ReflectliteValue.flagAddr % 2 == 0 then unsupported (.noEntry "extern/(internal/reflectlite.Value).Set.unaddressable")
    let val ← loadVar src b
    if ← Rtype.directlyAssignable dst src then storeVar dst a val
    else if ← Rtype.implements dst src then
      if (← Rtype.kind src) == 20 then
        match val with
        | .nilIface => unsupported (.noEntry "extern/reflectlite: a nil value of one interface type handed on as a value of another")
        | _ => storeVar dst a val
      else storeVar dst a (.iface src val)
    else panicString ("reflectlite.Set: value of type " ++ (← Rtype.spelt src) ++ " is not assignable to type " ++ (← Rtype.spelt dst))
    pure (.tuple #[])) := rfl
theorem mKind (h : Value) (w : World) : (Go.method 275 108 (.agg #[h]) "Kind").run Tryd.prog w = .ok (97, h) w := by kernel_rfl
theorem mElem (h : Value) (w : World) : (Go.method 275 108 (.agg #[h]) "Elem").run Tryd.prog w = .ok (111, .agg #[h]) w := by kernel_rfl
theorem mImplements (h : Value) (w : World) : (Go.method 275 108 (.agg #[h]) "Implements").run Tryd.prog w = .ok (112, .agg #[h]) w := by kernel_rfl
theorem mAssignableTo (h : Value) (w : World) : (Go.method 275 108 (.agg #[h]) "AssignableTo").run Tryd.prog w = .ok (109, .agg #[h]) w := by kernel_rfl
theorem q103val (t : Addr) (w : World) : (ReflectliteValue.unpack (.iface 104 (.pointer (some t)))).run Tryd.prog w
    = .ok (.agg #[.pointer (some ⟨4, 104, none⟩), .pointer (some ⟨w.heap.size, 0, none⟩), .int .u64 150]) (w.alloc (.cells #[.pointer (some t)] 104)) := by kernel_rfl
theorem q103type (a : Addr) (w : World) : (ReflectliteValue.methodAny (ReflectliteValue.valueError "reflectlite.Value.Type" 0) (fun t _ _ _ => ReflectliteType.toType t) #[.agg #[.pointer (some ⟨4, 104, none⟩), .pointer (some a), .int .u64 150]]).run Tryd.prog w
    = .ok (.iface 108 (.agg #[.pointer (some ⟨4, 104, none⟩)])) w := by kernel_rfl
theorem q103kindp (w : World) : ((ReflectliteType.abiMethod fun t => (fun a : Nat => Value.int IntKind.u8 (a : Int)) <$> Rtype.kind t) #[.pointer (some ⟨4, 104, none⟩)]).run Tryd.prog w = .ok (.int .u8 22) w := by kernel_rfl
theorem q103kinde (w : World) : ((ReflectliteType.abiMethod fun t => (fun a : Nat => Value.int IntKind.u8 (a : Int)) <$> Rtype.kind t) #[.pointer (some ⟨4, 103, none⟩)]).run Tryd.prog w = .ok (.int .u8 22) w := by kernel_rfl
theorem q103parts (a : Addr) (w : World) : (ReflectliteValue.parts (.agg #[.pointer (some ⟨4, 104, none⟩), .pointer (some a), .int .u64 150])).run Tryd.prog w = .ok (some (104, a, 150)) w := by kernel_rfl
theorem q103isNil (a p : Addr) (W : World) (ha : W.cell? a = some (.pointer (some p))) :
    (ReflectliteValue.method (ReflectliteValue.valueError "reflectlite.Value.IsNil" 0) ReflectliteValue.isNil #[.agg #[.pointer (some ⟨4, 104, none⟩), .pointer (some a), .int .u64 150]]).run Tryd.prog W = .ok (.bool false) W := by
  rw [rlm]
  simp only [Sem.run_bind, q103parts, Result.andThen]
  simp [ReflectliteValue.isNil, loadVar, isAgg, underlying, Tryd.underlying104, ha, Result.andThen]
theorem q103elem (w : World) : (ReflectliteType.method ReflectliteType.elem #[.agg #[.pointer (some ⟨4, 104, none⟩)]]).run Tryd.prog w = .ok (.iface 108 (.agg #[.pointer (some ⟨4, 103, none⟩)])) w := by kernel_rfl
theorem q103impl (w : World) : (ReflectliteType.relation "Implements" ReflectliteType.implements_ #[.agg #[.pointer (some ⟨4, 103, none⟩)], .iface 108 (.agg #[.pointer (some ⟨4, 59, none⟩)])]).run Tryd.prog w = .ok (.bool true) w := by kernel_rfl
theorem q103typeOf (v : Value) (w : World) : (ReflectliteType.typeOf #[.iface 103 v]).run Tryd.prog w = .ok (.iface 108 (.agg #[.pointer (some ⟨4, 103, none⟩)])) w := by kernel_rfl
theorem q103assign (w : World) : (ReflectliteType.relation "AssignableTo" ReflectliteType.assignableTo #[.agg #[.pointer (some ⟨4, 103, none⟩)], .iface 108 (.agg #[.pointer (some ⟨4, 103, none⟩)])]).run Tryd.prog w = .ok (.bool true) w := by kernel_rfl
theorem q103valE (e : Addr) (w : World) : (ReflectliteValue.unpack (.iface 103 (.pointer (some e)))).run Tryd.prog w
    = .ok (.agg #[.pointer (some ⟨4, 103, none⟩), .pointer (some ⟨w.heap.size, 0, none⟩), .int .u64 150]) (w.alloc (.cells #[.pointer (some e)] 103)) := by kernel_rfl
theorem q103elemOf (w : World) : (Rtype.elem? 104).run Tryd.prog w = .ok (some 103) w := by kernel_rfl
theorem q103mk (p : Addr) (w : World) : (ReflectliteValue.mk 103 p ReflectliteValue.flagAddr).run Tryd.prog w = .ok (.agg #[.pointer (some ⟨4, 103, none⟩), .pointer (some p), .int .u64 406]) w := by kernel_rfl
theorem q103elemV (a p : Addr) (W : World) (ha : W.cell? a = some (.pointer (some p))) :
    (ReflectliteValue.method (ReflectliteValue.valueError "reflectlite.Value.Elem" 0) ReflectliteValue.elem #[.agg #[.pointer (some ⟨4, 104, none⟩), .pointer (some a), .int .u64 150]]).run Tryd.prog W
      = .ok (.agg #[.pointer (some ⟨4, 103, none⟩), .pointer (some p), .int .u64 406]) W := by
  rw [rlm]
  simp only [Sem.run_bind, q103parts, Result.andThen]
  simp [ReflectliteValue.elem, loadVar, isAgg, underlying, Tryd.underlying104, ha, Result.andThen, q103elemOf, q103mk]
theorem q103partsA (a : Addr) (w : World) : (ReflectliteValue.parts (.agg #[.pointer (some ⟨4, 103, none⟩), .pointer (some a), .int .u64 406])).run Tryd.prog w = .ok (some (103, a, 406)) w := by kernel_rfl
theorem q103partsE (a : Addr) (w : World) : (ReflectliteValue.parts (.agg #[.pointer (some ⟨4, 103, none⟩), .pointer (some a), .int .u64 150])).run Tryd.prog w = .ok (some (103, a, 150)) w := by kernel_rfl
theorem q103direct (w : World) : (Rtype.directlyAssignable 103 103).run Tryd.prog w = .ok true w := by kernel_rfl
theorem q103size (w : World) : (sizeOf 103).run Tryd.prog w = .ok 1 w := by kernel_rfl
theorem q103set (ta b : Addr) (e : Addr) (old : Value) (W : World) (hb : W.cell? b = some (.pointer (some e))) (ht : W.cell? ta = some old) (hf : W.frozen? ta = false) :
    (ReflectliteValue.set #[.agg #[.pointer (some ⟨4, 103, none⟩), .pointer (some ta), .int .u64 406], .agg #[.pointer (some ⟨4, 103, none⟩), .pointer (some b), .int .u64 150]]).run Tryd.prog W
      = .ok (.tuple #[]) (W.setCell ta (.pointer (some e))) := by
  rw [rls]
  simp only [Sem.run_bind, q103partsA, q103partsE, Result.andThen]
  simp [ReflectliteValue.flagAddr, loadVar, isAgg, underlying, Tryd.underlying103, hb, Result.andThen, q103direct, storeVar, Value.cells, storeCells, Addr.add, q103size]
  rw [run_store Tryd.prog W ta _ _ (by rfl)]
  simp [ht, hf]
set_option maxHeartbeats 16000000 in
theorem as_hit103 (e : Addr) (t : Addr) (old : Value) (w : World) (hg : w.cell? ⟨0, 0, none⟩ = some (.iface 108 (.agg #[.pointer (some ⟨4, 59, none⟩)]))) (ht0 : w.cell? t = some old) (hf0 : w.frozen? t = false) :
    Calls Tryd.prog 33 #[.iface 103 (.pointer (some e)), .iface 104 (.pointer (some t))] w fun ev w' => ev = .returned (.bool true) ∧ w' = ((((w.alloc (.cells #[.pointer (some t)] 104)).alloc (.cells #[.pointer (some ⟨4, 104, none⟩), .pointer (some ⟨w.heap.size, 0, none⟩), .int .u64 150] 85)).alloc (.cells #[.pointer (some ⟨4, 104, none⟩), .pointer (some ⟨w.heap.size, 0, none⟩), .int .u64 150] 85)).alloc (.cells #[.pointer (some e)] 103)).setCell t (.pointer (some e)) := by
  have h6 := @run_callFunc_extern Tryd.prog 52 _ (fun args => ReflectliteValue.unpack (args.getD 0 (.tuple #[]))) Tryd.func52 (by kernel_rfl) (by kernel_rfl) (by kernel_rfl) (by kernel_rfl)
  have h7 := @run_callFunc_extern Tryd.prog 53 _ (ReflectliteValue.methodAny (ReflectliteValue.valueError "reflectlite.Value.Type" 0) (fun t _ _ _ => ReflectliteType.toType t)) Tryd.func53 (by kernel_rfl) (by kernel_rfl) (by kernel_rfl) (by kernel_rfl)
  have h8 := @run_callFunc_extern Tryd.prog 54 _ (ReflectliteValue.method (ReflectliteValue.valueError "reflectlite.Value.IsNil" 0) ReflectliteValue.isNil) Tryd.func54 (by kernel_rfl) (by kernel_rfl) (by kernel_rfl) (by kernel_rfl)
  have h27 := @run_callFunc_extern Tryd.prog 97 _ (ReflectliteType.abiMethod fun t => do pure (.int .u8 (← Rtype.kind t))) Tryd.func97 (by kernel_rfl) (by kernel_rfl) (by kernel_rfl) (by kernel_rfl)
  have h37 := @run_callFunc_extern Tryd.prog 111 _ (ReflectliteType.method ReflectliteType.elem) Tryd.func111 (by kernel_rfl) (by kernel_rfl) (by kernel_rfl) (by kernel_rfl)
  have h38 := @run_callFunc_extern Tryd.prog 112 _ (ReflectliteType.relation "Implements" ReflectliteType.implements_) Tryd.func112 (by kernel_rfl) (by kernel_rfl) (by kernel_rfl) (by kernel_rfl)
  have h10 := @run_callFunc_extern Tryd.prog 63 _ (ReflectliteType.typeOf) Tryd.func63 (by kernel_rfl) (by kernel_rfl) (by kernel_rfl) (by kernel_rfl)
  have h35 := @run_callFunc_extern Tryd.prog 109 _ (ReflectliteType.relation "AssignableTo" ReflectliteType.assignableTo) Tryd.func109 (by kernel_rfl) (by kernel_rfl) (by kernel_rfl) (by kernel_rfl)
  have h11 := @run_callFunc_extern Tryd.prog 64 _ (ReflectliteValue.method (ReflectliteValue.valueError "reflectlite.Value.Elem" 0) ReflectliteValue.elem) Tryd.func64 (by kernel_rfl) (by kernel_rfl) (by kernel_rfl) (by kernel_rfl)
  have h12 := @run_callFunc_extern Tryd.prog 65 _ (ReflectliteValue.set) Tryd.func65 (by kernel_rfl) (by kernel_rfl) (by kernel_rfl) (by kernel_rfl)
  have tO := q103typeOf
  have mA := mAssignableTo
  have a25 := q103assign
  have v25 := q103valE
  have f6 := q103val
  have f7 := q103type
  have mK := mKind
  have mE := mElem
  have mI := mImplements
  have k27 := q103kindp
  have k25 := q103kinde
  have e27 := q103elem
  have i25 := q103impl
  have n8 := q103isNil ⟨w.heap.size, 0, none⟩ t ((w.alloc (.cells #[.pointer (some t)] 104)).alloc (.cells #[.pointer (some ⟨4, 104, none⟩), .pointer (some ⟨w.heap.size, 0, none⟩), .int .u64 150] 85)) (by simp)
  have hlt : 0 < w.heap.size := by
    rcases Nat.lt_or_ge 0 w.heap.size with h | h
    · exact h
    · simp [World.cell?, Array.getElem?_eq_none h] at hg
  have hg2 : ((w.alloc (.cells #[.pointer (some t)] 104)).alloc (.cells #[.pointer (some ⟨4, 104, none⟩), .pointer (some ⟨w.heap.size, 0, none⟩), .int .u64 150] 85)).cell? ⟨0, 0, none⟩ = some (.iface 108 (.agg #[.pointer (some ⟨4, 59, none⟩)])) := by
    rw [World.cell?_alloc_lt _ _ ⟨0, 0, none⟩ (by first | (simp; done) | (simp; omega)), World.cell?_alloc_lt _ _ ⟨0, 0, none⟩ hlt]; exact hg
  have htl : t.block < w.heap.size := by
    rcases Nat.lt_or_ge t.block w.heap.size with h | h
    · exact h
    · simp [World.cell?, Array.getElem?_eq_none h] at ht0
  have el := q103elemV ⟨w.heap.size, 0, none⟩ t (((w.alloc (.cells #[.pointer (some t)] 104)).alloc (.cells #[.pointer (some ⟨4, 104, none⟩), .pointer (some ⟨w.heap.size, 0, none⟩), .int .u64 150] 85)).alloc (.cells #[.pointer (some ⟨4, 104, none⟩), .pointer (some ⟨w.heap.size, 0, none⟩), .int .u64 150] 85)) (by rw [World.cell?_alloc_lt _ _ ⟨w.heap.size, 0, none⟩ (by first | (simp; done) | (simp; omega))]; simp)
  have st := q103set t ⟨w.heap.size + 1 + 1 + 1, 0, none⟩ e old ((((w.alloc (.cells #[.pointer (some t)] 104)).alloc (.cells #[.pointer (some ⟨4, 104, none⟩), .pointer (some ⟨w.heap.size, 0, none⟩), .int .u64 150] 85)).alloc (.cells #[.pointer (some ⟨4, 104, none⟩), .pointer (some ⟨w.heap.size, 0, none⟩), .int .u64 150] 85)).alloc (.cells #[.pointer (some e)] 103))
    (by rw [World.cell?_alloc_at _ _ _ _ (by simp)]; rfl)
    (by rw [World.cell?_alloc_lt _ _ t (by first | (simp; done) | (simp; omega)), World.cell?_alloc_lt _ _ t (by first | (simp; done) | (simp; omega)), World.cell?_alloc_lt _ _ t (by first | (simp; done) | (simp; omega)), World.cell?_alloc_lt _ _ t htl]; exact ht0)
    (by rw [World.frozen?_alloc_old _ _ t (by first | (simp; done) | (simp; omega)), World.frozen?_alloc_old _ _ t (by first | (simp; done) | (simp; omega)), World.frozen?_alloc_old _ _ t (by first | (simp; done) | (simp; omega)), World.frozen?_alloc_old _ _ t (Nat.ne_of_lt htl)]; exact hf0)
  go_enter Tryd.func33, Tryd.ntmps33
  go_wp2
  refine wp_loop_rounds 1 ?_
  rw [rounds_succ]
  go_wp2
  go_ret
  exact ⟨rfl, rfl⟩
theorem q62val (t : Addr) (w : World) : (ReflectliteValue.unpack (.iface 64 (.pointer (some t)))).run Tryd.prog w
    = .ok (.agg #[.pointer (some ⟨4, 64, none⟩), .pointer (some ⟨w.heap.size, 0, none⟩), .int .u64 150]) (w.alloc (.cells #[.pointer (some t)] 64)) := by kernel_rfl
theorem q62type (a : Addr) (w : World) : (ReflectliteValue.methodAny (ReflectliteValue.valueError "reflectlite.Value.Type" 0) (fun t _ _ _ => ReflectliteType.toType t) #[.agg #[.pointer (some ⟨4, 64, none⟩), .pointer (some a), .int .u64 150]]).run Tryd.prog w
    = .ok (.iface 108 (.agg #[.pointer (some ⟨4, 64, none⟩)])) w := by kernel_rfl
theorem q62kindp (w : World) : ((ReflectliteType.abiMethod fun t => (fun a : Nat => Value.int IntKind.u8 (a : Int)) <$> Rtype.kind t) #[.pointer (some ⟨4, 64, none⟩)]).run Tryd.prog w = .ok (.int .u8 22) w := by kernel_rfl
theorem q62kinde (w : World) : ((ReflectliteType.abiMethod fun t => (fun a : Nat => Value.int IntKind.u8 (a : Int)) <$> Rtype.kind t) #[.pointer (some ⟨4, 62, none⟩)]).run Tryd.prog w = .ok (.int .u8 2) w := by kernel_rfl
theorem q62parts (a : Addr) (w : World) : (ReflectliteValue.parts (.agg #[.pointer (some ⟨4, 64, none⟩), .pointer (some a), .int .u64 150])).run Tryd.prog w = .ok (some (64, a, 150)) w := by kernel_rfl
theorem q62isNil (a p : Addr) (W : World) (ha : W.cell? a = some (.pointer (some p))) :
    (ReflectliteValue.method (ReflectliteValue.valueError "reflectlite.Value.IsNil" 0) ReflectliteValue.isNil #[.agg #[.pointer (some ⟨4, 64, none⟩), .pointer (some a), .int .u64 150]]).run Tryd.prog W = .ok (.bool false) W := by
  rw [rlm]
  simp only [Sem.run_bind, q62parts, Result.andThen]
  simp [ReflectliteValue.isNil, loadVar, isAgg, underlying, Tryd.underlying64, ha, Result.andThen]
theorem q62elem (w : World) : (ReflectliteType.method ReflectliteType.elem #[.agg #[.pointer (some ⟨4, 64, none⟩)]]).run Tryd.prog w = .ok (.iface 108 (.agg #[.pointer (some ⟨4, 62, none⟩)])) w := by kernel_rfl
theorem q62impl (w : World) : (ReflectliteType.relation "Implements" ReflectliteType.implements_ #[.agg #[.pointer (some ⟨4, 62, none⟩)], .iface 108 (.agg #[.pointer (some ⟨4, 59, none⟩)])]).run Tryd.prog w = .ok (.bool true) w := by kernel_rfl
theorem q62typeOf (v : Value) (w : World) : (ReflectliteType.typeOf #[.iface 62 v]).run Tryd.prog w = .ok (.iface 108 (.agg #[.pointer (some ⟨4, 62, none⟩)])) w := by kernel_rfl
theorem q62assign (w : World) : (ReflectliteType.relation "AssignableTo" ReflectliteType.assignableTo #[.agg #[.pointer (some ⟨4, 62, none⟩)], .iface 108 (.agg #[.pointer (some ⟨4, 62, none⟩)])]).run Tryd.prog w = .ok (.bool true) w := by kernel_rfl
theorem q62valE (e : Int) (w : World) : (ReflectliteValue.unpack (.iface 62 (.int .i64 e))).run Tryd.prog w
    = .ok (.agg #[.pointer (some ⟨4, 62, none⟩), .pointer (some ⟨w.heap.size, 0, none⟩), .int .u64 130]) (w.alloc (.cells #[.int .i64 e] 62)) := by kernel_rfl
theorem q62elemOf (w : World) : (Rtype.elem? 64).run Tryd.prog w = .ok (some 62) w := by kernel_rfl
theorem q62mk (p : Addr) (w : World) : (ReflectliteValue.mk 62 p ReflectliteValue.flagAddr).run Tryd.prog w = .ok (.agg #[.pointer (some ⟨4, 62, none⟩), .pointer (some p), .int .u64 386]) w := by kernel_rfl
theorem q62elemV (a p : Addr) (W : World) (ha : W.cell? a = some (.pointer (some p))) :
    (ReflectliteValue.method (ReflectliteValue.valueError "reflectlite.Value.Elem" 0) ReflectliteValue.elem #[.agg #[.pointer (some ⟨4, 64, none⟩), .pointer (some a), .int .u64 150]]).run Tryd.prog W
      = .ok (.agg #[.pointer (some ⟨4, 62, none⟩), .pointer (some p), .int .u64 386]) W := by
  rw [rlm]
  simp only [Sem.run_bind, q62parts, Result.andThen]
  simp [ReflectliteValue.elem, loadVar, isAgg, underlying, Tryd.underlying64, ha, Result.andThen, q62elemOf, q62mk]
theorem q62partsA (a : Addr) (w : World) : (ReflectliteValue.parts (.agg #[.pointer (some ⟨4, 62, none⟩), .pointer (some a), .int .u64 386])).run Tryd.prog w = .ok (some (62, a, 386)) w := by kernel_rfl
theorem q62partsE (a : Addr) (w : World) : (ReflectliteValue.parts (.agg #[.pointer (some ⟨4, 62, none⟩), .pointer (some a), .int .u64 130])).run Tryd.prog w = .ok (some (62, a, 130)) w := by kernel_rfl
theorem q62direct (w : World) : (Rtype.directlyAssignable 62 62).run Tryd.prog w = .ok true w := by kernel_rfl
theorem q62size (w : World) : (sizeOf 62).run Tryd.prog w = .ok 1 w := by kernel_rfl
theorem q62set (ta b : Addr) (e : Int) (old : Value) (W : World) (hb : W.cell? b = some (.int .i64 e)) (ht : W.cell? ta = some old) (hf : W.frozen? ta = false) :
    (ReflectliteValue.set #[.agg #[.pointer (some ⟨4, 62, none⟩), .pointer (some ta), .int .u64 386], .agg #[.pointer (some ⟨4, 62, none⟩), .pointer (some b), .int .u64 130]]).run Tryd.prog W
      = .ok (.tuple #[]) (W.setCell ta (.int .i64 e)) := by
  rw [rls]
  simp only [Sem.run_bind, q62partsA, q62partsE, Result.andThen]
  simp [ReflectliteValue.flagAddr, loadVar, isAgg, underlying, Tryd.underlying62, hb, Result.andThen, q62direct, storeVar, Value.cells, storeCells, Addr.add, q62size]
  rw [run_store Tryd.prog W ta _ _ (by rfl)]
  simp [ht, hf]
set_option maxHeartbeats 16000000 in
theorem as_hit62 (e : Int) (t : Addr) (old : Value) (w : World) (hg : w.cell? ⟨0, 0, none⟩ = some (.iface 108 (.agg #[.pointer (some ⟨4, 59, none⟩)]))) (ht0 : w.cell? t = some old) (hf0 : w.frozen? t = false) :
    Calls Tryd.prog 33 #[.iface 62 (.int .i64 e), .iface 64 (.pointer (some t))] w fun ev w' => ev = .returned (.bool true) ∧ w' = ((((w.alloc (.cells #[.pointer (some t)] 64)).alloc (.cells #[.pointer (some ⟨4, 64, none⟩), .pointer (some ⟨w.heap.size, 0, none⟩), .int .u64 150] 85)).alloc (.cells #[.pointer (some ⟨4, 64, none⟩), .pointer (some ⟨w.heap.size, 0, none⟩), .int .u64 150] 85)).alloc (.cells #[.int .i64 e] 62)).setCell t (.int .i64 e) := by
  have h6 := @run_callFunc_extern Tryd.prog 52 _ (fun args => ReflectliteValue.unpack (args.getD 0 (.tuple #[]))) Tryd.func52 (by kernel_rfl) (by kernel_rfl) (by kernel_rfl) (by kernel_rfl)
  have h7 := @run_callFunc_extern Tryd.prog 53 _ (ReflectliteValue.methodAny (ReflectliteValue.valueError "reflectlite.Value.Type" 0) (fun t _ _ _ => ReflectliteType.toType t)) Tryd.func53 (by kernel_rfl) (by kernel_rfl) (by kernel_rfl) (by kernel_rfl)
  have h8 := @run_callFunc_extern Tryd.prog 54 _ (ReflectliteValue.method (ReflectliteValue.valueError "reflectlite.Value.IsNil" 0) ReflectliteValue.isNil) Tryd.func54 (by kernel_rfl) (by kernel_rfl) (by kernel_rfl) (by kernel_rfl)
  have h27 := @run_callFunc_extern Tryd.prog 97 _ (ReflectliteType.abiMethod fun t => do pure (.int .u8 (← Rtype.kind t))) Tryd.func97 (by kernel_rfl) (by kernel_rfl) (by kernel_rfl) (by kernel_rfl)
  have h37 := @run_callFunc_extern Tryd.prog 111 _ (ReflectliteType.method ReflectliteType.elem) Tryd.func111 (by kernel_rfl) (by kernel_rfl) (by kernel_rfl) (by kernel_rfl)
  have h38 := @run_callFunc_extern Tryd.prog 112 _ (ReflectliteType.relation "Implements" ReflectliteType.implements_) Tryd.func112 (by kernel_rfl) (by kernel_rfl) (by kernel_rfl) (by kernel_rfl)
  have h10 := @run_callFunc_extern Tryd.prog 63 _ (ReflectliteType.typeOf) Tryd.func63 (by kernel_rfl) (by kernel_rfl) (by kernel_rfl) (by kernel_rfl)
  have h35 := @run_callFunc_extern Tryd.prog 109 _ (ReflectliteType.relation "AssignableTo" ReflectliteType.assignableTo) Tryd.func109 (by kernel_rfl) (by kernel_rfl) (by kernel_rfl) (by kernel_rfl)
  have h11 := @run_callFunc_extern Tryd.prog 64 _ (ReflectliteValue.method (ReflectliteValue.valueError "reflectlite.Value.Elem" 0) ReflectliteValue.elem) Tryd.func64 (by kernel_rfl) (by kernel_rfl) (by kernel_rfl) (by kernel_rfl)
  have h12 := @run_callFunc_extern Tryd.prog 65 _ (ReflectliteValue.set) Tryd.func65 (by kernel_rfl) (by kernel_rfl) (by kernel_rfl) (by kernel_rfl)
  have tO := q62typeOf
  have mA := mAssignableTo
  have a25 := q62assign
  have v25 := q62valE
  have f6 := q62val
  have f7 := q62type
  have mK := mKind
  have mE := mElem
  have mI := mImplements
  have k27 := q62kindp
  have k25 := q62kinde
  have e27 := q62elem
  have i25 := q62impl
  have n8 := q62isNil ⟨w.heap.size, 0, none⟩ t ((w.alloc (.cells #[.pointer (some t)] 64)).alloc (.cells #[.pointer (some ⟨4, 64, none⟩), .pointer (some ⟨w.heap.size, 0, none⟩), .int .u64 150] 85)) (by simp)
  have hlt : 0 < w.heap.size := by
    rcases Nat.lt_or_ge 0 w.heap.size with h | h
    · exact h
    · simp [World.cell?, Array.getElem?_eq_none h] at hg
  have hg2 : ((w.alloc (.cells #[.pointer (some t)] 64)).alloc (.cells #[.pointer (some ⟨4, 64, none⟩), .pointer (some ⟨w.heap.size, 0, none⟩), .int .u64 150] 85)).cell? ⟨0, 0, none⟩ = some (.iface 108 (.agg #[.pointer (some ⟨4, 59, none⟩)])) := by
    rw [World.cell?_alloc_lt _ _ ⟨0, 0, none⟩ (by first | (simp; done) | (simp; omega)), World.cell?_alloc_lt _ _ ⟨0, 0, none⟩ hlt]; exact hg
  have htl : t.block < w.heap.size := by
    rcases Nat.lt_or_ge t.block w.heap.size with h | h
    · exact h
    · simp [World.cell?, Array.getElem?_eq_none h] at ht0
  have el := q62elemV ⟨w.heap.size, 0, none⟩ t (((w.alloc (.cells #[.pointer (some t)] 64)).alloc (.cells #[.pointer (some ⟨4, 64, none⟩), .pointer (some ⟨w.heap.size, 0, none⟩), .int .u64 150] 85)).alloc (.cells #[.pointer (some ⟨4, 64, none⟩), .pointer (some ⟨w.heap.size, 0, none⟩), .int .u64 150] 85)) (by rw [World.cell?_alloc_lt _ _ ⟨w.heap.size, 0, none⟩ (by first | (simp; done) | (simp; omega))]; simp)
  have st := q62set t ⟨w.heap.size + 1 + 1 + 1, 0, none⟩ e old ((((w.alloc (.cells #[.pointer (some t)] 64)).alloc (.cells #[.pointer (some ⟨4, 64, none⟩), .pointer (some ⟨w.heap.size, 0, none⟩), .int .u64 150] 85)).alloc (.cells #[.pointer (some ⟨4, 64, none⟩), .pointer (some ⟨w.heap.size, 0, none⟩), .int .u64 150] 85)).alloc (.cells #[.int .i64 e] 62))
    (by rw [World.cell?_alloc_at _ _ _ _ (by simp)]; rfl)
    (by rw [World.cell?_alloc_lt _ _ t (by first | (simp; done) | (simp; omega)), World.cell?_alloc_lt _ _ t (by first | (simp; done) | (simp; omega)), World.cell?_alloc_lt _ _ t (by first | (simp; done) | (simp; omega)), World.cell?_alloc_lt _ _ t htl]; exact ht0)
    (by rw [World.frozen?_alloc_old _ _ t (by first | (simp; done) | (simp; omega)), World.frozen?_alloc_old _ _ t (by first | (simp; done) | (simp; omega)), World.frozen?_alloc_old _ _ t (by first | (simp; done) | (simp; omega)), World.frozen?_alloc_old _ _ t (Nat.ne_of_lt htl)]; exact hf0)
  go_enter Tryd.func33, Tryd.ntmps33
  go_wp2
  refine wp_loop_rounds 1 ?_
  rw [rounds_succ]
  go_wp2
  go_ret
  exact ⟨rfl, rfl⟩
theorem asNo79 (v : Value) (xT : TypeId) (w : World) : (Instr.typeAssert (.iface 79 v) xT 113 true).run Tryd.prog w = .ok (.tuple #[.nilIface, .bool false]) w := run_typeAssert_lacksB Tryd.underlying113 (by kernel_rfl) (by kernel_rfl) v xT w
theorem asUn79 (v : Value) (xT : TypeId) (w : World) : (Instr.typeAssert (.iface 79 v) xT 116 true).run Tryd.prog w = .ok (.tuple #[.iface 79 v, .bool true]) w := run_typeAssert_hasB Tryd.underlying116 (by kernel_rfl) v xT w
theorem asMe79 (v : Value) (w : World) : (Go.method 275 79 v "Unwrap").run Tryd.prog w = .ok (102, v) w := by kernel_rfl
theorem asTo79 (v : Value) (w : World) : (ReflectliteType.typeOf #[.iface 79 v]).run Tryd.prog w = .ok (.iface 108 (.agg #[.pointer (some ⟨4, 79, none⟩)])) w := by kernel_rfl
theorem asFa79 (w : World) : (ReflectliteType.relation "AssignableTo" ReflectliteType.assignableTo #[.agg #[.pointer (some ⟨4, 79, none⟩)], .iface 108 (.agg #[.pointer (some ⟨4, 62, none⟩)])]).run Tryd.prog w = .ok (.bool false) w := by kernel_rfl
set_option maxHeartbeats 16000000 in
theorem as_whit79_62 (e : Int) (t : Addr) (old : Value) (w : World) (pb : Nat) (hg : w.cell? ⟨0, 0, none⟩ = some (.iface 108 (.agg #[.pointer (some ⟨4, 59, none⟩)]))) (ht0 : w.cell? t = some old) (hf0 : w.frozen? t = false) (h1 : w.cell? ⟨pb, 1, none⟩ = some (.iface 62 (.int .i64 e))) :
    Calls Tryd.prog 33 #[.iface 79 (.pointer (some ⟨pb, 0, none⟩)), .iface 64 (.pointer (some t))] w fun ev w' => ev = .returned (.bool true) ∧ w' = ((((w.alloc (.cells #[.pointer (some t)] 64)).alloc (.cells #[.pointer (some ⟨4, 64, none⟩), .pointer (some ⟨w.heap.size, 0, none⟩), .int .u64 150] 85)).alloc (.cells #[.pointer (some ⟨4, 64, none⟩), .pointer (some ⟨w.heap.size, 0, none⟩), .int .u64 150] 85)).alloc (.cells #[.int .i64 e] 62)).setCell t (.int .i64 e) := by
  have h6 := @run_callFunc_extern Tryd.prog 52 _ (fun args => ReflectliteValue.unpack (args.getD 0 (.tuple #[]))) Tryd.func52 (by kernel_rfl) (by kernel_rfl) (by kernel_rfl) (by kernel_rfl)
  have h7 := @run_callFunc_extern Tryd.prog 53 _ (ReflectliteValue.methodAny (ReflectliteValue.valueError "reflectlite.Value.Type" 0) (fun t _ _ _ => ReflectliteType.toType t)) Tryd.func53 (by kernel_rfl) (by kernel_rfl) (by kernel_rfl) (by kernel_rfl)
  have h8 := @run_callFunc_extern Tryd.prog 54 _ (ReflectliteValue.method (ReflectliteValue.valueError "reflectlite.Value.IsNil" 0) ReflectliteValue.isNil) Tryd.func54 (by kernel_rfl) (by kernel_rfl) (by kernel_rfl) (by kernel_rfl)
  have h27 := @run_callFunc_extern Tryd.prog 97 _ (ReflectliteType.abiMethod fun t => do pure (.int .u8 (← Rtype.kind t))) Tryd.func97 (by kernel_rfl) (by kernel_rfl) (by kernel_rfl) (by kernel_rfl)
  have h37 := @run_callFunc_extern Tryd.prog 111 _ (ReflectliteType.method ReflectliteType.elem) Tryd.func111 (by kernel_rfl) (by kernel_rfl) (by kernel_rfl) (by kernel_rfl)
  have h38 := @run_callFunc_extern Tryd.prog 112 _ (ReflectliteType.relation "Implements" ReflectliteType.implements_) Tryd.func112 (by kernel_rfl) (by kernel_rfl) (by kernel_rfl) (by kernel_rfl)
  have h10 := @run_callFunc_extern Tryd.prog 63 _ (ReflectliteType.typeOf) Tryd.func63 (by kernel_rfl) (by kernel_rfl) (by kernel_rfl) (by kernel_rfl)
  have h35 := @run_callFunc_extern Tryd.prog 109 _ (ReflectliteType.relation "AssignableTo" ReflectliteType.assignableTo) Tryd.func109 (by kernel_rfl) (by kernel_rfl) (by kernel_rfl) (by kernel_rfl)
  have h11 := @run_callFunc_extern Tryd.prog 64 _ (ReflectliteValue.method (ReflectliteValue.valueError "reflectlite.Value.Elem" 0) ReflectliteValue.elem) Tryd.func64 (by kernel_rfl) (by kernel_rfl) (by kernel_rfl) (by kernel_rfl)
  have h12 := @run_callFunc_extern Tryd.prog 65 _ (ReflectliteValue.set) Tryd.func65 (by kernel_rfl) (by kernel_rfl) (by kernel_rfl) (by kernel_rfl)
  have tO := q62typeOf
  have mA := mAssignableTo
  have a25 := q62assign
  have v25 := q62valE
  have f6 := q62val
  have f7 := q62type
  have mK := mKind
  have mE := mElem
  have mI := mImplements
  have k27 := q62kindp
  have k25 := q62kinde
  have e27 := q62elem
  have i25 := q62impl
  have oN := asNo79
  have oU := asUn79
  have oM := asMe79
  have oT := asTo79
  have oF := asFa79
  have hpl : pb < w.heap.size := by
    rcases Nat.lt_or_ge pb w.heap.size with h | h
    · exact h
    · simp [World.cell?, Array.getElem?_eq_none h] at h1
  have h1a : (((w.alloc (.cells #[.pointer (some t)] 64)).alloc (.cells #[.pointer (some ⟨4, 64, none⟩), .pointer (some ⟨w.heap.size, 0, none⟩), .int .u64 150] 85)).alloc (.cells #[.pointer (some ⟨4, 64, none⟩), .pointer (some ⟨w.heap.size, 0, none⟩), .int .u64 150] 85)).cell? ⟨pb, 1, none⟩ = some (.iface 62 (.int .i64 e)) := by
    rw [World.cell?_alloc_lt _ _ ⟨pb, 1, none⟩ (by first | (simp; done) | (simp; omega)), World.cell?_alloc_lt _ _ ⟨pb, 1, none⟩ (by first | (simp; done) | (simp; omega)), World.cell?_alloc_lt _ _ ⟨pb, 1, none⟩ hpl]; exact h1
  have n8 := q62isNil ⟨w.heap.size, 0, none⟩ t ((w.alloc (.cells #[.pointer (some t)] 64)).alloc (.cells #[.pointer (some ⟨4, 64, none⟩), .pointer (some ⟨w.heap.size, 0, none⟩), .int .u64 150] 85)) (by simp)
  have hlt : 0 < w.heap.size := by
    rcases Nat.lt_or_ge 0 w.heap.size with h | h
    · exact h
    · simp [World.cell?, Array.getElem?_eq_none h] at hg
  have hg2 : ((w.alloc (.cells #[.pointer (some t)] 64)).alloc (.cells #[.pointer (some ⟨4, 64, none⟩), .pointer (some ⟨w.heap.size, 0, none⟩), .int .u64 150] 85)).cell? ⟨0, 0, none⟩ = some (.iface 108 (.agg #[.pointer (some ⟨4, 59, none⟩)])) := by
    rw [World.cell?_alloc_lt _ _ ⟨0, 0, none⟩ (by first | (simp; done) | (simp; omega)), World.cell?_alloc_lt _ _ ⟨0, 0, none⟩ hlt]; exact hg
  have htl : t.block < w.heap.size := by
    rcases Nat.lt_or_ge t.block w.heap.size with h | h
    · exact h
    · simp [World.cell?, Array.getElem?_eq_none h] at ht0
  have el := q62elemV ⟨w.heap.size, 0, none⟩ t (((w.alloc (.cells #[.pointer (some t)] 64)).alloc (.cells #[.pointer (some ⟨4, 64, none⟩), .pointer (some ⟨w.heap.size, 0, none⟩), .int .u64 150] 85)).alloc (.cells #[.pointer (some ⟨4, 64, none⟩), .pointer (some ⟨w.heap.size, 0, none⟩), .int .u64 150] 85)) (by rw [World.cell?_alloc_lt _ _ ⟨w.heap.size, 0, none⟩ (by first | (simp; done) | (simp; omega))]; simp)
  have st := q62set t ⟨w.heap.size + 1 + 1 + 1, 0, none⟩ e old ((((w.alloc (.cells #[.pointer (some t)] 64)).alloc (.cells #[.pointer (some ⟨4, 64, none⟩), .pointer (some ⟨w.heap.size, 0, none⟩), .int .u64 150] 85)).alloc (.cells #[.pointer (some ⟨4, 64, none⟩), .pointer (some ⟨w.heap.size, 0, none⟩), .int .u64 150] 85)).alloc (.cells #[.int .i64 e] 62))
    (by rw [World.cell?_alloc_at _ _ _ _ (by simp)]; rfl)
    (by rw [World.cell?_alloc_lt _ _ t (by first | (simp; done) | (simp; omega)), World.cell?_alloc_lt _ _ t (by first | (simp; done) | (simp; omega)), World.cell?_alloc_lt _ _ t (by first | (simp; done) | (simp; omega)), World.cell?_alloc_lt _ _ t htl]; exact ht0)
    (by rw [World.frozen?_alloc_old _ _ t (by first | (simp; done) | (simp; omega)), World.frozen?_alloc_old _ _ t (by first | (simp; done) | (simp; omega)), World.frozen?_alloc_old _ _ t (by first | (simp; done) | (simp; omega)), World.frozen?_alloc_old _ _ t (Nat.ne_of_lt htl)]; exact hf0)
  go_enter Tryd.func33, Tryd.ntmps33
  go_wp2
  refine wp_loop_rounds 2 ?_
  rw [rounds_succ]
  go_wp2
  rw [rounds_succ]
  go_wp2
  go_ret
  exact ⟨rfl, rfl⟩
end
section
open Go.Hx
def errors_Is.f (e t : Er) : Option Bool := match e, t with
  | .glob h, .glob g => if gs_.contains h && gs_.contains g then some (Nat.beq h g) else none
  | _, _ => none
theorem cellAt {W w : World} {H : Hp} {b off : Nat} {c : Array Value} {T : TypeId} {fr : Nat × Nat} {v : Value} (ow : Own W w H) (hm : (b, Obj.cells c T fr) ∈ H) (hv : c[off]? = some v) : w.cell? ⟨b, off, none⟩ = some v := ow.cell hm hv
theorem errors_Is.c {el : Nat → Addr} {v_e v_t : Value} (e t : Er) (r : Bool) (F : Hp) (H : errors_Is.f e t = some r) (hG : Glb 142 gs_ lits_ el F) (h1 : ErR 142 el e v_e F) (h2 : ErR 142 el t v_t F) :
    CallsL Tryd.prog 70 [v_e, v_t] [F] (fun _ : Unit => .bool r) (fun _ => [F]) := by
  intro W w ow
  have ow' : Own W w F := by simpa using ow
  unfold errors_Is.f at H
  split at H
  · rename_i h g
    obtain ⟨hc, H⟩ := chk_e H
    simp only [Bool.and_eq_true, List.contains_iff_mem] at hc
    obtain ⟨m1, m2⟩ := hc
    have h2 : v_t = .iface 142 (.pointer (some (el g))) := h2
    subst h2
    obtain ⟨c1, T1, q1⟩ := hG.2.1 h m1
    obtain ⟨c2, T2, q2⟩ := hG.2.1 g m2
    have h1 : v_e = .iface 142 (.pointer (some (el h))) := h1
    subst h1
    by_cases e : h = g
    · subst e
      have hr : r = true := by simpa using H.symm
      subst hr
      exact (is_same (el h) w).mono fun e w' ⟨he, hw⟩ => ⟨(), he, by subst hw; simpa using ow'⟩
    · have hr : r = false := by rw [← Option.some.inj H]; exact beq_ff e
      subst hr
      exact (is_other (el h) (el g) c1 c2 T1 T2 w (fun q => e (hG.2.2.1 h m1 g m2 (by simpa using q))) (ow'.lookup q1) (ow'.lookup q2)).mono fun e w' ⟨he, hw⟩ => ⟨(), he, by subst hw; simpa using ow'⟩
  · cases H
theorem own4 {W w : World} {H : Hp} {b T : Nat} {c : Array Value} {o1 o2 o3 o4 : Obj} {v : Value} (ow : Own W w ((b, .cells c T (0, 0)) :: H)) :
    Own W (((((w.alloc o1).alloc o2).alloc o3).alloc o4).setCell ⟨b, 0, none⟩ v) ((b, .cells (c.setIfInBounds 0 v) T (0, 0)) :: H) := by
  have h := (((ow.alloc o1).alloc o2).alloc o3).alloc o4
  have h2 : Own W ((((w.alloc o1).alloc o2).alloc o3).alloc o4) ((b, .cells c T (0, 0)) :: H) := h.sub (List.Sublist.cons _ (List.Sublist.cons _ (List.Sublist.cons _ (List.Sublist.cons _ (List.Sublist.refl _)))))
  exact h2.setCell
theorem errors_AsP103.n {el : Nat → Addr} {b : Nat} {x : Value} (F : Hp) (hG : Glb 142 gs_ lits_ el F) :
    CallsL Tryd.prog 33 [.nilIface, .iface 104 (.pointer (some ⟨b, 0, none⟩))] [[(b, Obj.cells #[x] 103 (0, 0))], F] (fun _ : Unit => .bool false) (fun _ => [[(b, Obj.cells #[x] 103 (0, 0))], F]) := by
  intro W w ow
  exact (as_nil _ w).mono fun e w' ⟨he, hw⟩ => ⟨(), he, by subst hw; exact ow⟩
theorem errors_AsP103.s {el : Nat → Addr} {b : Nat} (q : Nat) (F : Hp) (hG : Glb 142 gs_ lits_ el F) :
    CallsL Tryd.prog 33 [.iface 103 (.pointer (some ⟨q, 0, none⟩)), .iface 104 (.pointer (some ⟨b, 0, none⟩))] [[(b, Obj.cells #[.pointer none] 103 (0, 0))], F] (fun _ : Unit => .bool true) (fun _ => [[(b, Obj.cells #[.pointer (some ⟨q, 0, none⟩)] 103 (0, 0))], F]) := by
  intro W w ow
  have ow' : Own W w ((b, Obj.cells #[.pointer none] 103 (0, 0)) :: F) := by simpa using ow
  obtain ⟨TG, frG, hmG⟩ := hG.2.2.2 _ (List.mem_singleton.2 rfl)
  have hg := ow'.cell (off := 0) (List.mem_cons_of_mem _ hmG) rfl
  have ht0 := ow'.cell (off := 0) (List.mem_cons_self ..) rfl
  have hf0 := ow'.unfrozen (off := 0) (List.mem_cons_self ..)
  exact (as_hit103 ⟨q, 0, none⟩ ⟨b, 0, none⟩ (.pointer none) w hg ht0 hf0).mono fun e w' ⟨he, hw⟩ => ⟨(), he, by subst hw; simpa using own4 ow'⟩
/-- the shapes that are asked for a number of that type -/
def asOk62 : Er → Bool
  | .nil => true
  | .num _ _ => true
  | .wrap 79 [_] (.num 62 _) => true
  | _ => false
def errors_AsN62.f (e : Er) : Option (Option Int) := if asOk62 e then Er.asN 62 e else none
theorem errors_AsN62.c {el : Nat → Addr} {v_e : Value} {b : Nat} {old : Int} (e : Er) (r : Option Int) (F : Hp) (H : errors_AsN62.f e = some r) (hG : Glb 142 gs_ lits_ el F) (h1 : ErR 142 el e v_e F) :
    CallsL Tryd.prog 33 [v_e, .iface 64 (.pointer (some ⟨b, 0, none⟩))] [[(b, Obj.cells #[.int .i64 old] 62 (0, 0))], F] (fun _ : Unit => .bool r.isSome) (fun _ => [[(b, Obj.cells #[.int .i64 (r.getD old)] 62 (0, 0))], F]) := by
  intro W w ow
  have ow' : Own W w ((b, Obj.cells #[.int .i64 old] 62 (0, 0)) :: F) := by simpa using ow
  obtain ⟨TG, frG, hmG⟩ := hG.2.2.2 _ (List.mem_singleton.2 rfl)
  have hg := ow'.cell (off := 0) (List.mem_cons_of_mem _ hmG) rfl
  have ht0 := ow'.cell (off := 0) (List.mem_cons_self ..) rfl
  have hf0 := ow'.unfrozen (off := 0) (List.mem_cons_self ..)
  unfold errors_AsN62.f at H
  obtain ⟨hok, H⟩ := chk_e H
  unfold asOk62 at hok
  split at hok
  · have h1 : v_e = .nilIface := h1
    subst h1
    have hr : r = none := (Option.some.inj H).symm
    subst hr
    exact (as_nil _ w).mono fun e w' ⟨he, hw⟩ => ⟨(), he, by subst hw; exact ow⟩
  · rename_i u m _
    unfold Er.asN at H
    obtain ⟨hu, H⟩ := chk_e H
    subst hu
    have h1 : v_e = .iface 62 (.int .i64 m) := h1
    subst h1
    have hr : r = some m := (Option.some.inj H).symm
    subst hr
    exact (as_hit62 m ⟨b, 0, none⟩ (.int .i64 old) w hg ht0 hf0).mono fun e w' ⟨he, hw⟩ => ⟨(), he, by subst hw; simpa using own4 ow'⟩
  · rename_i x0 m _
    unfold Er.asN at H
    obtain ⟨hu, H⟩ := chk_e H
    obtain ⟨q, vo, T, hv, hm, ho⟩ := h1
    subst hv
    have ho : vo = .iface 62 (.int .i64 m) := ho
    subst ho
    have hr : r = some m := (Option.some.inj H).symm
    subst hr
    have hcell := ow'.cell (off := 1) (v := .iface 62 (.int .i64 m)) (List.mem_cons_of_mem _ hm) rfl
    exact (as_whit79_62 m ⟨b, 0, none⟩ (.int .i64 old) w q hg ht0 hf0 hcell).mono fun e w' ⟨he, hw⟩ => ⟨(), he, by subst hw; simpa using own4 ow'⟩
  · cases hok
end
end Go.Proofs.YtnkdnecilkafhaaDoor
