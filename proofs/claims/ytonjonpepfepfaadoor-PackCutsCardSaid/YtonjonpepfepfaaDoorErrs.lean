import Derived.Test.YtonjonpepfepfaaDoorHy
import Derived.Test.YtonjonpepfepfaaDoorProg
import Derived.WalkKit
import Derived.LaidEql
import Derived.Stop.Asserts
import Derived.RowKitTokens
import Derived.KernelRfl
namespace Go.Proofs.YtonjonpepfepfaaDoor
set_option maxRecDepth 100000
set_option linter.unusedVariables false
set_option linter.unusedSimpArgs false
/-- the variables that hold errors -/
abbrev gs_ : List Nat := [0, 1]
abbrev lits_ : List (Nat × Value) := [(2, .iface 81 (.agg #[.pointer (some ⟨4, 42, none⟩)]))]
theorem isNZ : Go.Hx.IsNZ Tryd.prog 49 22 := ⟨⟨#[3], fun args w => run_callFunc_extern (e := Extern.BytealgMakeNoZero.makeNoZero #[3] #[22]) Tryd.func49 (by kernel_rfl) (by kernel_rfl) (by kernel_rfl) (by kernel_rfl) args w⟩⟩
section
open Go.RowKit Go.Extern.Stop Go.Stop Go.Extern
theorem isTypeOf (v : Value) (w : World) : (Extern.ReflectliteType.typeOf #[.iface 110 v]).run Tryd.prog w = .ok (.iface 81 (.agg #[.pointer (some ⟨4, 110, none⟩)])) w := by kernel_rfl
theorem isCallComp (w : World) : (callFunc 77 #[.agg #[.pointer (some ⟨4, 110, none⟩)]]).run Tryd.prog w = .ok (.value (.bool true)) w := by kernel_rfl
theorem isMethodComparable (v : Value) (w : World) : (Go.method 243 81 v "Comparable").run Tryd.prog w = .ok (77, v) w := by kernel_rfl
theorem isComp : (Tryd.prog.info? 110).map (·.comparable) = some true := by kernel_rfl
theorem isSize : (Tryd.prog.info? 131).map (·.size) = some 1 := by kernel_rfl
theorem noIsE (v : Value) (xT : TypeId) (w : World) : (Instr.typeAssert (.iface 110 v) xT 100 true).run Tryd.prog w = .ok (.tuple #[.nilIface, .bool false]) w := run_typeAssert_lacksB Tryd.underlying100 (by kernel_rfl) (by kernel_rfl) v xT w
theorem noUnwrapE (v : Value) (xT : TypeId) (w : World) : (Instr.typeAssert (.iface 110 v) xT 88 true).run Tryd.prog w = .ok (.tuple #[.nilIface, .bool false]) w := run_typeAssert_lacksB Tryd.underlying88 (by kernel_rfl) (by kernel_rfl) v xT w
theorem noUnwrapsE (v : Value) (xT : TypeId) (w : World) : (Instr.typeAssert (.iface 110 v) xT 90 true).run Tryd.prog w = .ok (.tuple #[.nilIface, .bool false]) w := run_typeAssert_lacksB Tryd.underlying90 (by kernel_rfl) (by kernel_rfl) v xT w
theorem noIs45 (v : Value) (xT : TypeId) (w : World) : (Instr.typeAssert (.iface 45 v) xT 100 true).run Tryd.prog w = .ok (.tuple #[.nilIface, .bool false]) w := run_typeAssert_lacksB Tryd.underlying100 (by kernel_rfl) (by kernel_rfl) v xT w
theorem hasUn45 (v : Value) (xT : TypeId) (w : World) : (Instr.typeAssert (.iface 45 v) xT 88 true).run Tryd.prog w = .ok (.tuple #[.iface 45 v, .bool true]) w := run_typeAssert_hasB Tryd.underlying88 (by kernel_rfl) v xT w
theorem meUn45 (v : Value) (w : World) : (Go.method 243 45 v "Unwrap").run Tryd.prog w = .ok (71, v) w := by kernel_rfl
set_option maxHeartbeats 4000000 in
theorem is_same (b : Addr) (w : World) : Calls Tryd.prog 27 #[.iface 110 (.pointer (some b)), .iface 110 (.pointer (some b))] w fun e w' => e = .returned (.bool true) ∧ w' = w := by
  obtain ⟨i, hi, hcmp⟩ := Option.map_eq_some_iff.1 isComp
  obtain ⟨j, hj, hjs⟩ := Option.map_eq_some_iff.1 isSize
  have h8 := @run_callFunc_extern Tryd.prog 41 _ (Extern.ReflectliteType.typeOf) Tryd.func41 (by kernel_rfl) (by kernel_rfl) (by kernel_rfl) (by kernel_rfl)
  have h32 := isCallComp
  have tT := isTypeOf
  have mR := isMethodComparable
  have nE := noIsE
  have uE := noUnwrapE
  have vE := noUnwrapsE
  have heq := run_eql_iface_ptr_same (P := Tryd.prog) w b Tryd.underlying42 Tryd.underlying110 hi hcmp hj
  go_enter Tryd.func27, Tryd.ntmps27
  go_wp2
  refine wp_loop_rounds 1 ?_
  rw [rounds_succ]
  go_wp2
  go_ret
  exact ⟨rfl, rfl⟩
set_option maxHeartbeats 4000000 in
theorem is_other (a b : Addr) (ca cb : Array Value) (ta tb : TypeId) (w : World) (hne : a ≠ b) (ha : w.heap[a.block]? = some (.cells ca ta (0, 0))) (hb : w.heap[b.block]? = some (.cells cb tb (0, 0))) : Calls Tryd.prog 27 #[.iface 110 (.pointer (some a)), .iface 110 (.pointer (some b))] w fun e w' => e = .returned (.bool false) ∧ w' = w := by
  obtain ⟨i, hi, hcmp⟩ := Option.map_eq_some_iff.1 isComp
  obtain ⟨j, hj, hjs⟩ := Option.map_eq_some_iff.1 isSize
  have h8 := @run_callFunc_extern Tryd.prog 41 _ (Extern.ReflectliteType.typeOf) Tryd.func41 (by kernel_rfl) (by kernel_rfl) (by kernel_rfl) (by kernel_rfl)
  have h32 := isCallComp
  have tT := isTypeOf
  have mR := isMethodComparable
  have nE := noIsE
  have uE := noUnwrapE
  have vE := noUnwrapsE
  have heq := run_eql_iface_ptr_other (P := Tryd.prog) w Tryd.underlying42 Tryd.underlying110 hi hcmp hj (by rw [hjs]; decide) hne ha hb
  go_enter Tryd.func27, Tryd.ntmps27
  go_wp2
  refine wp_loop_rounds 1 ?_
  rw [rounds_succ]
  go_wp2
  go_ret
  exact ⟨rfl, rfl⟩
theorem as_nil (t : Value) (w : World) : Calls Tryd.prog 16 #[.nilIface, t] w fun e w' => e = .returned (.bool false) ∧ w' = w := by
  go_enter Tryd.func16, Tryd.ntmps16
  go_wp2
  go_ret
  exact ⟨rfl, rfl⟩
theorem rlm (z : Sem Value) (f : TypeId → Addr → Nat → Nat → Sem Value) (v : Value) :
    ReflectliteValue.method z f #[v] = (do match ← ReflectliteValue.parts v with | none => z | some (t, a, fl) => f t a fl (fl % 32)) := rfl
theorem rls (v x : Value) : ReflectliteValue.set #[v, x] = (do
    let (some (dst, a, fl), some (src, b, _)) := (← ReflectliteValue.parts v, ← ReflectliteValue.parts x)
      | unsupported (.noEntry "extern/(internal/reflectlite.Value).Set.zeroValue")
    if fl / ReflectliteValue.flagAddr % 2 == 0 then unsupported (.noEntry "extern/(internal/reflectlite.Value).Set.unaddressable")
    let val ← loadVar src b
    if ← Rtype.directlyAssignable dst src then storeVar dst a val
    else if ← Rtype.implements dst src then
      if (← Rtype.kind src) == 20 then
        match val with
        | .nilIface => unsupported (.noEntry "extern/reflectlite: a nil value of one interface type handed on as a value of another")
        | _ => storeVar dst a val
      else storeVar dst a (.iface src val)
    else panicString ("reflectlite.Set: value of type " ++ (← Rtype.spelt src) ++ " is not assignable to type " ++ (← Rtype.spelt dst))
    pure (.tuple #[])) := rfl
theorem mKind (h : Value) (w : World) : (Go.method 243 81 (.agg #[h]) "Kind").run Tryd.prog w = .ok (67, h) w := by kernel_rfl
theorem mElem (h : Value) (w : World) : (Go.method 243 81 (.agg #[h]) "Elem").run Tryd.prog w = .ok (78, .agg #[h]) w := by kernel_rfl
theorem mImplements (h : Value) (w : World) : (Go.method 243 81 (.agg #[h]) "Implements").run Tryd.prog w = .ok (79, .agg #[h]) w := by kernel_rfl
theorem mAssignableTo (h : Value) (w : World) : (Go.method 243 81 (.agg #[h]) "AssignableTo").run Tryd.prog w = .ok (76, .agg #[h]) w := by kernel_rfl
theorem q45val (t : Addr) (w : World) : (ReflectliteValue.unpack (.iface 47 (.pointer (some t)))).run Tryd.prog w
    = .ok (.agg #[.pointer (some ⟨4, 47, none⟩), .pointer (some ⟨w.heap.size, 0, none⟩), .int .u64 150]) (w.alloc (.cells #[.pointer (some t)] 47)) := by kernel_rfl
theorem q45type (a : Addr) (w : World) : (ReflectliteValue.methodAny (ReflectliteValue.valueError "reflectlite.Value.Type" 0) (fun t _ _ _ => ReflectliteType.toType t) #[.agg #[.pointer (some ⟨4, 47, none⟩), .pointer (some a), .int .u64 150]]).run Tryd.prog w
    = .ok (.iface 81 (.agg #[.pointer (some ⟨4, 47, none⟩)])) w := by kernel_rfl
theorem q45kindp (w : World) : ((ReflectliteType.abiMethod fun t => (fun a : Nat => Value.int IntKind.u8 (a : Int)) <$> Rtype.kind t) #[.pointer (some ⟨4, 47, none⟩)]).run Tryd.prog w = .ok (.int .u8 22) w := by kernel_rfl
theorem q45kinde (w : World) : ((ReflectliteType.abiMethod fun t => (fun a : Nat => Value.int IntKind.u8 (a : Int)) <$> Rtype.kind t) #[.pointer (some ⟨4, 45, none⟩)]).run Tryd.prog w = .ok (.int .u8 22) w := by kernel_rfl
theorem q45parts (a : Addr) (w : World) : (ReflectliteValue.parts (.agg #[.pointer (some ⟨4, 47, none⟩), .pointer (some a), .int .u64 150])).run Tryd.prog w = .ok (some (47, a, 150)) w := by kernel_rfl
theorem q45isNil (a p : Addr) (W : World) (ha : W.cell? a = some (.pointer (some p))) :
    (ReflectliteValue.method (ReflectliteValue.valueError "reflectlite.Value.IsNil" 0) ReflectliteValue.isNil #[.agg #[.pointer (some ⟨4, 47, none⟩), .pointer (some a), .int .u64 150]]).run Tryd.prog W = .ok (.bool false) W := by
  rw [rlm]
  simp only [Sem.run_bind, q45parts, Result.andThen]
  simp [ReflectliteValue.isNil, loadVar, isAgg, underlying, Tryd.underlying47, ha, Result.andThen]
theorem q45elem (w : World) : (ReflectliteType.method ReflectliteType.elem #[.agg #[.pointer (some ⟨4, 47, none⟩)]]).run Tryd.prog w = .ok (.iface 81 (.agg #[.pointer (some ⟨4, 45, none⟩)])) w := by kernel_rfl
theorem q45impl (w : World) : (ReflectliteType.relation "Implements" ReflectliteType.implements_ #[.agg #[.pointer (some ⟨4, 45, none⟩)], .iface 81 (.agg #[.pointer (some ⟨4, 42, none⟩)])]).run Tryd.prog w = .ok (.bool true) w := by kernel_rfl
theorem q45typeOf (v : Value) (w : World) : (ReflectliteType.typeOf #[.iface 45 v]).run Tryd.prog w = .ok (.iface 81 (.agg #[.pointer (some ⟨4, 45, none⟩)])) w := by kernel_rfl
theorem q45assign (w : World) : (ReflectliteType.relation "AssignableTo" ReflectliteType.assignableTo #[.agg #[.pointer (some ⟨4, 45, none⟩)], .iface 81 (.agg #[.pointer (some ⟨4, 45, none⟩)])]).run Tryd.prog w = .ok (.bool true) w := by kernel_rfl
theorem q45valE (e : Addr) (w : World) : (ReflectliteValue.unpack (.iface 45 (.pointer (some e)))).run Tryd.prog w
    = .ok (.agg #[.pointer (some ⟨4, 45, none⟩), .pointer (some ⟨w.heap.size, 0, none⟩), .int .u64 150]) (w.alloc (.cells #[.pointer (some e)] 45)) := by kernel_rfl
theorem q45elemOf (w : World) : (Rtype.elem? 47).run Tryd.prog w = .ok (some 45) w := by kernel_rfl
theorem q45mk (p : Addr) (w : World) : (ReflectliteValue.mk 45 p ReflectliteValue.flagAddr).run Tryd.prog w = .ok (.agg #[.pointer (some ⟨4, 45, none⟩), .pointer (some p), .int .u64 406]) w := by kernel_rfl
theorem q45elemV (a p : Addr) (W : World) (ha : W.cell? a = some (.pointer (some p))) :
    (ReflectliteValue.method (ReflectliteValue.valueError "reflectlite.Value.Elem" 0) ReflectliteValue.elem #[.agg #[.pointer (some ⟨4, 47, none⟩), .pointer (some a), .int .u64 150]]).run Tryd.prog W
      = .ok (.agg #[.pointer (some ⟨4, 45, none⟩), .pointer (some p), .int .u64 406]) W := by
  rw [rlm]
  simp only [Sem.run_bind, q45parts, Result.andThen]
  simp [ReflectliteValue.elem, loadVar, isAgg, underlying, Tryd.underlying47, ha, Result.andThen, q45elemOf, q45mk]
theorem q45partsA (a : Addr) (w : World) : (ReflectliteValue.parts (.agg #[.pointer (some ⟨4, 45, none⟩), .pointer (some a), .int .u64 406])).run Tryd.prog w = .ok (some (45, a, 406)) w := by kernel_rfl
theorem q45partsE (a : Addr) (w : World) : (ReflectliteValue.parts (.agg #[.pointer (some ⟨4, 45, none⟩), .pointer (some a), .int .u64 150])).run Tryd.prog w = .ok (some (45, a, 150)) w := by kernel_rfl
theorem q45direct (w : World) : (Rtype.directlyAssignable 45 45).run Tryd.prog w = .ok true w := by kernel_rfl
theorem q45size (w : World) : (sizeOf 45).run Tryd.prog w = .ok 1 w := by kernel_rfl
theorem q45set (ta b : Addr) (e : Addr) (old : Value) (W : World) (hb : W.cell? b = some (.pointer (some e))) (ht : W.cell? ta = some old) (hf : W.frozen? ta = false) :
    (ReflectliteValue.set #[.agg #[.pointer (some ⟨4, 45, none⟩), .pointer (some ta), .int .u64 406], .agg #[.pointer (some ⟨4, 45, none⟩), .pointer (some b), .int .u64 150]]).run Tryd.prog W
      = .ok (.tuple #[]) (W.setCell ta (.pointer (some e))) := by
  rw [rls]
  simp only [Sem.run_bind, q45partsA, q45partsE, Result.andThen]
  simp [ReflectliteValue.flagAddr, loadVar, isAgg, underlying, Tryd.underlying45, hb, Result.andThen, q45direct, storeVar, Value.cells, storeCells, Addr.add, q45size]
  rw [run_store Tryd.prog W ta _ _ (by rfl)]
  simp [ht, hf]
set_option maxHeartbeats 16000000 in
theorem as_hit45 (e : Addr) (t : Addr) (old : Value) (w : World) (hg : w.cell? ⟨2, 0, none⟩ = some (.iface 81 (.agg #[.pointer (some ⟨4, 42, none⟩)]))) (ht0 : w.cell? t = some old) (hf0 : w.frozen? t = false) :
    Calls Tryd.prog 16 #[.iface 45 (.pointer (some e)), .iface 47 (.pointer (some t))] w fun ev w' => ev = .returned (.bool true) ∧ w' = ((((w.alloc (.cells #[.pointer (some t)] 47)).alloc (.cells #[.pointer (some ⟨4, 47, none⟩), .pointer (some ⟨w.heap.size, 0, none⟩), .int .u64 150] 64)).alloc (.cells #[.pointer (some ⟨4, 47, none⟩), .pointer (some ⟨w.heap.size, 0, none⟩), .int .u64 150] 64)).alloc (.cells #[.pointer (some e)] 45)).setCell t (.pointer (some e)) := by
  have h6 := @run_callFunc_extern Tryd.prog 28 _ (fun args => ReflectliteValue.unpack (args.getD 0 (.tuple #[]))) Tryd.func28 (by kernel_rfl) (by kernel_rfl) (by kernel_rfl) (by kernel_rfl)
  have h7 := @run_callFunc_extern Tryd.prog 29 _ (ReflectliteValue.methodAny (ReflectliteValue.valueError "reflectlite.Value.Type" 0) (fun t _ _ _ => ReflectliteType.toType t)) Tryd.func29 (by kernel_rfl) (by kernel_rfl) (by kernel_rfl) (by kernel_rfl)
  have h8 := @run_callFunc_extern Tryd.prog 30 _ (ReflectliteValue.method (ReflectliteValue.valueError "reflectlite.Value.IsNil" 0) ReflectliteValue.isNil) Tryd.func30 (by kernel_rfl) (by kernel_rfl) (by kernel_rfl) (by kernel_rfl)
  have h27 := @run_callFunc_extern Tryd.prog 67 _ (ReflectliteType.abiMethod fun t => do pure (.int .u8 (← Rtype.kind t))) Tryd.func67 (by kernel_rfl) (by kernel_rfl) (by kernel_rfl) (by kernel_rfl)
  have h37 := @run_callFunc_extern Tryd.prog 78 _ (ReflectliteType.method ReflectliteType.elem) Tryd.func78 (by kernel_rfl) (by kernel_rfl) (by kernel_rfl) (by kernel_rfl)
  have h38 := @run_callFunc_extern Tryd.prog 79 _ (ReflectliteType.relation "Implements" ReflectliteType.implements_) Tryd.func79 (by kernel_rfl) (by kernel_rfl) (by kernel_rfl) (by kernel_rfl)
  have h10 := @run_callFunc_extern Tryd.prog 41 _ (ReflectliteType.typeOf) Tryd.func41 (by kernel_rfl) (by kernel_rfl) (by kernel_rfl) (by kernel_rfl)
  have h35 := @run_callFunc_extern Tryd.prog 76 _ (ReflectliteType.relation "AssignableTo" ReflectliteType.assignableTo) Tryd.func76 (by kernel_rfl) (by kernel_rfl) (by kernel_rfl) (by kernel_rfl)
  have h11 := @run_callFunc_extern Tryd.prog 43 _ (ReflectliteValue.method (ReflectliteValue.valueError "reflectlite.Value.Elem" 0) ReflectliteValue.elem) Tryd.func43 (by kernel_rfl) (by kernel_rfl) (by kernel_rfl) (by kernel_rfl)
  have h12 := @run_callFunc_extern Tryd.prog 44 _ (ReflectliteValue.set) Tryd.func44 (by kernel_rfl) (by kernel_rfl) (by kernel_rfl) (by kernel_rfl)
  have tO := q45typeOf
  have mA := mAssignableTo
  have a25 := q45assign
  have v25 := q45valE
  have f6 := q45val
  have f7 := q45type
  have mK := mKind
  have mE := mElem
  have mI := mImplements
  have k27 := q45kindp
  have k25 := q45kinde
  have e27 := q45elem
  have i25 := q45impl
  have n8 := q45isNil ⟨w.heap.size, 0, none⟩ t ((w.alloc (.cells #[.pointer (some t)] 47)).alloc (.cells #[.pointer (some ⟨4, 47, none⟩), .pointer (some ⟨w.heap.size, 0, none⟩), .int .u64 150] 64)) (by simp)
  have hlt : 2 < w.heap.size := by
    rcases Nat.lt_or_ge 2 w.heap.size with h | h
    · exact h
    · simp [World.cell?, Array.getElem?_eq_none h] at hg
  have hg2 : ((w.alloc (.cells #[.pointer (some t)] 47)).alloc (.cells #[.pointer (some ⟨4, 47, none⟩), .pointer (some ⟨w.heap.size, 0, none⟩), .int .u64 150] 64)).cell? ⟨2, 0, none⟩ = some (.iface 81 (.agg #[.pointer (some ⟨4, 42, none⟩)])) := by
    rw [World.cell?_alloc_lt _ _ ⟨2, 0, none⟩ (by simp; omega), World.cell?_alloc_lt _ _ ⟨2, 0, none⟩ hlt]; exact hg
  have htl : t.block < w.heap.size := by
    rcases Nat.lt_or_ge t.block w.heap.size with h | h
    · exact h
    · simp [World.cell?, Array.getElem?_eq_none h] at ht0
  have el := q45elemV ⟨w.heap.size, 0, none⟩ t (((w.alloc (.cells #[.pointer (some t)] 47)).alloc (.cells #[.pointer (some ⟨4, 47, none⟩), .pointer (some ⟨w.heap.size, 0, none⟩), .int .u64 150] 64)).alloc (.cells #[.pointer (some ⟨4, 47, none⟩), .pointer (some ⟨w.heap.size, 0, none⟩), .int .u64 150] 64)) (by rw [World.cell?_alloc_lt _ _ ⟨w.heap.size, 0, none⟩ (by simp; omega)]; simp)
  have st := q45set t ⟨w.heap.size + 1 + 1 + 1, 0, none⟩ e old ((((w.alloc (.cells #[.pointer (some t)] 47)).alloc (.cells #[.pointer (some ⟨4, 47, none⟩), .pointer (some ⟨w.heap.size, 0, none⟩), .int .u64 150] 64)).alloc (.cells #[.pointer (some ⟨4, 47, none⟩), .pointer (some ⟨w.heap.size, 0, none⟩), .int .u64 150] 64)).alloc (.cells #[.pointer (some e)] 45))
    (by rw [World.cell?_alloc_at _ _ _ _ (by simp)]; rfl)
    (by rw [World.cell?_alloc_lt _ _ t (by simp; omega), World.cell?_alloc_lt _ _ t (by simp; omega), World.cell?_alloc_lt _ _ t (by simp; omega), World.cell?_alloc_lt _ _ t htl]; exact ht0)
    (by rw [World.frozen?_alloc_old _ _ t (by simp; omega), World.frozen?_alloc_old _ _ t (by simp; omega), World.frozen?_alloc_old _ _ t (by simp; omega), World.frozen?_alloc_old _ _ t (Nat.ne_of_lt htl)]; exact hf0)
  go_enter Tryd.func16, Tryd.ntmps16
  go_wp2
  refine wp_loop_rounds 1 ?_
  rw [rounds_succ]
  go_wp2
  go_ret
  exact ⟨rfl, rfl⟩
end
section
open Go.Hx
def errors_Is.f (e t : Er) : Option Bool := match e, t with
  | .glob h, .glob g => if gs_.contains h && gs_.contains g then some (Nat.beq h g) else none
  | _, _ => none
theorem cellAt {W w : World} {H : Hp} {b off : Nat} {c : Array Value} {T : TypeId} {fr : Nat × Nat} {v : Value} (ow : Own W w H) (hm : (b, Obj.cells c T fr) ∈ H) (hv : c[off]? = some v) : w.cell? ⟨b, off, none⟩ = some v := ow.cell hm hv
theorem errors_Is.c {el : Nat → Addr} {v_e v_t : Value} (e t : Er) (r : Bool) (F : Hp) (H : errors_Is.f e t = some r) (hG : Glb 110 gs_ lits_ el F) (h1 : ErR 110 el e v_e F) (h2 : ErR 110 el t v_t F) :
    CallsL Tryd.prog 27 [v_e, v_t] [F] (fun _ : Unit => .bool r) (fun _ => [F]) := by
  intro W w ow
  have ow' : Own W w F := by simpa using ow
  unfold errors_Is.f at H
  split at H
  · rename_i h g
    obtain ⟨hc, H⟩ := chk_e H
    simp only [Bool.and_eq_true, List.contains_iff_mem] at hc
    obtain ⟨m1, m2⟩ := hc
    have h2 : v_t = .iface 110 (.pointer (some (el g))) := h2
    subst h2
    obtain ⟨c1, T1, q1⟩ := hG.2.1 h m1
    obtain ⟨c2, T2, q2⟩ := hG.2.1 g m2
    have h1 : v_e = .iface 110 (.pointer (some (el h))) := h1
    subst h1
    by_cases e : h = g
    · subst e
      have hr : r = true := by simpa using H.symm
      subst hr
      exact (is_same (el h) w).mono fun e w' ⟨he, hw⟩ => ⟨(), he, by subst hw; simpa using ow'⟩
    · have hr : r = false := by rw [← Option.some.inj H]; exact beq_ff e
      subst hr
      exact (is_other (el h) (el g) c1 c2 T1 T2 w (fun q => e (hG.2.2.1 h m1 g m2 (by simpa using q))) (ow'.lookup q1) (ow'.lookup q2)).mono fun e w' ⟨he, hw⟩ => ⟨(), he, by subst hw; simpa using ow'⟩
  · cases H
theorem own4 {W w : World} {H : Hp} {b T : Nat} {c : Array Value} {o1 o2 o3 o4 : Obj} {v : Value} (ow : Own W w ((b, .cells c T (0, 0)) :: H)) :
    Own W (((((w.alloc o1).alloc o2).alloc o3).alloc o4).setCell ⟨b, 0, none⟩ v) ((b, .cells (c.setIfInBounds 0 v) T (0, 0)) :: H) := by
  have h := (((ow.alloc o1).alloc o2).alloc o3).alloc o4
  have h2 : Own W ((((w.alloc o1).alloc o2).alloc o3).alloc o4) ((b, .cells c T (0, 0)) :: H) := h.sub (List.Sublist.cons _ (List.Sublist.cons _ (List.Sublist.cons _ (List.Sublist.cons _ (List.Sublist.refl _)))))
  exact h2.setCell
theorem errors_AsP45.n {el : Nat → Addr} {b : Nat} {x : Value} (F : Hp) (hG : Glb 110 gs_ lits_ el F) :
    CallsL Tryd.prog 16 [.nilIface, .iface 47 (.pointer (some ⟨b, 0, none⟩))] [[(b, Obj.cells #[x] 45 (0, 0))], F] (fun _ : Unit => .bool false) (fun _ => [[(b, Obj.cells #[x] 45 (0, 0))], F]) := by
  intro W w ow
  exact (as_nil _ w).mono fun e w' ⟨he, hw⟩ => ⟨(), he, by subst hw; exact ow⟩
theorem errors_AsP45.s {el : Nat → Addr} {b : Nat} (q : Nat) (F : Hp) (hG : Glb 110 gs_ lits_ el F) :
    CallsL Tryd.prog 16 [.iface 45 (.pointer (some ⟨q, 0, none⟩)), .iface 47 (.pointer (some ⟨b, 0, none⟩))] [[(b, Obj.cells #[.pointer none] 45 (0, 0))], F] (fun _ : Unit => .bool true) (fun _ => [[(b, Obj.cells #[.pointer (some ⟨q, 0, none⟩)] 45 (0, 0))], F]) := by
  intro W w ow
  have ow' : Own W w ((b, Obj.cells #[.pointer none] 45 (0, 0)) :: F) := by simpa using ow
  obtain ⟨TG, frG, hmG⟩ := hG.2.2.2 _ (List.mem_singleton.2 rfl)
  have hg := ow'.cell (off := 0) (List.mem_cons_of_mem _ hmG) rfl
  have ht0 := ow'.cell (off := 0) (List.mem_cons_self ..) rfl
  have hf0 := ow'.unfrozen (off := 0) (List.mem_cons_self ..)
  exact (as_hit45 ⟨q, 0, none⟩ ⟨b, 0, none⟩ (.pointer none) w hg ht0 hf0).mono fun e w' ⟨he, hw⟩ => ⟨(), he, by subst hw; simpa using own4 ow'⟩
end
end Go.Proofs.YtonjonpepfepfaaDoor
