/- Part of the proof. No condition. -/
import Derived.Test.YthodkonhneebbaaGreatDoorProg
import Derived.WalkKit
import Derived.LaidEql
import Derived.Stop.Asserts
import Derived.RowKitTokens
import Derived.KernelRfl
import Derived.Test.YthodkonhneebbaaGreatDoorKHy
namespace Go.Proofs.YthodkonhneebbaaGreatDoor
set_option maxRecDepth 100000
set_option linter.unusedVariables false
set_option linter.unusedSimpArgs false
abbrev eZ:List Nat:=[0,2,3,4,5,6]
abbrev hU:List (Nat×Value):=[(1,.iface 262 (.agg #[.pointer (some ⟨8,106,none⟩)]))]
theorem aeC:Go.Hx.PB Tryz.prog 296 22:=⟨⟨#[3],λargs w=>run_callFunc_extern (e:=Extern.BytealgMakeNoZero.makeNoZero #[3] #[22]) Tryz.func296 ay ay ay ay args w⟩⟩
section
open Go.RowKit Go.Extern.Stop Go.Stop Go.Extern
theorem Cb (v:Value) (w:World):(Extern.ReflectliteType.typeOf #[.iface 414 v]).run Tryz.prog w= .ok (.iface 262 (.agg #[.pointer (some ⟨8,414,none⟩)])) w:=ay
theorem B8 (w:World):(callFunc 335 #[.agg #[.pointer (some ⟨8,414,none⟩)]]).run Tryz.prog w= .ok (.value (.bool true)) w:=ay
theorem B_ (v : Value) (w : World) : (Go.method 546 262 v "Comparable").run Tryz.prog w = .ok (335, v) w := by kernel_rfl
theorem B9:(Tryz.prog.info? 414).map (·.comparable)=some true:=ay
theorem Ca:(Tryz.prog.info? 434).map (·.size)=some 1:=ay
theorem Co (v:Value) (xT:TypeId) (w:World):(Instr.typeAssert (.iface 414 v) xT 264 true).run Tryz.prog w= .ok (.tuple #[.nilIface,.bool false]) w:=run_typeAssert_lacksB Tryz.underlying264 ay ay v xT w
theorem Cp (v:Value) (xT:TypeId) (w:World):(Instr.typeAssert (.iface 414 v) xT 267 true).run Tryz.prog w= .ok (.tuple #[.nilIface,.bool false]) w:=run_typeAssert_lacksB Tryz.underlying267 ay ay v xT w
theorem Cq (v:Value) (xT:TypeId) (w:World):(Instr.typeAssert (.iface 414 v) xT 269 true).run Tryz.prog w= .ok (.tuple #[.nilIface,.bool false]) w:=run_typeAssert_lacksB Tryz.underlying269 ay ay v xT w
theorem Og (v:Value) (xT:TypeId) (w:World):(Instr.typeAssert (.iface 110 v) xT 264 true).run Tryz.prog w= .ok (.tuple #[.nilIface,.bool false]) w:=run_typeAssert_lacksB Tryz.underlying264 ay ay v xT w
theorem Nd (v:Value) (xT:TypeId) (w:World):(Instr.typeAssert (.iface 110 v) xT 267 true).run Tryz.prog w= .ok (.tuple #[.iface 110 v,.bool true]) w:=run_typeAssert_hasB Tryz.underlying267 ay v xT w
theorem N9 (v : Value) (w : World) : (Go.method 546 110 v "Unwrap").run Tryz.prog w = .ok (324, v) w := by kernel_rfl
theorem UP (v:Value) (xT:TypeId) (w:World):(Instr.typeAssert (.iface 222 v) xT 264 true).run Tryz.prog w= .ok (.tuple #[.nilIface,.bool false]) w:=run_typeAssert_lacksB Tryz.underlying264 ay ay v xT w
theorem S_ (v:Value) (xT:TypeId) (w:World):(Instr.typeAssert (.iface 222 v) xT 267 true).run Tryz.prog w= .ok (.tuple #[.iface 222 v,.bool true]) w:=run_typeAssert_hasB Tryz.underlying267 ay v xT w
theorem UE (v : Value) (w : World) : (Go.method 546 222 v "Unwrap").run Tryz.prog w = .ok (331, v) w := by kernel_rfl
theorem agb (v:Value) (xT:TypeId) (w:World):(Instr.typeAssert (.iface 148 v) xT 264 true).run Tryz.prog w= .ok (.tuple #[.nilIface,.bool false]) w:=run_typeAssert_lacksB Tryz.underlying264 ay ay v xT w
theorem agc (v:Value) (xT:TypeId) (w:World):(Instr.typeAssert (.iface 148 v) xT 267 true).run Tryz.prog w= .ok (.tuple #[.nilIface,.bool false]) w:=run_typeAssert_lacksB Tryz.underlying267 ay ay v xT w
theorem agd (v:Value) (xT:TypeId) (w:World):(Instr.typeAssert (.iface 148 v) xT 269 true).run Tryz.prog w= .ok (.tuple #[.nilIface,.bool false]) w:=run_typeAssert_lacksB Tryz.underlying269 ay ay v xT w
set_option maxHeartbeats 4000000 in
def C_:=PLift.up (@run_callFunc_extern Tryz.prog 130 _ (Extern.ReflectliteType.typeOf) Tryz.func130 ay ay ay ay)
def HU:=PLift.up (@run_callFunc_extern Tryz.prog 132 _ (λargs=>ReflectliteValue.unpack (args.getD 0 (.tuple #[]))) Tryz.func132 ay ay ay ay)
def HV := PLift.up (@run_callFunc_extern Tryz.prog 133 _ (ReflectliteValue.methodAny (ReflectliteValue.valueError "reflectlite.Value.Type" 0) (fun t _ _ _ => ReflectliteType.toType t)) Tryz.func133 ay ay ay ay)
def HW := PLift.up (@run_callFunc_extern Tryz.prog 134 _ (ReflectliteValue.method (ReflectliteValue.valueError "reflectlite.Value.IsNil" 0) ReflectliteValue.isNil) Tryz.func134 ay ay ay ay)
def HQ:=PLift.up (@run_callFunc_extern Tryz.prog 320 _ (ReflectliteType.abiMethod λt=>do pure (.int .u8 (<-Rtype.kind t))) Tryz.func320 ay ay ay ay)
def HS:=PLift.up (@run_callFunc_extern Tryz.prog 336 _ (ReflectliteType.method ReflectliteType.elem) Tryz.func336 ay ay ay ay)
def HT := PLift.up (@run_callFunc_extern Tryz.prog 337 _ (ReflectliteType.relation "Implements" ReflectliteType.implements_) Tryz.func337 ay ay ay ay)
def HN:=PLift.up (@run_callFunc_extern Tryz.prog 130 _ (ReflectliteType.typeOf) Tryz.func130 ay ay ay ay)
def HR := PLift.up (@run_callFunc_extern Tryz.prog 334 _ (ReflectliteType.relation "AssignableTo" ReflectliteType.assignableTo) Tryz.func334 ay ay ay ay)
def HO := PLift.up (@run_callFunc_extern Tryz.prog 169 _ (ReflectliteValue.method (ReflectliteValue.valueError "reflectlite.Value.Elem" 0) ReflectliteValue.elem) Tryz.func169 ay ay ay ay)
def HP:=PLift.up (@run_callFunc_extern Tryz.prog 170 _ (ReflectliteValue.set) Tryz.func170 ay ay ay ay)
theorem ud {w:World} {a:Addr} {v:Value} (h:w.cell? a=some v):a.block<w.heap.size:=by
 rcases Nat.lt_or_ge a.block w.heap.size with q |q
 ·exact q
 ·simp[World.cell?,Array.getElem?_eq_none q] at h
theorem aeE (b:Addr) (w:World):Calls Tryz.prog 93 #[.iface 414 (.pointer (some b)),.iface 414 (.pointer (some b))] w λe w'=>e= .returned (.bool true)/\w'=w:=by
 obtain⟨i,hi,tS⟩:=Option.map_eq_some_iff.1 B9;obtain⟨j,hj,yH⟩:=Option.map_eq_some_iff.1 Ca;have h8:=C_.down;have DD:=B8;have tT:=Cb;have mR:=B_;have nE:=Co;have uE:=Cp;have vE:=Cq;have heq:=run_eql_iface_ptr_same (P:=Tryz.prog) w b Tryz.underlying106 Tryz.underlying414 hi tS hj
 go_enter Tryz.func93,Tryz.ntmps93
 go_wp2
 refine wp_loop_rounds 1 ?_;rw[rounds_succ]
 go_wp2
 go_ret
 exact⟨J,J⟩
set_option maxHeartbeats 4000000 in
theorem aeD (a b:Addr) (ca cb:Array Value) (ta tb:TypeId) (w:World) (bH:a≠b) (ha:w.heap[a.block]? =some (.cells ca ta (0,0))) (hb:w.heap[b.block]? =some (.cells cb tb (0,0))):Calls Tryz.prog 93 #[.iface 414 (.pointer (some a)),.iface 414 (.pointer (some b))] w λe w'=>e= .returned (.bool false)/\w'=w:=by
 obtain⟨i,hi,tS⟩:=Option.map_eq_some_iff.1 B9;obtain⟨j,hj,yH⟩:=Option.map_eq_some_iff.1 Ca;have h8:=C_.down;have DD:=B8;have tT:=Cb;have mR:=B_;have nE:=Co;have uE:=Cp;have vE:=Cq;have heq:=run_eql_iface_ptr_other (P:=Tryz.prog) w Tryz.underlying106 Tryz.underlying414 hi tS hj (by rw[yH];decide) bH ha hb
 go_enter Tryz.func93,Tryz.ntmps93
 go_wp2
 refine wp_loop_rounds 1 ?_;rw[rounds_succ]
 go_wp2
 go_ret
 exact⟨J,J⟩
set_option maxHeartbeats 8000000 in
theorem aeI (pb:Nat) (b:Addr) (w:World) (h1:w.cell? ⟨pb,1,none⟩=some (.iface 414 (.pointer (some b)))):Calls Tryz.prog 93 #[.iface 110 (.pointer (some ⟨pb,0,none⟩)),.iface 414 (.pointer (some b))] w λe w'=>e= .returned (.bool true)/\w'=w:=by
 obtain⟨i,hi,tS⟩:=Option.map_eq_some_iff.1 B9;obtain⟨j,hj,yH⟩:=Option.map_eq_some_iff.1 Ca;have h8:=C_.down;have DD:=B8;have tT:=Cb;have mR:=B_;have nE:=Co;have uE:=Cp;have vE:=Cq;have nW:=Og;have uW:=Nd;have mU:=N9;have B3:=run_eql_iface_types (P:=Tryz.prog) 110 414 (.pointer (some ⟨pb,0,none⟩)) (.pointer (some b)) Tryz.underlying106 (by decide) w
 have heq:=run_eql_iface_ptr_same (P:=Tryz.prog) w b Tryz.underlying106 Tryz.underlying414 hi tS hj
 go_enter Tryz.func93,Tryz.ntmps93
 go_wp2
 refine wp_loop_rounds 2 ?_;rw[rounds_succ]
 go_wp2
 rw[rounds_succ]
 go_wp2
 go_ret
 exact⟨J,J⟩
set_option maxHeartbeats 8000000 in
theorem aeG (pb:Nat) (a b:Addr) (ca cb:Array Value) (ta tb:TypeId) (w:World) (h1:w.cell? ⟨pb,1,none⟩=some (.iface 414 (.pointer (some a)))) (bH:a≠b) (ha:w.heap[a.block]? =some (.cells ca ta (0,0))) (hb:w.heap[b.block]? =some (.cells cb tb (0,0))):Calls Tryz.prog 93 #[.iface 110 (.pointer (some ⟨pb,0,none⟩)),.iface 414 (.pointer (some b))] w λe w'=>e= .returned (.bool false)/\w'=w:=by
 obtain⟨i,hi,tS⟩:=Option.map_eq_some_iff.1 B9;obtain⟨j,hj,yH⟩:=Option.map_eq_some_iff.1 Ca;have h8:=C_.down;have DD:=B8;have tT:=Cb;have mR:=B_;have nE:=Co;have uE:=Cp;have vE:=Cq;have nW:=Og;have uW:=Nd;have mU:=N9;have B3:=run_eql_iface_types (P:=Tryz.prog) 110 414 (.pointer (some ⟨pb,0,none⟩)) (.pointer (some b)) Tryz.underlying106 (by decide) w
 have heq:=run_eql_iface_ptr_other (P:=Tryz.prog) w Tryz.underlying106 Tryz.underlying414 hi tS hj (by rw[yH];decide) bH ha hb
 go_enter Tryz.func93,Tryz.ntmps93
 go_wp2
 refine wp_loop_rounds 2 ?_;rw[rounds_succ]
 go_wp2
 rw[rounds_succ]
 go_wp2
 go_ret
 exact⟨J,J⟩
set_option maxHeartbeats 8000000 in
theorem aeF (pb:Nat) (m:Int) (b:Addr) (w:World) (h1:w.cell? ⟨pb,1,none⟩=some (.iface 148 (.int .i64 m))):Calls Tryz.prog 93 #[.iface 110 (.pointer (some ⟨pb,0,none⟩)),.iface 414 (.pointer (some b))] w λe w'=>e= .returned (.bool false)/\w'=w:=by
 obtain⟨i,hi,tS⟩:=Option.map_eq_some_iff.1 B9;obtain⟨j,hj,yH⟩:=Option.map_eq_some_iff.1 Ca;have h8:=C_.down;have DD:=B8;have tT:=Cb;have mR:=B_;have nE:=Co;have uE:=Cp;have vE:=Cq;have nW:=Og;have uW:=Nd;have mU:=N9;have B3:=run_eql_iface_types (P:=Tryz.prog) 110 414 (.pointer (some ⟨pb,0,none⟩)) (.pointer (some b)) Tryz.underlying106 (by decide) w
 have nN:=agb;have uN:=agc;have vN:=agd;have htn:=run_eql_iface_types (P:=Tryz.prog) 148 414 (.int .i64 m) (.pointer (some b)) Tryz.underlying106 (by decide) w
 go_enter Tryz.func93,Tryz.ntmps93
 go_wp2
 refine wp_loop_rounds 2 ?_;rw[rounds_succ]
 go_wp2
 rw[rounds_succ]
 go_wp2
 go_ret
 exact⟨J,J⟩
set_option maxHeartbeats 8000000 in
theorem aeJ (pb:Nat) (b:Addr) (w:World) (h1:w.cell? ⟨pb,1,none⟩=some (.iface 414 (.pointer (some b)))):Calls Tryz.prog 93 #[.iface 222 (.pointer (some ⟨pb,0,none⟩)),.iface 414 (.pointer (some b))] w λe w'=>e= .returned (.bool true)/\w'=w:=by
 obtain⟨i,hi,tS⟩:=Option.map_eq_some_iff.1 B9;obtain⟨j,hj,yH⟩:=Option.map_eq_some_iff.1 Ca;have h8:=C_.down;have DD:=B8;have tT:=Cb;have mR:=B_;have nE:=Co;have uE:=Cp;have vE:=Cq;have nW:=UP;have uW:=S_;have mU:=UE;have B3:=run_eql_iface_types (P:=Tryz.prog) 222 414 (.pointer (some ⟨pb,0,none⟩)) (.pointer (some b)) Tryz.underlying106 (by decide) w
 have heq:=run_eql_iface_ptr_same (P:=Tryz.prog) w b Tryz.underlying106 Tryz.underlying414 hi tS hj
 go_enter Tryz.func93,Tryz.ntmps93
 go_wp2
 refine wp_loop_rounds 2 ?_;rw[rounds_succ]
 go_wp2
 rw[rounds_succ]
 go_wp2
 go_ret
 exact⟨J,J⟩
set_option maxHeartbeats 8000000 in
theorem aeH (pb:Nat) (a b:Addr) (ca cb:Array Value) (ta tb:TypeId) (w:World) (h1:w.cell? ⟨pb,1,none⟩=some (.iface 414 (.pointer (some a)))) (bH:a≠b) (ha:w.heap[a.block]? =some (.cells ca ta (0,0))) (hb:w.heap[b.block]? =some (.cells cb tb (0,0))):Calls Tryz.prog 93 #[.iface 222 (.pointer (some ⟨pb,0,none⟩)),.iface 414 (.pointer (some b))] w λe w'=>e= .returned (.bool false)/\w'=w:=by
 obtain⟨i,hi,tS⟩:=Option.map_eq_some_iff.1 B9;obtain⟨j,hj,yH⟩:=Option.map_eq_some_iff.1 Ca;have h8:=C_.down;have DD:=B8;have tT:=Cb;have mR:=B_;have nE:=Co;have uE:=Cp;have vE:=Cq;have nW:=UP;have uW:=S_;have mU:=UE;have B3:=run_eql_iface_types (P:=Tryz.prog) 222 414 (.pointer (some ⟨pb,0,none⟩)) (.pointer (some b)) Tryz.underlying106 (by decide) w
 have heq:=run_eql_iface_ptr_other (P:=Tryz.prog) w Tryz.underlying106 Tryz.underlying414 hi tS hj (by rw[yH];decide) bH ha hb
 go_enter Tryz.func93,Tryz.ntmps93
 go_wp2
 refine wp_loop_rounds 2 ?_;rw[rounds_succ]
 go_wp2
 rw[rounds_succ]
 go_wp2
 go_ret
 exact⟨J,J⟩
theorem Lx (t:Value) (w:World):Calls Tryz.prog 94 #[.nilIface,t] w λe w'=>e= .returned (.bool false)/\w'=w:=by
 go_enter Tryz.func94,Tryz.ntmps94
 go_wp2
 go_ret
 exact⟨J,J⟩
theorem Ei (z:Sem Value) (f:TypeId->Addr->Nat->Nat->Sem Value) (v:Value):
 ReflectliteValue.method z f #[v]=(do match<-ReflectliteValue.parts v with |none=>z |some (t,a,fl)=>f t a fl (fl%32)):=rfl
theorem OI (v x:Value):ReflectliteValue.set #[v,x]=(do
 let(some (dst,a,fl),some (src,b,_)):=(<-ReflectliteValue.parts v,<-ReflectliteValue.parts x)
  | unsupported (.noEntry "extern/(internal/reflectlite.Value).Set.zeroValue")
 if fl / ReflectliteValue.flagAddr % 2 == 0 then unsupported (.noEntry "extern/(internal/reflectlite.Value).Set.unaddressable")
 let val<-loadVar src b
 if<-Rtype.directlyAssignable dst src then storeVar dst a val
 else if<-Rtype.implements dst src then
  if(<-Rtype.kind src)==20 then
   match val with
   | .nilIface => unsupported (.noEntry "extern/reflectlite: a nil value of one interface type handed on as a value of another")
   |_=>storeVar dst a val
  else storeVar dst a (.iface src val)
 else panicString ("reflectlite.Set: value of type " ++ (← Rtype.spelt src) ++ " is not assignable to type " ++ (← Rtype.spelt dst))
 pure (.tuple #[])):=rfl
theorem GC (h : Value) (w : World) : (Go.method 546 262 (.agg #[h]) "Kind").run Tryz.prog w = .ok (320, h) w := by kernel_rfl
theorem GA (h : Value) (w : World) : (Go.method 546 262 (.agg #[h]) "Elem").run Tryz.prog w = .ok (336, .agg #[h]) w := by kernel_rfl
theorem GB (h : Value) (w : World) : (Go.method 546 262 (.agg #[h]) "Implements").run Tryz.prog w = .ok (337, .agg #[h]) w := by kernel_rfl
theorem Gz (h : Value) (w : World) : (Go.method 546 262 (.agg #[h]) "AssignableTo").run Tryz.prog w = .ok (334, .agg #[h]) w := by kernel_rfl
theorem ag_ (t:Addr) (w:World):(ReflectliteValue.unpack (.iface 344 (.pointer (some t)))).run Tryz.prog w
 = .ok (.agg #[.pointer (some ⟨8,344,none⟩),.pointer (some ⟨w.heap.size,0,none⟩),.int .u64 150]) (w.alloc (.cells #[.pointer (some t)] 344)):=ay
theorem ag8 (a : Addr) (w : World) : (ReflectliteValue.methodAny (ReflectliteValue.valueError "reflectlite.Value.Type" 0) (fun t _ _ _ => ReflectliteType.toType t) #[.agg #[.pointer (some ⟨8, 344, none⟩), .pointer (some a), .int .u64 150]]).run Tryz.prog w
 = .ok (.iface 262 (.agg #[.pointer (some ⟨8,344,none⟩)])) w:=ay
theorem ag2 (w:World):((ReflectliteType.abiMethod λt=>(λa:Nat=>Value.int IntKind.u8 (a:Int)) <$> Rtype.kind t) #[.pointer (some ⟨8,344,none⟩)]).run Tryz.prog w= .ok (.int .u8 22) w:=ay
theorem ag1 (w:World):((ReflectliteType.abiMethod λt=>(λa:Nat=>Value.int IntKind.u8 (a:Int)) <$> Rtype.kind t) #[.pointer (some ⟨8,343,none⟩)]).run Tryz.prog w= .ok (.int .u8 22) w:=ay
theorem VR (a:Addr) (w:World):(ReflectliteValue.parts (.agg #[.pointer (some ⟨8,344,none⟩),.pointer (some a),.int .u64 150])).run Tryz.prog w= .ok (some (344,a,150)) w:=ay
theorem ag0 (a p:Addr) (W:World) (ha:W.cell? a=some (.pointer (some p))):
 (ReflectliteValue.method (ReflectliteValue.valueError "reflectlite.Value.IsNil" 0) ReflectliteValue.isNil #[.agg #[.pointer (some ⟨8, 344, none⟩), .pointer (some a), .int .u64 150]]).run Tryz.prog W = .ok (.bool false) W := by
 rw[Ei];simp only[Sem.run_bind,VR,Result.andThen];simp[ReflectliteValue.isNil,loadVar,isAgg,underlying,Tryz.underlying344,ha,Result.andThen]
theorem agW (w:World):(ReflectliteType.method ReflectliteType.elem #[.agg #[.pointer (some ⟨8,344,none⟩)]]).run Tryz.prog w= .ok (.iface 262 (.agg #[.pointer (some ⟨8,343,none⟩)])) w:=ay
theorem agZ (w : World) : (ReflectliteType.relation "Implements" ReflectliteType.implements_ #[.agg #[.pointer (some ⟨8, 343, none⟩)], .iface 262 (.agg #[.pointer (some ⟨8, 106, none⟩)])]).run Tryz.prog w = .ok (.bool true) w := by kernel_rfl
theorem ag9 (v:Value) (w:World):(ReflectliteType.typeOf #[.iface 343 v]).run Tryz.prog w= .ok (.iface 262 (.agg #[.pointer (some ⟨8,343,none⟩)])) w:=ay
theorem agU (w : World) : (ReflectliteType.relation "AssignableTo" ReflectliteType.assignableTo #[.agg #[.pointer (some ⟨8, 343, none⟩)], .iface 262 (.agg #[.pointer (some ⟨8, 343, none⟩)])]).run Tryz.prog w = .ok (.bool true) w := by kernel_rfl
theorem ag' (e:Addr) (w:World):(ReflectliteValue.unpack (.iface 343 (.pointer (some e)))).run Tryz.prog w
 = .ok (.agg #[.pointer (some ⟨8,343,none⟩),.pointer (some ⟨w.heap.size,0,none⟩),.int .u64 150]) (w.alloc (.cells #[.pointer (some e)] 343)):=ay
theorem agX (w:World):(Rtype.elem? 344).run Tryz.prog w= .ok (some 343) w:=ay
theorem ag3 (p:Addr) (w:World):(ReflectliteValue.mk 343 p ReflectliteValue.flagAddr).run Tryz.prog w= .ok (.agg #[.pointer (some ⟨8,343,none⟩),.pointer (some p),.int .u64 406]) w:=ay
theorem agY (a p:Addr) (W:World) (ha:W.cell? a=some (.pointer (some p))):
 (ReflectliteValue.method (ReflectliteValue.valueError "reflectlite.Value.Elem" 0) ReflectliteValue.elem #[.agg #[.pointer (some ⟨8, 344, none⟩), .pointer (some a), .int .u64 150]]).run Tryz.prog W
  = .ok (.agg #[.pointer (some ⟨8,343,none⟩),.pointer (some p),.int .u64 406]) W:=by
 rw[Ei];simp only[Sem.run_bind,VR,Result.andThen];simp[ReflectliteValue.elem,loadVar,isAgg,underlying,Tryz.underlying344,ha,Result.andThen,agX,ag3]
theorem ag4 (a:Addr) (w:World):(ReflectliteValue.parts (.agg #[.pointer (some ⟨8,343,none⟩),.pointer (some a),.int .u64 406])).run Tryz.prog w= .ok (some (343,a,406)) w:=ay
theorem ag5 (a:Addr) (w:World):(ReflectliteValue.parts (.agg #[.pointer (some ⟨8,343,none⟩),.pointer (some a),.int .u64 150])).run Tryz.prog w= .ok (some (343,a,150)) w:=ay
theorem agV (w:World):(Rtype.directlyAssignable 343 343).run Tryz.prog w= .ok true w:=ay
theorem ag7 (w:World):(sizeOf 343).run Tryz.prog w= .ok 1 w:=ay
theorem ag6 (ta b:Addr) (e:Addr) (aY:Value) (W:World) (hb:W.cell? b=some (.pointer (some e))) (ht:W.cell? ta=some aY) (hf:W.frozen? ta=false):
 (ReflectliteValue.set #[.agg #[.pointer (some ⟨8,343,none⟩),.pointer (some ta),.int .u64 406],.agg #[.pointer (some ⟨8,343,none⟩),.pointer (some b),.int .u64 150]]).run Tryz.prog W
   = .ok (.tuple #[]) (W.setCell ta (.pointer (some e))):=by
 rw[OI];simp only[Sem.run_bind,ag4,ag5,Result.andThen];simp[ReflectliteValue.flagAddr,loadVar,isAgg,underlying,Tryz.underlying343,hb,Result.andThen,agV,storeVar,Value.cells,storeCells,Addr.add,ag7];rw[run_store Tryz.prog W ta _ _ (by rfl)]
 simp[ht,hf]
set_option maxHeartbeats 16000000 in
theorem Yo (e:Addr) (t:Addr) (aY:Value) (w:World) (hg:w.cell? ⟨1,0,none⟩=some (.iface 262 (.agg #[.pointer (some ⟨8,106,none⟩)]))) (kQ:w.cell? t=some aY) (oY:w.frozen? t=false):
 Calls Tryz.prog 94 #[.iface 343 (.pointer (some e)),.iface 344 (.pointer (some t))] w λev w'=>ev= .returned (.bool true)/\w'=((((w.alloc (.cells #[.pointer (some t)] 344)).alloc (.cells #[.pointer (some ⟨8,344,none⟩),.pointer (some ⟨w.heap.size,0,none⟩),.int .u64 150] 204)).alloc (.cells #[.pointer (some ⟨8,344,none⟩),.pointer (some ⟨w.heap.size,0,none⟩),.int .u64 150] 204)).alloc (.cells #[.pointer (some e)] 343)).setCell t (.pointer (some e)):=by
 have h6:=HU.down;have h7:=HV.down;have h8:=HW.down;have Jd:=HQ.down;have Jf:=HS.down;have Jg:=HT.down;have Ja:=HN.down;have Je:=HR.down;have Jb:=HO.down;have Jc:=HP.down;have tO:=ag9;have mA:=Gz;have a25:=agU;have v25:=ag';have f6:=ag_;have f7:=ag8;have mK:=GC;have mE:=GA;have mI:=GB;have w9:=ag2;have JZ:=ag1;have BJ:=agW;have i25:=agZ;have n8:=ag0 ⟨w.heap.size,0,none⟩ t ((w.alloc (.cells #[.pointer (some t)] 344)).alloc (.cells #[.pointer (some ⟨8,344,none⟩),.pointer (some ⟨w.heap.size,0,none⟩),.int .u64 150] 204)) bk;have aP:1<w.heap.size:=ud hg;have JB:((w.alloc (.cells #[.pointer (some t)] 344)).alloc (.cells #[.pointer (some ⟨8,344,none⟩),.pointer (some ⟨w.heap.size,0,none⟩),.int .u64 150] 204)).cell? ⟨1,0,none⟩=some (.iface 262 (.agg #[.pointer (some ⟨8,106,none⟩)])):=by
  rw[World.cell?_alloc_lt _ _ ⟨1,0,none⟩ (by first |(simp;done) |(simp;omega)),World.cell?_alloc_lt _ _ ⟨1,0,none⟩ aP];exact hg
 have oe:t.block<w.heap.size:=ud kQ;have el:=agY ⟨w.heap.size,0,none⟩ t (((w.alloc (.cells #[.pointer (some t)] 344)).alloc (.cells #[.pointer (some ⟨8,344,none⟩),.pointer (some ⟨w.heap.size,0,none⟩),.int .u64 150] 204)).alloc (.cells #[.pointer (some ⟨8,344,none⟩),.pointer (some ⟨w.heap.size,0,none⟩),.int .u64 150] 204)) (by rw[World.cell?_alloc_lt _ _ ⟨w.heap.size,0,none⟩ (by first |(simp;done) |(simp;omega))];simp)
 have st:=ag6 t ⟨w.heap.size+1+1+1,0,none⟩ e aY ((((w.alloc (.cells #[.pointer (some t)] 344)).alloc (.cells #[.pointer (some ⟨8,344,none⟩),.pointer (some ⟨w.heap.size,0,none⟩),.int .u64 150] 204)).alloc (.cells #[.pointer (some ⟨8,344,none⟩),.pointer (some ⟨w.heap.size,0,none⟩),.int .u64 150] 204)).alloc (.cells #[.pointer (some e)] 343))
  (by rw[World.cell?_alloc_at _ _ _ _ bk];rfl)
  (by rw[World.cell?_alloc_lt _ _ t (by first |(simp;done) |(simp;omega)),World.cell?_alloc_lt _ _ t (by first |(simp;done) |(simp;omega)),World.cell?_alloc_lt _ _ t (by first |(simp;done) |(simp;omega)),World.cell?_alloc_lt _ _ t oe];exact kQ)
  (by rw[World.frozen?_alloc_old _ _ t (by first |(simp;done) |(simp;omega)),World.frozen?_alloc_old _ _ t (by first |(simp;done) |(simp;omega)),World.frozen?_alloc_old _ _ t (by first |(simp;done) |(simp;omega)),World.frozen?_alloc_old _ _ t (Nat.ne_of_lt oe)];exact oY)
 go_enter Tryz.func94,Tryz.ntmps94
 go_wp2
 refine wp_loop_rounds 1 ?_;rw[rounds_succ]
 go_wp2
 go_ret
 exact⟨J,J⟩
theorem Vz (t:Addr) (w:World):(ReflectliteValue.unpack (.iface 160 (.pointer (some t)))).run Tryz.prog w
 = .ok (.agg #[.pointer (some ⟨8,160,none⟩),.pointer (some ⟨w.heap.size,0,none⟩),.int .u64 150]) (w.alloc (.cells #[.pointer (some t)] 160)):=ay
theorem Vx (a : Addr) (w : World) : (ReflectliteValue.methodAny (ReflectliteValue.valueError "reflectlite.Value.Type" 0) (fun t _ _ _ => ReflectliteType.toType t) #[.agg #[.pointer (some ⟨8, 160, none⟩), .pointer (some a), .int .u64 150]]).run Tryz.prog w
 = .ok (.iface 262 (.agg #[.pointer (some ⟨8,160,none⟩)])) w:=ay
theorem Vu (w:World):((ReflectliteType.abiMethod λt=>(λa:Nat=>Value.int IntKind.u8 (a:Int)) <$> Rtype.kind t) #[.pointer (some ⟨8,160,none⟩)]).run Tryz.prog w= .ok (.int .u8 22) w:=ay
theorem Vt (w:World):((ReflectliteType.abiMethod λt=>(λa:Nat=>Value.int IntKind.u8 (a:Int)) <$> Rtype.kind t) #[.pointer (some ⟨8,148,none⟩)]).run Tryz.prog w= .ok (.int .u8 2) w:=ay
theorem Vv (a:Addr) (w:World):(ReflectliteValue.parts (.agg #[.pointer (some ⟨8,160,none⟩),.pointer (some a),.int .u64 150])).run Tryz.prog w= .ok (some (160,a,150)) w:=ay
theorem Vs (a p:Addr) (W:World) (ha:W.cell? a=some (.pointer (some p))):
 (ReflectliteValue.method (ReflectliteValue.valueError "reflectlite.Value.IsNil" 0) ReflectliteValue.isNil #[.agg #[.pointer (some ⟨8, 160, none⟩), .pointer (some a), .int .u64 150]]).run Tryz.prog W = .ok (.bool false) W := by
 rw[Ei];simp only[Sem.run_bind,Vv,Result.andThen];simp[ReflectliteValue.isNil,loadVar,isAgg,underlying,Tryz.underlying160,ha,Result.andThen]
theorem Vp (w:World):(ReflectliteType.method ReflectliteType.elem #[.agg #[.pointer (some ⟨8,160,none⟩)]]).run Tryz.prog w= .ok (.iface 262 (.agg #[.pointer (some ⟨8,148,none⟩)])) w:=ay
theorem Vr (w : World) : (ReflectliteType.relation "Implements" ReflectliteType.implements_ #[.agg #[.pointer (some ⟨8, 148, none⟩)], .iface 262 (.agg #[.pointer (some ⟨8, 106, none⟩)])]).run Tryz.prog w = .ok (.bool true) w := by kernel_rfl
theorem Vy (v:Value) (w:World):(ReflectliteType.typeOf #[.iface 148 v]).run Tryz.prog w= .ok (.iface 262 (.agg #[.pointer (some ⟨8,148,none⟩)])) w:=ay
theorem Vo (w : World) : (ReflectliteType.relation "AssignableTo" ReflectliteType.assignableTo #[.agg #[.pointer (some ⟨8, 148, none⟩)], .iface 262 (.agg #[.pointer (some ⟨8, 148, none⟩)])]).run Tryz.prog w = .ok (.bool true) w := by kernel_rfl
theorem VA (e:Int) (w:World):(ReflectliteValue.unpack (.iface 148 (.int .i64 e))).run Tryz.prog w
 = .ok (.agg #[.pointer (some ⟨8,148,none⟩),.pointer (some ⟨w.heap.size,0,none⟩),.int .u64 130]) (w.alloc (.cells #[.int .i64 e] 148)):=ay
theorem agJ (w:World):(Rtype.elem? 160).run Tryz.prog w= .ok (some 148) w:=ay
theorem agK (p:Addr) (w:World):(ReflectliteValue.mk 148 p ReflectliteValue.flagAddr).run Tryz.prog w= .ok (.agg #[.pointer (some ⟨8,148,none⟩),.pointer (some p),.int .u64 386]) w:=ay
theorem Vq (a p:Addr) (W:World) (ha:W.cell? a=some (.pointer (some p))):
 (ReflectliteValue.method (ReflectliteValue.valueError "reflectlite.Value.Elem" 0) ReflectliteValue.elem #[.agg #[.pointer (some ⟨8, 160, none⟩), .pointer (some a), .int .u64 150]]).run Tryz.prog W
  = .ok (.agg #[.pointer (some ⟨8,148,none⟩),.pointer (some p),.int .u64 386]) W:=by
 rw[Ei];simp only[Sem.run_bind,Vv,Result.andThen];simp[ReflectliteValue.elem,loadVar,isAgg,underlying,Tryz.underlying160,ha,Result.andThen,agJ,agK]
theorem agL (a:Addr) (w:World):(ReflectliteValue.parts (.agg #[.pointer (some ⟨8,148,none⟩),.pointer (some a),.int .u64 386])).run Tryz.prog w= .ok (some (148,a,386)) w:=ay
theorem agM (a:Addr) (w:World):(ReflectliteValue.parts (.agg #[.pointer (some ⟨8,148,none⟩),.pointer (some a),.int .u64 130])).run Tryz.prog w= .ok (some (148,a,130)) w:=ay
theorem agI (w:World):(Rtype.directlyAssignable 148 148).run Tryz.prog w= .ok true w:=ay
theorem agN (w:World):(sizeOf 148).run Tryz.prog w= .ok 1 w:=ay
theorem Vw (ta b:Addr) (e:Int) (aY:Value) (W:World) (hb:W.cell? b=some (.int .i64 e)) (ht:W.cell? ta=some aY) (hf:W.frozen? ta=false):
 (ReflectliteValue.set #[.agg #[.pointer (some ⟨8,148,none⟩),.pointer (some ta),.int .u64 386],.agg #[.pointer (some ⟨8,148,none⟩),.pointer (some b),.int .u64 130]]).run Tryz.prog W
   = .ok (.tuple #[]) (W.setCell ta (.int .i64 e)):=by
 rw[OI];simp only[Sem.run_bind,agL,agM,Result.andThen];simp[ReflectliteValue.flagAddr,loadVar,isAgg,underlying,Tryz.underlying148,hb,Result.andThen,agI,storeVar,Value.cells,storeCells,Addr.add,agN];rw[run_store Tryz.prog W ta _ _ (by rfl)]
 simp[ht,hf]
set_option maxHeartbeats 16000000 in
theorem Ym (e:Int) (t:Addr) (aY:Value) (w:World) (hg:w.cell? ⟨1,0,none⟩=some (.iface 262 (.agg #[.pointer (some ⟨8,106,none⟩)]))) (kQ:w.cell? t=some aY) (oY:w.frozen? t=false):
 Calls Tryz.prog 94 #[.iface 148 (.int .i64 e),.iface 160 (.pointer (some t))] w λev w'=>ev= .returned (.bool true)/\w'=((((w.alloc (.cells #[.pointer (some t)] 160)).alloc (.cells #[.pointer (some ⟨8,160,none⟩),.pointer (some ⟨w.heap.size,0,none⟩),.int .u64 150] 204)).alloc (.cells #[.pointer (some ⟨8,160,none⟩),.pointer (some ⟨w.heap.size,0,none⟩),.int .u64 150] 204)).alloc (.cells #[.int .i64 e] 148)).setCell t (.int .i64 e):=by
 have h6:=HU.down;have h7:=HV.down;have h8:=HW.down;have Jd:=HQ.down;have Jf:=HS.down;have Jg:=HT.down;have Ja:=HN.down;have Je:=HR.down;have Jb:=HO.down;have Jc:=HP.down;have tO:=Vy;have mA:=Gz;have a25:=Vo;have v25:=VA;have f6:=Vz;have f7:=Vx;have mK:=GC;have mE:=GA;have mI:=GB;have w9:=Vu;have JZ:=Vt;have BJ:=Vp;have i25:=Vr;have n8:=Vs ⟨w.heap.size,0,none⟩ t ((w.alloc (.cells #[.pointer (some t)] 160)).alloc (.cells #[.pointer (some ⟨8,160,none⟩),.pointer (some ⟨w.heap.size,0,none⟩),.int .u64 150] 204)) bk;have aP:1<w.heap.size:=ud hg;have JB:((w.alloc (.cells #[.pointer (some t)] 160)).alloc (.cells #[.pointer (some ⟨8,160,none⟩),.pointer (some ⟨w.heap.size,0,none⟩),.int .u64 150] 204)).cell? ⟨1,0,none⟩=some (.iface 262 (.agg #[.pointer (some ⟨8,106,none⟩)])):=by
  rw[World.cell?_alloc_lt _ _ ⟨1,0,none⟩ (by first |(simp;done) |(simp;omega)),World.cell?_alloc_lt _ _ ⟨1,0,none⟩ aP];exact hg
 have oe:t.block<w.heap.size:=ud kQ;have el:=Vq ⟨w.heap.size,0,none⟩ t (((w.alloc (.cells #[.pointer (some t)] 160)).alloc (.cells #[.pointer (some ⟨8,160,none⟩),.pointer (some ⟨w.heap.size,0,none⟩),.int .u64 150] 204)).alloc (.cells #[.pointer (some ⟨8,160,none⟩),.pointer (some ⟨w.heap.size,0,none⟩),.int .u64 150] 204)) (by rw[World.cell?_alloc_lt _ _ ⟨w.heap.size,0,none⟩ (by first |(simp;done) |(simp;omega))];simp)
 have st:=Vw t ⟨w.heap.size+1+1+1,0,none⟩ e aY ((((w.alloc (.cells #[.pointer (some t)] 160)).alloc (.cells #[.pointer (some ⟨8,160,none⟩),.pointer (some ⟨w.heap.size,0,none⟩),.int .u64 150] 204)).alloc (.cells #[.pointer (some ⟨8,160,none⟩),.pointer (some ⟨w.heap.size,0,none⟩),.int .u64 150] 204)).alloc (.cells #[.int .i64 e] 148))
  (by rw[World.cell?_alloc_at _ _ _ _ bk];rfl)
  (by rw[World.cell?_alloc_lt _ _ t (by first |(simp;done) |(simp;omega)),World.cell?_alloc_lt _ _ t (by first |(simp;done) |(simp;omega)),World.cell?_alloc_lt _ _ t (by first |(simp;done) |(simp;omega)),World.cell?_alloc_lt _ _ t oe];exact kQ)
  (by rw[World.frozen?_alloc_old _ _ t (by first |(simp;done) |(simp;omega)),World.frozen?_alloc_old _ _ t (by first |(simp;done) |(simp;omega)),World.frozen?_alloc_old _ _ t (by first |(simp;done) |(simp;omega)),World.frozen?_alloc_old _ _ t (Nat.ne_of_lt oe)];exact oY)
 go_enter Tryz.func94,Tryz.ntmps94
 go_wp2
 refine wp_loop_rounds 1 ?_;rw[rounds_succ]
 go_wp2
 go_ret
 exact⟨J,J⟩
theorem Ye (v:Value) (xT:TypeId) (w:World):(Instr.typeAssert (.iface 110 v) xT 274 true).run Tryz.prog w= .ok (.tuple #[.nilIface,.bool false]) w:=run_typeAssert_lacksB Tryz.underlying274 ay ay v xT w
theorem Yk (v:Value) (xT:TypeId) (w:World):(Instr.typeAssert (.iface 110 v) xT 267 true).run Tryz.prog w= .ok (.tuple #[.iface 110 v,.bool true]) w:=run_typeAssert_hasB Tryz.underlying267 ay v xT w
theorem Ya (v : Value) (w : World) : (Go.method 546 110 v "Unwrap").run Tryz.prog w = .ok (324, v) w := by kernel_rfl
theorem Yi (v:Value) (w:World):(ReflectliteType.typeOf #[.iface 110 v]).run Tryz.prog w= .ok (.iface 262 (.agg #[.pointer (some ⟨8,110,none⟩)])) w:=ay
theorem X_ (w : World) : (ReflectliteType.relation "AssignableTo" ReflectliteType.assignableTo #[.agg #[.pointer (some ⟨8, 110, none⟩)], .iface 262 (.agg #[.pointer (some ⟨8, 148, none⟩)])]).run Tryz.prog w = .ok (.bool false) w := by kernel_rfl
set_option maxHeartbeats 16000000 in
theorem Yp (e:Int) (t:Addr) (aY:Value) (w:World) (pb:Nat) (hg:w.cell? ⟨1,0,none⟩=some (.iface 262 (.agg #[.pointer (some ⟨8,106,none⟩)]))) (kQ:w.cell? t=some aY) (oY:w.frozen? t=false) (h1:w.cell? ⟨pb,1,none⟩=some (.iface 148 (.int .i64 e))):
 Calls Tryz.prog 94 #[.iface 110 (.pointer (some ⟨pb,0,none⟩)),.iface 160 (.pointer (some t))] w λev w'=>ev= .returned (.bool true)/\w'=((((w.alloc (.cells #[.pointer (some t)] 160)).alloc (.cells #[.pointer (some ⟨8,160,none⟩),.pointer (some ⟨w.heap.size,0,none⟩),.int .u64 150] 204)).alloc (.cells #[.pointer (some ⟨8,160,none⟩),.pointer (some ⟨w.heap.size,0,none⟩),.int .u64 150] 204)).alloc (.cells #[.int .i64 e] 148)).setCell t (.int .i64 e):=by
 have h6:=HU.down;have h7:=HV.down;have h8:=HW.down;have Jd:=HQ.down;have Jf:=HS.down;have Jg:=HT.down;have Ja:=HN.down;have Je:=HR.down;have Jb:=HO.down;have Jc:=HP.down;have tO:=Vy;have mA:=Gz;have a25:=Vo;have v25:=VA;have f6:=Vz;have f7:=Vx;have mK:=GC;have mE:=GA;have mI:=GB;have w9:=Vu;have JZ:=Vt;have BJ:=Vp;have i25:=Vr;have oN:=Ye;have oU:=Yk;have oM:=Ya;have oT:=Yi;have oF:=X_;have mB:pb<w.heap.size:=ud h1;have h1a:(((w.alloc (.cells #[.pointer (some t)] 160)).alloc (.cells #[.pointer (some ⟨8,160,none⟩),.pointer (some ⟨w.heap.size,0,none⟩),.int .u64 150] 204)).alloc (.cells #[.pointer (some ⟨8,160,none⟩),.pointer (some ⟨w.heap.size,0,none⟩),.int .u64 150] 204)).cell? ⟨pb,1,none⟩=some (.iface 148 (.int .i64 e)):=by
  rw[World.cell?_alloc_lt _ _ ⟨pb,1,none⟩ (by first |(simp;done) |(simp;omega)),World.cell?_alloc_lt _ _ ⟨pb,1,none⟩ (by first |(simp;done) |(simp;omega)),World.cell?_alloc_lt _ _ ⟨pb,1,none⟩ mB];exact h1
 have n8:=Vs ⟨w.heap.size,0,none⟩ t ((w.alloc (.cells #[.pointer (some t)] 160)).alloc (.cells #[.pointer (some ⟨8,160,none⟩),.pointer (some ⟨w.heap.size,0,none⟩),.int .u64 150] 204)) bk;have aP:1<w.heap.size:=ud hg;have JB:((w.alloc (.cells #[.pointer (some t)] 160)).alloc (.cells #[.pointer (some ⟨8,160,none⟩),.pointer (some ⟨w.heap.size,0,none⟩),.int .u64 150] 204)).cell? ⟨1,0,none⟩=some (.iface 262 (.agg #[.pointer (some ⟨8,106,none⟩)])):=by
  rw[World.cell?_alloc_lt _ _ ⟨1,0,none⟩ (by first |(simp;done) |(simp;omega)),World.cell?_alloc_lt _ _ ⟨1,0,none⟩ aP];exact hg
 have oe:t.block<w.heap.size:=ud kQ;have el:=Vq ⟨w.heap.size,0,none⟩ t (((w.alloc (.cells #[.pointer (some t)] 160)).alloc (.cells #[.pointer (some ⟨8,160,none⟩),.pointer (some ⟨w.heap.size,0,none⟩),.int .u64 150] 204)).alloc (.cells #[.pointer (some ⟨8,160,none⟩),.pointer (some ⟨w.heap.size,0,none⟩),.int .u64 150] 204)) (by rw[World.cell?_alloc_lt _ _ ⟨w.heap.size,0,none⟩ (by first |(simp;done) |(simp;omega))];simp)
 have st:=Vw t ⟨w.heap.size+1+1+1,0,none⟩ e aY ((((w.alloc (.cells #[.pointer (some t)] 160)).alloc (.cells #[.pointer (some ⟨8,160,none⟩),.pointer (some ⟨w.heap.size,0,none⟩),.int .u64 150] 204)).alloc (.cells #[.pointer (some ⟨8,160,none⟩),.pointer (some ⟨w.heap.size,0,none⟩),.int .u64 150] 204)).alloc (.cells #[.int .i64 e] 148))
  (by rw[World.cell?_alloc_at _ _ _ _ bk];rfl)
  (by rw[World.cell?_alloc_lt _ _ t (by first |(simp;done) |(simp;omega)),World.cell?_alloc_lt _ _ t (by first |(simp;done) |(simp;omega)),World.cell?_alloc_lt _ _ t (by first |(simp;done) |(simp;omega)),World.cell?_alloc_lt _ _ t oe];exact kQ)
  (by rw[World.frozen?_alloc_old _ _ t (by first |(simp;done) |(simp;omega)),World.frozen?_alloc_old _ _ t (by first |(simp;done) |(simp;omega)),World.frozen?_alloc_old _ _ t (by first |(simp;done) |(simp;omega)),World.frozen?_alloc_old _ _ t (Nat.ne_of_lt oe)];exact oY)
 go_enter Tryz.func94,Tryz.ntmps94
 go_wp2
 refine wp_loop_rounds 2 ?_;rw[rounds_succ]
 go_wp2
 rw[rounds_succ]
 go_wp2
 go_ret
 exact⟨J,J⟩
theorem VP (t:Addr) (w:World):(ReflectliteValue.unpack (.iface 244 (.pointer (some t)))).run Tryz.prog w
 = .ok (.agg #[.pointer (some ⟨8,244,none⟩),.pointer (some ⟨w.heap.size,0,none⟩),.int .u64 150]) (w.alloc (.cells #[.pointer (some t)] 244)):=ay
theorem VN (a : Addr) (w : World) : (ReflectliteValue.methodAny (ReflectliteValue.valueError "reflectlite.Value.Type" 0) (fun t _ _ _ => ReflectliteType.toType t) #[.agg #[.pointer (some ⟨8, 244, none⟩), .pointer (some a), .int .u64 150]]).run Tryz.prog w
 = .ok (.iface 262 (.agg #[.pointer (some ⟨8,244,none⟩)])) w:=ay
theorem VK (w:World):((ReflectliteType.abiMethod λt=>(λa:Nat=>Value.int IntKind.u8 (a:Int)) <$> Rtype.kind t) #[.pointer (some ⟨8,244,none⟩)]).run Tryz.prog w= .ok (.int .u8 22) w:=ay
theorem VJ (w:World):((ReflectliteType.abiMethod λt=>(λa:Nat=>Value.int IntKind.u8 (a:Int)) <$> Rtype.kind t) #[.pointer (some ⟨8,243,none⟩)]).run Tryz.prog w= .ok (.int .u8 2) w:=ay
theorem VL (a:Addr) (w:World):(ReflectliteValue.parts (.agg #[.pointer (some ⟨8,244,none⟩),.pointer (some a),.int .u64 150])).run Tryz.prog w= .ok (some (244,a,150)) w:=ay
theorem VI (a p:Addr) (W:World) (ha:W.cell? a=some (.pointer (some p))):
 (ReflectliteValue.method (ReflectliteValue.valueError "reflectlite.Value.IsNil" 0) ReflectliteValue.isNil #[.agg #[.pointer (some ⟨8, 244, none⟩), .pointer (some a), .int .u64 150]]).run Tryz.prog W = .ok (.bool false) W := by
 rw[Ei];simp only[Sem.run_bind,VL,Result.andThen];simp[ReflectliteValue.isNil,loadVar,isAgg,underlying,Tryz.underlying244,ha,Result.andThen]
theorem VF (w:World):(ReflectliteType.method ReflectliteType.elem #[.agg #[.pointer (some ⟨8,244,none⟩)]]).run Tryz.prog w= .ok (.iface 262 (.agg #[.pointer (some ⟨8,243,none⟩)])) w:=ay
theorem VH (w : World) : (ReflectliteType.relation "Implements" ReflectliteType.implements_ #[.agg #[.pointer (some ⟨8, 243, none⟩)], .iface 262 (.agg #[.pointer (some ⟨8, 106, none⟩)])]).run Tryz.prog w = .ok (.bool true) w := by kernel_rfl
theorem VO (v:Value) (w:World):(ReflectliteType.typeOf #[.iface 243 v]).run Tryz.prog w= .ok (.iface 262 (.agg #[.pointer (some ⟨8,243,none⟩)])) w:=ay
theorem VE (w : World) : (ReflectliteType.relation "AssignableTo" ReflectliteType.assignableTo #[.agg #[.pointer (some ⟨8, 243, none⟩)], .iface 262 (.agg #[.pointer (some ⟨8, 243, none⟩)])]).run Tryz.prog w = .ok (.bool true) w := by kernel_rfl
theorem VQ (e:Int) (w:World):(ReflectliteValue.unpack (.iface 243 (.int .i64 e))).run Tryz.prog w
 = .ok (.agg #[.pointer (some ⟨8,243,none⟩),.pointer (some ⟨w.heap.size,0,none⟩),.int .u64 130]) (w.alloc (.cells #[.int .i64 e] 243)):=ay
theorem agP (w:World):(Rtype.elem? 244).run Tryz.prog w= .ok (some 243) w:=ay
theorem agQ (p:Addr) (w:World):(ReflectliteValue.mk 243 p ReflectliteValue.flagAddr).run Tryz.prog w= .ok (.agg #[.pointer (some ⟨8,243,none⟩),.pointer (some p),.int .u64 386]) w:=ay
theorem VG (a p:Addr) (W:World) (ha:W.cell? a=some (.pointer (some p))):
 (ReflectliteValue.method (ReflectliteValue.valueError "reflectlite.Value.Elem" 0) ReflectliteValue.elem #[.agg #[.pointer (some ⟨8, 244, none⟩), .pointer (some a), .int .u64 150]]).run Tryz.prog W
  = .ok (.agg #[.pointer (some ⟨8,243,none⟩),.pointer (some p),.int .u64 386]) W:=by
 rw[Ei];simp only[Sem.run_bind,VL,Result.andThen];simp[ReflectliteValue.elem,loadVar,isAgg,underlying,Tryz.underlying244,ha,Result.andThen,agP,agQ]
theorem agR (a:Addr) (w:World):(ReflectliteValue.parts (.agg #[.pointer (some ⟨8,243,none⟩),.pointer (some a),.int .u64 386])).run Tryz.prog w= .ok (some (243,a,386)) w:=ay
theorem agS (a:Addr) (w:World):(ReflectliteValue.parts (.agg #[.pointer (some ⟨8,243,none⟩),.pointer (some a),.int .u64 130])).run Tryz.prog w= .ok (some (243,a,130)) w:=ay
theorem agO (w:World):(Rtype.directlyAssignable 243 243).run Tryz.prog w= .ok true w:=ay
theorem agT (w:World):(sizeOf 243).run Tryz.prog w= .ok 1 w:=ay
theorem VM (ta b:Addr) (e:Int) (aY:Value) (W:World) (hb:W.cell? b=some (.int .i64 e)) (ht:W.cell? ta=some aY) (hf:W.frozen? ta=false):
 (ReflectliteValue.set #[.agg #[.pointer (some ⟨8,243,none⟩),.pointer (some ta),.int .u64 386],.agg #[.pointer (some ⟨8,243,none⟩),.pointer (some b),.int .u64 130]]).run Tryz.prog W
   = .ok (.tuple #[]) (W.setCell ta (.int .i64 e)):=by
 rw[OI];simp only[Sem.run_bind,agR,agS,Result.andThen];simp[ReflectliteValue.flagAddr,loadVar,isAgg,underlying,Tryz.underlying243,hb,Result.andThen,agO,storeVar,Value.cells,storeCells,Addr.add,agT];rw[run_store Tryz.prog W ta _ _ (by rfl)]
 simp[ht,hf]
set_option maxHeartbeats 16000000 in
theorem Yn (e:Int) (t:Addr) (aY:Value) (w:World) (hg:w.cell? ⟨1,0,none⟩=some (.iface 262 (.agg #[.pointer (some ⟨8,106,none⟩)]))) (kQ:w.cell? t=some aY) (oY:w.frozen? t=false):
 Calls Tryz.prog 94 #[.iface 243 (.int .i64 e),.iface 244 (.pointer (some t))] w λev w'=>ev= .returned (.bool true)/\w'=((((w.alloc (.cells #[.pointer (some t)] 244)).alloc (.cells #[.pointer (some ⟨8,244,none⟩),.pointer (some ⟨w.heap.size,0,none⟩),.int .u64 150] 204)).alloc (.cells #[.pointer (some ⟨8,244,none⟩),.pointer (some ⟨w.heap.size,0,none⟩),.int .u64 150] 204)).alloc (.cells #[.int .i64 e] 243)).setCell t (.int .i64 e):=by
 have h6:=HU.down;have h7:=HV.down;have h8:=HW.down;have Jd:=HQ.down;have Jf:=HS.down;have Jg:=HT.down;have Ja:=HN.down;have Je:=HR.down;have Jb:=HO.down;have Jc:=HP.down;have tO:=VO;have mA:=Gz;have a25:=VE;have v25:=VQ;have f6:=VP;have f7:=VN;have mK:=GC;have mE:=GA;have mI:=GB;have w9:=VK;have JZ:=VJ;have BJ:=VF;have i25:=VH;have n8:=VI ⟨w.heap.size,0,none⟩ t ((w.alloc (.cells #[.pointer (some t)] 244)).alloc (.cells #[.pointer (some ⟨8,244,none⟩),.pointer (some ⟨w.heap.size,0,none⟩),.int .u64 150] 204)) bk;have aP:1<w.heap.size:=ud hg;have JB:((w.alloc (.cells #[.pointer (some t)] 244)).alloc (.cells #[.pointer (some ⟨8,244,none⟩),.pointer (some ⟨w.heap.size,0,none⟩),.int .u64 150] 204)).cell? ⟨1,0,none⟩=some (.iface 262 (.agg #[.pointer (some ⟨8,106,none⟩)])):=by
  rw[World.cell?_alloc_lt _ _ ⟨1,0,none⟩ (by first |(simp;done) |(simp;omega)),World.cell?_alloc_lt _ _ ⟨1,0,none⟩ aP];exact hg
 have oe:t.block<w.heap.size:=ud kQ;have el:=VG ⟨w.heap.size,0,none⟩ t (((w.alloc (.cells #[.pointer (some t)] 244)).alloc (.cells #[.pointer (some ⟨8,244,none⟩),.pointer (some ⟨w.heap.size,0,none⟩),.int .u64 150] 204)).alloc (.cells #[.pointer (some ⟨8,244,none⟩),.pointer (some ⟨w.heap.size,0,none⟩),.int .u64 150] 204)) (by rw[World.cell?_alloc_lt _ _ ⟨w.heap.size,0,none⟩ (by first |(simp;done) |(simp;omega))];simp)
 have st:=VM t ⟨w.heap.size+1+1+1,0,none⟩ e aY ((((w.alloc (.cells #[.pointer (some t)] 244)).alloc (.cells #[.pointer (some ⟨8,244,none⟩),.pointer (some ⟨w.heap.size,0,none⟩),.int .u64 150] 204)).alloc (.cells #[.pointer (some ⟨8,244,none⟩),.pointer (some ⟨w.heap.size,0,none⟩),.int .u64 150] 204)).alloc (.cells #[.int .i64 e] 243))
  (by rw[World.cell?_alloc_at _ _ _ _ bk];rfl)
  (by rw[World.cell?_alloc_lt _ _ t (by first |(simp;done) |(simp;omega)),World.cell?_alloc_lt _ _ t (by first |(simp;done) |(simp;omega)),World.cell?_alloc_lt _ _ t (by first |(simp;done) |(simp;omega)),World.cell?_alloc_lt _ _ t oe];exact kQ)
  (by rw[World.frozen?_alloc_old _ _ t (by first |(simp;done) |(simp;omega)),World.frozen?_alloc_old _ _ t (by first |(simp;done) |(simp;omega)),World.frozen?_alloc_old _ _ t (by first |(simp;done) |(simp;omega)),World.frozen?_alloc_old _ _ t (Nat.ne_of_lt oe)];exact oY)
 go_enter Tryz.func94,Tryz.ntmps94
 go_wp2
 refine wp_loop_rounds 1 ?_;rw[rounds_succ]
 go_wp2
 go_ret
 exact⟨J,J⟩
theorem Yf (v:Value) (xT:TypeId) (w:World):(Instr.typeAssert (.iface 301 v) xT 274 true).run Tryz.prog w= .ok (.tuple #[.nilIface,.bool false]) w:=run_typeAssert_lacksB Tryz.underlying274 ay ay v xT w
theorem Yl (v:Value) (xT:TypeId) (w:World):(Instr.typeAssert (.iface 301 v) xT 267 true).run Tryz.prog w= .ok (.tuple #[.iface 301 v,.bool true]) w:=run_typeAssert_hasB Tryz.underlying267 ay v xT w
theorem Yb (v : Value) (w : World) : (Go.method 546 301 v "Unwrap").run Tryz.prog w = .ok (345, v) w := by kernel_rfl
theorem Yj (v:Value) (w:World):(ReflectliteType.typeOf #[.iface 301 v]).run Tryz.prog w= .ok (.iface 262 (.agg #[.pointer (some ⟨8,301,none⟩)])) w:=ay
theorem X' (w : World) : (ReflectliteType.relation "AssignableTo" ReflectliteType.assignableTo #[.agg #[.pointer (some ⟨8, 301, none⟩)], .iface 262 (.agg #[.pointer (some ⟨8, 243, none⟩)])]).run Tryz.prog w = .ok (.bool false) w := by kernel_rfl
set_option maxHeartbeats 16000000 in
theorem Yq (e:Int) (t:Addr) (aY:Value) (w:World) (pb:Nat) (hg:w.cell? ⟨1,0,none⟩=some (.iface 262 (.agg #[.pointer (some ⟨8,106,none⟩)]))) (kQ:w.cell? t=some aY) (oY:w.frozen? t=false) (h1:w.cell? ⟨pb,1,none⟩=some (.iface 243 (.int .i64 e))):
 Calls Tryz.prog 94 #[.iface 301 (.pointer (some ⟨pb,0,none⟩)),.iface 244 (.pointer (some t))] w λev w'=>ev= .returned (.bool true)/\w'=((((w.alloc (.cells #[.pointer (some t)] 244)).alloc (.cells #[.pointer (some ⟨8,244,none⟩),.pointer (some ⟨w.heap.size,0,none⟩),.int .u64 150] 204)).alloc (.cells #[.pointer (some ⟨8,244,none⟩),.pointer (some ⟨w.heap.size,0,none⟩),.int .u64 150] 204)).alloc (.cells #[.int .i64 e] 243)).setCell t (.int .i64 e):=by
 have h6:=HU.down;have h7:=HV.down;have h8:=HW.down;have Jd:=HQ.down;have Jf:=HS.down;have Jg:=HT.down;have Ja:=HN.down;have Je:=HR.down;have Jb:=HO.down;have Jc:=HP.down;have tO:=VO;have mA:=Gz;have a25:=VE;have v25:=VQ;have f6:=VP;have f7:=VN;have mK:=GC;have mE:=GA;have mI:=GB;have w9:=VK;have JZ:=VJ;have BJ:=VF;have i25:=VH;have oN:=Yf;have oU:=Yl;have oM:=Yb;have oT:=Yj;have oF:=X';have mB:pb<w.heap.size:=ud h1;have h1a:(((w.alloc (.cells #[.pointer (some t)] 244)).alloc (.cells #[.pointer (some ⟨8,244,none⟩),.pointer (some ⟨w.heap.size,0,none⟩),.int .u64 150] 204)).alloc (.cells #[.pointer (some ⟨8,244,none⟩),.pointer (some ⟨w.heap.size,0,none⟩),.int .u64 150] 204)).cell? ⟨pb,1,none⟩=some (.iface 243 (.int .i64 e)):=by
  rw[World.cell?_alloc_lt _ _ ⟨pb,1,none⟩ (by first |(simp;done) |(simp;omega)),World.cell?_alloc_lt _ _ ⟨pb,1,none⟩ (by first |(simp;done) |(simp;omega)),World.cell?_alloc_lt _ _ ⟨pb,1,none⟩ mB];exact h1
 have n8:=VI ⟨w.heap.size,0,none⟩ t ((w.alloc (.cells #[.pointer (some t)] 244)).alloc (.cells #[.pointer (some ⟨8,244,none⟩),.pointer (some ⟨w.heap.size,0,none⟩),.int .u64 150] 204)) bk;have aP:1<w.heap.size:=ud hg;have JB:((w.alloc (.cells #[.pointer (some t)] 244)).alloc (.cells #[.pointer (some ⟨8,244,none⟩),.pointer (some ⟨w.heap.size,0,none⟩),.int .u64 150] 204)).cell? ⟨1,0,none⟩=some (.iface 262 (.agg #[.pointer (some ⟨8,106,none⟩)])):=by
  rw[World.cell?_alloc_lt _ _ ⟨1,0,none⟩ (by first |(simp;done) |(simp;omega)),World.cell?_alloc_lt _ _ ⟨1,0,none⟩ aP];exact hg
 have oe:t.block<w.heap.size:=ud kQ;have el:=VG ⟨w.heap.size,0,none⟩ t (((w.alloc (.cells #[.pointer (some t)] 244)).alloc (.cells #[.pointer (some ⟨8,244,none⟩),.pointer (some ⟨w.heap.size,0,none⟩),.int .u64 150] 204)).alloc (.cells #[.pointer (some ⟨8,244,none⟩),.pointer (some ⟨w.heap.size,0,none⟩),.int .u64 150] 204)) (by rw[World.cell?_alloc_lt _ _ ⟨w.heap.size,0,none⟩ (by first |(simp;done) |(simp;omega))];simp)
 have st:=VM t ⟨w.heap.size+1+1+1,0,none⟩ e aY ((((w.alloc (.cells #[.pointer (some t)] 244)).alloc (.cells #[.pointer (some ⟨8,244,none⟩),.pointer (some ⟨w.heap.size,0,none⟩),.int .u64 150] 204)).alloc (.cells #[.pointer (some ⟨8,244,none⟩),.pointer (some ⟨w.heap.size,0,none⟩),.int .u64 150] 204)).alloc (.cells #[.int .i64 e] 243))
  (by rw[World.cell?_alloc_at _ _ _ _ bk];rfl)
  (by rw[World.cell?_alloc_lt _ _ t (by first |(simp;done) |(simp;omega)),World.cell?_alloc_lt _ _ t (by first |(simp;done) |(simp;omega)),World.cell?_alloc_lt _ _ t (by first |(simp;done) |(simp;omega)),World.cell?_alloc_lt _ _ t oe];exact kQ)
  (by rw[World.frozen?_alloc_old _ _ t (by first |(simp;done) |(simp;omega)),World.frozen?_alloc_old _ _ t (by first |(simp;done) |(simp;omega)),World.frozen?_alloc_old _ _ t (by first |(simp;done) |(simp;omega)),World.frozen?_alloc_old _ _ t (Nat.ne_of_lt oe)];exact oY)
 go_enter Tryz.func94,Tryz.ntmps94
 go_wp2
 refine wp_loop_rounds 2 ?_;rw[rounds_succ]
 go_wp2
 rw[rounds_succ]
 go_wp2
 go_ret
 exact⟨J,J⟩
end
section
open Go.Hx
def uT.f (e t:Er):Option Bool:=match e,t with
 | .dS h,.dS g=>if eZ.contains h&&eZ.contains g then some (Nat.beq h g) else none
 | .wrap 110 [_] (.dS h),.dS g=>if eZ.contains h&&eZ.contains g then some (Nat.beq h g) else none
 | .wrap 110 [_] (.num 148 _),.dS g=>if eZ.contains g then some false else none
 | .wrap 222 [_] (.dS h),.dS g=>if eZ.contains h&&eZ.contains g then some (Nat.beq h g) else none
 |_,_=>none
theorem cellAt {W w:World} {H:Hp} {b off:Nat} {c:Array Value} {T:TypeId} {fr:Nat×Nat} {v:Value} (ow:bg W w H) (hm:(b,Obj.cells c T fr)∈H) (hv:c[off]? =some v):w.cell? ⟨b,off,none⟩=some v:=ow.cell hm hv
theorem uT.c {el:Nat->Addr} {tr EG:Value} (e t:Er) (r:Bool) (F:Hp) (H:uT.f e t=some r) (hG:fK 414 eZ hU el F) (h1:lI 414 el e tr F) (h2:lI 414 el t EG F):
 gG Tryz.prog 93 [tr,EG] [F] (λ_:Unit=> .bool r) (λ_=>[F]):=by
 intro W w ow;have ct:bg W w F:=by simpa using ow
 unfold uT.f at H;split at H
 ·rename_i h g;obtain⟨hc,H⟩:=az H;simp only[Bool.and_eq_true,List.contains_iff_mem] at hc;obtain⟨m1,m2⟩:=hc;have h2:EG= .iface 414 (.pointer (some (el g))):=h2;subst h2;obtain⟨c1,T1,q1⟩:=hG.2.1 h m1;obtain⟨c2,T2,q2⟩:=hG.2.1 g m2;have h1:tr= .iface 414 (.pointer (some (el h))):=h1;subst h1
  by_cases e:h=g
  ·subst e;have hr:r=true:=by simpa using H.symm
   subst hr;exact(aeE (el h) w).mono λe w' ⟨he,hw⟩=>⟨(),he,by subst hw;simpa using ct⟩
  ·have hr:r=false:=by rw[<-Option.some.inj H];exact wE e
   subst hr;exact(aeD (el h) (el g) c1 c2 T1 T2 w (λq=>e (hG.2.2.1 h m1 g m2 (by simpa using q))) (ct.lookup q1) (ct.lookup q2)).mono λe w' ⟨he,hw⟩=>⟨(),he,by subst hw;simpa using ct⟩
 ·rename_i x0 h g;obtain⟨hc,H⟩:=az H;simp only[Bool.and_eq_true,List.contains_iff_mem] at hc;obtain⟨m1,m2⟩:=hc;have h2:EG= .iface 414 (.pointer (some (el g))):=h2;subst h2;obtain⟨c1,T1,q1⟩:=hG.2.1 h m1;obtain⟨c2,T2,q2⟩:=hG.2.1 g m2;obtain⟨b,vo,T,hv,hm,ho⟩:=h1;subst hv;have ho:vo= .iface 414 (.pointer (some (el h))):=ho;subst ho;have ez:w.cell? ⟨b,1,none⟩=some (.iface 414 (.pointer (some (el h)))):=cellAt ct hm J
  by_cases e:h=g
  ·subst e;have hr:r=true:=by simpa using H.symm
   subst hr;exact(aeI b (el h) w ez).mono λe w' ⟨he,hw⟩=>⟨(),he,by subst hw;simpa using ct⟩
  ·have hr:r=false:=by rw[<-Option.some.inj H];exact wE e
   subst hr;exact(aeG b (el h) (el g) c1 c2 T1 T2 w ez (λq=>e (hG.2.2.1 h m1 g m2 (by simpa using q))) (ct.lookup q1) (ct.lookup q2)).mono λe w' ⟨he,hw⟩=>⟨(),he,by subst hw;simpa using ct⟩
 ·rename_i x0 m g;obtain⟨hc,H⟩:=az H;have h2:EG= .iface 414 (.pointer (some (el g))):=h2;subst h2;obtain⟨b,vo,T,hv,hm,ho⟩:=h1;subst hv;have ho:vo= .iface 148 (.int .i64 m):=ho;subst ho;have hr:r=false:=(Option.some.inj H).symm;subst hr;exact(aeF b m (el g) w (cellAt ct hm rfl)).mono λe w' ⟨he,hw⟩=>⟨(),he,by subst hw;simpa using ct⟩
 ·rename_i x0 h g;obtain⟨hc,H⟩:=az H;simp only[Bool.and_eq_true,List.contains_iff_mem] at hc;obtain⟨m1,m2⟩:=hc;have h2:EG= .iface 414 (.pointer (some (el g))):=h2;subst h2;obtain⟨c1,T1,q1⟩:=hG.2.1 h m1;obtain⟨c2,T2,q2⟩:=hG.2.1 g m2;obtain⟨b,vo,T,hv,hm,ho⟩:=h1;subst hv;have ho:vo= .iface 414 (.pointer (some (el h))):=ho;subst ho;have ez:w.cell? ⟨b,1,none⟩=some (.iface 414 (.pointer (some (el h)))):=cellAt ct hm J
  by_cases e:h=g
  ·subst e;have hr:r=true:=by simpa using H.symm
   subst hr;exact(aeJ b (el h) w ez).mono λe w' ⟨he,hw⟩=>⟨(),he,by subst hw;simpa using ct⟩
  ·have hr:r=false:=by rw[<-Option.some.inj H];exact wE e
   subst hr;exact(aeH b (el h) (el g) c1 c2 T1 T2 w ez (λq=>e (hG.2.2.1 h m1 g m2 (by simpa using q))) (ct.lookup q1) (ct.lookup q2)).mono λe w' ⟨he,hw⟩=>⟨(),he,by subst hw;simpa using ct⟩
 ·cases H
theorem GW {W w:World} {H:Hp} {b T:Nat} {c:Array Value} {o1 o2 o3 o4:Obj} {v:Value} (ow:bg W w ((b,.cells c T (0,0))::H)):
 bg W (((((w.alloc o1).alloc o2).alloc o3).alloc o4).setCell ⟨b,0,none⟩ v) ((b,.cells (c.setIfInBounds 0 v) T (0,0))::H):=by
 have h:=(((ow.alloc o1).alloc o2).alloc o3).alloc o4;have h2:bg W ((((w.alloc o1).alloc o2).alloc o3).alloc o4) ((b,.cells c T (0,0))::H):=h.sub (List.Sublist.cons _ (List.Sublist.cons _ (List.Sublist.cons _ (List.Sublist.cons _ (List.Sublist.refl _)))));exact h2.setCell
theorem Mk.n {el:Nat->Addr} {b:Nat} {x:Value} (F:Hp) (hG:fK 414 eZ hU el F):
 gG Tryz.prog 94 [.nilIface,.iface 344 (.pointer (some ⟨b,0,none⟩))] [[(b,Obj.cells #[x] 343 (0,0))],F] (λ_:Unit=> .bool false) (λ_=>[[(b,Obj.cells #[x] 343 (0,0))],F]):=by
 intro W w ow;exact(Lx _ w).mono λe w' ⟨he,hw⟩=>⟨(),he,by subst hw;exact ow⟩
theorem Mk.s {el:Nat->Addr} {b:Nat} (q:Nat) (F:Hp) (hG:fK 414 eZ hU el F):
 gG Tryz.prog 94 [.iface 343 (.pointer (some ⟨q,0,none⟩)),.iface 344 (.pointer (some ⟨b,0,none⟩))] [[(b,Obj.cells #[.pointer none] 343 (0,0))],F] (λ_:Unit=> .bool true) (λ_=>[[(b,Obj.cells #[.pointer (some ⟨q,0,none⟩)] 343 (0,0))],F]):=by
 intro W w ow;have ct:bg W w ((b,Obj.cells #[.pointer none] 343 (0,0))::F):=by simpa using ow
 obtain⟨TG,Rr,F4⟩:=hG.2.2.2 _ (List.mem_singleton.2 J);have hg:=ct.cell (off:=0) (List.mem_cons_of_mem _ F4) J;have kQ:=ct.cell (off:=0) (List.mem_cons_self ..) J;have oY:=ct.KS (off:=0) (List.mem_cons_self ..);exact(Yo ⟨q,0,none⟩ ⟨b,0,none⟩ (.pointer none) w hg kQ oY).mono λe w' ⟨he,hw⟩=>⟨(),he,by subst hw;simpa using GW ct⟩
def P0:Er->Bool
 | .nil=>true
 | .num _ _=>true
 | .wrap 110 [_] (.num 148 _)=>true
 |_=>false
def Fy.f (e:Er):Option (Option Int):=if P0 e then Er.Dm 148 e else none
theorem Fy.c {el:Nat->Addr} {tr:Value} {b:Nat} {aY:Int} (e:Er) (r:Option Int) (F:Hp) (H:Fy.f e=some r) (hG:fK 414 eZ hU el F) (h1:lI 414 el e tr F):
 gG Tryz.prog 94 [tr,.iface 160 (.pointer (some ⟨b,0,none⟩))] [[(b,Obj.cells #[.int .i64 aY] 148 (0,0))],F] (λ_:Unit=> .bool r.isSome) (λ_=>[[(b,Obj.cells #[.int .i64 (r.getD aY)] 148 (0,0))],F]):=by
 intro W w ow;have ct:bg W w ((b,Obj.cells #[.int .i64 aY] 148 (0,0))::F):=by simpa using ow
 obtain⟨TG,Rr,F4⟩:=hG.2.2.2 _ (List.mem_singleton.2 J);have hg:=ct.cell (off:=0) (List.mem_cons_of_mem _ F4) J;have kQ:=ct.cell (off:=0) (List.mem_cons_self ..) J;have oY:=ct.KS (off:=0) (List.mem_cons_self ..);unfold Fy.f at H;obtain⟨vh,H⟩:=az H;unfold P0 at vh;split at vh
 ·have h1:tr= .nilIface:=h1;subst h1;have hr:r=none:=(Option.some.inj H).symm;subst hr;exact(Lx _ w).mono λe w' ⟨he,hw⟩=>⟨(),he,by subst hw;exact ow⟩
 ·rename_i u m _;unfold Er.Dm at H;obtain⟨hu,H⟩:=az H;subst hu;have h1:tr= .iface 148 (.int .i64 m):=h1;subst h1;have hr:r=some m:=(Option.some.inj H).symm;subst hr;exact(Ym m ⟨b,0,none⟩ (.int .i64 aY) w hg kQ oY).mono λe w' ⟨he,hw⟩=>⟨(),he,by subst hw;simpa using GW ct⟩
 ·rename_i x0 m _;unfold Er.Dm at H;obtain⟨hu,H⟩:=az H;obtain⟨q,vo,T,hv,hm,ho⟩:=h1;subst hv;have ho:vo= .iface 148 (.int .i64 m):=ho;subst ho;have hr:r=some m:=(Option.some.inj H).symm;subst hr;have ez:=ct.cell (off:=1) (v:= .iface 148 (.int .i64 m)) (List.mem_cons_of_mem _ hm) J;exact(Yp m ⟨b,0,none⟩ (.int .i64 aY) w q hg kQ oY ez).mono λe w' ⟨he,hw⟩=>⟨(),he,by subst hw;simpa using GW ct⟩
 ·cases vh
def P1:Er->Bool
 | .nil=>true
 | .num _ _=>true
 | .wrap 301 [_] (.num 243 _)=>true
 |_=>false
def yx.f (e:Er):Option (Option Int):=if P1 e then Er.Dm 243 e else none
theorem yx.c {el:Nat->Addr} {tr:Value} {b:Nat} {aY:Int} (e:Er) (r:Option Int) (F:Hp) (H:yx.f e=some r) (hG:fK 414 eZ hU el F) (h1:lI 414 el e tr F):
 gG Tryz.prog 94 [tr,.iface 244 (.pointer (some ⟨b,0,none⟩))] [[(b,Obj.cells #[.int .i64 aY] 243 (0,0))],F] (λ_:Unit=> .bool r.isSome) (λ_=>[[(b,Obj.cells #[.int .i64 (r.getD aY)] 243 (0,0))],F]):=by
 intro W w ow;have ct:bg W w ((b,Obj.cells #[.int .i64 aY] 243 (0,0))::F):=by simpa using ow
 obtain⟨TG,Rr,F4⟩:=hG.2.2.2 _ (List.mem_singleton.2 J);have hg:=ct.cell (off:=0) (List.mem_cons_of_mem _ F4) J;have kQ:=ct.cell (off:=0) (List.mem_cons_self ..) J;have oY:=ct.KS (off:=0) (List.mem_cons_self ..);unfold yx.f at H;obtain⟨vh,H⟩:=az H;unfold P1 at vh;split at vh
 ·have h1:tr= .nilIface:=h1;subst h1;have hr:r=none:=(Option.some.inj H).symm;subst hr;exact(Lx _ w).mono λe w' ⟨he,hw⟩=>⟨(),he,by subst hw;exact ow⟩
 ·rename_i u m _;unfold Er.Dm at H;obtain⟨hu,H⟩:=az H;subst hu;have h1:tr= .iface 243 (.int .i64 m):=h1;subst h1;have hr:r=some m:=(Option.some.inj H).symm;subst hr;exact(Yn m ⟨b,0,none⟩ (.int .i64 aY) w hg kQ oY).mono λe w' ⟨he,hw⟩=>⟨(),he,by subst hw;simpa using GW ct⟩
 ·rename_i x0 m _;unfold Er.Dm at H;obtain⟨hu,H⟩:=az H;obtain⟨q,vo,T,hv,hm,ho⟩:=h1;subst hv;have ho:vo= .iface 243 (.int .i64 m):=ho;subst ho;have hr:r=some m:=(Option.some.inj H).symm;subst hr;have ez:=ct.cell (off:=1) (v:= .iface 243 (.int .i64 m)) (List.mem_cons_of_mem _ hm) J;exact(Yq m ⟨b,0,none⟩ (.int .i64 aY) w q hg kQ oY ez).mono λe w' ⟨he,hw⟩=>⟨(),he,by subst hw;simpa using GW ct⟩
 ·cases vh
end
end Go.Proofs.YthodkonhneebbaaGreatDoor
