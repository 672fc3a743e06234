/- Part of the proof. No condition. -/
import Derived.Test.YthodkonhneebbaaGreatDoorProg
import Derived.WalkKit
import Derived.LaidEql
import Derived.Stop.Asserts
import Derived.RowKitTokens
import Derived.KernelRfl
import Derived.Test.YthodkonhneebbaaGreatDoorKFHy
namespace Go.Proofs.YthodkonhneebbaaGreatDoor
set_option maxRecDepth 100000
set_option linter.unusedVariables false
set_option linter.unusedSimpArgs false
abbrev eZ:List Nat:=[0,2,3,4,5,6]
abbrev hU:List (Nat×Value):=[(1,.iface 262 (.agg #[.pointer (some ⟨8,106,none⟩)]))]
theorem aeu:Go.Hx.Pz Tryz.prog 296 22:=⟨⟨#[3],λargs w=>run_callFunc_extern (e:=Extern.BytealgMakeNoZero.makeNoZero #[3] #[22]) Tryz.func296 ay ay ay ay args w⟩⟩
section
open Go.RowKit Go.Extern.Stop Go.Stop Go.Extern
theorem B_ (v:Value) (w:World):(Extern.ReflectliteType.typeOf #[.iface 414 v]).run Tryz.prog w= .ok (.iface 262 (.agg #[.pointer (some ⟨8,414,none⟩)])) w:=ay
theorem B6 (w:World):(callFunc 335 #[.agg #[.pointer (some ⟨8,414,none⟩)]]).run Tryz.prog w= .ok (.value (.bool true)) w:=ay
theorem B8 (v : Value) (w : World) : (Go.method 546 262 v "Comparable").run Tryz.prog w = .ok (335, v) w := by kernel_rfl
theorem B7:(Tryz.prog.info? 414).map (·.comparable)=some true:=ay
theorem B9:(Tryz.prog.info? 434).map (·.size)=some 1:=ay
theorem Cn (v:Value) (xT:TypeId) (w:World):(Instr.typeAssert (.iface 414 v) xT 264 true).run Tryz.prog w= .ok (.tuple #[.nilIface,.bool false]) w:=run_typeAssert_lacksB Tryz.underlying264 ay ay v xT w
theorem Co (v:Value) (xT:TypeId) (w:World):(Instr.typeAssert (.iface 414 v) xT 267 true).run Tryz.prog w= .ok (.tuple #[.nilIface,.bool false]) w:=run_typeAssert_lacksB Tryz.underlying267 ay ay v xT w
theorem Cp (v:Value) (xT:TypeId) (w:World):(Instr.typeAssert (.iface 414 v) xT 269 true).run Tryz.prog w= .ok (.tuple #[.nilIface,.bool false]) w:=run_typeAssert_lacksB Tryz.underlying269 ay ay v xT w
theorem Ob (v:Value) (xT:TypeId) (w:World):(Instr.typeAssert (.iface 110 v) xT 264 true).run Tryz.prog w= .ok (.tuple #[.nilIface,.bool false]) w:=run_typeAssert_lacksB Tryz.underlying264 ay ay v xT w
theorem M8 (v:Value) (xT:TypeId) (w:World):(Instr.typeAssert (.iface 110 v) xT 267 true).run Tryz.prog w= .ok (.tuple #[.iface 110 v,.bool true]) w:=run_typeAssert_hasB Tryz.underlying267 ay v xT w
theorem N4 (v : Value) (w : World) : (Go.method 546 110 v "Unwrap").run Tryz.prog w = .ok (324, v) w := by kernel_rfl
theorem UK (v:Value) (xT:TypeId) (w:World):(Instr.typeAssert (.iface 222 v) xT 264 true).run Tryz.prog w= .ok (.tuple #[.nilIface,.bool false]) w:=run_typeAssert_lacksB Tryz.underlying264 ay ay v xT w
theorem S_ (v:Value) (xT:TypeId) (w:World):(Instr.typeAssert (.iface 222 v) xT 267 true).run Tryz.prog w= .ok (.tuple #[.iface 222 v,.bool true]) w:=run_typeAssert_hasB Tryz.underlying267 ay v xT w
theorem Uz (v : Value) (w : World) : (Go.method 546 222 v "Unwrap").run Tryz.prog w = .ok (331, v) w := by kernel_rfl
theorem afZ (v:Value) (xT:TypeId) (w:World):(Instr.typeAssert (.iface 148 v) xT 264 true).run Tryz.prog w= .ok (.tuple #[.nilIface,.bool false]) w:=run_typeAssert_lacksB Tryz.underlying264 ay ay v xT w
theorem af0 (v:Value) (xT:TypeId) (w:World):(Instr.typeAssert (.iface 148 v) xT 267 true).run Tryz.prog w= .ok (.tuple #[.nilIface,.bool false]) w:=run_typeAssert_lacksB Tryz.underlying267 ay ay v xT w
theorem af1 (v:Value) (xT:TypeId) (w:World):(Instr.typeAssert (.iface 148 v) xT 269 true).run Tryz.prog w= .ok (.tuple #[.nilIface,.bool false]) w:=run_typeAssert_lacksB Tryz.underlying269 ay ay v xT w
set_option maxHeartbeats 4000000 in
def C8:=PLift.up (@run_callFunc_extern Tryz.prog 130 _ (Extern.ReflectliteType.typeOf) Tryz.func130 ay ay ay ay)
def HO:=PLift.up (@run_callFunc_extern Tryz.prog 132 _ (λargs=>ReflectliteValue.unpack (args.getD 0 (.tuple #[]))) Tryz.func132 ay ay ay ay)
def HP := PLift.up (@run_callFunc_extern Tryz.prog 133 _ (ReflectliteValue.methodAny (ReflectliteValue.valueError "reflectlite.Value.Type" 0) (fun t _ _ _ => ReflectliteType.toType t)) Tryz.func133 ay ay ay ay)
def HQ := PLift.up (@run_callFunc_extern Tryz.prog 134 _ (ReflectliteValue.method (ReflectliteValue.valueError "reflectlite.Value.IsNil" 0) ReflectliteValue.isNil) Tryz.func134 ay ay ay ay)
def HJ:=PLift.up (@run_callFunc_extern Tryz.prog 320 _ (ReflectliteType.abiMethod λt=>do pure (.int .u8 (<-Rtype.kind t))) Tryz.func320 ay ay ay ay)
def HM:=PLift.up (@run_callFunc_extern Tryz.prog 336 _ (ReflectliteType.method ReflectliteType.elem) Tryz.func336 ay ay ay ay)
def HN := PLift.up (@run_callFunc_extern Tryz.prog 337 _ (ReflectliteType.relation "Implements" ReflectliteType.implements_) Tryz.func337 ay ay ay ay)
def HG:=PLift.up (@run_callFunc_extern Tryz.prog 130 _ (ReflectliteType.typeOf) Tryz.func130 ay ay ay ay)
def HK := PLift.up (@run_callFunc_extern Tryz.prog 334 _ (ReflectliteType.relation "AssignableTo" ReflectliteType.assignableTo) Tryz.func334 ay ay ay ay)
def HH := PLift.up (@run_callFunc_extern Tryz.prog 169 _ (ReflectliteValue.method (ReflectliteValue.valueError "reflectlite.Value.Elem" 0) ReflectliteValue.elem) Tryz.func169 ay ay ay ay)
def HI:=PLift.up (@run_callFunc_extern Tryz.prog 170 _ (ReflectliteValue.set) Tryz.func170 ay ay ay ay)
theorem tV {w:World} {a:Addr} {v:Value} (h:w.cell? a=some v):a.block<w.heap.size:=by
 rcases Nat.lt_or_ge a.block w.heap.size with q |q
 ·exact q
 ·simp[World.cell?,Array.getElem?_eq_none q] at h
theorem aew (b:Addr) (w:World):Calls Tryz.prog 93 #[.iface 414 (.pointer (some b)),.iface 414 (.pointer (some b))] w λe w'=>e= .returned (.bool true)/\w'=w:=by
 obtain⟨i,hi,tL⟩:=Option.map_eq_some_iff.1 B7;obtain⟨j,hj,yz⟩:=Option.map_eq_some_iff.1 B9;have h8:=C8.down;have DB:=B6;have tT:=B_;have mR:=B8;have nE:=Cn;have uE:=Co;have vE:=Cp;have heq:=run_eql_iface_ptr_same (P:=Tryz.prog) w b Tryz.underlying106 Tryz.underlying414 hi tL hj
 go_enter Tryz.func93,Tryz.ntmps93
 go_wp2
 refine wp_loop_rounds 1 ?_;rw[rounds_succ]
 go_wp2
 go_ret
 exact⟨J,J⟩
set_option maxHeartbeats 4000000 in
theorem aev (a b:Addr) (ca cb:Array Value) (ta tb:TypeId) (w:World) (bL:a≠b) (ha:w.heap[a.block]? =some (.cells ca ta (0,0))) (hb:w.heap[b.block]? =some (.cells cb tb (0,0))):Calls Tryz.prog 93 #[.iface 414 (.pointer (some a)),.iface 414 (.pointer (some b))] w λe w'=>e= .returned (.bool false)/\w'=w:=by
 obtain⟨i,hi,tL⟩:=Option.map_eq_some_iff.1 B7;obtain⟨j,hj,yz⟩:=Option.map_eq_some_iff.1 B9;have h8:=C8.down;have DB:=B6;have tT:=B_;have mR:=B8;have nE:=Cn;have uE:=Co;have vE:=Cp;have heq:=run_eql_iface_ptr_other (P:=Tryz.prog) w Tryz.underlying106 Tryz.underlying414 hi tL hj (by rw[yz];decide) bL ha hb
 go_enter Tryz.func93,Tryz.ntmps93
 go_wp2
 refine wp_loop_rounds 1 ?_;rw[rounds_succ]
 go_wp2
 go_ret
 exact⟨J,J⟩
set_option maxHeartbeats 8000000 in
theorem aeA (pb:Nat) (b:Addr) (w:World) (h1:w.cell? ⟨pb,1,none⟩=some (.iface 414 (.pointer (some b)))):Calls Tryz.prog 93 #[.iface 110 (.pointer (some ⟨pb,0,none⟩)),.iface 414 (.pointer (some b))] w λe w'=>e= .returned (.bool true)/\w'=w:=by
 obtain⟨i,hi,tL⟩:=Option.map_eq_some_iff.1 B7;obtain⟨j,hj,yz⟩:=Option.map_eq_some_iff.1 B9;have h8:=C8.down;have DB:=B6;have tT:=B_;have mR:=B8;have nE:=Cn;have uE:=Co;have vE:=Cp;have nW:=Ob;have uW:=M8;have mU:=N4;have B1:=run_eql_iface_types (P:=Tryz.prog) 110 414 (.pointer (some ⟨pb,0,none⟩)) (.pointer (some b)) Tryz.underlying106 (by decide) w
 have heq:=run_eql_iface_ptr_same (P:=Tryz.prog) w b Tryz.underlying106 Tryz.underlying414 hi tL hj
 go_enter Tryz.func93,Tryz.ntmps93
 go_wp2
 refine wp_loop_rounds 2 ?_;rw[rounds_succ]
 go_wp2
 rw[rounds_succ]
 go_wp2
 go_ret
 exact⟨J,J⟩
set_option maxHeartbeats 8000000 in
theorem aey (pb:Nat) (a b:Addr) (ca cb:Array Value) (ta tb:TypeId) (w:World) (h1:w.cell? ⟨pb,1,none⟩=some (.iface 414 (.pointer (some a)))) (bL:a≠b) (ha:w.heap[a.block]? =some (.cells ca ta (0,0))) (hb:w.heap[b.block]? =some (.cells cb tb (0,0))):Calls Tryz.prog 93 #[.iface 110 (.pointer (some ⟨pb,0,none⟩)),.iface 414 (.pointer (some b))] w λe w'=>e= .returned (.bool false)/\w'=w:=by
 obtain⟨i,hi,tL⟩:=Option.map_eq_some_iff.1 B7;obtain⟨j,hj,yz⟩:=Option.map_eq_some_iff.1 B9;have h8:=C8.down;have DB:=B6;have tT:=B_;have mR:=B8;have nE:=Cn;have uE:=Co;have vE:=Cp;have nW:=Ob;have uW:=M8;have mU:=N4;have B1:=run_eql_iface_types (P:=Tryz.prog) 110 414 (.pointer (some ⟨pb,0,none⟩)) (.pointer (some b)) Tryz.underlying106 (by decide) w
 have heq:=run_eql_iface_ptr_other (P:=Tryz.prog) w Tryz.underlying106 Tryz.underlying414 hi tL hj (by rw[yz];decide) bL ha hb
 go_enter Tryz.func93,Tryz.ntmps93
 go_wp2
 refine wp_loop_rounds 2 ?_;rw[rounds_succ]
 go_wp2
 rw[rounds_succ]
 go_wp2
 go_ret
 exact⟨J,J⟩
set_option maxHeartbeats 8000000 in
theorem aex (pb:Nat) (m:Int) (b:Addr) (w:World) (h1:w.cell? ⟨pb,1,none⟩=some (.iface 148 (.int .i64 m))):Calls Tryz.prog 93 #[.iface 110 (.pointer (some ⟨pb,0,none⟩)),.iface 414 (.pointer (some b))] w λe w'=>e= .returned (.bool false)/\w'=w:=by
 obtain⟨i,hi,tL⟩:=Option.map_eq_some_iff.1 B7;obtain⟨j,hj,yz⟩:=Option.map_eq_some_iff.1 B9;have h8:=C8.down;have DB:=B6;have tT:=B_;have mR:=B8;have nE:=Cn;have uE:=Co;have vE:=Cp;have nW:=Ob;have uW:=M8;have mU:=N4;have B1:=run_eql_iface_types (P:=Tryz.prog) 110 414 (.pointer (some ⟨pb,0,none⟩)) (.pointer (some b)) Tryz.underlying106 (by decide) w
 have nN:=afZ;have uN:=af0;have vN:=af1;have htn:=run_eql_iface_types (P:=Tryz.prog) 148 414 (.int .i64 m) (.pointer (some b)) Tryz.underlying106 (by decide) w
 go_enter Tryz.func93,Tryz.ntmps93
 go_wp2
 refine wp_loop_rounds 2 ?_;rw[rounds_succ]
 go_wp2
 rw[rounds_succ]
 go_wp2
 go_ret
 exact⟨J,J⟩
set_option maxHeartbeats 8000000 in
theorem aeB (pb:Nat) (b:Addr) (w:World) (h1:w.cell? ⟨pb,1,none⟩=some (.iface 414 (.pointer (some b)))):Calls Tryz.prog 93 #[.iface 222 (.pointer (some ⟨pb,0,none⟩)),.iface 414 (.pointer (some b))] w λe w'=>e= .returned (.bool true)/\w'=w:=by
 obtain⟨i,hi,tL⟩:=Option.map_eq_some_iff.1 B7;obtain⟨j,hj,yz⟩:=Option.map_eq_some_iff.1 B9;have h8:=C8.down;have DB:=B6;have tT:=B_;have mR:=B8;have nE:=Cn;have uE:=Co;have vE:=Cp;have nW:=UK;have uW:=S_;have mU:=Uz;have B1:=run_eql_iface_types (P:=Tryz.prog) 222 414 (.pointer (some ⟨pb,0,none⟩)) (.pointer (some b)) Tryz.underlying106 (by decide) w
 have heq:=run_eql_iface_ptr_same (P:=Tryz.prog) w b Tryz.underlying106 Tryz.underlying414 hi tL hj
 go_enter Tryz.func93,Tryz.ntmps93
 go_wp2
 refine wp_loop_rounds 2 ?_;rw[rounds_succ]
 go_wp2
 rw[rounds_succ]
 go_wp2
 go_ret
 exact⟨J,J⟩
set_option maxHeartbeats 8000000 in
theorem aez (pb:Nat) (a b:Addr) (ca cb:Array Value) (ta tb:TypeId) (w:World) (h1:w.cell? ⟨pb,1,none⟩=some (.iface 414 (.pointer (some a)))) (bL:a≠b) (ha:w.heap[a.block]? =some (.cells ca ta (0,0))) (hb:w.heap[b.block]? =some (.cells cb tb (0,0))):Calls Tryz.prog 93 #[.iface 222 (.pointer (some ⟨pb,0,none⟩)),.iface 414 (.pointer (some b))] w λe w'=>e= .returned (.bool false)/\w'=w:=by
 obtain⟨i,hi,tL⟩:=Option.map_eq_some_iff.1 B7;obtain⟨j,hj,yz⟩:=Option.map_eq_some_iff.1 B9;have h8:=C8.down;have DB:=B6;have tT:=B_;have mR:=B8;have nE:=Cn;have uE:=Co;have vE:=Cp;have nW:=UK;have uW:=S_;have mU:=Uz;have B1:=run_eql_iface_types (P:=Tryz.prog) 222 414 (.pointer (some ⟨pb,0,none⟩)) (.pointer (some b)) Tryz.underlying106 (by decide) w
 have heq:=run_eql_iface_ptr_other (P:=Tryz.prog) w Tryz.underlying106 Tryz.underlying414 hi tL hj (by rw[yz];decide) bL ha hb
 go_enter Tryz.func93,Tryz.ntmps93
 go_wp2
 refine wp_loop_rounds 2 ?_;rw[rounds_succ]
 go_wp2
 rw[rounds_succ]
 go_wp2
 go_ret
 exact⟨J,J⟩
theorem Ls (t:Value) (w:World):Calls Tryz.prog 94 #[.nilIface,t] w λe w'=>e= .returned (.bool false)/\w'=w:=by
 go_enter Tryz.func94,Tryz.ntmps94
 go_wp2
 go_ret
 exact⟨J,J⟩
theorem Eg (z:Sem Value) (f:TypeId->Addr->Nat->Nat->Sem Value) (v:Value):
 ReflectliteValue.method z f #[v]=(do match<-ReflectliteValue.parts v with |none=>z |some (t,a,fl)=>f t a fl (fl%32)):=rfl
theorem OD (v x:Value):ReflectliteValue.set #[v,x]=(do
 let(some (dst,a,fl),some (src,b,_)):=(<-ReflectliteValue.parts v,<-ReflectliteValue.parts x)
  | unsupported (.noEntry "extern/(internal/reflectlite.Value).Set.zeroValue")
 if fl / ReflectliteValue.flagAddr % 2 == 0 then unsupported (.noEntry "extern/(internal/reflectlite.Value).Set.unaddressable")
 let val<-loadVar src b
 if<-Rtype.directlyAssignable dst src then storeVar dst a val
 else if<-Rtype.implements dst src then
  if(<-Rtype.kind src)==20 then
   match val with
   | .nilIface => unsupported (.noEntry "extern/reflectlite: a nil value of one interface type handed on as a value of another")
   |_=>storeVar dst a val
  else storeVar dst a (.iface src val)
 else panicString ("reflectlite.Set: value of type " ++ (← Rtype.spelt src) ++ " is not assignable to type " ++ (← Rtype.spelt dst))
 pure (.tuple #[])):=rfl
theorem GA (h : Value) (w : World) : (Go.method 546 262 (.agg #[h]) "Kind").run Tryz.prog w = .ok (320, h) w := by kernel_rfl
theorem Gy (h : Value) (w : World) : (Go.method 546 262 (.agg #[h]) "Elem").run Tryz.prog w = .ok (336, .agg #[h]) w := by kernel_rfl
theorem Gz (h : Value) (w : World) : (Go.method 546 262 (.agg #[h]) "Implements").run Tryz.prog w = .ok (337, .agg #[h]) w := by kernel_rfl
theorem Gx (h : Value) (w : World) : (Go.method 546 262 (.agg #[h]) "AssignableTo").run Tryz.prog w = .ok (334, .agg #[h]) w := by kernel_rfl
theorem agW (t:Addr) (w:World):(ReflectliteValue.unpack (.iface 344 (.pointer (some t)))).run Tryz.prog w
 = .ok (.agg #[.pointer (some ⟨8,344,none⟩),.pointer (some ⟨w.heap.size,0,none⟩),.int .u64 150]) (w.alloc (.cells #[.pointer (some t)] 344)):=ay
theorem agU (a : Addr) (w : World) : (ReflectliteValue.methodAny (ReflectliteValue.valueError "reflectlite.Value.Type" 0) (fun t _ _ _ => ReflectliteType.toType t) #[.agg #[.pointer (some ⟨8, 344, none⟩), .pointer (some a), .int .u64 150]]).run Tryz.prog w
 = .ok (.iface 262 (.agg #[.pointer (some ⟨8,344,none⟩)])) w:=ay
theorem agO (w:World):((ReflectliteType.abiMethod λt=>(λa:Nat=>Value.int IntKind.u8 (a:Int)) <$> Rtype.kind t) #[.pointer (some ⟨8,344,none⟩)]).run Tryz.prog w= .ok (.int .u8 22) w:=ay
theorem agN (w:World):((ReflectliteType.abiMethod λt=>(λa:Nat=>Value.int IntKind.u8 (a:Int)) <$> Rtype.kind t) #[.pointer (some ⟨8,343,none⟩)]).run Tryz.prog w= .ok (.int .u8 22) w:=ay
theorem VJ (a:Addr) (w:World):(ReflectliteValue.parts (.agg #[.pointer (some ⟨8,344,none⟩),.pointer (some a),.int .u64 150])).run Tryz.prog w= .ok (some (344,a,150)) w:=ay
theorem agM (a p:Addr) (W:World) (ha:W.cell? a=some (.pointer (some p))):
 (ReflectliteValue.method (ReflectliteValue.valueError "reflectlite.Value.IsNil" 0) ReflectliteValue.isNil #[.agg #[.pointer (some ⟨8, 344, none⟩), .pointer (some a), .int .u64 150]]).run Tryz.prog W = .ok (.bool false) W := by
 rw[Eg];simp only[Sem.run_bind,VJ,Result.andThen];simp[ReflectliteValue.isNil,loadVar,isAgg,underlying,Tryz.underlying344,ha,Result.andThen]
theorem agI (w:World):(ReflectliteType.method ReflectliteType.elem #[.agg #[.pointer (some ⟨8,344,none⟩)]]).run Tryz.prog w= .ok (.iface 262 (.agg #[.pointer (some ⟨8,343,none⟩)])) w:=ay
theorem agL (w : World) : (ReflectliteType.relation "Implements" ReflectliteType.implements_ #[.agg #[.pointer (some ⟨8, 343, none⟩)], .iface 262 (.agg #[.pointer (some ⟨8, 106, none⟩)])]).run Tryz.prog w = .ok (.bool true) w := by kernel_rfl
theorem agV (v:Value) (w:World):(ReflectliteType.typeOf #[.iface 343 v]).run Tryz.prog w= .ok (.iface 262 (.agg #[.pointer (some ⟨8,343,none⟩)])) w:=ay
theorem agG (w : World) : (ReflectliteType.relation "AssignableTo" ReflectliteType.assignableTo #[.agg #[.pointer (some ⟨8, 343, none⟩)], .iface 262 (.agg #[.pointer (some ⟨8, 343, none⟩)])]).run Tryz.prog w = .ok (.bool true) w := by kernel_rfl
theorem agX (e:Addr) (w:World):(ReflectliteValue.unpack (.iface 343 (.pointer (some e)))).run Tryz.prog w
 = .ok (.agg #[.pointer (some ⟨8,343,none⟩),.pointer (some ⟨w.heap.size,0,none⟩),.int .u64 150]) (w.alloc (.cells #[.pointer (some e)] 343)):=ay
theorem agJ (w:World):(Rtype.elem? 344).run Tryz.prog w= .ok (some 343) w:=ay
theorem agP (p:Addr) (w:World):(ReflectliteValue.mk 343 p ReflectliteValue.flagAddr).run Tryz.prog w= .ok (.agg #[.pointer (some ⟨8,343,none⟩),.pointer (some p),.int .u64 406]) w:=ay
theorem agK (a p:Addr) (W:World) (ha:W.cell? a=some (.pointer (some p))):
 (ReflectliteValue.method (ReflectliteValue.valueError "reflectlite.Value.Elem" 0) ReflectliteValue.elem #[.agg #[.pointer (some ⟨8, 344, none⟩), .pointer (some a), .int .u64 150]]).run Tryz.prog W
  = .ok (.agg #[.pointer (some ⟨8,343,none⟩),.pointer (some p),.int .u64 406]) W:=by
 rw[Eg];simp only[Sem.run_bind,VJ,Result.andThen];simp[ReflectliteValue.elem,loadVar,isAgg,underlying,Tryz.underlying344,ha,Result.andThen,agJ,agP]
theorem agQ (a:Addr) (w:World):(ReflectliteValue.parts (.agg #[.pointer (some ⟨8,343,none⟩),.pointer (some a),.int .u64 406])).run Tryz.prog w= .ok (some (343,a,406)) w:=ay
theorem agR (a:Addr) (w:World):(ReflectliteValue.parts (.agg #[.pointer (some ⟨8,343,none⟩),.pointer (some a),.int .u64 150])).run Tryz.prog w= .ok (some (343,a,150)) w:=ay
theorem agH (w:World):(Rtype.directlyAssignable 343 343).run Tryz.prog w= .ok true w:=ay
theorem agT (w:World):(sizeOf 343).run Tryz.prog w= .ok 1 w:=ay
theorem agS (ta b:Addr) (e:Addr) (aZ:Value) (W:World) (hb:W.cell? b=some (.pointer (some e))) (ht:W.cell? ta=some aZ) (hf:W.frozen? ta=false):
 (ReflectliteValue.set #[.agg #[.pointer (some ⟨8,343,none⟩),.pointer (some ta),.int .u64 406],.agg #[.pointer (some ⟨8,343,none⟩),.pointer (some b),.int .u64 150]]).run Tryz.prog W
   = .ok (.tuple #[]) (W.setCell ta (.pointer (some e))):=by
 rw[OD];simp only[Sem.run_bind,agQ,agR,Result.andThen];simp[ReflectliteValue.flagAddr,loadVar,isAgg,underlying,Tryz.underlying343,hb,Result.andThen,agH,storeVar,Value.cells,storeCells,Addr.add,agT];rw[run_store Tryz.prog W ta _ _ (by rfl)]
 simp[ht,hf]
set_option maxHeartbeats 16000000 in
theorem Yf (e:Addr) (t:Addr) (aZ:Value) (w:World) (hg:w.cell? ⟨1,0,none⟩=some (.iface 262 (.agg #[.pointer (some ⟨8,106,none⟩)]))) (kU:w.cell? t=some aZ) (o0:w.frozen? t=false):
 Calls Tryz.prog 94 #[.iface 343 (.pointer (some e)),.iface 344 (.pointer (some t))] w λev w'=>ev= .returned (.bool true)/\w'=((((w.alloc (.cells #[.pointer (some t)] 344)).alloc (.cells #[.pointer (some ⟨8,344,none⟩),.pointer (some ⟨w.heap.size,0,none⟩),.int .u64 150] 204)).alloc (.cells #[.pointer (some ⟨8,344,none⟩),.pointer (some ⟨w.heap.size,0,none⟩),.int .u64 150] 204)).alloc (.cells #[.pointer (some e)] 343)).setCell t (.pointer (some e)):=by
 have h6:=HO.down;have h7:=HP.down;have h8:=HQ.down;have I8:=HJ.down;have I_:=HM.down;have I':=HN.down;have I5:=HG.down;have I9:=HK.down;have I6:=HH.down;have I7:=HI.down;have tO:=agV;have mA:=Gx;have a25:=agG;have v25:=agX;have f6:=agW;have f7:=agU;have mK:=GA;have mE:=Gy;have mI:=Gz;have wU:=agO;have JS:=agN;have BH:=agI;have i25:=agL;have n8:=agM ⟨w.heap.size,0,none⟩ t ((w.alloc (.cells #[.pointer (some t)] 344)).alloc (.cells #[.pointer (some ⟨8,344,none⟩),.pointer (some ⟨w.heap.size,0,none⟩),.int .u64 150] 204)) bk;have aQ:1<w.heap.size:=tV hg;have Jt:((w.alloc (.cells #[.pointer (some t)] 344)).alloc (.cells #[.pointer (some ⟨8,344,none⟩),.pointer (some ⟨w.heap.size,0,none⟩),.int .u64 150] 204)).cell? ⟨1,0,none⟩=some (.iface 262 (.agg #[.pointer (some ⟨8,106,none⟩)])):=by
  rw[World.cell?_alloc_lt _ _ ⟨1,0,none⟩ (by first |(simp;done) |(simp;omega)),World.cell?_alloc_lt _ _ ⟨1,0,none⟩ aQ];exact hg
 have oe:t.block<w.heap.size:=tV kU;have el:=agK ⟨w.heap.size,0,none⟩ t (((w.alloc (.cells #[.pointer (some t)] 344)).alloc (.cells #[.pointer (some ⟨8,344,none⟩),.pointer (some ⟨w.heap.size,0,none⟩),.int .u64 150] 204)).alloc (.cells #[.pointer (some ⟨8,344,none⟩),.pointer (some ⟨w.heap.size,0,none⟩),.int .u64 150] 204)) (by rw[World.cell?_alloc_lt _ _ ⟨w.heap.size,0,none⟩ (by first |(simp;done) |(simp;omega))];simp)
 have st:=agS t ⟨w.heap.size+1+1+1,0,none⟩ e aZ ((((w.alloc (.cells #[.pointer (some t)] 344)).alloc (.cells #[.pointer (some ⟨8,344,none⟩),.pointer (some ⟨w.heap.size,0,none⟩),.int .u64 150] 204)).alloc (.cells #[.pointer (some ⟨8,344,none⟩),.pointer (some ⟨w.heap.size,0,none⟩),.int .u64 150] 204)).alloc (.cells #[.pointer (some e)] 343))
  (by rw[World.cell?_alloc_at _ _ _ _ bk];rfl)
  (by rw[World.cell?_alloc_lt _ _ t (by first |(simp;done) |(simp;omega)),World.cell?_alloc_lt _ _ t (by first |(simp;done) |(simp;omega)),World.cell?_alloc_lt _ _ t (by first |(simp;done) |(simp;omega)),World.cell?_alloc_lt _ _ t oe];exact kU)
  (by rw[World.frozen?_alloc_old _ _ t (by first |(simp;done) |(simp;omega)),World.frozen?_alloc_old _ _ t (by first |(simp;done) |(simp;omega)),World.frozen?_alloc_old _ _ t (by first |(simp;done) |(simp;omega)),World.frozen?_alloc_old _ _ t (Nat.ne_of_lt oe)];exact o0)
 go_enter Tryz.func94,Tryz.ntmps94
 go_wp2
 refine wp_loop_rounds 1 ?_;rw[rounds_succ]
 go_wp2
 go_ret
 exact⟨J,J⟩
theorem Vs (t:Addr) (w:World):(ReflectliteValue.unpack (.iface 160 (.pointer (some t)))).run Tryz.prog w
 = .ok (.agg #[.pointer (some ⟨8,160,none⟩),.pointer (some ⟨w.heap.size,0,none⟩),.int .u64 150]) (w.alloc (.cells #[.pointer (some t)] 160)):=ay
theorem Vq (a : Addr) (w : World) : (ReflectliteValue.methodAny (ReflectliteValue.valueError "reflectlite.Value.Type" 0) (fun t _ _ _ => ReflectliteType.toType t) #[.agg #[.pointer (some ⟨8, 160, none⟩), .pointer (some a), .int .u64 150]]).run Tryz.prog w
 = .ok (.iface 262 (.agg #[.pointer (some ⟨8,160,none⟩)])) w:=ay
theorem Vn (w:World):((ReflectliteType.abiMethod λt=>(λa:Nat=>Value.int IntKind.u8 (a:Int)) <$> Rtype.kind t) #[.pointer (some ⟨8,160,none⟩)]).run Tryz.prog w= .ok (.int .u8 22) w:=ay
theorem Vm (w:World):((ReflectliteType.abiMethod λt=>(λa:Nat=>Value.int IntKind.u8 (a:Int)) <$> Rtype.kind t) #[.pointer (some ⟨8,148,none⟩)]).run Tryz.prog w= .ok (.int .u8 2) w:=ay
theorem Vo (a:Addr) (w:World):(ReflectliteValue.parts (.agg #[.pointer (some ⟨8,160,none⟩),.pointer (some a),.int .u64 150])).run Tryz.prog w= .ok (some (160,a,150)) w:=ay
theorem Vl (a p:Addr) (W:World) (ha:W.cell? a=some (.pointer (some p))):
 (ReflectliteValue.method (ReflectliteValue.valueError "reflectlite.Value.IsNil" 0) ReflectliteValue.isNil #[.agg #[.pointer (some ⟨8, 160, none⟩), .pointer (some a), .int .u64 150]]).run Tryz.prog W = .ok (.bool false) W := by
 rw[Eg];simp only[Sem.run_bind,Vo,Result.andThen];simp[ReflectliteValue.isNil,loadVar,isAgg,underlying,Tryz.underlying160,ha,Result.andThen]
theorem Vi (w:World):(ReflectliteType.method ReflectliteType.elem #[.agg #[.pointer (some ⟨8,160,none⟩)]]).run Tryz.prog w= .ok (.iface 262 (.agg #[.pointer (some ⟨8,148,none⟩)])) w:=ay
theorem Vk (w : World) : (ReflectliteType.relation "Implements" ReflectliteType.implements_ #[.agg #[.pointer (some ⟨8, 148, none⟩)], .iface 262 (.agg #[.pointer (some ⟨8, 106, none⟩)])]).run Tryz.prog w = .ok (.bool true) w := by kernel_rfl
theorem Vr (v:Value) (w:World):(ReflectliteType.typeOf #[.iface 148 v]).run Tryz.prog w= .ok (.iface 262 (.agg #[.pointer (some ⟨8,148,none⟩)])) w:=ay
theorem Vh (w : World) : (ReflectliteType.relation "AssignableTo" ReflectliteType.assignableTo #[.agg #[.pointer (some ⟨8, 148, none⟩)], .iface 262 (.agg #[.pointer (some ⟨8, 148, none⟩)])]).run Tryz.prog w = .ok (.bool true) w := by kernel_rfl
theorem Vt (e:Int) (w:World):(ReflectliteValue.unpack (.iface 148 (.int .i64 e))).run Tryz.prog w
 = .ok (.agg #[.pointer (some ⟨8,148,none⟩),.pointer (some ⟨w.heap.size,0,none⟩),.int .u64 130]) (w.alloc (.cells #[.int .i64 e] 148)):=ay
theorem agv (w:World):(Rtype.elem? 160).run Tryz.prog w= .ok (some 148) w:=ay
theorem agw (p:Addr) (w:World):(ReflectliteValue.mk 148 p ReflectliteValue.flagAddr).run Tryz.prog w= .ok (.agg #[.pointer (some ⟨8,148,none⟩),.pointer (some p),.int .u64 386]) w:=ay
theorem Vj (a p:Addr) (W:World) (ha:W.cell? a=some (.pointer (some p))):
 (ReflectliteValue.method (ReflectliteValue.valueError "reflectlite.Value.Elem" 0) ReflectliteValue.elem #[.agg #[.pointer (some ⟨8, 160, none⟩), .pointer (some a), .int .u64 150]]).run Tryz.prog W
  = .ok (.agg #[.pointer (some ⟨8,148,none⟩),.pointer (some p),.int .u64 386]) W:=by
 rw[Eg];simp only[Sem.run_bind,Vo,Result.andThen];simp[ReflectliteValue.elem,loadVar,isAgg,underlying,Tryz.underlying160,ha,Result.andThen,agv,agw]
theorem agx (a:Addr) (w:World):(ReflectliteValue.parts (.agg #[.pointer (some ⟨8,148,none⟩),.pointer (some a),.int .u64 386])).run Tryz.prog w= .ok (some (148,a,386)) w:=ay
theorem agy (a:Addr) (w:World):(ReflectliteValue.parts (.agg #[.pointer (some ⟨8,148,none⟩),.pointer (some a),.int .u64 130])).run Tryz.prog w= .ok (some (148,a,130)) w:=ay
theorem agu (w:World):(Rtype.directlyAssignable 148 148).run Tryz.prog w= .ok true w:=ay
theorem agz (w:World):(sizeOf 148).run Tryz.prog w= .ok 1 w:=ay
theorem Vp (ta b:Addr) (e:Int) (aZ:Value) (W:World) (hb:W.cell? b=some (.int .i64 e)) (ht:W.cell? ta=some aZ) (hf:W.frozen? ta=false):
 (ReflectliteValue.set #[.agg #[.pointer (some ⟨8,148,none⟩),.pointer (some ta),.int .u64 386],.agg #[.pointer (some ⟨8,148,none⟩),.pointer (some b),.int .u64 130]]).run Tryz.prog W
   = .ok (.tuple #[]) (W.setCell ta (.int .i64 e)):=by
 rw[OD];simp only[Sem.run_bind,agx,agy,Result.andThen];simp[ReflectliteValue.flagAddr,loadVar,isAgg,underlying,Tryz.underlying148,hb,Result.andThen,agu,storeVar,Value.cells,storeCells,Addr.add,agz];rw[run_store Tryz.prog W ta _ _ (by rfl)]
 simp[ht,hf]
set_option maxHeartbeats 16000000 in
theorem Yd (e:Int) (t:Addr) (aZ:Value) (w:World) (hg:w.cell? ⟨1,0,none⟩=some (.iface 262 (.agg #[.pointer (some ⟨8,106,none⟩)]))) (kU:w.cell? t=some aZ) (o0:w.frozen? t=false):
 Calls Tryz.prog 94 #[.iface 148 (.int .i64 e),.iface 160 (.pointer (some t))] w λev w'=>ev= .returned (.bool true)/\w'=((((w.alloc (.cells #[.pointer (some t)] 160)).alloc (.cells #[.pointer (some ⟨8,160,none⟩),.pointer (some ⟨w.heap.size,0,none⟩),.int .u64 150] 204)).alloc (.cells #[.pointer (some ⟨8,160,none⟩),.pointer (some ⟨w.heap.size,0,none⟩),.int .u64 150] 204)).alloc (.cells #[.int .i64 e] 148)).setCell t (.int .i64 e):=by
 have h6:=HO.down;have h7:=HP.down;have h8:=HQ.down;have I8:=HJ.down;have I_:=HM.down;have I':=HN.down;have I5:=HG.down;have I9:=HK.down;have I6:=HH.down;have I7:=HI.down;have tO:=Vr;have mA:=Gx;have a25:=Vh;have v25:=Vt;have f6:=Vs;have f7:=Vq;have mK:=GA;have mE:=Gy;have mI:=Gz;have wU:=Vn;have JS:=Vm;have BH:=Vi;have i25:=Vk;have n8:=Vl ⟨w.heap.size,0,none⟩ t ((w.alloc (.cells #[.pointer (some t)] 160)).alloc (.cells #[.pointer (some ⟨8,160,none⟩),.pointer (some ⟨w.heap.size,0,none⟩),.int .u64 150] 204)) bk;have aQ:1<w.heap.size:=tV hg;have Jt:((w.alloc (.cells #[.pointer (some t)] 160)).alloc (.cells #[.pointer (some ⟨8,160,none⟩),.pointer (some ⟨w.heap.size,0,none⟩),.int .u64 150] 204)).cell? ⟨1,0,none⟩=some (.iface 262 (.agg #[.pointer (some ⟨8,106,none⟩)])):=by
  rw[World.cell?_alloc_lt _ _ ⟨1,0,none⟩ (by first |(simp;done) |(simp;omega)),World.cell?_alloc_lt _ _ ⟨1,0,none⟩ aQ];exact hg
 have oe:t.block<w.heap.size:=tV kU;have el:=Vj ⟨w.heap.size,0,none⟩ t (((w.alloc (.cells #[.pointer (some t)] 160)).alloc (.cells #[.pointer (some ⟨8,160,none⟩),.pointer (some ⟨w.heap.size,0,none⟩),.int .u64 150] 204)).alloc (.cells #[.pointer (some ⟨8,160,none⟩),.pointer (some ⟨w.heap.size,0,none⟩),.int .u64 150] 204)) (by rw[World.cell?_alloc_lt _ _ ⟨w.heap.size,0,none⟩ (by first |(simp;done) |(simp;omega))];simp)
 have st:=Vp t ⟨w.heap.size+1+1+1,0,none⟩ e aZ ((((w.alloc (.cells #[.pointer (some t)] 160)).alloc (.cells #[.pointer (some ⟨8,160,none⟩),.pointer (some ⟨w.heap.size,0,none⟩),.int .u64 150] 204)).alloc (.cells #[.pointer (some ⟨8,160,none⟩),.pointer (some ⟨w.heap.size,0,none⟩),.int .u64 150] 204)).alloc (.cells #[.int .i64 e] 148))
  (by rw[World.cell?_alloc_at _ _ _ _ bk];rfl)
  (by rw[World.cell?_alloc_lt _ _ t (by first |(simp;done) |(simp;omega)),World.cell?_alloc_lt _ _ t (by first |(simp;done) |(simp;omega)),World.cell?_alloc_lt _ _ t (by first |(simp;done) |(simp;omega)),World.cell?_alloc_lt _ _ t oe];exact kU)
  (by rw[World.frozen?_alloc_old _ _ t (by first |(simp;done) |(simp;omega)),World.frozen?_alloc_old _ _ t (by first |(simp;done) |(simp;omega)),World.frozen?_alloc_old _ _ t (by first |(simp;done) |(simp;omega)),World.frozen?_alloc_old _ _ t (Nat.ne_of_lt oe)];exact o0)
 go_enter Tryz.func94,Tryz.ntmps94
 go_wp2
 refine wp_loop_rounds 1 ?_;rw[rounds_succ]
 go_wp2
 go_ret
 exact⟨J,J⟩
theorem X7 (v:Value) (xT:TypeId) (w:World):(Instr.typeAssert (.iface 110 v) xT 274 true).run Tryz.prog w= .ok (.tuple #[.nilIface,.bool false]) w:=run_typeAssert_lacksB Tryz.underlying274 ay ay v xT w
theorem Yb (v:Value) (xT:TypeId) (w:World):(Instr.typeAssert (.iface 110 v) xT 267 true).run Tryz.prog w= .ok (.tuple #[.iface 110 v,.bool true]) w:=run_typeAssert_hasB Tryz.underlying267 ay v xT w
theorem X3 (v : Value) (w : World) : (Go.method 546 110 v "Unwrap").run Tryz.prog w = .ok (324, v) w := by kernel_rfl
theorem X' (v:Value) (w:World):(ReflectliteType.typeOf #[.iface 110 v]).run Tryz.prog w= .ok (.iface 262 (.agg #[.pointer (some ⟨8,110,none⟩)])) w:=ay
theorem XZ (w : World) : (ReflectliteType.relation "AssignableTo" ReflectliteType.assignableTo #[.agg #[.pointer (some ⟨8, 110, none⟩)], .iface 262 (.agg #[.pointer (some ⟨8, 148, none⟩)])]).run Tryz.prog w = .ok (.bool false) w := by kernel_rfl
set_option maxHeartbeats 16000000 in
theorem Yg (e:Int) (t:Addr) (aZ:Value) (w:World) (pb:Nat) (hg:w.cell? ⟨1,0,none⟩=some (.iface 262 (.agg #[.pointer (some ⟨8,106,none⟩)]))) (kU:w.cell? t=some aZ) (o0:w.frozen? t=false) (h1:w.cell? ⟨pb,1,none⟩=some (.iface 148 (.int .i64 e))):
 Calls Tryz.prog 94 #[.iface 110 (.pointer (some ⟨pb,0,none⟩)),.iface 160 (.pointer (some t))] w λev w'=>ev= .returned (.bool true)/\w'=((((w.alloc (.cells #[.pointer (some t)] 160)).alloc (.cells #[.pointer (some ⟨8,160,none⟩),.pointer (some ⟨w.heap.size,0,none⟩),.int .u64 150] 204)).alloc (.cells #[.pointer (some ⟨8,160,none⟩),.pointer (some ⟨w.heap.size,0,none⟩),.int .u64 150] 204)).alloc (.cells #[.int .i64 e] 148)).setCell t (.int .i64 e):=by
 have h6:=HO.down;have h7:=HP.down;have h8:=HQ.down;have I8:=HJ.down;have I_:=HM.down;have I':=HN.down;have I5:=HG.down;have I9:=HK.down;have I6:=HH.down;have I7:=HI.down;have tO:=Vr;have mA:=Gx;have a25:=Vh;have v25:=Vt;have f6:=Vs;have f7:=Vq;have mK:=GA;have mE:=Gy;have mI:=Gz;have wU:=Vn;have JS:=Vm;have BH:=Vi;have i25:=Vk;have oN:=X7;have oU:=Yb;have oM:=X3;have oT:=X';have oF:=XZ;have mL:pb<w.heap.size:=tV h1;have h1a:(((w.alloc (.cells #[.pointer (some t)] 160)).alloc (.cells #[.pointer (some ⟨8,160,none⟩),.pointer (some ⟨w.heap.size,0,none⟩),.int .u64 150] 204)).alloc (.cells #[.pointer (some ⟨8,160,none⟩),.pointer (some ⟨w.heap.size,0,none⟩),.int .u64 150] 204)).cell? ⟨pb,1,none⟩=some (.iface 148 (.int .i64 e)):=by
  rw[World.cell?_alloc_lt _ _ ⟨pb,1,none⟩ (by first |(simp;done) |(simp;omega)),World.cell?_alloc_lt _ _ ⟨pb,1,none⟩ (by first |(simp;done) |(simp;omega)),World.cell?_alloc_lt _ _ ⟨pb,1,none⟩ mL];exact h1
 have n8:=Vl ⟨w.heap.size,0,none⟩ t ((w.alloc (.cells #[.pointer (some t)] 160)).alloc (.cells #[.pointer (some ⟨8,160,none⟩),.pointer (some ⟨w.heap.size,0,none⟩),.int .u64 150] 204)) bk;have aQ:1<w.heap.size:=tV hg;have Jt:((w.alloc (.cells #[.pointer (some t)] 160)).alloc (.cells #[.pointer (some ⟨8,160,none⟩),.pointer (some ⟨w.heap.size,0,none⟩),.int .u64 150] 204)).cell? ⟨1,0,none⟩=some (.iface 262 (.agg #[.pointer (some ⟨8,106,none⟩)])):=by
  rw[World.cell?_alloc_lt _ _ ⟨1,0,none⟩ (by first |(simp;done) |(simp;omega)),World.cell?_alloc_lt _ _ ⟨1,0,none⟩ aQ];exact hg
 have oe:t.block<w.heap.size:=tV kU;have el:=Vj ⟨w.heap.size,0,none⟩ t (((w.alloc (.cells #[.pointer (some t)] 160)).alloc (.cells #[.pointer (some ⟨8,160,none⟩),.pointer (some ⟨w.heap.size,0,none⟩),.int .u64 150] 204)).alloc (.cells #[.pointer (some ⟨8,160,none⟩),.pointer (some ⟨w.heap.size,0,none⟩),.int .u64 150] 204)) (by rw[World.cell?_alloc_lt _ _ ⟨w.heap.size,0,none⟩ (by first |(simp;done) |(simp;omega))];simp)
 have st:=Vp t ⟨w.heap.size+1+1+1,0,none⟩ e aZ ((((w.alloc (.cells #[.pointer (some t)] 160)).alloc (.cells #[.pointer (some ⟨8,160,none⟩),.pointer (some ⟨w.heap.size,0,none⟩),.int .u64 150] 204)).alloc (.cells #[.pointer (some ⟨8,160,none⟩),.pointer (some ⟨w.heap.size,0,none⟩),.int .u64 150] 204)).alloc (.cells #[.int .i64 e] 148))
  (by rw[World.cell?_alloc_at _ _ _ _ bk];rfl)
  (by rw[World.cell?_alloc_lt _ _ t (by first |(simp;done) |(simp;omega)),World.cell?_alloc_lt _ _ t (by first |(simp;done) |(simp;omega)),World.cell?_alloc_lt _ _ t (by first |(simp;done) |(simp;omega)),World.cell?_alloc_lt _ _ t oe];exact kU)
  (by rw[World.frozen?_alloc_old _ _ t (by first |(simp;done) |(simp;omega)),World.frozen?_alloc_old _ _ t (by first |(simp;done) |(simp;omega)),World.frozen?_alloc_old _ _ t (by first |(simp;done) |(simp;omega)),World.frozen?_alloc_old _ _ t (Nat.ne_of_lt oe)];exact o0)
 go_enter Tryz.func94,Tryz.ntmps94
 go_wp2
 refine wp_loop_rounds 2 ?_;rw[rounds_succ]
 go_wp2
 rw[rounds_succ]
 go_wp2
 go_ret
 exact⟨J,J⟩
theorem VH (t:Addr) (w:World):(ReflectliteValue.unpack (.iface 244 (.pointer (some t)))).run Tryz.prog w
 = .ok (.agg #[.pointer (some ⟨8,244,none⟩),.pointer (some ⟨w.heap.size,0,none⟩),.int .u64 150]) (w.alloc (.cells #[.pointer (some t)] 244)):=ay
theorem VF (a : Addr) (w : World) : (ReflectliteValue.methodAny (ReflectliteValue.valueError "reflectlite.Value.Type" 0) (fun t _ _ _ => ReflectliteType.toType t) #[.agg #[.pointer (some ⟨8, 244, none⟩), .pointer (some a), .int .u64 150]]).run Tryz.prog w
 = .ok (.iface 262 (.agg #[.pointer (some ⟨8,244,none⟩)])) w:=ay
theorem VC (w:World):((ReflectliteType.abiMethod λt=>(λa:Nat=>Value.int IntKind.u8 (a:Int)) <$> Rtype.kind t) #[.pointer (some ⟨8,244,none⟩)]).run Tryz.prog w= .ok (.int .u8 22) w:=ay
theorem VB (w:World):((ReflectliteType.abiMethod λt=>(λa:Nat=>Value.int IntKind.u8 (a:Int)) <$> Rtype.kind t) #[.pointer (some ⟨8,243,none⟩)]).run Tryz.prog w= .ok (.int .u8 2) w:=ay
theorem VD (a:Addr) (w:World):(ReflectliteValue.parts (.agg #[.pointer (some ⟨8,244,none⟩),.pointer (some a),.int .u64 150])).run Tryz.prog w= .ok (some (244,a,150)) w:=ay
theorem VA (a p:Addr) (W:World) (ha:W.cell? a=some (.pointer (some p))):
 (ReflectliteValue.method (ReflectliteValue.valueError "reflectlite.Value.IsNil" 0) ReflectliteValue.isNil #[.agg #[.pointer (some ⟨8, 244, none⟩), .pointer (some a), .int .u64 150]]).run Tryz.prog W = .ok (.bool false) W := by
 rw[Eg];simp only[Sem.run_bind,VD,Result.andThen];simp[ReflectliteValue.isNil,loadVar,isAgg,underlying,Tryz.underlying244,ha,Result.andThen]
theorem Vx (w:World):(ReflectliteType.method ReflectliteType.elem #[.agg #[.pointer (some ⟨8,244,none⟩)]]).run Tryz.prog w= .ok (.iface 262 (.agg #[.pointer (some ⟨8,243,none⟩)])) w:=ay
theorem Vz (w : World) : (ReflectliteType.relation "Implements" ReflectliteType.implements_ #[.agg #[.pointer (some ⟨8, 243, none⟩)], .iface 262 (.agg #[.pointer (some ⟨8, 106, none⟩)])]).run Tryz.prog w = .ok (.bool true) w := by kernel_rfl
theorem VG (v:Value) (w:World):(ReflectliteType.typeOf #[.iface 243 v]).run Tryz.prog w= .ok (.iface 262 (.agg #[.pointer (some ⟨8,243,none⟩)])) w:=ay
theorem Vw (w : World) : (ReflectliteType.relation "AssignableTo" ReflectliteType.assignableTo #[.agg #[.pointer (some ⟨8, 243, none⟩)], .iface 262 (.agg #[.pointer (some ⟨8, 243, none⟩)])]).run Tryz.prog w = .ok (.bool true) w := by kernel_rfl
theorem VI (e:Int) (w:World):(ReflectliteValue.unpack (.iface 243 (.int .i64 e))).run Tryz.prog w
 = .ok (.agg #[.pointer (some ⟨8,243,none⟩),.pointer (some ⟨w.heap.size,0,none⟩),.int .u64 130]) (w.alloc (.cells #[.int .i64 e] 243)):=ay
theorem agB (w:World):(Rtype.elem? 244).run Tryz.prog w= .ok (some 243) w:=ay
theorem agC (p:Addr) (w:World):(ReflectliteValue.mk 243 p ReflectliteValue.flagAddr).run Tryz.prog w= .ok (.agg #[.pointer (some ⟨8,243,none⟩),.pointer (some p),.int .u64 386]) w:=ay
theorem Vy (a p:Addr) (W:World) (ha:W.cell? a=some (.pointer (some p))):
 (ReflectliteValue.method (ReflectliteValue.valueError "reflectlite.Value.Elem" 0) ReflectliteValue.elem #[.agg #[.pointer (some ⟨8, 244, none⟩), .pointer (some a), .int .u64 150]]).run Tryz.prog W
  = .ok (.agg #[.pointer (some ⟨8,243,none⟩),.pointer (some p),.int .u64 386]) W:=by
 rw[Eg];simp only[Sem.run_bind,VD,Result.andThen];simp[ReflectliteValue.elem,loadVar,isAgg,underlying,Tryz.underlying244,ha,Result.andThen,agB,agC]
theorem agD (a:Addr) (w:World):(ReflectliteValue.parts (.agg #[.pointer (some ⟨8,243,none⟩),.pointer (some a),.int .u64 386])).run Tryz.prog w= .ok (some (243,a,386)) w:=ay
theorem agE (a:Addr) (w:World):(ReflectliteValue.parts (.agg #[.pointer (some ⟨8,243,none⟩),.pointer (some a),.int .u64 130])).run Tryz.prog w= .ok (some (243,a,130)) w:=ay
theorem agA (w:World):(Rtype.directlyAssignable 243 243).run Tryz.prog w= .ok true w:=ay
theorem agF (w:World):(sizeOf 243).run Tryz.prog w= .ok 1 w:=ay
theorem VE (ta b:Addr) (e:Int) (aZ:Value) (W:World) (hb:W.cell? b=some (.int .i64 e)) (ht:W.cell? ta=some aZ) (hf:W.frozen? ta=false):
 (ReflectliteValue.set #[.agg #[.pointer (some ⟨8,243,none⟩),.pointer (some ta),.int .u64 386],.agg #[.pointer (some ⟨8,243,none⟩),.pointer (some b),.int .u64 130]]).run Tryz.prog W
   = .ok (.tuple #[]) (W.setCell ta (.int .i64 e)):=by
 rw[OD];simp only[Sem.run_bind,agD,agE,Result.andThen];simp[ReflectliteValue.flagAddr,loadVar,isAgg,underlying,Tryz.underlying243,hb,Result.andThen,agA,storeVar,Value.cells,storeCells,Addr.add,agF];rw[run_store Tryz.prog W ta _ _ (by rfl)]
 simp[ht,hf]
set_option maxHeartbeats 16000000 in
theorem Ye (e:Int) (t:Addr) (aZ:Value) (w:World) (hg:w.cell? ⟨1,0,none⟩=some (.iface 262 (.agg #[.pointer (some ⟨8,106,none⟩)]))) (kU:w.cell? t=some aZ) (o0:w.frozen? t=false):
 Calls Tryz.prog 94 #[.iface 243 (.int .i64 e),.iface 244 (.pointer (some t))] w λev w'=>ev= .returned (.bool true)/\w'=((((w.alloc (.cells #[.pointer (some t)] 244)).alloc (.cells #[.pointer (some ⟨8,244,none⟩),.pointer (some ⟨w.heap.size,0,none⟩),.int .u64 150] 204)).alloc (.cells #[.pointer (some ⟨8,244,none⟩),.pointer (some ⟨w.heap.size,0,none⟩),.int .u64 150] 204)).alloc (.cells #[.int .i64 e] 243)).setCell t (.int .i64 e):=by
 have h6:=HO.down;have h7:=HP.down;have h8:=HQ.down;have I8:=HJ.down;have I_:=HM.down;have I':=HN.down;have I5:=HG.down;have I9:=HK.down;have I6:=HH.down;have I7:=HI.down;have tO:=VG;have mA:=Gx;have a25:=Vw;have v25:=VI;have f6:=VH;have f7:=VF;have mK:=GA;have mE:=Gy;have mI:=Gz;have wU:=VC;have JS:=VB;have BH:=Vx;have i25:=Vz;have n8:=VA ⟨w.heap.size,0,none⟩ t ((w.alloc (.cells #[.pointer (some t)] 244)).alloc (.cells #[.pointer (some ⟨8,244,none⟩),.pointer (some ⟨w.heap.size,0,none⟩),.int .u64 150] 204)) bk;have aQ:1<w.heap.size:=tV hg;have Jt:((w.alloc (.cells #[.pointer (some t)] 244)).alloc (.cells #[.pointer (some ⟨8,244,none⟩),.pointer (some ⟨w.heap.size,0,none⟩),.int .u64 150] 204)).cell? ⟨1,0,none⟩=some (.iface 262 (.agg #[.pointer (some ⟨8,106,none⟩)])):=by
  rw[World.cell?_alloc_lt _ _ ⟨1,0,none⟩ (by first |(simp;done) |(simp;omega)),World.cell?_alloc_lt _ _ ⟨1,0,none⟩ aQ];exact hg
 have oe:t.block<w.heap.size:=tV kU;have el:=Vy ⟨w.heap.size,0,none⟩ t (((w.alloc (.cells #[.pointer (some t)] 244)).alloc (.cells #[.pointer (some ⟨8,244,none⟩),.pointer (some ⟨w.heap.size,0,none⟩),.int .u64 150] 204)).alloc (.cells #[.pointer (some ⟨8,244,none⟩),.pointer (some ⟨w.heap.size,0,none⟩),.int .u64 150] 204)) (by rw[World.cell?_alloc_lt _ _ ⟨w.heap.size,0,none⟩ (by first |(simp;done) |(simp;omega))];simp)
 have st:=VE t ⟨w.heap.size+1+1+1,0,none⟩ e aZ ((((w.alloc (.cells #[.pointer (some t)] 244)).alloc (.cells #[.pointer (some ⟨8,244,none⟩),.pointer (some ⟨w.heap.size,0,none⟩),.int .u64 150] 204)).alloc (.cells #[.pointer (some ⟨8,244,none⟩),.pointer (some ⟨w.heap.size,0,none⟩),.int .u64 150] 204)).alloc (.cells #[.int .i64 e] 243))
  (by rw[World.cell?_alloc_at _ _ _ _ bk];rfl)
  (by rw[World.cell?_alloc_lt _ _ t (by first |(simp;done) |(simp;omega)),World.cell?_alloc_lt _ _ t (by first |(simp;done) |(simp;omega)),World.cell?_alloc_lt _ _ t (by first |(simp;done) |(simp;omega)),World.cell?_alloc_lt _ _ t oe];exact kU)
  (by rw[World.frozen?_alloc_old _ _ t (by first |(simp;done) |(simp;omega)),World.frozen?_alloc_old _ _ t (by first |(simp;done) |(simp;omega)),World.frozen?_alloc_old _ _ t (by first |(simp;done) |(simp;omega)),World.frozen?_alloc_old _ _ t (Nat.ne_of_lt oe)];exact o0)
 go_enter Tryz.func94,Tryz.ntmps94
 go_wp2
 refine wp_loop_rounds 1 ?_;rw[rounds_succ]
 go_wp2
 go_ret
 exact⟨J,J⟩
theorem X8 (v:Value) (xT:TypeId) (w:World):(Instr.typeAssert (.iface 301 v) xT 274 true).run Tryz.prog w= .ok (.tuple #[.nilIface,.bool false]) w:=run_typeAssert_lacksB Tryz.underlying274 ay ay v xT w
theorem Yc (v:Value) (xT:TypeId) (w:World):(Instr.typeAssert (.iface 301 v) xT 267 true).run Tryz.prog w= .ok (.tuple #[.iface 301 v,.bool true]) w:=run_typeAssert_hasB Tryz.underlying267 ay v xT w
theorem X4 (v : Value) (w : World) : (Go.method 546 301 v "Unwrap").run Tryz.prog w = .ok (345, v) w := by kernel_rfl
theorem Ya (v:Value) (w:World):(ReflectliteType.typeOf #[.iface 301 v]).run Tryz.prog w= .ok (.iface 262 (.agg #[.pointer (some ⟨8,301,none⟩)])) w:=ay
theorem X1 (w : World) : (ReflectliteType.relation "AssignableTo" ReflectliteType.assignableTo #[.agg #[.pointer (some ⟨8, 301, none⟩)], .iface 262 (.agg #[.pointer (some ⟨8, 243, none⟩)])]).run Tryz.prog w = .ok (.bool false) w := by kernel_rfl
set_option maxHeartbeats 16000000 in
theorem Yh (e:Int) (t:Addr) (aZ:Value) (w:World) (pb:Nat) (hg:w.cell? ⟨1,0,none⟩=some (.iface 262 (.agg #[.pointer (some ⟨8,106,none⟩)]))) (kU:w.cell? t=some aZ) (o0:w.frozen? t=false) (h1:w.cell? ⟨pb,1,none⟩=some (.iface 243 (.int .i64 e))):
 Calls Tryz.prog 94 #[.iface 301 (.pointer (some ⟨pb,0,none⟩)),.iface 244 (.pointer (some t))] w λev w'=>ev= .returned (.bool true)/\w'=((((w.alloc (.cells #[.pointer (some t)] 244)).alloc (.cells #[.pointer (some ⟨8,244,none⟩),.pointer (some ⟨w.heap.size,0,none⟩),.int .u64 150] 204)).alloc (.cells #[.pointer (some ⟨8,244,none⟩),.pointer (some ⟨w.heap.size,0,none⟩),.int .u64 150] 204)).alloc (.cells #[.int .i64 e] 243)).setCell t (.int .i64 e):=by
 have h6:=HO.down;have h7:=HP.down;have h8:=HQ.down;have I8:=HJ.down;have I_:=HM.down;have I':=HN.down;have I5:=HG.down;have I9:=HK.down;have I6:=HH.down;have I7:=HI.down;have tO:=VG;have mA:=Gx;have a25:=Vw;have v25:=VI;have f6:=VH;have f7:=VF;have mK:=GA;have mE:=Gy;have mI:=Gz;have wU:=VC;have JS:=VB;have BH:=Vx;have i25:=Vz;have oN:=X8;have oU:=Yc;have oM:=X4;have oT:=Ya;have oF:=X1;have mL:pb<w.heap.size:=tV h1;have h1a:(((w.alloc (.cells #[.pointer (some t)] 244)).alloc (.cells #[.pointer (some ⟨8,244,none⟩),.pointer (some ⟨w.heap.size,0,none⟩),.int .u64 150] 204)).alloc (.cells #[.pointer (some ⟨8,244,none⟩),.pointer (some ⟨w.heap.size,0,none⟩),.int .u64 150] 204)).cell? ⟨pb,1,none⟩=some (.iface 243 (.int .i64 e)):=by
  rw[World.cell?_alloc_lt _ _ ⟨pb,1,none⟩ (by first |(simp;done) |(simp;omega)),World.cell?_alloc_lt _ _ ⟨pb,1,none⟩ (by first |(simp;done) |(simp;omega)),World.cell?_alloc_lt _ _ ⟨pb,1,none⟩ mL];exact h1
 have n8:=VA ⟨w.heap.size,0,none⟩ t ((w.alloc (.cells #[.pointer (some t)] 244)).alloc (.cells #[.pointer (some ⟨8,244,none⟩),.pointer (some ⟨w.heap.size,0,none⟩),.int .u64 150] 204)) bk;have aQ:1<w.heap.size:=tV hg;have Jt:((w.alloc (.cells #[.pointer (some t)] 244)).alloc (.cells #[.pointer (some ⟨8,244,none⟩),.pointer (some ⟨w.heap.size,0,none⟩),.int .u64 150] 204)).cell? ⟨1,0,none⟩=some (.iface 262 (.agg #[.pointer (some ⟨8,106,none⟩)])):=by
  rw[World.cell?_alloc_lt _ _ ⟨1,0,none⟩ (by first |(simp;done) |(simp;omega)),World.cell?_alloc_lt _ _ ⟨1,0,none⟩ aQ];exact hg
 have oe:t.block<w.heap.size:=tV kU;have el:=Vy ⟨w.heap.size,0,none⟩ t (((w.alloc (.cells #[.pointer (some t)] 244)).alloc (.cells #[.pointer (some ⟨8,244,none⟩),.pointer (some ⟨w.heap.size,0,none⟩),.int .u64 150] 204)).alloc (.cells #[.pointer (some ⟨8,244,none⟩),.pointer (some ⟨w.heap.size,0,none⟩),.int .u64 150] 204)) (by rw[World.cell?_alloc_lt _ _ ⟨w.heap.size,0,none⟩ (by first |(simp;done) |(simp;omega))];simp)
 have st:=VE t ⟨w.heap.size+1+1+1,0,none⟩ e aZ ((((w.alloc (.cells #[.pointer (some t)] 244)).alloc (.cells #[.pointer (some ⟨8,244,none⟩),.pointer (some ⟨w.heap.size,0,none⟩),.int .u64 150] 204)).alloc (.cells #[.pointer (some ⟨8,244,none⟩),.pointer (some ⟨w.heap.size,0,none⟩),.int .u64 150] 204)).alloc (.cells #[.int .i64 e] 243))
  (by rw[World.cell?_alloc_at _ _ _ _ bk];rfl)
  (by rw[World.cell?_alloc_lt _ _ t (by first |(simp;done) |(simp;omega)),World.cell?_alloc_lt _ _ t (by first |(simp;done) |(simp;omega)),World.cell?_alloc_lt _ _ t (by first |(simp;done) |(simp;omega)),World.cell?_alloc_lt _ _ t oe];exact kU)
  (by rw[World.frozen?_alloc_old _ _ t (by first |(simp;done) |(simp;omega)),World.frozen?_alloc_old _ _ t (by first |(simp;done) |(simp;omega)),World.frozen?_alloc_old _ _ t (by first |(simp;done) |(simp;omega)),World.frozen?_alloc_old _ _ t (Nat.ne_of_lt oe)];exact o0)
 go_enter Tryz.func94,Tryz.ntmps94
 go_wp2
 refine wp_loop_rounds 2 ?_;rw[rounds_succ]
 go_wp2
 rw[rounds_succ]
 go_wp2
 go_ret
 exact⟨J,J⟩
end
section
open Go.Hx
def uQ.f (e t:Er):Option Bool:=match e,t with
 | .dW h,.dW g=>if eZ.contains h&&eZ.contains g then some (Nat.beq h g) else none
 | .wrap 110 [_] (.dW h),.dW g=>if eZ.contains h&&eZ.contains g then some (Nat.beq h g) else none
 | .wrap 110 [_] (.num 148 _),.dW g=>if eZ.contains g then some false else none
 | .wrap 222 [_] (.dW h),.dW g=>if eZ.contains h&&eZ.contains g then some (Nat.beq h g) else none
 |_,_=>none
theorem cellAt {W w:World} {H:Hp} {b off:Nat} {c:Array Value} {T:TypeId} {fr:Nat×Nat} {v:Value} (ow:bh W w H) (hm:(b,Obj.cells c T fr)∈H) (hv:c[off]? =some v):w.cell? ⟨b,off,none⟩=some v:=ow.cell hm hv
theorem uQ.c {el:Nat->Addr} {tk ED:Value} (e t:Er) (r:Bool) (F:Hp) (H:uQ.f e t=some r) (hG:fL 414 eZ hU el F) (h1:lJ 414 el e tk F) (h2:lJ 414 el t ED F):
 gJ Tryz.prog 93 [tk,ED] [F] (λ_:Unit=> .bool r) (λ_=>[F]):=by
 intro W w ow;have ct:bh W w F:=by simpa using ow
 unfold uQ.f at H;split at H
 ·rename_i h g;obtain⟨hc,H⟩:=az H;simp only[Bool.and_eq_true,List.contains_iff_mem] at hc;obtain⟨m1,m2⟩:=hc;have h2:ED= .iface 414 (.pointer (some (el g))):=h2;subst h2;obtain⟨c1,T1,q1⟩:=hG.2.1 h m1;obtain⟨c2,T2,q2⟩:=hG.2.1 g m2;have h1:tk= .iface 414 (.pointer (some (el h))):=h1;subst h1
  by_cases e:h=g
  ·subst e;have hr:r=true:=by simpa using H.symm
   subst hr;exact(aew (el h) w).mono λe w' ⟨he,hw⟩=>⟨(),he,by subst hw;simpa using ct⟩
  ·have hr:r=false:=by rw[<-Option.some.inj H];exact wy e
   subst hr;exact(aev (el h) (el g) c1 c2 T1 T2 w (λq=>e (hG.2.2.1 h m1 g m2 (by simpa using q))) (ct.lookup q1) (ct.lookup q2)).mono λe w' ⟨he,hw⟩=>⟨(),he,by subst hw;simpa using ct⟩
 ·rename_i x0 h g;obtain⟨hc,H⟩:=az H;simp only[Bool.and_eq_true,List.contains_iff_mem] at hc;obtain⟨m1,m2⟩:=hc;have h2:ED= .iface 414 (.pointer (some (el g))):=h2;subst h2;obtain⟨c1,T1,q1⟩:=hG.2.1 h m1;obtain⟨c2,T2,q2⟩:=hG.2.1 g m2;obtain⟨b,vo,T,hv,hm,ho⟩:=h1;subst hv;have ho:vo= .iface 414 (.pointer (some (el h))):=ho;subst ho;have eo:w.cell? ⟨b,1,none⟩=some (.iface 414 (.pointer (some (el h)))):=cellAt ct hm J
  by_cases e:h=g
  ·subst e;have hr:r=true:=by simpa using H.symm
   subst hr;exact(aeA b (el h) w eo).mono λe w' ⟨he,hw⟩=>⟨(),he,by subst hw;simpa using ct⟩
  ·have hr:r=false:=by rw[<-Option.some.inj H];exact wy e
   subst hr;exact(aey b (el h) (el g) c1 c2 T1 T2 w eo (λq=>e (hG.2.2.1 h m1 g m2 (by simpa using q))) (ct.lookup q1) (ct.lookup q2)).mono λe w' ⟨he,hw⟩=>⟨(),he,by subst hw;simpa using ct⟩
 ·rename_i x0 m g;obtain⟨hc,H⟩:=az H;have h2:ED= .iface 414 (.pointer (some (el g))):=h2;subst h2;obtain⟨b,vo,T,hv,hm,ho⟩:=h1;subst hv;have ho:vo= .iface 148 (.int .i64 m):=ho;subst ho;have hr:r=false:=(Option.some.inj H).symm;subst hr;exact(aex b m (el g) w (cellAt ct hm rfl)).mono λe w' ⟨he,hw⟩=>⟨(),he,by subst hw;simpa using ct⟩
 ·rename_i x0 h g;obtain⟨hc,H⟩:=az H;simp only[Bool.and_eq_true,List.contains_iff_mem] at hc;obtain⟨m1,m2⟩:=hc;have h2:ED= .iface 414 (.pointer (some (el g))):=h2;subst h2;obtain⟨c1,T1,q1⟩:=hG.2.1 h m1;obtain⟨c2,T2,q2⟩:=hG.2.1 g m2;obtain⟨b,vo,T,hv,hm,ho⟩:=h1;subst hv;have ho:vo= .iface 414 (.pointer (some (el h))):=ho;subst ho;have eo:w.cell? ⟨b,1,none⟩=some (.iface 414 (.pointer (some (el h)))):=cellAt ct hm J
  by_cases e:h=g
  ·subst e;have hr:r=true:=by simpa using H.symm
   subst hr;exact(aeB b (el h) w eo).mono λe w' ⟨he,hw⟩=>⟨(),he,by subst hw;simpa using ct⟩
  ·have hr:r=false:=by rw[<-Option.some.inj H];exact wy e
   subst hr;exact(aez b (el h) (el g) c1 c2 T1 T2 w eo (λq=>e (hG.2.2.1 h m1 g m2 (by simpa using q))) (ct.lookup q1) (ct.lookup q2)).mono λe w' ⟨he,hw⟩=>⟨(),he,by subst hw;simpa using ct⟩
 ·cases H
theorem GS {W w:World} {H:Hp} {b T:Nat} {c:Array Value} {o1 o2 o3 o4:Obj} {v:Value} (ow:bh W w ((b,.cells c T (0,0))::H)):
 bh W (((((w.alloc o1).alloc o2).alloc o3).alloc o4).setCell ⟨b,0,none⟩ v) ((b,.cells (c.setIfInBounds 0 v) T (0,0))::H):=by
 have h:=(((ow.alloc o1).alloc o2).alloc o3).alloc o4;have h2:bh W ((((w.alloc o1).alloc o2).alloc o3).alloc o4) ((b,.cells c T (0,0))::H):=h.sub (List.Sublist.cons _ (List.Sublist.cons _ (List.Sublist.cons _ (List.Sublist.cons _ (List.Sublist.refl _)))));exact h2.setCell
theorem Mf.n {el:Nat->Addr} {b:Nat} {x:Value} (F:Hp) (hG:fL 414 eZ hU el F):
 gJ Tryz.prog 94 [.nilIface,.iface 344 (.pointer (some ⟨b,0,none⟩))] [[(b,Obj.cells #[x] 343 (0,0))],F] (λ_:Unit=> .bool false) (λ_=>[[(b,Obj.cells #[x] 343 (0,0))],F]):=by
 intro W w ow;exact(Ls _ w).mono λe w' ⟨he,hw⟩=>⟨(),he,by subst hw;exact ow⟩
theorem Mf.s {el:Nat->Addr} {b:Nat} (q:Nat) (F:Hp) (hG:fL 414 eZ hU el F):
 gJ Tryz.prog 94 [.iface 343 (.pointer (some ⟨q,0,none⟩)),.iface 344 (.pointer (some ⟨b,0,none⟩))] [[(b,Obj.cells #[.pointer none] 343 (0,0))],F] (λ_:Unit=> .bool true) (λ_=>[[(b,Obj.cells #[.pointer (some ⟨q,0,none⟩)] 343 (0,0))],F]):=by
 intro W w ow;have ct:bh W w ((b,Obj.cells #[.pointer none] 343 (0,0))::F):=by simpa using ow
 obtain⟨TG,Rn,F4⟩:=hG.2.2.2 _ (List.mem_singleton.2 J);have hg:=ct.cell (off:=0) (List.mem_cons_of_mem _ F4) J;have kU:=ct.cell (off:=0) (List.mem_cons_self ..) J;have o0:=ct.KN (off:=0) (List.mem_cons_self ..);exact(Yf ⟨q,0,none⟩ ⟨b,0,none⟩ (.pointer none) w hg kU o0).mono λe w' ⟨he,hw⟩=>⟨(),he,by subst hw;simpa using GS ct⟩
def PX:Er->Bool
 | .nil=>true
 | .num _ _=>true
 | .wrap 110 [_] (.num 148 _)=>true
 |_=>false
def Fy.f (e:Er):Option (Option Int):=if PX e then Er.Dk 148 e else none
theorem Fy.c {el:Nat->Addr} {tk:Value} {b:Nat} {aZ:Int} (e:Er) (r:Option Int) (F:Hp) (H:Fy.f e=some r) (hG:fL 414 eZ hU el F) (h1:lJ 414 el e tk F):
 gJ Tryz.prog 94 [tk,.iface 160 (.pointer (some ⟨b,0,none⟩))] [[(b,Obj.cells #[.int .i64 aZ] 148 (0,0))],F] (λ_:Unit=> .bool r.isSome) (λ_=>[[(b,Obj.cells #[.int .i64 (r.getD aZ)] 148 (0,0))],F]):=by
 intro W w ow;have ct:bh W w ((b,Obj.cells #[.int .i64 aZ] 148 (0,0))::F):=by simpa using ow
 obtain⟨TG,Rn,F4⟩:=hG.2.2.2 _ (List.mem_singleton.2 J);have hg:=ct.cell (off:=0) (List.mem_cons_of_mem _ F4) J;have kU:=ct.cell (off:=0) (List.mem_cons_self ..) J;have o0:=ct.KN (off:=0) (List.mem_cons_self ..);unfold Fy.f at H;obtain⟨vc,H⟩:=az H;unfold PX at vc;split at vc
 ·have h1:tk= .nilIface:=h1;subst h1;have hr:r=none:=(Option.some.inj H).symm;subst hr;exact(Ls _ w).mono λe w' ⟨he,hw⟩=>⟨(),he,by subst hw;exact ow⟩
 ·rename_i u m _;unfold Er.Dk at H;obtain⟨hu,H⟩:=az H;subst hu;have h1:tk= .iface 148 (.int .i64 m):=h1;subst h1;have hr:r=some m:=(Option.some.inj H).symm;subst hr;exact(Yd m ⟨b,0,none⟩ (.int .i64 aZ) w hg kU o0).mono λe w' ⟨he,hw⟩=>⟨(),he,by subst hw;simpa using GS ct⟩
 ·rename_i x0 m _;unfold Er.Dk at H;obtain⟨hu,H⟩:=az H;obtain⟨q,vo,T,hv,hm,ho⟩:=h1;subst hv;have ho:vo= .iface 148 (.int .i64 m):=ho;subst ho;have hr:r=some m:=(Option.some.inj H).symm;subst hr;have eo:=ct.cell (off:=1) (v:= .iface 148 (.int .i64 m)) (List.mem_cons_of_mem _ hm) J;exact(Yg m ⟨b,0,none⟩ (.int .i64 aZ) w q hg kU o0 eo).mono λe w' ⟨he,hw⟩=>⟨(),he,by subst hw;simpa using GS ct⟩
 ·cases vc
def PY:Er->Bool
 | .nil=>true
 | .num _ _=>true
 | .wrap 301 [_] (.num 243 _)=>true
 |_=>false
def yl.f (e:Er):Option (Option Int):=if PY e then Er.Dk 243 e else none
theorem yl.c {el:Nat->Addr} {tk:Value} {b:Nat} {aZ:Int} (e:Er) (r:Option Int) (F:Hp) (H:yl.f e=some r) (hG:fL 414 eZ hU el F) (h1:lJ 414 el e tk F):
 gJ Tryz.prog 94 [tk,.iface 244 (.pointer (some ⟨b,0,none⟩))] [[(b,Obj.cells #[.int .i64 aZ] 243 (0,0))],F] (λ_:Unit=> .bool r.isSome) (λ_=>[[(b,Obj.cells #[.int .i64 (r.getD aZ)] 243 (0,0))],F]):=by
 intro W w ow;have ct:bh W w ((b,Obj.cells #[.int .i64 aZ] 243 (0,0))::F):=by simpa using ow
 obtain⟨TG,Rn,F4⟩:=hG.2.2.2 _ (List.mem_singleton.2 J);have hg:=ct.cell (off:=0) (List.mem_cons_of_mem _ F4) J;have kU:=ct.cell (off:=0) (List.mem_cons_self ..) J;have o0:=ct.KN (off:=0) (List.mem_cons_self ..);unfold yl.f at H;obtain⟨vc,H⟩:=az H;unfold PY at vc;split at vc
 ·have h1:tk= .nilIface:=h1;subst h1;have hr:r=none:=(Option.some.inj H).symm;subst hr;exact(Ls _ w).mono λe w' ⟨he,hw⟩=>⟨(),he,by subst hw;exact ow⟩
 ·rename_i u m _;unfold Er.Dk at H;obtain⟨hu,H⟩:=az H;subst hu;have h1:tk= .iface 243 (.int .i64 m):=h1;subst h1;have hr:r=some m:=(Option.some.inj H).symm;subst hr;exact(Ye m ⟨b,0,none⟩ (.int .i64 aZ) w hg kU o0).mono λe w' ⟨he,hw⟩=>⟨(),he,by subst hw;simpa using GS ct⟩
 ·rename_i x0 m _;unfold Er.Dk at H;obtain⟨hu,H⟩:=az H;obtain⟨q,vo,T,hv,hm,ho⟩:=h1;subst hv;have ho:vo= .iface 243 (.int .i64 m):=ho;subst ho;have hr:r=some m:=(Option.some.inj H).symm;subst hr;have eo:=ct.cell (off:=1) (v:= .iface 243 (.int .i64 m)) (List.mem_cons_of_mem _ hm) J;exact(Yh m ⟨b,0,none⟩ (.int .i64 aZ) w q hg kU o0 eo).mono λe w' ⟨he,hw⟩=>⟨(),he,by subst hw;simpa using GS ct⟩
 ·cases vc
end
end Go.Proofs.YthodkonhneebbaaGreatDoor
