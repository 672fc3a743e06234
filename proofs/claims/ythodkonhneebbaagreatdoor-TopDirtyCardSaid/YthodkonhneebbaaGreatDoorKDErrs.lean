/- Part of the proof. No condition. -/
import Derived.Test.YthodkonhneebbaaGreatDoorProg
import Derived.WalkKit
import Derived.LaidEql
import Derived.Stop.Asserts
import Derived.RowKitTokens
import Derived.KernelRfl
import Derived.Test.YthodkonhneebbaaGreatDoorKDHy
namespace Go.Proofs.YthodkonhneebbaaGreatDoor
set_option maxRecDepth 100000
set_option linter.unusedVariables false
set_option linter.unusedSimpArgs false
abbrev fc:List Nat:=[0,2,3,4,5,6]
abbrev gY:List (Nat×Value):=[(1,.iface 262 (.agg #[.pointer (some ⟨8,106,none⟩)]))]
theorem aeX:Go.Hx.P6 Tryz.prog 296 22:=⟨⟨#[3],λargs w=>run_callFunc_extern (e:=Extern.BytealgMakeNoZero.makeNoZero #[3] #[22]) Tryz.func296 ay ay ay ay args w⟩⟩
section
open Go.RowKit Go.Extern.Stop Go.Stop Go.Extern
theorem Cq (v:Value) (w:World):(Extern.ReflectliteType.typeOf #[.iface 414 v]).run Tryz.prog w= .ok (.iface 262 (.agg #[.pointer (some ⟨8,414,none⟩)])) w:=ay
theorem Cm (w:World):(callFunc 335 #[.agg #[.pointer (some ⟨8,414,none⟩)]]).run Tryz.prog w= .ok (.value (.bool true)) w:=ay
theorem Co (v : Value) (w : World) : (Go.method 546 262 v "Comparable").run Tryz.prog w = .ok (335, v) w := by kernel_rfl
theorem Cn:(Tryz.prog.info? 414).map (·.comparable)=some true:=ay
theorem Cp:(Tryz.prog.info? 434).map (·.size)=some 1:=ay
theorem CF (v:Value) (xT:TypeId) (w:World):(Instr.typeAssert (.iface 414 v) xT 264 true).run Tryz.prog w= .ok (.tuple #[.nilIface,.bool false]) w:=run_typeAssert_lacksB Tryz.underlying264 ay ay v xT w
theorem CG (v:Value) (xT:TypeId) (w:World):(Instr.typeAssert (.iface 414 v) xT 267 true).run Tryz.prog w= .ok (.tuple #[.nilIface,.bool false]) w:=run_typeAssert_lacksB Tryz.underlying267 ay ay v xT w
theorem CH (v:Value) (xT:TypeId) (w:World):(Instr.typeAssert (.iface 414 v) xT 269 true).run Tryz.prog w= .ok (.tuple #[.nilIface,.bool false]) w:=run_typeAssert_lacksB Tryz.underlying269 ay ay v xT w
theorem OG (v:Value) (xT:TypeId) (w:World):(Instr.typeAssert (.iface 110 v) xT 264 true).run Tryz.prog w= .ok (.tuple #[.nilIface,.bool false]) w:=run_typeAssert_lacksB Tryz.underlying264 ay ay v xT w
theorem ND (v:Value) (xT:TypeId) (w:World):(Instr.typeAssert (.iface 110 v) xT 267 true).run Tryz.prog w= .ok (.tuple #[.iface 110 v,.bool true]) w:=run_typeAssert_hasB Tryz.underlying267 ay v xT w
theorem Ow (v : Value) (w : World) : (Go.method 546 110 v "Unwrap").run Tryz.prog w = .ok (324, v) w := by kernel_rfl
theorem Vo (v:Value) (xT:TypeId) (w:World):(Instr.typeAssert (.iface 222 v) xT 264 true).run Tryz.prog w= .ok (.tuple #[.nilIface,.bool false]) w:=run_typeAssert_lacksB Tryz.underlying264 ay ay v xT w
theorem TN (v:Value) (xT:TypeId) (w:World):(Instr.typeAssert (.iface 222 v) xT 267 true).run Tryz.prog w= .ok (.tuple #[.iface 222 v,.bool true]) w:=run_typeAssert_hasB Tryz.underlying267 ay v xT w
theorem Vd (v : Value) (w : World) : (Go.method 546 222 v "Unwrap").run Tryz.prog w = .ok (331, v) w := by kernel_rfl
theorem agp (v:Value) (xT:TypeId) (w:World):(Instr.typeAssert (.iface 148 v) xT 264 true).run Tryz.prog w= .ok (.tuple #[.nilIface,.bool false]) w:=run_typeAssert_lacksB Tryz.underlying264 ay ay v xT w
theorem agq (v:Value) (xT:TypeId) (w:World):(Instr.typeAssert (.iface 148 v) xT 267 true).run Tryz.prog w= .ok (.tuple #[.nilIface,.bool false]) w:=run_typeAssert_lacksB Tryz.underlying267 ay ay v xT w
theorem agr (v:Value) (xT:TypeId) (w:World):(Instr.typeAssert (.iface 148 v) xT 269 true).run Tryz.prog w= .ok (.tuple #[.nilIface,.bool false]) w:=run_typeAssert_lacksB Tryz.underlying269 ay ay v xT w
set_option maxHeartbeats 4000000 in
def Dm:=PLift.up (@run_callFunc_extern Tryz.prog 130 _ (Extern.ReflectliteType.typeOf) Tryz.func130 ay ay ay ay)
def Ih:=PLift.up (@run_callFunc_extern Tryz.prog 132 _ (λargs=>ReflectliteValue.unpack (args.getD 0 (.tuple #[]))) Tryz.func132 ay ay ay ay)
def Ii := PLift.up (@run_callFunc_extern Tryz.prog 133 _ (ReflectliteValue.methodAny (ReflectliteValue.valueError "reflectlite.Value.Type" 0) (fun t _ _ _ => ReflectliteType.toType t)) Tryz.func133 ay ay ay ay)
def Ij := PLift.up (@run_callFunc_extern Tryz.prog 134 _ (ReflectliteValue.method (ReflectliteValue.valueError "reflectlite.Value.IsNil" 0) ReflectliteValue.isNil) Tryz.func134 ay ay ay ay)
def Ib:=PLift.up (@run_callFunc_extern Tryz.prog 320 _ (ReflectliteType.abiMethod λt=>do pure (.int .u8 (<-Rtype.kind t))) Tryz.func320 ay ay ay ay)
def Ie:=PLift.up (@run_callFunc_extern Tryz.prog 336 _ (ReflectliteType.method ReflectliteType.elem) Tryz.func336 ay ay ay ay)
def Ig := PLift.up (@run_callFunc_extern Tryz.prog 337 _ (ReflectliteType.relation "Implements" ReflectliteType.implements_) Tryz.func337 ay ay ay ay)
def HZ:=PLift.up (@run_callFunc_extern Tryz.prog 130 _ (ReflectliteType.typeOf) Tryz.func130 ay ay ay ay)
def Ic := PLift.up (@run_callFunc_extern Tryz.prog 334 _ (ReflectliteType.relation "AssignableTo" ReflectliteType.assignableTo) Tryz.func334 ay ay ay ay)
def H_ := PLift.up (@run_callFunc_extern Tryz.prog 169 _ (ReflectliteValue.method (ReflectliteValue.valueError "reflectlite.Value.Elem" 0) ReflectliteValue.elem) Tryz.func169 ay ay ay ay)
def Ia:=PLift.up (@run_callFunc_extern Tryz.prog 170 _ (ReflectliteValue.set) Tryz.func170 ay ay ay ay)
theorem ur {w:World} {a:Addr} {v:Value} (h:w.cell? a=some v):a.block<w.heap.size:=by
 rcases Nat.lt_or_ge a.block w.heap.size with q |q
 ·exact q
 ·simp[World.cell?,Array.getElem?_eq_none q] at h
theorem aeZ (b:Addr) (w:World):Calls Tryz.prog 93 #[.iface 414 (.pointer (some b)),.iface 414 (.pointer (some b))] w λe w'=>e= .returned (.bool true)/\w'=w:=by
 obtain⟨i,hi,uf⟩:=Option.map_eq_some_iff.1 Cn;obtain⟨j,hj,yV⟩:=Option.map_eq_some_iff.1 Cp;have h8:=Dm.down;have DP:=Cm;have tT:=Cq;have mR:=Co;have nE:=CF;have uE:=CG;have vE:=CH;have heq:=run_eql_iface_ptr_same (P:=Tryz.prog) w b Tryz.underlying106 Tryz.underlying414 hi uf hj
 go_enter Tryz.func93,Tryz.ntmps93
 go_wp2
 refine wp_loop_rounds 1 ?_;rw[rounds_succ]
 go_wp2
 go_ret
 exact⟨J,J⟩
set_option maxHeartbeats 4000000 in
theorem aeY (a b:Addr) (ca cb:Array Value) (ta tb:TypeId) (w:World) (bM:a≠b) (ha:w.heap[a.block]? =some (.cells ca ta (0,0))) (hb:w.heap[b.block]? =some (.cells cb tb (0,0))):Calls Tryz.prog 93 #[.iface 414 (.pointer (some a)),.iface 414 (.pointer (some b))] w λe w'=>e= .returned (.bool false)/\w'=w:=by
 obtain⟨i,hi,uf⟩:=Option.map_eq_some_iff.1 Cn;obtain⟨j,hj,yV⟩:=Option.map_eq_some_iff.1 Cp;have h8:=Dm.down;have DP:=Cm;have tT:=Cq;have mR:=Co;have nE:=CF;have uE:=CG;have vE:=CH;have heq:=run_eql_iface_ptr_other (P:=Tryz.prog) w Tryz.underlying106 Tryz.underlying414 hi uf hj (by rw[yV];decide) bM ha hb
 go_enter Tryz.func93,Tryz.ntmps93
 go_wp2
 refine wp_loop_rounds 1 ?_;rw[rounds_succ]
 go_wp2
 go_ret
 exact⟨J,J⟩
set_option maxHeartbeats 8000000 in
theorem ae3 (pb:Nat) (b:Addr) (w:World) (h1:w.cell? ⟨pb,1,none⟩=some (.iface 414 (.pointer (some b)))):Calls Tryz.prog 93 #[.iface 110 (.pointer (some ⟨pb,0,none⟩)),.iface 414 (.pointer (some b))] w λe w'=>e= .returned (.bool true)/\w'=w:=by
 obtain⟨i,hi,uf⟩:=Option.map_eq_some_iff.1 Cn;obtain⟨j,hj,yV⟩:=Option.map_eq_some_iff.1 Cp;have h8:=Dm.down;have DP:=Cm;have tT:=Cq;have mR:=Co;have nE:=CF;have uE:=CG;have vE:=CH;have nW:=OG;have uW:=ND;have mU:=Ow;have Ci:=run_eql_iface_types (P:=Tryz.prog) 110 414 (.pointer (some ⟨pb,0,none⟩)) (.pointer (some b)) Tryz.underlying106 (by decide) w
 have heq:=run_eql_iface_ptr_same (P:=Tryz.prog) w b Tryz.underlying106 Tryz.underlying414 hi uf hj
 go_enter Tryz.func93,Tryz.ntmps93
 go_wp2
 refine wp_loop_rounds 2 ?_;rw[rounds_succ]
 go_wp2
 rw[rounds_succ]
 go_wp2
 go_ret
 exact⟨J,J⟩
set_option maxHeartbeats 8000000 in
theorem ae1 (pb:Nat) (a b:Addr) (ca cb:Array Value) (ta tb:TypeId) (w:World) (h1:w.cell? ⟨pb,1,none⟩=some (.iface 414 (.pointer (some a)))) (bM:a≠b) (ha:w.heap[a.block]? =some (.cells ca ta (0,0))) (hb:w.heap[b.block]? =some (.cells cb tb (0,0))):Calls Tryz.prog 93 #[.iface 110 (.pointer (some ⟨pb,0,none⟩)),.iface 414 (.pointer (some b))] w λe w'=>e= .returned (.bool false)/\w'=w:=by
 obtain⟨i,hi,uf⟩:=Option.map_eq_some_iff.1 Cn;obtain⟨j,hj,yV⟩:=Option.map_eq_some_iff.1 Cp;have h8:=Dm.down;have DP:=Cm;have tT:=Cq;have mR:=Co;have nE:=CF;have uE:=CG;have vE:=CH;have nW:=OG;have uW:=ND;have mU:=Ow;have Ci:=run_eql_iface_types (P:=Tryz.prog) 110 414 (.pointer (some ⟨pb,0,none⟩)) (.pointer (some b)) Tryz.underlying106 (by decide) w
 have heq:=run_eql_iface_ptr_other (P:=Tryz.prog) w Tryz.underlying106 Tryz.underlying414 hi uf hj (by rw[yV];decide) bM ha hb
 go_enter Tryz.func93,Tryz.ntmps93
 go_wp2
 refine wp_loop_rounds 2 ?_;rw[rounds_succ]
 go_wp2
 rw[rounds_succ]
 go_wp2
 go_ret
 exact⟨J,J⟩
set_option maxHeartbeats 8000000 in
theorem ae0 (pb:Nat) (m:Int) (b:Addr) (w:World) (h1:w.cell? ⟨pb,1,none⟩=some (.iface 148 (.int .i64 m))):Calls Tryz.prog 93 #[.iface 110 (.pointer (some ⟨pb,0,none⟩)),.iface 414 (.pointer (some b))] w λe w'=>e= .returned (.bool false)/\w'=w:=by
 obtain⟨i,hi,uf⟩:=Option.map_eq_some_iff.1 Cn;obtain⟨j,hj,yV⟩:=Option.map_eq_some_iff.1 Cp;have h8:=Dm.down;have DP:=Cm;have tT:=Cq;have mR:=Co;have nE:=CF;have uE:=CG;have vE:=CH;have nW:=OG;have uW:=ND;have mU:=Ow;have Ci:=run_eql_iface_types (P:=Tryz.prog) 110 414 (.pointer (some ⟨pb,0,none⟩)) (.pointer (some b)) Tryz.underlying106 (by decide) w
 have nN:=agp;have uN:=agq;have vN:=agr;have htn:=run_eql_iface_types (P:=Tryz.prog) 148 414 (.int .i64 m) (.pointer (some b)) Tryz.underlying106 (by decide) w
 go_enter Tryz.func93,Tryz.ntmps93
 go_wp2
 refine wp_loop_rounds 2 ?_;rw[rounds_succ]
 go_wp2
 rw[rounds_succ]
 go_wp2
 go_ret
 exact⟨J,J⟩
set_option maxHeartbeats 8000000 in
theorem ae4 (pb:Nat) (b:Addr) (w:World) (h1:w.cell? ⟨pb,1,none⟩=some (.iface 414 (.pointer (some b)))):Calls Tryz.prog 93 #[.iface 222 (.pointer (some ⟨pb,0,none⟩)),.iface 414 (.pointer (some b))] w λe w'=>e= .returned (.bool true)/\w'=w:=by
 obtain⟨i,hi,uf⟩:=Option.map_eq_some_iff.1 Cn;obtain⟨j,hj,yV⟩:=Option.map_eq_some_iff.1 Cp;have h8:=Dm.down;have DP:=Cm;have tT:=Cq;have mR:=Co;have nE:=CF;have uE:=CG;have vE:=CH;have nW:=Vo;have uW:=TN;have mU:=Vd;have Ci:=run_eql_iface_types (P:=Tryz.prog) 222 414 (.pointer (some ⟨pb,0,none⟩)) (.pointer (some b)) Tryz.underlying106 (by decide) w
 have heq:=run_eql_iface_ptr_same (P:=Tryz.prog) w b Tryz.underlying106 Tryz.underlying414 hi uf hj
 go_enter Tryz.func93,Tryz.ntmps93
 go_wp2
 refine wp_loop_rounds 2 ?_;rw[rounds_succ]
 go_wp2
 rw[rounds_succ]
 go_wp2
 go_ret
 exact⟨J,J⟩
set_option maxHeartbeats 8000000 in
theorem ae2 (pb:Nat) (a b:Addr) (ca cb:Array Value) (ta tb:TypeId) (w:World) (h1:w.cell? ⟨pb,1,none⟩=some (.iface 414 (.pointer (some a)))) (bM:a≠b) (ha:w.heap[a.block]? =some (.cells ca ta (0,0))) (hb:w.heap[b.block]? =some (.cells cb tb (0,0))):Calls Tryz.prog 93 #[.iface 222 (.pointer (some ⟨pb,0,none⟩)),.iface 414 (.pointer (some b))] w λe w'=>e= .returned (.bool false)/\w'=w:=by
 obtain⟨i,hi,uf⟩:=Option.map_eq_some_iff.1 Cn;obtain⟨j,hj,yV⟩:=Option.map_eq_some_iff.1 Cp;have h8:=Dm.down;have DP:=Cm;have tT:=Cq;have mR:=Co;have nE:=CF;have uE:=CG;have vE:=CH;have nW:=Vo;have uW:=TN;have mU:=Vd;have Ci:=run_eql_iface_types (P:=Tryz.prog) 222 414 (.pointer (some ⟨pb,0,none⟩)) (.pointer (some b)) Tryz.underlying106 (by decide) w
 have heq:=run_eql_iface_ptr_other (P:=Tryz.prog) w Tryz.underlying106 Tryz.underlying414 hi uf hj (by rw[yV];decide) bM ha hb
 go_enter Tryz.func93,Tryz.ntmps93
 go_wp2
 refine wp_loop_rounds 2 ?_;rw[rounds_succ]
 go_wp2
 rw[rounds_succ]
 go_wp2
 go_ret
 exact⟨J,J⟩
theorem LS (t:Value) (w:World):Calls Tryz.prog 94 #[.nilIface,t] w λe w'=>e= .returned (.bool false)/\w'=w:=by
 go_enter Tryz.func94,Tryz.ntmps94
 go_wp2
 go_ret
 exact⟨J,J⟩
theorem Ev (z:Sem Value) (f:TypeId->Addr->Nat->Nat->Sem Value) (v:Value):
 ReflectliteValue.method z f #[v]=(do match<-ReflectliteValue.parts v with |none=>z |some (t,a,fl)=>f t a fl (fl%32)):=rfl
theorem O9 (v x:Value):ReflectliteValue.set #[v,x]=(do
 let(some (dst,a,fl),some (src,b,_)):=(<-ReflectliteValue.parts v,<-ReflectliteValue.parts x)
  | unsupported (.noEntry "extern/(internal/reflectlite.Value).Set.zeroValue")
 if fl / ReflectliteValue.flagAddr % 2 == 0 then unsupported (.noEntry "extern/(internal/reflectlite.Value).Set.unaddressable")
 let val<-loadVar src b
 if<-Rtype.directlyAssignable dst src then storeVar dst a val
 else if<-Rtype.implements dst src then
  if(<-Rtype.kind src)==20 then
   match val with
   | .nilIface => unsupported (.noEntry "extern/reflectlite: a nil value of one interface type handed on as a value of another")
   |_=>storeVar dst a val
  else storeVar dst a (.iface src val)
 else panicString ("reflectlite.Set: value of type " ++ (← Rtype.spelt src) ++ " is not assignable to type " ++ (← Rtype.spelt dst))
 pure (.tuple #[])):=rfl
theorem GU (h : Value) (w : World) : (Go.method 546 262 (.agg #[h]) "Kind").run Tryz.prog w = .ok (320, h) w := by kernel_rfl
theorem GR (h : Value) (w : World) : (Go.method 546 262 (.agg #[h]) "Elem").run Tryz.prog w = .ok (336, .agg #[h]) w := by kernel_rfl
theorem GS (h : Value) (w : World) : (Go.method 546 262 (.agg #[h]) "Implements").run Tryz.prog w = .ok (337, .agg #[h]) w := by kernel_rfl
theorem GQ (h : Value) (w : World) : (Go.method 546 262 (.agg #[h]) "AssignableTo").run Tryz.prog w = .ok (334, .agg #[h]) w := by kernel_rfl
theorem ahk (t:Addr) (w:World):(ReflectliteValue.unpack (.iface 344 (.pointer (some t)))).run Tryz.prog w
 = .ok (.agg #[.pointer (some ⟨8,344,none⟩),.pointer (some ⟨w.heap.size,0,none⟩),.int .u64 150]) (w.alloc (.cells #[.pointer (some t)] 344)):=ay
theorem ahi (a : Addr) (w : World) : (ReflectliteValue.methodAny (ReflectliteValue.valueError "reflectlite.Value.Type" 0) (fun t _ _ _ => ReflectliteType.toType t) #[.agg #[.pointer (some ⟨8, 344, none⟩), .pointer (some a), .int .u64 150]]).run Tryz.prog w
 = .ok (.iface 262 (.agg #[.pointer (some ⟨8,344,none⟩)])) w:=ay
theorem ahc (w:World):((ReflectliteType.abiMethod λt=>(λa:Nat=>Value.int IntKind.u8 (a:Int)) <$> Rtype.kind t) #[.pointer (some ⟨8,344,none⟩)]).run Tryz.prog w= .ok (.int .u8 22) w:=ay
theorem ahb (w:World):((ReflectliteType.abiMethod λt=>(λa:Nat=>Value.int IntKind.u8 (a:Int)) <$> Rtype.kind t) #[.pointer (some ⟨8,343,none⟩)]).run Tryz.prog w= .ok (.int .u8 22) w:=ay
theorem Ww (a:Addr) (w:World):(ReflectliteValue.parts (.agg #[.pointer (some ⟨8,344,none⟩),.pointer (some a),.int .u64 150])).run Tryz.prog w= .ok (some (344,a,150)) w:=ay
theorem aha (a p:Addr) (W:World) (ha:W.cell? a=some (.pointer (some p))):
 (ReflectliteValue.method (ReflectliteValue.valueError "reflectlite.Value.IsNil" 0) ReflectliteValue.isNil #[.agg #[.pointer (some ⟨8, 344, none⟩), .pointer (some a), .int .u64 150]]).run Tryz.prog W = .ok (.bool false) W := by
 rw[Ev];simp only[Sem.run_bind,Ww,Result.andThen];simp[ReflectliteValue.isNil,loadVar,isAgg,underlying,Tryz.underlying344,ha,Result.andThen]
theorem ag8 (w:World):(ReflectliteType.method ReflectliteType.elem #[.agg #[.pointer (some ⟨8,344,none⟩)]]).run Tryz.prog w= .ok (.iface 262 (.agg #[.pointer (some ⟨8,343,none⟩)])) w:=ay
theorem ag' (w : World) : (ReflectliteType.relation "Implements" ReflectliteType.implements_ #[.agg #[.pointer (some ⟨8, 343, none⟩)], .iface 262 (.agg #[.pointer (some ⟨8, 106, none⟩)])]).run Tryz.prog w = .ok (.bool true) w := by kernel_rfl
theorem ahj (v:Value) (w:World):(ReflectliteType.typeOf #[.iface 343 v]).run Tryz.prog w= .ok (.iface 262 (.agg #[.pointer (some ⟨8,343,none⟩)])) w:=ay
theorem ag6 (w : World) : (ReflectliteType.relation "AssignableTo" ReflectliteType.assignableTo #[.agg #[.pointer (some ⟨8, 343, none⟩)], .iface 262 (.agg #[.pointer (some ⟨8, 343, none⟩)])]).run Tryz.prog w = .ok (.bool true) w := by kernel_rfl
theorem ahl (e:Addr) (w:World):(ReflectliteValue.unpack (.iface 343 (.pointer (some e)))).run Tryz.prog w
 = .ok (.agg #[.pointer (some ⟨8,343,none⟩),.pointer (some ⟨w.heap.size,0,none⟩),.int .u64 150]) (w.alloc (.cells #[.pointer (some e)] 343)):=ay
theorem ag9 (w:World):(Rtype.elem? 344).run Tryz.prog w= .ok (some 343) w:=ay
theorem ahd (p:Addr) (w:World):(ReflectliteValue.mk 343 p ReflectliteValue.flagAddr).run Tryz.prog w= .ok (.agg #[.pointer (some ⟨8,343,none⟩),.pointer (some p),.int .u64 406]) w:=ay
theorem ag_ (a p:Addr) (W:World) (ha:W.cell? a=some (.pointer (some p))):
 (ReflectliteValue.method (ReflectliteValue.valueError "reflectlite.Value.Elem" 0) ReflectliteValue.elem #[.agg #[.pointer (some ⟨8, 344, none⟩), .pointer (some a), .int .u64 150]]).run Tryz.prog W
  = .ok (.agg #[.pointer (some ⟨8,343,none⟩),.pointer (some p),.int .u64 406]) W:=by
 rw[Ev];simp only[Sem.run_bind,Ww,Result.andThen];simp[ReflectliteValue.elem,loadVar,isAgg,underlying,Tryz.underlying344,ha,Result.andThen,ag9,ahd]
theorem ahe (a:Addr) (w:World):(ReflectliteValue.parts (.agg #[.pointer (some ⟨8,343,none⟩),.pointer (some a),.int .u64 406])).run Tryz.prog w= .ok (some (343,a,406)) w:=ay
theorem ahf (a:Addr) (w:World):(ReflectliteValue.parts (.agg #[.pointer (some ⟨8,343,none⟩),.pointer (some a),.int .u64 150])).run Tryz.prog w= .ok (some (343,a,150)) w:=ay
theorem ag7 (w:World):(Rtype.directlyAssignable 343 343).run Tryz.prog w= .ok true w:=ay
theorem ahh (w:World):(sizeOf 343).run Tryz.prog w= .ok 1 w:=ay
theorem ahg (ta b:Addr) (e:Addr) (aZ:Value) (W:World) (hb:W.cell? b=some (.pointer (some e))) (ht:W.cell? ta=some aZ) (hf:W.frozen? ta=false):
 (ReflectliteValue.set #[.agg #[.pointer (some ⟨8,343,none⟩),.pointer (some ta),.int .u64 406],.agg #[.pointer (some ⟨8,343,none⟩),.pointer (some b),.int .u64 150]]).run Tryz.prog W
   = .ok (.tuple #[]) (W.setCell ta (.pointer (some e))):=by
 rw[O9];simp only[Sem.run_bind,ahe,ahf,Result.andThen];simp[ReflectliteValue.flagAddr,loadVar,isAgg,underlying,Tryz.underlying343,hb,Result.andThen,ag7,storeVar,Value.cells,storeCells,Addr.add,ahh];rw[run_store Tryz.prog W ta _ _ (by rfl)]
 simp[ht,hf]
set_option maxHeartbeats 16000000 in
theorem YW (e:Addr) (t:Addr) (aZ:Value) (w:World) (hg:w.cell? ⟨1,0,none⟩=some (.iface 262 (.agg #[.pointer (some ⟨8,106,none⟩)]))) (kW:w.cell? t=some aZ) (pn:w.frozen? t=false):
 Calls Tryz.prog 94 #[.iface 343 (.pointer (some e)),.iface 344 (.pointer (some t))] w λev w'=>ev= .returned (.bool true)/\w'=((((w.alloc (.cells #[.pointer (some t)] 344)).alloc (.cells #[.pointer (some ⟨8,344,none⟩),.pointer (some ⟨w.heap.size,0,none⟩),.int .u64 150] 204)).alloc (.cells #[.pointer (some ⟨8,344,none⟩),.pointer (some ⟨w.heap.size,0,none⟩),.int .u64 150] 204)).alloc (.cells #[.pointer (some e)] 343)).setCell t (.pointer (some e)):=by
 have h6:=Ih.down;have h7:=Ii.down;have h8:=Ij.down;have Ju:=Ib.down;have Jw:=Ie.down;have Jx:=Ig.down;have Jr:=HZ.down;have Jv:=Ic.down;have Js:=H_.down;have Jt:=Ia.down;have tO:=ahj;have mA:=GQ;have a25:=ag6;have v25:=ahl;have f6:=ahk;have f7:=ahi;have mK:=GU;have mE:=GR;have mI:=GS;have Ki:=ahc;have Kg:=ahb;have tX:=ag8;have i25:=ag';have n8:=aha ⟨w.heap.size,0,none⟩ t ((w.alloc (.cells #[.pointer (some t)] 344)).alloc (.cells #[.pointer (some ⟨8,344,none⟩),.pointer (some ⟨w.heap.size,0,none⟩),.int .u64 150] 204)) bj;have aQ:1<w.heap.size:=ur hg;have JS:((w.alloc (.cells #[.pointer (some t)] 344)).alloc (.cells #[.pointer (some ⟨8,344,none⟩),.pointer (some ⟨w.heap.size,0,none⟩),.int .u64 150] 204)).cell? ⟨1,0,none⟩=some (.iface 262 (.agg #[.pointer (some ⟨8,106,none⟩)])):=by
  rw[World.cell?_alloc_lt _ _ ⟨1,0,none⟩ (by first |(simp;done) |(simp;omega)),World.cell?_alloc_lt _ _ ⟨1,0,none⟩ aQ];exact hg
 have oz:t.block<w.heap.size:=ur kW;have el:=ag_ ⟨w.heap.size,0,none⟩ t (((w.alloc (.cells #[.pointer (some t)] 344)).alloc (.cells #[.pointer (some ⟨8,344,none⟩),.pointer (some ⟨w.heap.size,0,none⟩),.int .u64 150] 204)).alloc (.cells #[.pointer (some ⟨8,344,none⟩),.pointer (some ⟨w.heap.size,0,none⟩),.int .u64 150] 204)) (by rw[World.cell?_alloc_lt _ _ ⟨w.heap.size,0,none⟩ (by first |(simp;done) |(simp;omega))];simp)
 have st:=ahg t ⟨w.heap.size+1+1+1,0,none⟩ e aZ ((((w.alloc (.cells #[.pointer (some t)] 344)).alloc (.cells #[.pointer (some ⟨8,344,none⟩),.pointer (some ⟨w.heap.size,0,none⟩),.int .u64 150] 204)).alloc (.cells #[.pointer (some ⟨8,344,none⟩),.pointer (some ⟨w.heap.size,0,none⟩),.int .u64 150] 204)).alloc (.cells #[.pointer (some e)] 343))
  (by rw[World.cell?_alloc_at _ _ _ _ bj];rfl)
  (by rw[World.cell?_alloc_lt _ _ t (by first |(simp;done) |(simp;omega)),World.cell?_alloc_lt _ _ t (by first |(simp;done) |(simp;omega)),World.cell?_alloc_lt _ _ t (by first |(simp;done) |(simp;omega)),World.cell?_alloc_lt _ _ t oz];exact kW)
  (by rw[World.frozen?_alloc_old _ _ t (by first |(simp;done) |(simp;omega)),World.frozen?_alloc_old _ _ t (by first |(simp;done) |(simp;omega)),World.frozen?_alloc_old _ _ t (by first |(simp;done) |(simp;omega)),World.frozen?_alloc_old _ _ t (Nat.ne_of_lt oz)];exact pn)
 go_enter Tryz.func94,Tryz.ntmps94
 go_wp2
 refine wp_loop_rounds 1 ?_;rw[rounds_succ]
 go_wp2
 go_ret
 exact⟨J,J⟩
theorem Wg (t:Addr) (w:World):(ReflectliteValue.unpack (.iface 160 (.pointer (some t)))).run Tryz.prog w
 = .ok (.agg #[.pointer (some ⟨8,160,none⟩),.pointer (some ⟨w.heap.size,0,none⟩),.int .u64 150]) (w.alloc (.cells #[.pointer (some t)] 160)):=ay
theorem We (a : Addr) (w : World) : (ReflectliteValue.methodAny (ReflectliteValue.valueError "reflectlite.Value.Type" 0) (fun t _ _ _ => ReflectliteType.toType t) #[.agg #[.pointer (some ⟨8, 160, none⟩), .pointer (some a), .int .u64 150]]).run Tryz.prog w
 = .ok (.iface 262 (.agg #[.pointer (some ⟨8,160,none⟩)])) w:=ay
theorem Wb (w:World):((ReflectliteType.abiMethod λt=>(λa:Nat=>Value.int IntKind.u8 (a:Int)) <$> Rtype.kind t) #[.pointer (some ⟨8,160,none⟩)]).run Tryz.prog w= .ok (.int .u8 22) w:=ay
theorem Wa (w:World):((ReflectliteType.abiMethod λt=>(λa:Nat=>Value.int IntKind.u8 (a:Int)) <$> Rtype.kind t) #[.pointer (some ⟨8,148,none⟩)]).run Tryz.prog w= .ok (.int .u8 2) w:=ay
theorem Wc (a:Addr) (w:World):(ReflectliteValue.parts (.agg #[.pointer (some ⟨8,160,none⟩),.pointer (some a),.int .u64 150])).run Tryz.prog w= .ok (some (160,a,150)) w:=ay
theorem V_ (a p:Addr) (W:World) (ha:W.cell? a=some (.pointer (some p))):
 (ReflectliteValue.method (ReflectliteValue.valueError "reflectlite.Value.IsNil" 0) ReflectliteValue.isNil #[.agg #[.pointer (some ⟨8, 160, none⟩), .pointer (some a), .int .u64 150]]).run Tryz.prog W = .ok (.bool false) W := by
 rw[Ev];simp only[Sem.run_bind,Wc,Result.andThen];simp[ReflectliteValue.isNil,loadVar,isAgg,underlying,Tryz.underlying160,ha,Result.andThen]
theorem VZ (w:World):(ReflectliteType.method ReflectliteType.elem #[.agg #[.pointer (some ⟨8,160,none⟩)]]).run Tryz.prog w= .ok (.iface 262 (.agg #[.pointer (some ⟨8,148,none⟩)])) w:=ay
theorem V8 (w : World) : (ReflectliteType.relation "Implements" ReflectliteType.implements_ #[.agg #[.pointer (some ⟨8, 148, none⟩)], .iface 262 (.agg #[.pointer (some ⟨8, 106, none⟩)])]).run Tryz.prog w = .ok (.bool true) w := by kernel_rfl
theorem Wf (v:Value) (w:World):(ReflectliteType.typeOf #[.iface 148 v]).run Tryz.prog w= .ok (.iface 262 (.agg #[.pointer (some ⟨8,148,none⟩)])) w:=ay
theorem VY (w : World) : (ReflectliteType.relation "AssignableTo" ReflectliteType.assignableTo #[.agg #[.pointer (some ⟨8, 148, none⟩)], .iface 262 (.agg #[.pointer (some ⟨8, 148, none⟩)])]).run Tryz.prog w = .ok (.bool true) w := by kernel_rfl
theorem Wh (e:Int) (w:World):(ReflectliteValue.unpack (.iface 148 (.int .i64 e))).run Tryz.prog w
 = .ok (.agg #[.pointer (some ⟨8,148,none⟩),.pointer (some ⟨w.heap.size,0,none⟩),.int .u64 130]) (w.alloc (.cells #[.int .i64 e] 148)):=ay
theorem agV (w:World):(Rtype.elem? 160).run Tryz.prog w= .ok (some 148) w:=ay
theorem agW (p:Addr) (w:World):(ReflectliteValue.mk 148 p ReflectliteValue.flagAddr).run Tryz.prog w= .ok (.agg #[.pointer (some ⟨8,148,none⟩),.pointer (some p),.int .u64 386]) w:=ay
theorem V0 (a p:Addr) (W:World) (ha:W.cell? a=some (.pointer (some p))):
 (ReflectliteValue.method (ReflectliteValue.valueError "reflectlite.Value.Elem" 0) ReflectliteValue.elem #[.agg #[.pointer (some ⟨8, 160, none⟩), .pointer (some a), .int .u64 150]]).run Tryz.prog W
  = .ok (.agg #[.pointer (some ⟨8,148,none⟩),.pointer (some p),.int .u64 386]) W:=by
 rw[Ev];simp only[Sem.run_bind,Wc,Result.andThen];simp[ReflectliteValue.elem,loadVar,isAgg,underlying,Tryz.underlying160,ha,Result.andThen,agV,agW]
theorem agX (a:Addr) (w:World):(ReflectliteValue.parts (.agg #[.pointer (some ⟨8,148,none⟩),.pointer (some a),.int .u64 386])).run Tryz.prog w= .ok (some (148,a,386)) w:=ay
theorem agY (a:Addr) (w:World):(ReflectliteValue.parts (.agg #[.pointer (some ⟨8,148,none⟩),.pointer (some a),.int .u64 130])).run Tryz.prog w= .ok (some (148,a,130)) w:=ay
theorem agU (w:World):(Rtype.directlyAssignable 148 148).run Tryz.prog w= .ok true w:=ay
theorem agZ (w:World):(sizeOf 148).run Tryz.prog w= .ok 1 w:=ay
theorem Wd (ta b:Addr) (e:Int) (aZ:Value) (W:World) (hb:W.cell? b=some (.int .i64 e)) (ht:W.cell? ta=some aZ) (hf:W.frozen? ta=false):
 (ReflectliteValue.set #[.agg #[.pointer (some ⟨8,148,none⟩),.pointer (some ta),.int .u64 386],.agg #[.pointer (some ⟨8,148,none⟩),.pointer (some b),.int .u64 130]]).run Tryz.prog W
   = .ok (.tuple #[]) (W.setCell ta (.int .i64 e)):=by
 rw[O9];simp only[Sem.run_bind,agX,agY,Result.andThen];simp[ReflectliteValue.flagAddr,loadVar,isAgg,underlying,Tryz.underlying148,hb,Result.andThen,agU,storeVar,Value.cells,storeCells,Addr.add,agZ];rw[run_store Tryz.prog W ta _ _ (by rfl)]
 simp[ht,hf]
set_option maxHeartbeats 16000000 in
theorem YU (e:Int) (t:Addr) (aZ:Value) (w:World) (hg:w.cell? ⟨1,0,none⟩=some (.iface 262 (.agg #[.pointer (some ⟨8,106,none⟩)]))) (kW:w.cell? t=some aZ) (pn:w.frozen? t=false):
 Calls Tryz.prog 94 #[.iface 148 (.int .i64 e),.iface 160 (.pointer (some t))] w λev w'=>ev= .returned (.bool true)/\w'=((((w.alloc (.cells #[.pointer (some t)] 160)).alloc (.cells #[.pointer (some ⟨8,160,none⟩),.pointer (some ⟨w.heap.size,0,none⟩),.int .u64 150] 204)).alloc (.cells #[.pointer (some ⟨8,160,none⟩),.pointer (some ⟨w.heap.size,0,none⟩),.int .u64 150] 204)).alloc (.cells #[.int .i64 e] 148)).setCell t (.int .i64 e):=by
 have h6:=Ih.down;have h7:=Ii.down;have h8:=Ij.down;have Ju:=Ib.down;have Jw:=Ie.down;have Jx:=Ig.down;have Jr:=HZ.down;have Jv:=Ic.down;have Js:=H_.down;have Jt:=Ia.down;have tO:=Wf;have mA:=GQ;have a25:=VY;have v25:=Wh;have f6:=Wg;have f7:=We;have mK:=GU;have mE:=GR;have mI:=GS;have Ki:=Wb;have Kg:=Wa;have tX:=VZ;have i25:=V8;have n8:=V_ ⟨w.heap.size,0,none⟩ t ((w.alloc (.cells #[.pointer (some t)] 160)).alloc (.cells #[.pointer (some ⟨8,160,none⟩),.pointer (some ⟨w.heap.size,0,none⟩),.int .u64 150] 204)) bj;have aQ:1<w.heap.size:=ur hg;have JS:((w.alloc (.cells #[.pointer (some t)] 160)).alloc (.cells #[.pointer (some ⟨8,160,none⟩),.pointer (some ⟨w.heap.size,0,none⟩),.int .u64 150] 204)).cell? ⟨1,0,none⟩=some (.iface 262 (.agg #[.pointer (some ⟨8,106,none⟩)])):=by
  rw[World.cell?_alloc_lt _ _ ⟨1,0,none⟩ (by first |(simp;done) |(simp;omega)),World.cell?_alloc_lt _ _ ⟨1,0,none⟩ aQ];exact hg
 have oz:t.block<w.heap.size:=ur kW;have el:=V0 ⟨w.heap.size,0,none⟩ t (((w.alloc (.cells #[.pointer (some t)] 160)).alloc (.cells #[.pointer (some ⟨8,160,none⟩),.pointer (some ⟨w.heap.size,0,none⟩),.int .u64 150] 204)).alloc (.cells #[.pointer (some ⟨8,160,none⟩),.pointer (some ⟨w.heap.size,0,none⟩),.int .u64 150] 204)) (by rw[World.cell?_alloc_lt _ _ ⟨w.heap.size,0,none⟩ (by first |(simp;done) |(simp;omega))];simp)
 have st:=Wd t ⟨w.heap.size+1+1+1,0,none⟩ e aZ ((((w.alloc (.cells #[.pointer (some t)] 160)).alloc (.cells #[.pointer (some ⟨8,160,none⟩),.pointer (some ⟨w.heap.size,0,none⟩),.int .u64 150] 204)).alloc (.cells #[.pointer (some ⟨8,160,none⟩),.pointer (some ⟨w.heap.size,0,none⟩),.int .u64 150] 204)).alloc (.cells #[.int .i64 e] 148))
  (by rw[World.cell?_alloc_at _ _ _ _ bj];rfl)
  (by rw[World.cell?_alloc_lt _ _ t (by first |(simp;done) |(simp;omega)),World.cell?_alloc_lt _ _ t (by first |(simp;done) |(simp;omega)),World.cell?_alloc_lt _ _ t (by first |(simp;done) |(simp;omega)),World.cell?_alloc_lt _ _ t oz];exact kW)
  (by rw[World.frozen?_alloc_old _ _ t (by first |(simp;done) |(simp;omega)),World.frozen?_alloc_old _ _ t (by first |(simp;done) |(simp;omega)),World.frozen?_alloc_old _ _ t (by first |(simp;done) |(simp;omega)),World.frozen?_alloc_old _ _ t (Nat.ne_of_lt oz)];exact pn)
 go_enter Tryz.func94,Tryz.ntmps94
 go_wp2
 refine wp_loop_rounds 1 ?_;rw[rounds_succ]
 go_wp2
 go_ret
 exact⟨J,J⟩
theorem YM (v:Value) (xT:TypeId) (w:World):(Instr.typeAssert (.iface 110 v) xT 274 true).run Tryz.prog w= .ok (.tuple #[.nilIface,.bool false]) w:=run_typeAssert_lacksB Tryz.underlying274 ay ay v xT w
theorem YS (v:Value) (xT:TypeId) (w:World):(Instr.typeAssert (.iface 110 v) xT 267 true).run Tryz.prog w= .ok (.tuple #[.iface 110 v,.bool true]) w:=run_typeAssert_hasB Tryz.underlying267 ay v xT w
theorem YI (v : Value) (w : World) : (Go.method 546 110 v "Unwrap").run Tryz.prog w = .ok (324, v) w := by kernel_rfl
theorem YQ (v:Value) (w:World):(ReflectliteType.typeOf #[.iface 110 v]).run Tryz.prog w= .ok (.iface 262 (.agg #[.pointer (some ⟨8,110,none⟩)])) w:=ay
theorem YG (w : World) : (ReflectliteType.relation "AssignableTo" ReflectliteType.assignableTo #[.agg #[.pointer (some ⟨8, 110, none⟩)], .iface 262 (.agg #[.pointer (some ⟨8, 148, none⟩)])]).run Tryz.prog w = .ok (.bool false) w := by kernel_rfl
set_option maxHeartbeats 16000000 in
theorem YX (e:Int) (t:Addr) (aZ:Value) (w:World) (pb:Nat) (hg:w.cell? ⟨1,0,none⟩=some (.iface 262 (.agg #[.pointer (some ⟨8,106,none⟩)]))) (kW:w.cell? t=some aZ) (pn:w.frozen? t=false) (h1:w.cell? ⟨pb,1,none⟩=some (.iface 148 (.int .i64 e))):
 Calls Tryz.prog 94 #[.iface 110 (.pointer (some ⟨pb,0,none⟩)),.iface 160 (.pointer (some t))] w λev w'=>ev= .returned (.bool true)/\w'=((((w.alloc (.cells #[.pointer (some t)] 160)).alloc (.cells #[.pointer (some ⟨8,160,none⟩),.pointer (some ⟨w.heap.size,0,none⟩),.int .u64 150] 204)).alloc (.cells #[.pointer (some ⟨8,160,none⟩),.pointer (some ⟨w.heap.size,0,none⟩),.int .u64 150] 204)).alloc (.cells #[.int .i64 e] 148)).setCell t (.int .i64 e):=by
 have h6:=Ih.down;have h7:=Ii.down;have h8:=Ij.down;have Ju:=Ib.down;have Jw:=Ie.down;have Jx:=Ig.down;have Jr:=HZ.down;have Jv:=Ic.down;have Js:=H_.down;have Jt:=Ia.down;have tO:=Wf;have mA:=GQ;have a25:=VY;have v25:=Wh;have f6:=Wg;have f7:=We;have mK:=GU;have mE:=GR;have mI:=GS;have Ki:=Wb;have Kg:=Wa;have tX:=VZ;have i25:=V8;have oN:=YM;have oU:=YS;have oM:=YI;have oT:=YQ;have oF:=YG;have mP:pb<w.heap.size:=ur h1;have h1a:(((w.alloc (.cells #[.pointer (some t)] 160)).alloc (.cells #[.pointer (some ⟨8,160,none⟩),.pointer (some ⟨w.heap.size,0,none⟩),.int .u64 150] 204)).alloc (.cells #[.pointer (some ⟨8,160,none⟩),.pointer (some ⟨w.heap.size,0,none⟩),.int .u64 150] 204)).cell? ⟨pb,1,none⟩=some (.iface 148 (.int .i64 e)):=by
  rw[World.cell?_alloc_lt _ _ ⟨pb,1,none⟩ (by first |(simp;done) |(simp;omega)),World.cell?_alloc_lt _ _ ⟨pb,1,none⟩ (by first |(simp;done) |(simp;omega)),World.cell?_alloc_lt _ _ ⟨pb,1,none⟩ mP];exact h1
 have n8:=V_ ⟨w.heap.size,0,none⟩ t ((w.alloc (.cells #[.pointer (some t)] 160)).alloc (.cells #[.pointer (some ⟨8,160,none⟩),.pointer (some ⟨w.heap.size,0,none⟩),.int .u64 150] 204)) bj;have aQ:1<w.heap.size:=ur hg;have JS:((w.alloc (.cells #[.pointer (some t)] 160)).alloc (.cells #[.pointer (some ⟨8,160,none⟩),.pointer (some ⟨w.heap.size,0,none⟩),.int .u64 150] 204)).cell? ⟨1,0,none⟩=some (.iface 262 (.agg #[.pointer (some ⟨8,106,none⟩)])):=by
  rw[World.cell?_alloc_lt _ _ ⟨1,0,none⟩ (by first |(simp;done) |(simp;omega)),World.cell?_alloc_lt _ _ ⟨1,0,none⟩ aQ];exact hg
 have oz:t.block<w.heap.size:=ur kW;have el:=V0 ⟨w.heap.size,0,none⟩ t (((w.alloc (.cells #[.pointer (some t)] 160)).alloc (.cells #[.pointer (some ⟨8,160,none⟩),.pointer (some ⟨w.heap.size,0,none⟩),.int .u64 150] 204)).alloc (.cells #[.pointer (some ⟨8,160,none⟩),.pointer (some ⟨w.heap.size,0,none⟩),.int .u64 150] 204)) (by rw[World.cell?_alloc_lt _ _ ⟨w.heap.size,0,none⟩ (by first |(simp;done) |(simp;omega))];simp)
 have st:=Wd t ⟨w.heap.size+1+1+1,0,none⟩ e aZ ((((w.alloc (.cells #[.pointer (some t)] 160)).alloc (.cells #[.pointer (some ⟨8,160,none⟩),.pointer (some ⟨w.heap.size,0,none⟩),.int .u64 150] 204)).alloc (.cells #[.pointer (some ⟨8,160,none⟩),.pointer (some ⟨w.heap.size,0,none⟩),.int .u64 150] 204)).alloc (.cells #[.int .i64 e] 148))
  (by rw[World.cell?_alloc_at _ _ _ _ bj];rfl)
  (by rw[World.cell?_alloc_lt _ _ t (by first |(simp;done) |(simp;omega)),World.cell?_alloc_lt _ _ t (by first |(simp;done) |(simp;omega)),World.cell?_alloc_lt _ _ t (by first |(simp;done) |(simp;omega)),World.cell?_alloc_lt _ _ t oz];exact kW)
  (by rw[World.frozen?_alloc_old _ _ t (by first |(simp;done) |(simp;omega)),World.frozen?_alloc_old _ _ t (by first |(simp;done) |(simp;omega)),World.frozen?_alloc_old _ _ t (by first |(simp;done) |(simp;omega)),World.frozen?_alloc_old _ _ t (Nat.ne_of_lt oz)];exact pn)
 go_enter Tryz.func94,Tryz.ntmps94
 go_wp2
 refine wp_loop_rounds 2 ?_;rw[rounds_succ]
 go_wp2
 rw[rounds_succ]
 go_wp2
 go_ret
 exact⟨J,J⟩
theorem Wu (t:Addr) (w:World):(ReflectliteValue.unpack (.iface 244 (.pointer (some t)))).run Tryz.prog w
 = .ok (.agg #[.pointer (some ⟨8,244,none⟩),.pointer (some ⟨w.heap.size,0,none⟩),.int .u64 150]) (w.alloc (.cells #[.pointer (some t)] 244)):=ay
theorem Ws (a : Addr) (w : World) : (ReflectliteValue.methodAny (ReflectliteValue.valueError "reflectlite.Value.Type" 0) (fun t _ _ _ => ReflectliteType.toType t) #[.agg #[.pointer (some ⟨8, 244, none⟩), .pointer (some a), .int .u64 150]]).run Tryz.prog w
 = .ok (.iface 262 (.agg #[.pointer (some ⟨8,244,none⟩)])) w:=ay
theorem Wp (w:World):((ReflectliteType.abiMethod λt=>(λa:Nat=>Value.int IntKind.u8 (a:Int)) <$> Rtype.kind t) #[.pointer (some ⟨8,244,none⟩)]).run Tryz.prog w= .ok (.int .u8 22) w:=ay
theorem Wo (w:World):((ReflectliteType.abiMethod λt=>(λa:Nat=>Value.int IntKind.u8 (a:Int)) <$> Rtype.kind t) #[.pointer (some ⟨8,243,none⟩)]).run Tryz.prog w= .ok (.int .u8 2) w:=ay
theorem Wq (a:Addr) (w:World):(ReflectliteValue.parts (.agg #[.pointer (some ⟨8,244,none⟩),.pointer (some a),.int .u64 150])).run Tryz.prog w= .ok (some (244,a,150)) w:=ay
theorem Wn (a p:Addr) (W:World) (ha:W.cell? a=some (.pointer (some p))):
 (ReflectliteValue.method (ReflectliteValue.valueError "reflectlite.Value.IsNil" 0) ReflectliteValue.isNil #[.agg #[.pointer (some ⟨8, 244, none⟩), .pointer (some a), .int .u64 150]]).run Tryz.prog W = .ok (.bool false) W := by
 rw[Ev];simp only[Sem.run_bind,Wq,Result.andThen];simp[ReflectliteValue.isNil,loadVar,isAgg,underlying,Tryz.underlying244,ha,Result.andThen]
theorem Wk (w:World):(ReflectliteType.method ReflectliteType.elem #[.agg #[.pointer (some ⟨8,244,none⟩)]]).run Tryz.prog w= .ok (.iface 262 (.agg #[.pointer (some ⟨8,243,none⟩)])) w:=ay
theorem Wm (w : World) : (ReflectliteType.relation "Implements" ReflectliteType.implements_ #[.agg #[.pointer (some ⟨8, 243, none⟩)], .iface 262 (.agg #[.pointer (some ⟨8, 106, none⟩)])]).run Tryz.prog w = .ok (.bool true) w := by kernel_rfl
theorem Wt (v:Value) (w:World):(ReflectliteType.typeOf #[.iface 243 v]).run Tryz.prog w= .ok (.iface 262 (.agg #[.pointer (some ⟨8,243,none⟩)])) w:=ay
theorem Wj (w : World) : (ReflectliteType.relation "AssignableTo" ReflectliteType.assignableTo #[.agg #[.pointer (some ⟨8, 243, none⟩)], .iface 262 (.agg #[.pointer (some ⟨8, 243, none⟩)])]).run Tryz.prog w = .ok (.bool true) w := by kernel_rfl
theorem Wv (e:Int) (w:World):(ReflectliteValue.unpack (.iface 243 (.int .i64 e))).run Tryz.prog w
 = .ok (.agg #[.pointer (some ⟨8,243,none⟩),.pointer (some ⟨w.heap.size,0,none⟩),.int .u64 130]) (w.alloc (.cells #[.int .i64 e] 243)):=ay
theorem ag1 (w:World):(Rtype.elem? 244).run Tryz.prog w= .ok (some 243) w:=ay
theorem ag2 (p:Addr) (w:World):(ReflectliteValue.mk 243 p ReflectliteValue.flagAddr).run Tryz.prog w= .ok (.agg #[.pointer (some ⟨8,243,none⟩),.pointer (some p),.int .u64 386]) w:=ay
theorem Wl (a p:Addr) (W:World) (ha:W.cell? a=some (.pointer (some p))):
 (ReflectliteValue.method (ReflectliteValue.valueError "reflectlite.Value.Elem" 0) ReflectliteValue.elem #[.agg #[.pointer (some ⟨8, 244, none⟩), .pointer (some a), .int .u64 150]]).run Tryz.prog W
  = .ok (.agg #[.pointer (some ⟨8,243,none⟩),.pointer (some p),.int .u64 386]) W:=by
 rw[Ev];simp only[Sem.run_bind,Wq,Result.andThen];simp[ReflectliteValue.elem,loadVar,isAgg,underlying,Tryz.underlying244,ha,Result.andThen,ag1,ag2]
theorem ag3 (a:Addr) (w:World):(ReflectliteValue.parts (.agg #[.pointer (some ⟨8,243,none⟩),.pointer (some a),.int .u64 386])).run Tryz.prog w= .ok (some (243,a,386)) w:=ay
theorem ag4 (a:Addr) (w:World):(ReflectliteValue.parts (.agg #[.pointer (some ⟨8,243,none⟩),.pointer (some a),.int .u64 130])).run Tryz.prog w= .ok (some (243,a,130)) w:=ay
theorem ag0 (w:World):(Rtype.directlyAssignable 243 243).run Tryz.prog w= .ok true w:=ay
theorem ag5 (w:World):(sizeOf 243).run Tryz.prog w= .ok 1 w:=ay
theorem Wr (ta b:Addr) (e:Int) (aZ:Value) (W:World) (hb:W.cell? b=some (.int .i64 e)) (ht:W.cell? ta=some aZ) (hf:W.frozen? ta=false):
 (ReflectliteValue.set #[.agg #[.pointer (some ⟨8,243,none⟩),.pointer (some ta),.int .u64 386],.agg #[.pointer (some ⟨8,243,none⟩),.pointer (some b),.int .u64 130]]).run Tryz.prog W
   = .ok (.tuple #[]) (W.setCell ta (.int .i64 e)):=by
 rw[O9];simp only[Sem.run_bind,ag3,ag4,Result.andThen];simp[ReflectliteValue.flagAddr,loadVar,isAgg,underlying,Tryz.underlying243,hb,Result.andThen,ag0,storeVar,Value.cells,storeCells,Addr.add,ag5];rw[run_store Tryz.prog W ta _ _ (by rfl)]
 simp[ht,hf]
set_option maxHeartbeats 16000000 in
theorem YV (e:Int) (t:Addr) (aZ:Value) (w:World) (hg:w.cell? ⟨1,0,none⟩=some (.iface 262 (.agg #[.pointer (some ⟨8,106,none⟩)]))) (kW:w.cell? t=some aZ) (pn:w.frozen? t=false):
 Calls Tryz.prog 94 #[.iface 243 (.int .i64 e),.iface 244 (.pointer (some t))] w λev w'=>ev= .returned (.bool true)/\w'=((((w.alloc (.cells #[.pointer (some t)] 244)).alloc (.cells #[.pointer (some ⟨8,244,none⟩),.pointer (some ⟨w.heap.size,0,none⟩),.int .u64 150] 204)).alloc (.cells #[.pointer (some ⟨8,244,none⟩),.pointer (some ⟨w.heap.size,0,none⟩),.int .u64 150] 204)).alloc (.cells #[.int .i64 e] 243)).setCell t (.int .i64 e):=by
 have h6:=Ih.down;have h7:=Ii.down;have h8:=Ij.down;have Ju:=Ib.down;have Jw:=Ie.down;have Jx:=Ig.down;have Jr:=HZ.down;have Jv:=Ic.down;have Js:=H_.down;have Jt:=Ia.down;have tO:=Wt;have mA:=GQ;have a25:=Wj;have v25:=Wv;have f6:=Wu;have f7:=Ws;have mK:=GU;have mE:=GR;have mI:=GS;have Ki:=Wp;have Kg:=Wo;have tX:=Wk;have i25:=Wm;have n8:=Wn ⟨w.heap.size,0,none⟩ t ((w.alloc (.cells #[.pointer (some t)] 244)).alloc (.cells #[.pointer (some ⟨8,244,none⟩),.pointer (some ⟨w.heap.size,0,none⟩),.int .u64 150] 204)) bj;have aQ:1<w.heap.size:=ur hg;have JS:((w.alloc (.cells #[.pointer (some t)] 244)).alloc (.cells #[.pointer (some ⟨8,244,none⟩),.pointer (some ⟨w.heap.size,0,none⟩),.int .u64 150] 204)).cell? ⟨1,0,none⟩=some (.iface 262 (.agg #[.pointer (some ⟨8,106,none⟩)])):=by
  rw[World.cell?_alloc_lt _ _ ⟨1,0,none⟩ (by first |(simp;done) |(simp;omega)),World.cell?_alloc_lt _ _ ⟨1,0,none⟩ aQ];exact hg
 have oz:t.block<w.heap.size:=ur kW;have el:=Wl ⟨w.heap.size,0,none⟩ t (((w.alloc (.cells #[.pointer (some t)] 244)).alloc (.cells #[.pointer (some ⟨8,244,none⟩),.pointer (some ⟨w.heap.size,0,none⟩),.int .u64 150] 204)).alloc (.cells #[.pointer (some ⟨8,244,none⟩),.pointer (some ⟨w.heap.size,0,none⟩),.int .u64 150] 204)) (by rw[World.cell?_alloc_lt _ _ ⟨w.heap.size,0,none⟩ (by first |(simp;done) |(simp;omega))];simp)
 have st:=Wr t ⟨w.heap.size+1+1+1,0,none⟩ e aZ ((((w.alloc (.cells #[.pointer (some t)] 244)).alloc (.cells #[.pointer (some ⟨8,244,none⟩),.pointer (some ⟨w.heap.size,0,none⟩),.int .u64 150] 204)).alloc (.cells #[.pointer (some ⟨8,244,none⟩),.pointer (some ⟨w.heap.size,0,none⟩),.int .u64 150] 204)).alloc (.cells #[.int .i64 e] 243))
  (by rw[World.cell?_alloc_at _ _ _ _ bj];rfl)
  (by rw[World.cell?_alloc_lt _ _ t (by first |(simp;done) |(simp;omega)),World.cell?_alloc_lt _ _ t (by first |(simp;done) |(simp;omega)),World.cell?_alloc_lt _ _ t (by first |(simp;done) |(simp;omega)),World.cell?_alloc_lt _ _ t oz];exact kW)
  (by rw[World.frozen?_alloc_old _ _ t (by first |(simp;done) |(simp;omega)),World.frozen?_alloc_old _ _ t (by first |(simp;done) |(simp;omega)),World.frozen?_alloc_old _ _ t (by first |(simp;done) |(simp;omega)),World.frozen?_alloc_old _ _ t (Nat.ne_of_lt oz)];exact pn)
 go_enter Tryz.func94,Tryz.ntmps94
 go_wp2
 refine wp_loop_rounds 1 ?_;rw[rounds_succ]
 go_wp2
 go_ret
 exact⟨J,J⟩
theorem YN (v:Value) (xT:TypeId) (w:World):(Instr.typeAssert (.iface 301 v) xT 274 true).run Tryz.prog w= .ok (.tuple #[.nilIface,.bool false]) w:=run_typeAssert_lacksB Tryz.underlying274 ay ay v xT w
theorem YT (v:Value) (xT:TypeId) (w:World):(Instr.typeAssert (.iface 301 v) xT 267 true).run Tryz.prog w= .ok (.tuple #[.iface 301 v,.bool true]) w:=run_typeAssert_hasB Tryz.underlying267 ay v xT w
theorem YJ (v : Value) (w : World) : (Go.method 546 301 v "Unwrap").run Tryz.prog w = .ok (345, v) w := by kernel_rfl
theorem YR (v:Value) (w:World):(ReflectliteType.typeOf #[.iface 301 v]).run Tryz.prog w= .ok (.iface 262 (.agg #[.pointer (some ⟨8,301,none⟩)])) w:=ay
theorem YH (w : World) : (ReflectliteType.relation "AssignableTo" ReflectliteType.assignableTo #[.agg #[.pointer (some ⟨8, 301, none⟩)], .iface 262 (.agg #[.pointer (some ⟨8, 243, none⟩)])]).run Tryz.prog w = .ok (.bool false) w := by kernel_rfl
set_option maxHeartbeats 16000000 in
theorem YY (e:Int) (t:Addr) (aZ:Value) (w:World) (pb:Nat) (hg:w.cell? ⟨1,0,none⟩=some (.iface 262 (.agg #[.pointer (some ⟨8,106,none⟩)]))) (kW:w.cell? t=some aZ) (pn:w.frozen? t=false) (h1:w.cell? ⟨pb,1,none⟩=some (.iface 243 (.int .i64 e))):
 Calls Tryz.prog 94 #[.iface 301 (.pointer (some ⟨pb,0,none⟩)),.iface 244 (.pointer (some t))] w λev w'=>ev= .returned (.bool true)/\w'=((((w.alloc (.cells #[.pointer (some t)] 244)).alloc (.cells #[.pointer (some ⟨8,244,none⟩),.pointer (some ⟨w.heap.size,0,none⟩),.int .u64 150] 204)).alloc (.cells #[.pointer (some ⟨8,244,none⟩),.pointer (some ⟨w.heap.size,0,none⟩),.int .u64 150] 204)).alloc (.cells #[.int .i64 e] 243)).setCell t (.int .i64 e):=by
 have h6:=Ih.down;have h7:=Ii.down;have h8:=Ij.down;have Ju:=Ib.down;have Jw:=Ie.down;have Jx:=Ig.down;have Jr:=HZ.down;have Jv:=Ic.down;have Js:=H_.down;have Jt:=Ia.down;have tO:=Wt;have mA:=GQ;have a25:=Wj;have v25:=Wv;have f6:=Wu;have f7:=Ws;have mK:=GU;have mE:=GR;have mI:=GS;have Ki:=Wp;have Kg:=Wo;have tX:=Wk;have i25:=Wm;have oN:=YN;have oU:=YT;have oM:=YJ;have oT:=YR;have oF:=YH;have mP:pb<w.heap.size:=ur h1;have h1a:(((w.alloc (.cells #[.pointer (some t)] 244)).alloc (.cells #[.pointer (some ⟨8,244,none⟩),.pointer (some ⟨w.heap.size,0,none⟩),.int .u64 150] 204)).alloc (.cells #[.pointer (some ⟨8,244,none⟩),.pointer (some ⟨w.heap.size,0,none⟩),.int .u64 150] 204)).cell? ⟨pb,1,none⟩=some (.iface 243 (.int .i64 e)):=by
  rw[World.cell?_alloc_lt _ _ ⟨pb,1,none⟩ (by first |(simp;done) |(simp;omega)),World.cell?_alloc_lt _ _ ⟨pb,1,none⟩ (by first |(simp;done) |(simp;omega)),World.cell?_alloc_lt _ _ ⟨pb,1,none⟩ mP];exact h1
 have n8:=Wn ⟨w.heap.size,0,none⟩ t ((w.alloc (.cells #[.pointer (some t)] 244)).alloc (.cells #[.pointer (some ⟨8,244,none⟩),.pointer (some ⟨w.heap.size,0,none⟩),.int .u64 150] 204)) bj;have aQ:1<w.heap.size:=ur hg;have JS:((w.alloc (.cells #[.pointer (some t)] 244)).alloc (.cells #[.pointer (some ⟨8,244,none⟩),.pointer (some ⟨w.heap.size,0,none⟩),.int .u64 150] 204)).cell? ⟨1,0,none⟩=some (.iface 262 (.agg #[.pointer (some ⟨8,106,none⟩)])):=by
  rw[World.cell?_alloc_lt _ _ ⟨1,0,none⟩ (by first |(simp;done) |(simp;omega)),World.cell?_alloc_lt _ _ ⟨1,0,none⟩ aQ];exact hg
 have oz:t.block<w.heap.size:=ur kW;have el:=Wl ⟨w.heap.size,0,none⟩ t (((w.alloc (.cells #[.pointer (some t)] 244)).alloc (.cells #[.pointer (some ⟨8,244,none⟩),.pointer (some ⟨w.heap.size,0,none⟩),.int .u64 150] 204)).alloc (.cells #[.pointer (some ⟨8,244,none⟩),.pointer (some ⟨w.heap.size,0,none⟩),.int .u64 150] 204)) (by rw[World.cell?_alloc_lt _ _ ⟨w.heap.size,0,none⟩ (by first |(simp;done) |(simp;omega))];simp)
 have st:=Wr t ⟨w.heap.size+1+1+1,0,none⟩ e aZ ((((w.alloc (.cells #[.pointer (some t)] 244)).alloc (.cells #[.pointer (some ⟨8,244,none⟩),.pointer (some ⟨w.heap.size,0,none⟩),.int .u64 150] 204)).alloc (.cells #[.pointer (some ⟨8,244,none⟩),.pointer (some ⟨w.heap.size,0,none⟩),.int .u64 150] 204)).alloc (.cells #[.int .i64 e] 243))
  (by rw[World.cell?_alloc_at _ _ _ _ bj];rfl)
  (by rw[World.cell?_alloc_lt _ _ t (by first |(simp;done) |(simp;omega)),World.cell?_alloc_lt _ _ t (by first |(simp;done) |(simp;omega)),World.cell?_alloc_lt _ _ t (by first |(simp;done) |(simp;omega)),World.cell?_alloc_lt _ _ t oz];exact kW)
  (by rw[World.frozen?_alloc_old _ _ t (by first |(simp;done) |(simp;omega)),World.frozen?_alloc_old _ _ t (by first |(simp;done) |(simp;omega)),World.frozen?_alloc_old _ _ t (by first |(simp;done) |(simp;omega)),World.frozen?_alloc_old _ _ t (Nat.ne_of_lt oz)];exact pn)
 go_enter Tryz.func94,Tryz.ntmps94
 go_wp2
 refine wp_loop_rounds 2 ?_;rw[rounds_succ]
 go_wp2
 rw[rounds_succ]
 go_wp2
 go_ret
 exact⟨J,J⟩
end
section
open Go.Hx
def vi.f (e t:Er):Option Bool:=match e,t with
 | .eh h,.eh g=>if fc.contains h&&fc.contains g then some (Nat.beq h g) else none
 | .wrap 110 [_] (.eh h),.eh g=>if fc.contains h&&fc.contains g then some (Nat.beq h g) else none
 | .wrap 110 [_] (.num 148 _),.eh g=>if fc.contains g then some false else none
 | .wrap 222 [_] (.eh h),.eh g=>if fc.contains h&&fc.contains g then some (Nat.beq h g) else none
 |_,_=>none
theorem cellAt {W w:World} {H:Hp} {b off:Nat} {c:Array Value} {T:TypeId} {fr:Nat×Nat} {v:Value} (ow:bh W w H) (hm:(b,Obj.cells c T fr)∈H) (hv:c[off]? =some v):w.cell? ⟨b,off,none⟩=some v:=ow.cell hm hv
theorem vi.c {el:Nat->Addr} {tA ER:Value} (e t:Er) (r:Bool) (F:Hp) (H:vi.f e t=some r) (hG:fM 414 fc gY el F) (h1:lP 414 el e tA F) (h2:lP 414 el t ER F):
 gJ Tryz.prog 93 [tA,ER] [F] (λ_:Unit=> .bool r) (λ_=>[F]):=by
 intro W w ow;have cu:bh W w F:=by simpa using ow
 unfold vi.f at H;split at H
 ·rename_i h g;obtain⟨hc,H⟩:=az H;simp only[Bool.and_eq_true,List.contains_iff_mem] at hc;obtain⟨m1,m2⟩:=hc;have h2:ER= .iface 414 (.pointer (some (el g))):=h2;subst h2;obtain⟨c1,T1,q1⟩:=hG.2.1 h m1;obtain⟨c2,T2,q2⟩:=hG.2.1 g m2;have h1:tA= .iface 414 (.pointer (some (el h))):=h1;subst h1
  by_cases e:h=g
  ·subst e;have hr:r=true:=by simpa using H.symm
   subst hr;exact(aeZ (el h) w).mono λe w' ⟨he,hw⟩=>⟨(),he,by subst hw;simpa using cu⟩
  ·have hr:r=false:=by rw[<-Option.some.inj H];exact wU e
   subst hr;exact(aeY (el h) (el g) c1 c2 T1 T2 w (λq=>e (hG.2.2.1 h m1 g m2 (by simpa using q))) (cu.lookup q1) (cu.lookup q2)).mono λe w' ⟨he,hw⟩=>⟨(),he,by subst hw;simpa using cu⟩
 ·rename_i x0 h g;obtain⟨hc,H⟩:=az H;simp only[Bool.and_eq_true,List.contains_iff_mem] at hc;obtain⟨m1,m2⟩:=hc;have h2:ER= .iface 414 (.pointer (some (el g))):=h2;subst h2;obtain⟨c1,T1,q1⟩:=hG.2.1 h m1;obtain⟨c2,T2,q2⟩:=hG.2.1 g m2;obtain⟨b,vo,T,hv,hm,ho⟩:=h1;subst hv;have ho:vo= .iface 414 (.pointer (some (el h))):=ho;subst ho;have eB:w.cell? ⟨b,1,none⟩=some (.iface 414 (.pointer (some (el h)))):=cellAt cu hm J
  by_cases e:h=g
  ·subst e;have hr:r=true:=by simpa using H.symm
   subst hr;exact(ae3 b (el h) w eB).mono λe w' ⟨he,hw⟩=>⟨(),he,by subst hw;simpa using cu⟩
  ·have hr:r=false:=by rw[<-Option.some.inj H];exact wU e
   subst hr;exact(ae1 b (el h) (el g) c1 c2 T1 T2 w eB (λq=>e (hG.2.2.1 h m1 g m2 (by simpa using q))) (cu.lookup q1) (cu.lookup q2)).mono λe w' ⟨he,hw⟩=>⟨(),he,by subst hw;simpa using cu⟩
 ·rename_i x0 m g;obtain⟨hc,H⟩:=az H;have h2:ER= .iface 414 (.pointer (some (el g))):=h2;subst h2;obtain⟨b,vo,T,hv,hm,ho⟩:=h1;subst hv;have ho:vo= .iface 148 (.int .i64 m):=ho;subst ho;have hr:r=false:=(Option.some.inj H).symm;subst hr;exact(ae0 b m (el g) w (cellAt cu hm rfl)).mono λe w' ⟨he,hw⟩=>⟨(),he,by subst hw;simpa using cu⟩
 ·rename_i x0 h g;obtain⟨hc,H⟩:=az H;simp only[Bool.and_eq_true,List.contains_iff_mem] at hc;obtain⟨m1,m2⟩:=hc;have h2:ER= .iface 414 (.pointer (some (el g))):=h2;subst h2;obtain⟨c1,T1,q1⟩:=hG.2.1 h m1;obtain⟨c2,T2,q2⟩:=hG.2.1 g m2;obtain⟨b,vo,T,hv,hm,ho⟩:=h1;subst hv;have ho:vo= .iface 414 (.pointer (some (el h))):=ho;subst ho;have eB:w.cell? ⟨b,1,none⟩=some (.iface 414 (.pointer (some (el h)))):=cellAt cu hm J
  by_cases e:h=g
  ·subst e;have hr:r=true:=by simpa using H.symm
   subst hr;exact(ae4 b (el h) w eB).mono λe w' ⟨he,hw⟩=>⟨(),he,by subst hw;simpa using cu⟩
  ·have hr:r=false:=by rw[<-Option.some.inj H];exact wU e
   subst hr;exact(ae2 b (el h) (el g) c1 c2 T1 T2 w eB (λq=>e (hG.2.2.1 h m1 g m2 (by simpa using q))) (cu.lookup q1) (cu.lookup q2)).mono λe w' ⟨he,hw⟩=>⟨(),he,by subst hw;simpa using cu⟩
 ·cases H
theorem Hb {W w:World} {H:Hp} {b T:Nat} {c:Array Value} {o1 o2 o3 o4:Obj} {v:Value} (ow:bh W w ((b,.cells c T (0,0))::H)):
 bh W (((((w.alloc o1).alloc o2).alloc o3).alloc o4).setCell ⟨b,0,none⟩ v) ((b,.cells (c.setIfInBounds 0 v) T (0,0))::H):=by
 have h:=(((ow.alloc o1).alloc o2).alloc o3).alloc o4;have h2:bh W ((((w.alloc o1).alloc o2).alloc o3).alloc o4) ((b,.cells c T (0,0))::H):=h.sub (List.Sublist.cons _ (List.Sublist.cons _ (List.Sublist.cons _ (List.Sublist.cons _ (List.Sublist.refl _)))));exact h2.setCell
theorem ME.n {el:Nat->Addr} {b:Nat} {x:Value} (F:Hp) (hG:fM 414 fc gY el F):
 gJ Tryz.prog 94 [.nilIface,.iface 344 (.pointer (some ⟨b,0,none⟩))] [[(b,Obj.cells #[x] 343 (0,0))],F] (λ_:Unit=> .bool false) (λ_=>[[(b,Obj.cells #[x] 343 (0,0))],F]):=by
 intro W w ow;exact(LS _ w).mono λe w' ⟨he,hw⟩=>⟨(),he,by subst hw;exact ow⟩
theorem ME.s {el:Nat->Addr} {b:Nat} (q:Nat) (F:Hp) (hG:fM 414 fc gY el F):
 gJ Tryz.prog 94 [.iface 343 (.pointer (some ⟨q,0,none⟩)),.iface 344 (.pointer (some ⟨b,0,none⟩))] [[(b,Obj.cells #[.pointer none] 343 (0,0))],F] (λ_:Unit=> .bool true) (λ_=>[[(b,Obj.cells #[.pointer (some ⟨q,0,none⟩)] 343 (0,0))],F]):=by
 intro W w ow;have cu:bh W w ((b,Obj.cells #[.pointer none] 343 (0,0))::F):=by simpa using ow
 obtain⟨TG,R6,Gi⟩:=hG.2.2.2 _ (List.mem_singleton.2 J);have hg:=cu.cell (off:=0) (List.mem_cons_of_mem _ Gi) J;have kW:=cu.cell (off:=0) (List.mem_cons_self ..) J;have pn:=cu.Lc (off:=0) (List.mem_cons_self ..);exact(YW ⟨q,0,none⟩ ⟨b,0,none⟩ (.pointer none) w hg kW pn).mono λe w' ⟨he,hw⟩=>⟨(),he,by subst hw;simpa using Hb cu⟩
def Qq:Er->Bool
 | .nil=>true
 | .num _ _=>true
 | .wrap 110 [_] (.num 148 _)=>true
 |_=>false
def FM.f (e:Er):Option (Option Int):=if Qq e then Er.DA 148 e else none
theorem FM.c {el:Nat->Addr} {tA:Value} {b:Nat} {aZ:Int} (e:Er) (r:Option Int) (F:Hp) (H:FM.f e=some r) (hG:fM 414 fc gY el F) (h1:lP 414 el e tA F):
 gJ Tryz.prog 94 [tA,.iface 160 (.pointer (some ⟨b,0,none⟩))] [[(b,Obj.cells #[.int .i64 aZ] 148 (0,0))],F] (λ_:Unit=> .bool r.isSome) (λ_=>[[(b,Obj.cells #[.int .i64 (r.getD aZ)] 148 (0,0))],F]):=by
 intro W w ow;have cu:bh W w ((b,Obj.cells #[.int .i64 aZ] 148 (0,0))::F):=by simpa using ow
 obtain⟨TG,R6,Gi⟩:=hG.2.2.2 _ (List.mem_singleton.2 J);have hg:=cu.cell (off:=0) (List.mem_cons_of_mem _ Gi) J;have kW:=cu.cell (off:=0) (List.mem_cons_self ..) J;have pn:=cu.Lc (off:=0) (List.mem_cons_self ..);unfold FM.f at H;obtain⟨vB,H⟩:=az H;unfold Qq at vB;split at vB
 ·have h1:tA= .nilIface:=h1;subst h1;have hr:r=none:=(Option.some.inj H).symm;subst hr;exact(LS _ w).mono λe w' ⟨he,hw⟩=>⟨(),he,by subst hw;exact ow⟩
 ·rename_i u m _;unfold Er.DA at H;obtain⟨hu,H⟩:=az H;subst hu;have h1:tA= .iface 148 (.int .i64 m):=h1;subst h1;have hr:r=some m:=(Option.some.inj H).symm;subst hr;exact(YU m ⟨b,0,none⟩ (.int .i64 aZ) w hg kW pn).mono λe w' ⟨he,hw⟩=>⟨(),he,by subst hw;simpa using Hb cu⟩
 ·rename_i x0 m _;unfold Er.DA at H;obtain⟨hu,H⟩:=az H;obtain⟨q,vo,T,hv,hm,ho⟩:=h1;subst hv;have ho:vo= .iface 148 (.int .i64 m):=ho;subst ho;have hr:r=some m:=(Option.some.inj H).symm;subst hr;have eB:=cu.cell (off:=1) (v:= .iface 148 (.int .i64 m)) (List.mem_cons_of_mem _ hm) J;exact(YX m ⟨b,0,none⟩ (.int .i64 aZ) w q hg kW pn eB).mono λe w' ⟨he,hw⟩=>⟨(),he,by subst hw;simpa using Hb cu⟩
 ·cases vB
def Qr:Er->Bool
 | .nil=>true
 | .num _ _=>true
 | .wrap 301 [_] (.num 243 _)=>true
 |_=>false
def yJ.f (e:Er):Option (Option Int):=if Qr e then Er.DA 243 e else none
theorem yJ.c {el:Nat->Addr} {tA:Value} {b:Nat} {aZ:Int} (e:Er) (r:Option Int) (F:Hp) (H:yJ.f e=some r) (hG:fM 414 fc gY el F) (h1:lP 414 el e tA F):
 gJ Tryz.prog 94 [tA,.iface 244 (.pointer (some ⟨b,0,none⟩))] [[(b,Obj.cells #[.int .i64 aZ] 243 (0,0))],F] (λ_:Unit=> .bool r.isSome) (λ_=>[[(b,Obj.cells #[.int .i64 (r.getD aZ)] 243 (0,0))],F]):=by
 intro W w ow;have cu:bh W w ((b,Obj.cells #[.int .i64 aZ] 243 (0,0))::F):=by simpa using ow
 obtain⟨TG,R6,Gi⟩:=hG.2.2.2 _ (List.mem_singleton.2 J);have hg:=cu.cell (off:=0) (List.mem_cons_of_mem _ Gi) J;have kW:=cu.cell (off:=0) (List.mem_cons_self ..) J;have pn:=cu.Lc (off:=0) (List.mem_cons_self ..);unfold yJ.f at H;obtain⟨vB,H⟩:=az H;unfold Qr at vB;split at vB
 ·have h1:tA= .nilIface:=h1;subst h1;have hr:r=none:=(Option.some.inj H).symm;subst hr;exact(LS _ w).mono λe w' ⟨he,hw⟩=>⟨(),he,by subst hw;exact ow⟩
 ·rename_i u m _;unfold Er.DA at H;obtain⟨hu,H⟩:=az H;subst hu;have h1:tA= .iface 243 (.int .i64 m):=h1;subst h1;have hr:r=some m:=(Option.some.inj H).symm;subst hr;exact(YV m ⟨b,0,none⟩ (.int .i64 aZ) w hg kW pn).mono λe w' ⟨he,hw⟩=>⟨(),he,by subst hw;simpa using Hb cu⟩
 ·rename_i x0 m _;unfold Er.DA at H;obtain⟨hu,H⟩:=az H;obtain⟨q,vo,T,hv,hm,ho⟩:=h1;subst hv;have ho:vo= .iface 243 (.int .i64 m):=ho;subst ho;have hr:r=some m:=(Option.some.inj H).symm;subst hr;have eB:=cu.cell (off:=1) (v:= .iface 243 (.int .i64 m)) (List.mem_cons_of_mem _ hm) J;exact(YY m ⟨b,0,none⟩ (.int .i64 aZ) w q hg kW pn eB).mono λe w' ⟨he,hw⟩=>⟨(),he,by subst hw;simpa using Hb cu⟩
 ·cases vB
end
end Go.Proofs.YthodkonhneebbaaGreatDoor
