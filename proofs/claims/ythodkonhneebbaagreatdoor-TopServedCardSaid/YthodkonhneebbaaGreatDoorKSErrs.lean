/- Part of the proof. No condition. -/
import Derived.Test.YthodkonhneebbaaGreatDoorProg
import Derived.WalkKit
import Derived.LaidEql
import Derived.Stop.Asserts
import Derived.RowKitTokens
import Derived.KernelRfl
import Derived.Test.YthodkonhneebbaaGreatDoorKSHy
namespace Go.Proofs.YthodkonhneebbaaGreatDoor
set_option maxRecDepth 100000
set_option linter.unusedVariables false
set_option linter.unusedSimpArgs false
abbrev fc:List Nat:=[0,2,3,4,5,6]
abbrev gW:List (Nat×Value):=[(1,.iface 262 (.agg #[.pointer (some ⟨8,106,none⟩)]))]
theorem aeQ:Go.Hx.Qj Tryz.prog 296 22:=⟨⟨#[3],λargs w=>run_callFunc_extern (e:=Extern.BytealgMakeNoZero.makeNoZero #[3] #[22]) Tryz.func296 aB aB aB aB args w⟩⟩
section
open Go.RowKit Go.Extern.Stop Go.Stop Go.Extern
theorem CO (v:Value) (w:World):(Extern.ReflectliteType.typeOf #[.iface 414 v]).run Tryz.prog w= .ok (.iface 262 (.agg #[.pointer (some ⟨8,414,none⟩)])) w:=aB
theorem CK (w:World):(callFunc 335 #[.agg #[.pointer (some ⟨8,414,none⟩)]]).run Tryz.prog w= .ok (.value (.bool true)) w:=aB
theorem CM (v : Value) (w : World) : (Go.method 546 262 v "Comparable").run Tryz.prog w = .ok (335, v) w := by kernel_rfl
theorem CL:(Tryz.prog.info? 414).map (·.comparable)=some true:=aB
theorem CN:(Tryz.prog.info? 434).map (·.size)=some 1:=aB
theorem C4 (v:Value) (xT:TypeId) (w:World):(Instr.typeAssert (.iface 414 v) xT 264 true).run Tryz.prog w= .ok (.tuple #[.nilIface,.bool false]) w:=run_typeAssert_lacksB Tryz.underlying264 aB aB v xT w
theorem C5 (v:Value) (xT:TypeId) (w:World):(Instr.typeAssert (.iface 414 v) xT 267 true).run Tryz.prog w= .ok (.tuple #[.nilIface,.bool false]) w:=run_typeAssert_lacksB Tryz.underlying267 aB aB v xT w
theorem C6 (v:Value) (xT:TypeId) (w:World):(Instr.typeAssert (.iface 414 v) xT 269 true).run Tryz.prog w= .ok (.tuple #[.nilIface,.bool false]) w:=run_typeAssert_lacksB Tryz.underlying269 aB aB v xT w
theorem OW (v:Value) (xT:TypeId) (w:World):(Instr.typeAssert (.iface 110 v) xT 264 true).run Tryz.prog w= .ok (.tuple #[.nilIface,.bool false]) w:=run_typeAssert_lacksB Tryz.underlying264 aB aB v xT w
theorem NN (v:Value) (xT:TypeId) (w:World):(Instr.typeAssert (.iface 110 v) xT 267 true).run Tryz.prog w= .ok (.tuple #[.iface 110 v,.bool true]) w:=run_typeAssert_hasB Tryz.underlying267 aB v xT w
theorem ON (v : Value) (w : World) : (Go.method 546 110 v "Unwrap").run Tryz.prog w = .ok (324, v) w := by kernel_rfl
theorem Vl (v:Value) (xT:TypeId) (w:World):(Instr.typeAssert (.iface 222 v) xT 264 true).run Tryz.prog w= .ok (.tuple #[.nilIface,.bool false]) w:=run_typeAssert_lacksB Tryz.underlying264 aB aB v xT w
theorem TI (v:Value) (xT:TypeId) (w:World):(Instr.typeAssert (.iface 222 v) xT 267 true).run Tryz.prog w= .ok (.tuple #[.iface 222 v,.bool true]) w:=run_typeAssert_hasB Tryz.underlying267 aB v xT w
theorem U' (v : Value) (w : World) : (Go.method 546 222 v "Unwrap").run Tryz.prog w = .ok (331, v) w := by kernel_rfl
theorem agh (v:Value) (xT:TypeId) (w:World):(Instr.typeAssert (.iface 148 v) xT 264 true).run Tryz.prog w= .ok (.tuple #[.nilIface,.bool false]) w:=run_typeAssert_lacksB Tryz.underlying264 aB aB v xT w
theorem agi (v:Value) (xT:TypeId) (w:World):(Instr.typeAssert (.iface 148 v) xT 267 true).run Tryz.prog w= .ok (.tuple #[.nilIface,.bool false]) w:=run_typeAssert_lacksB Tryz.underlying267 aB aB v xT w
theorem agj (v:Value) (xT:TypeId) (w:World):(Instr.typeAssert (.iface 148 v) xT 269 true).run Tryz.prog w= .ok (.tuple #[.nilIface,.bool false]) w:=run_typeAssert_lacksB Tryz.underlying269 aB aB v xT w
set_option maxHeartbeats 4000000 in
def DM:=PLift.up (@run_callFunc_extern Tryz.prog 130 _ (Extern.ReflectliteType.typeOf) Tryz.func130 aB aB aB aB)
def Iy:=PLift.up (@run_callFunc_extern Tryz.prog 132 _ (λargs=>ReflectliteValue.unpack (args.getD 0 (.tuple #[]))) Tryz.func132 aB aB aB aB)
def Iz := PLift.up (@run_callFunc_extern Tryz.prog 133 _ (ReflectliteValue.methodAny (ReflectliteValue.valueError "reflectlite.Value.Type" 0) (fun t _ _ _ => ReflectliteType.toType t)) Tryz.func133 aB aB aB aB)
def IA := PLift.up (@run_callFunc_extern Tryz.prog 134 _ (ReflectliteValue.method (ReflectliteValue.valueError "reflectlite.Value.IsNil" 0) ReflectliteValue.isNil) Tryz.func134 aB aB aB aB)
def Iu:=PLift.up (@run_callFunc_extern Tryz.prog 320 _ (ReflectliteType.abiMethod λt=>do pure (.int .u8 (<-Rtype.kind t))) Tryz.func320 aB aB aB aB)
def Iw:=PLift.up (@run_callFunc_extern Tryz.prog 336 _ (ReflectliteType.method ReflectliteType.elem) Tryz.func336 aB aB aB aB)
def Ix := PLift.up (@run_callFunc_extern Tryz.prog 337 _ (ReflectliteType.relation "Implements" ReflectliteType.implements_) Tryz.func337 aB aB aB aB)
def Ir:=PLift.up (@run_callFunc_extern Tryz.prog 130 _ (ReflectliteType.typeOf) Tryz.func130 aB aB aB aB)
def Iv := PLift.up (@run_callFunc_extern Tryz.prog 334 _ (ReflectliteType.relation "AssignableTo" ReflectliteType.assignableTo) Tryz.func334 aB aB aB aB)
def Is := PLift.up (@run_callFunc_extern Tryz.prog 169 _ (ReflectliteValue.method (ReflectliteValue.valueError "reflectlite.Value.Elem" 0) ReflectliteValue.elem) Tryz.func169 aB aB aB aB)
def It:=PLift.up (@run_callFunc_extern Tryz.prog 170 _ (ReflectliteValue.set) Tryz.func170 aB aB aB aB)
theorem vr {w:World} {a:Addr} {v:Value} (h:w.cell? a=some v):a.block<w.heap.size:=by
 rcases Nat.lt_or_ge a.block w.heap.size with q |q
 ·exact q
 ·simp[World.cell?,Array.getElem?_eq_none q] at h
theorem aeS (b:Addr) (w:World):Calls Tryz.prog 93 #[.iface 414 (.pointer (some b)),.iface 414 (.pointer (some b))] w λe w'=>e= .returned (.bool true)/\w'=w:=by
 obtain⟨i,hi,vf⟩:=Option.map_eq_some_iff.1 CL;obtain⟨j,hj,zG⟩:=Option.map_eq_some_iff.1 CN;have h8:=DM.down;have Ef:=CK;have tT:=CO;have mR:=CM;have nE:=C4;have uE:=C5;have vE:=C6;have heq:=run_eql_iface_ptr_same (P:=Tryz.prog) w b Tryz.underlying106 Tryz.underlying414 hi vf hj
 go_enter Tryz.func93,Tryz.ntmps93
 go_wp2
 refine wp_loop_rounds 1 ?_;rw[rounds_succ]
 go_wp2
 go_ret
 exact⟨J,J⟩
set_option maxHeartbeats 4000000 in
theorem aeR (a b:Addr) (ca cb:Array Value) (ta tb:TypeId) (w:World) (bK:a≠b) (ha:w.heap[a.block]? =some (.cells ca ta (0,0))) (hb:w.heap[b.block]? =some (.cells cb tb (0,0))):Calls Tryz.prog 93 #[.iface 414 (.pointer (some a)),.iface 414 (.pointer (some b))] w λe w'=>e= .returned (.bool false)/\w'=w:=by
 obtain⟨i,hi,vf⟩:=Option.map_eq_some_iff.1 CL;obtain⟨j,hj,zG⟩:=Option.map_eq_some_iff.1 CN;have h8:=DM.down;have Ef:=CK;have tT:=CO;have mR:=CM;have nE:=C4;have uE:=C5;have vE:=C6;have heq:=run_eql_iface_ptr_other (P:=Tryz.prog) w Tryz.underlying106 Tryz.underlying414 hi vf hj (by rw[zG];decide) bK ha hb
 go_enter Tryz.func93,Tryz.ntmps93
 go_wp2
 refine wp_loop_rounds 1 ?_;rw[rounds_succ]
 go_wp2
 go_ret
 exact⟨J,J⟩
set_option maxHeartbeats 8000000 in
theorem aeW (pb:Nat) (b:Addr) (w:World) (h1:w.cell? ⟨pb,1,none⟩=some (.iface 414 (.pointer (some b)))):Calls Tryz.prog 93 #[.iface 110 (.pointer (some ⟨pb,0,none⟩)),.iface 414 (.pointer (some b))] w λe w'=>e= .returned (.bool true)/\w'=w:=by
 obtain⟨i,hi,vf⟩:=Option.map_eq_some_iff.1 CL;obtain⟨j,hj,zG⟩:=Option.map_eq_some_iff.1 CN;have h8:=DM.down;have Ef:=CK;have tT:=CO;have mR:=CM;have nE:=C4;have uE:=C5;have vE:=C6;have nW:=OW;have uW:=NN;have mU:=ON;have CG:=run_eql_iface_types (P:=Tryz.prog) 110 414 (.pointer (some ⟨pb,0,none⟩)) (.pointer (some b)) Tryz.underlying106 (by decide) w
 have heq:=run_eql_iface_ptr_same (P:=Tryz.prog) w b Tryz.underlying106 Tryz.underlying414 hi vf hj
 go_enter Tryz.func93,Tryz.ntmps93
 go_wp2
 refine wp_loop_rounds 2 ?_;rw[rounds_succ]
 go_wp2
 rw[rounds_succ]
 go_wp2
 go_ret
 exact⟨J,J⟩
set_option maxHeartbeats 8000000 in
theorem aeU (pb:Nat) (a b:Addr) (ca cb:Array Value) (ta tb:TypeId) (w:World) (h1:w.cell? ⟨pb,1,none⟩=some (.iface 414 (.pointer (some a)))) (bK:a≠b) (ha:w.heap[a.block]? =some (.cells ca ta (0,0))) (hb:w.heap[b.block]? =some (.cells cb tb (0,0))):Calls Tryz.prog 93 #[.iface 110 (.pointer (some ⟨pb,0,none⟩)),.iface 414 (.pointer (some b))] w λe w'=>e= .returned (.bool false)/\w'=w:=by
 obtain⟨i,hi,vf⟩:=Option.map_eq_some_iff.1 CL;obtain⟨j,hj,zG⟩:=Option.map_eq_some_iff.1 CN;have h8:=DM.down;have Ef:=CK;have tT:=CO;have mR:=CM;have nE:=C4;have uE:=C5;have vE:=C6;have nW:=OW;have uW:=NN;have mU:=ON;have CG:=run_eql_iface_types (P:=Tryz.prog) 110 414 (.pointer (some ⟨pb,0,none⟩)) (.pointer (some b)) Tryz.underlying106 (by decide) w
 have heq:=run_eql_iface_ptr_other (P:=Tryz.prog) w Tryz.underlying106 Tryz.underlying414 hi vf hj (by rw[zG];decide) bK ha hb
 go_enter Tryz.func93,Tryz.ntmps93
 go_wp2
 refine wp_loop_rounds 2 ?_;rw[rounds_succ]
 go_wp2
 rw[rounds_succ]
 go_wp2
 go_ret
 exact⟨J,J⟩
set_option maxHeartbeats 8000000 in
theorem aeT (pb:Nat) (m:Int) (b:Addr) (w:World) (h1:w.cell? ⟨pb,1,none⟩=some (.iface 148 (.int .i64 m))):Calls Tryz.prog 93 #[.iface 110 (.pointer (some ⟨pb,0,none⟩)),.iface 414 (.pointer (some b))] w λe w'=>e= .returned (.bool false)/\w'=w:=by
 obtain⟨i,hi,vf⟩:=Option.map_eq_some_iff.1 CL;obtain⟨j,hj,zG⟩:=Option.map_eq_some_iff.1 CN;have h8:=DM.down;have Ef:=CK;have tT:=CO;have mR:=CM;have nE:=C4;have uE:=C5;have vE:=C6;have nW:=OW;have uW:=NN;have mU:=ON;have CG:=run_eql_iface_types (P:=Tryz.prog) 110 414 (.pointer (some ⟨pb,0,none⟩)) (.pointer (some b)) Tryz.underlying106 (by decide) w
 have nN:=agh;have uN:=agi;have vN:=agj;have htn:=run_eql_iface_types (P:=Tryz.prog) 148 414 (.int .i64 m) (.pointer (some b)) Tryz.underlying106 (by decide) w
 go_enter Tryz.func93,Tryz.ntmps93
 go_wp2
 refine wp_loop_rounds 2 ?_;rw[rounds_succ]
 go_wp2
 rw[rounds_succ]
 go_wp2
 go_ret
 exact⟨J,J⟩
set_option maxHeartbeats 8000000 in
theorem aeX (pb:Nat) (b:Addr) (w:World) (h1:w.cell? ⟨pb,1,none⟩=some (.iface 414 (.pointer (some b)))):Calls Tryz.prog 93 #[.iface 222 (.pointer (some ⟨pb,0,none⟩)),.iface 414 (.pointer (some b))] w λe w'=>e= .returned (.bool true)/\w'=w:=by
 obtain⟨i,hi,vf⟩:=Option.map_eq_some_iff.1 CL;obtain⟨j,hj,zG⟩:=Option.map_eq_some_iff.1 CN;have h8:=DM.down;have Ef:=CK;have tT:=CO;have mR:=CM;have nE:=C4;have uE:=C5;have vE:=C6;have nW:=Vl;have uW:=TI;have mU:=U';have CG:=run_eql_iface_types (P:=Tryz.prog) 222 414 (.pointer (some ⟨pb,0,none⟩)) (.pointer (some b)) Tryz.underlying106 (by decide) w
 have heq:=run_eql_iface_ptr_same (P:=Tryz.prog) w b Tryz.underlying106 Tryz.underlying414 hi vf hj
 go_enter Tryz.func93,Tryz.ntmps93
 go_wp2
 refine wp_loop_rounds 2 ?_;rw[rounds_succ]
 go_wp2
 rw[rounds_succ]
 go_wp2
 go_ret
 exact⟨J,J⟩
set_option maxHeartbeats 8000000 in
theorem aeV (pb:Nat) (a b:Addr) (ca cb:Array Value) (ta tb:TypeId) (w:World) (h1:w.cell? ⟨pb,1,none⟩=some (.iface 414 (.pointer (some a)))) (bK:a≠b) (ha:w.heap[a.block]? =some (.cells ca ta (0,0))) (hb:w.heap[b.block]? =some (.cells cb tb (0,0))):Calls Tryz.prog 93 #[.iface 222 (.pointer (some ⟨pb,0,none⟩)),.iface 414 (.pointer (some b))] w λe w'=>e= .returned (.bool false)/\w'=w:=by
 obtain⟨i,hi,vf⟩:=Option.map_eq_some_iff.1 CL;obtain⟨j,hj,zG⟩:=Option.map_eq_some_iff.1 CN;have h8:=DM.down;have Ef:=CK;have tT:=CO;have mR:=CM;have nE:=C4;have uE:=C5;have vE:=C6;have nW:=Vl;have uW:=TI;have mU:=U';have CG:=run_eql_iface_types (P:=Tryz.prog) 222 414 (.pointer (some ⟨pb,0,none⟩)) (.pointer (some b)) Tryz.underlying106 (by decide) w
 have heq:=run_eql_iface_ptr_other (P:=Tryz.prog) w Tryz.underlying106 Tryz.underlying414 hi vf hj (by rw[zG];decide) bK ha hb
 go_enter Tryz.func93,Tryz.ntmps93
 go_wp2
 refine wp_loop_rounds 2 ?_;rw[rounds_succ]
 go_wp2
 rw[rounds_succ]
 go_wp2
 go_ret
 exact⟨J,J⟩
theorem L9 (t:Value) (w:World):Calls Tryz.prog 94 #[.nilIface,t] w λe w'=>e= .returned (.bool false)/\w'=w:=by
 go_enter Tryz.func94,Tryz.ntmps94
 go_wp2
 go_ret
 exact⟨J,J⟩
theorem EO (z:Sem Value) (f:TypeId->Addr->Nat->Nat->Sem Value) (v:Value):
 ReflectliteValue.method z f #[v]=(do match<-ReflectliteValue.parts v with |none=>z |some (t,a,fl)=>f t a fl (fl%32)):=rfl
theorem Ph (v x:Value):ReflectliteValue.set #[v,x]=(do
 let(some (dst,a,fl),some (src,b,_)):=(<-ReflectliteValue.parts v,<-ReflectliteValue.parts x)
  | unsupported (.noEntry "extern/(internal/reflectlite.Value).Set.zeroValue")
 if fl / ReflectliteValue.flagAddr % 2 == 0 then unsupported (.noEntry "extern/(internal/reflectlite.Value).Set.unaddressable")
 let val<-loadVar src b
 if<-Rtype.directlyAssignable dst src then storeVar dst a val
 else if<-Rtype.implements dst src then
  if(<-Rtype.kind src)==20 then
   match val with
   | .nilIface => unsupported (.noEntry "extern/reflectlite: a nil value of one interface type handed on as a value of another")
   |_=>storeVar dst a val
  else storeVar dst a (.iface src val)
 else panicString ("reflectlite.Set: value of type " ++ (← Rtype.spelt src) ++ " is not assignable to type " ++ (← Rtype.spelt dst))
 pure (.tuple #[])):=rfl
theorem He (h : Value) (w : World) : (Go.method 546 262 (.agg #[h]) "Kind").run Tryz.prog w = .ok (320, h) w := by kernel_rfl
theorem Hb (h : Value) (w : World) : (Go.method 546 262 (.agg #[h]) "Elem").run Tryz.prog w = .ok (336, .agg #[h]) w := by kernel_rfl
theorem Hc (h : Value) (w : World) : (Go.method 546 262 (.agg #[h]) "Implements").run Tryz.prog w = .ok (337, .agg #[h]) w := by kernel_rfl
theorem Ha (h : Value) (w : World) : (Go.method 546 262 (.agg #[h]) "AssignableTo").run Tryz.prog w = .ok (334, .agg #[h]) w := by kernel_rfl
theorem ag' (t:Addr) (w:World):(ReflectliteValue.unpack (.iface 344 (.pointer (some t)))).run Tryz.prog w
 = .ok (.agg #[.pointer (some ⟨8,344,none⟩),.pointer (some ⟨w.heap.size,0,none⟩),.int .u64 150]) (w.alloc (.cells #[.pointer (some t)] 344)):=aB
theorem ag9 (a : Addr) (w : World) : (ReflectliteValue.methodAny (ReflectliteValue.valueError "reflectlite.Value.Type" 0) (fun t _ _ _ => ReflectliteType.toType t) #[.agg #[.pointer (some ⟨8, 344, none⟩), .pointer (some a), .int .u64 150]]).run Tryz.prog w
 = .ok (.iface 262 (.agg #[.pointer (some ⟨8,344,none⟩)])) w:=aB
theorem ag3 (w:World):((ReflectliteType.abiMethod λt=>(λa:Nat=>Value.int IntKind.u8 (a:Int)) <$> Rtype.kind t) #[.pointer (some ⟨8,344,none⟩)]).run Tryz.prog w= .ok (.int .u8 22) w:=aB
theorem ag2 (w:World):((ReflectliteType.abiMethod λt=>(λa:Nat=>Value.int IntKind.u8 (a:Int)) <$> Rtype.kind t) #[.pointer (some ⟨8,343,none⟩)]).run Tryz.prog w= .ok (.int .u8 22) w:=aB
theorem Wq (a:Addr) (w:World):(ReflectliteValue.parts (.agg #[.pointer (some ⟨8,344,none⟩),.pointer (some a),.int .u64 150])).run Tryz.prog w= .ok (some (344,a,150)) w:=aB
theorem ag1 (a p:Addr) (W:World) (ha:W.cell? a=some (.pointer (some p))):
 (ReflectliteValue.method (ReflectliteValue.valueError "reflectlite.Value.IsNil" 0) ReflectliteValue.isNil #[.agg #[.pointer (some ⟨8, 344, none⟩), .pointer (some a), .int .u64 150]]).run Tryz.prog W = .ok (.bool false) W := by
 rw[EO];simp only[Sem.run_bind,Wq,Result.andThen];simp[ReflectliteValue.isNil,loadVar,isAgg,underlying,Tryz.underlying344,ha,Result.andThen]
theorem agX (w:World):(ReflectliteType.method ReflectliteType.elem #[.agg #[.pointer (some ⟨8,344,none⟩)]]).run Tryz.prog w= .ok (.iface 262 (.agg #[.pointer (some ⟨8,343,none⟩)])) w:=aB
theorem ag0 (w : World) : (ReflectliteType.relation "Implements" ReflectliteType.implements_ #[.agg #[.pointer (some ⟨8, 343, none⟩)], .iface 262 (.agg #[.pointer (some ⟨8, 106, none⟩)])]).run Tryz.prog w = .ok (.bool true) w := by kernel_rfl
theorem ag_ (v:Value) (w:World):(ReflectliteType.typeOf #[.iface 343 v]).run Tryz.prog w= .ok (.iface 262 (.agg #[.pointer (some ⟨8,343,none⟩)])) w:=aB
theorem agV (w : World) : (ReflectliteType.relation "AssignableTo" ReflectliteType.assignableTo #[.agg #[.pointer (some ⟨8, 343, none⟩)], .iface 262 (.agg #[.pointer (some ⟨8, 343, none⟩)])]).run Tryz.prog w = .ok (.bool true) w := by kernel_rfl
theorem aha (e:Addr) (w:World):(ReflectliteValue.unpack (.iface 343 (.pointer (some e)))).run Tryz.prog w
 = .ok (.agg #[.pointer (some ⟨8,343,none⟩),.pointer (some ⟨w.heap.size,0,none⟩),.int .u64 150]) (w.alloc (.cells #[.pointer (some e)] 343)):=aB
theorem agY (w:World):(Rtype.elem? 344).run Tryz.prog w= .ok (some 343) w:=aB
theorem ag4 (p:Addr) (w:World):(ReflectliteValue.mk 343 p ReflectliteValue.flagAddr).run Tryz.prog w= .ok (.agg #[.pointer (some ⟨8,343,none⟩),.pointer (some p),.int .u64 406]) w:=aB
theorem agZ (a p:Addr) (W:World) (ha:W.cell? a=some (.pointer (some p))):
 (ReflectliteValue.method (ReflectliteValue.valueError "reflectlite.Value.Elem" 0) ReflectliteValue.elem #[.agg #[.pointer (some ⟨8, 344, none⟩), .pointer (some a), .int .u64 150]]).run Tryz.prog W
  = .ok (.agg #[.pointer (some ⟨8,343,none⟩),.pointer (some p),.int .u64 406]) W:=by
 rw[EO];simp only[Sem.run_bind,Wq,Result.andThen];simp[ReflectliteValue.elem,loadVar,isAgg,underlying,Tryz.underlying344,ha,Result.andThen,agY,ag4]
theorem ag5 (a:Addr) (w:World):(ReflectliteValue.parts (.agg #[.pointer (some ⟨8,343,none⟩),.pointer (some a),.int .u64 406])).run Tryz.prog w= .ok (some (343,a,406)) w:=aB
theorem ag6 (a:Addr) (w:World):(ReflectliteValue.parts (.agg #[.pointer (some ⟨8,343,none⟩),.pointer (some a),.int .u64 150])).run Tryz.prog w= .ok (some (343,a,150)) w:=aB
theorem agW (w:World):(Rtype.directlyAssignable 343 343).run Tryz.prog w= .ok true w:=aB
theorem ag8 (w:World):(sizeOf 343).run Tryz.prog w= .ok 1 w:=aB
theorem ag7 (ta b:Addr) (e:Addr) (bc:Value) (W:World) (hb:W.cell? b=some (.pointer (some e))) (ht:W.cell? ta=some bc) (hf:W.frozen? ta=false):
 (ReflectliteValue.set #[.agg #[.pointer (some ⟨8,343,none⟩),.pointer (some ta),.int .u64 406],.agg #[.pointer (some ⟨8,343,none⟩),.pointer (some b),.int .u64 150]]).run Tryz.prog W
   = .ok (.tuple #[]) (W.setCell ta (.pointer (some e))):=by
 rw[Ph];simp only[Sem.run_bind,ag5,ag6,Result.andThen];simp[ReflectliteValue.flagAddr,loadVar,isAgg,underlying,Tryz.underlying343,hb,Result.andThen,agW,storeVar,Value.cells,storeCells,Addr.add,ag8];rw[run_store Tryz.prog W ta _ _ (by rfl)]
 simp[ht,hf]
set_option maxHeartbeats 16000000 in
theorem YZ (e:Addr) (t:Addr) (bc:Value) (w:World) (hg:w.cell? ⟨1,0,none⟩=some (.iface 262 (.agg #[.pointer (some ⟨8,106,none⟩)]))) (kz:w.cell? t=some bc) (pJ:w.frozen? t=false):
 Calls Tryz.prog 94 #[.iface 343 (.pointer (some e)),.iface 344 (.pointer (some t))] w λev w'=>ev= .returned (.bool true)/\w'=((((w.alloc (.cells #[.pointer (some t)] 344)).alloc (.cells #[.pointer (some ⟨8,344,none⟩),.pointer (some ⟨w.heap.size,0,none⟩),.int .u64 150] 204)).alloc (.cells #[.pointer (some ⟨8,344,none⟩),.pointer (some ⟨w.heap.size,0,none⟩),.int .u64 150] 204)).alloc (.cells #[.pointer (some e)] 343)).setCell t (.pointer (some e)):=by
 have h6:=Iy.down;have h7:=Iz.down;have h8:=IA.down;have JI:=Iu.down;have JK:=Iw.down;have JL:=Ix.down;have JF:=Ir.down;have JJ:=Iv.down;have JG:=Is.down;have JH:=It.down;have tO:=ag_;have mA:=Ha;have a25:=agV;have v25:=aha;have f6:=ag';have f7:=ag9;have mK:=He;have mE:=Hb;have mI:=Hc;have KI:=ag3;have KG:=ag2;have Ck:=agX;have i25:=ag0;have n8:=ag1 ⟨w.heap.size,0,none⟩ t ((w.alloc (.cells #[.pointer (some t)] 344)).alloc (.cells #[.pointer (some ⟨8,344,none⟩),.pointer (some ⟨w.heap.size,0,none⟩),.int .u64 150] 204)) bp;have aS:1<w.heap.size:=vr hg;have J':((w.alloc (.cells #[.pointer (some t)] 344)).alloc (.cells #[.pointer (some ⟨8,344,none⟩),.pointer (some ⟨w.heap.size,0,none⟩),.int .u64 150] 204)).cell? ⟨1,0,none⟩=some (.iface 262 (.agg #[.pointer (some ⟨8,106,none⟩)])):=by
  rw[World.cell?_alloc_lt _ _ ⟨1,0,none⟩ (by first |(simp;done) |(simp;omega)),World.cell?_alloc_lt _ _ ⟨1,0,none⟩ aS];exact hg
 have nt:t.block<w.heap.size:=vr kz;have el:=agZ ⟨w.heap.size,0,none⟩ t (((w.alloc (.cells #[.pointer (some t)] 344)).alloc (.cells #[.pointer (some ⟨8,344,none⟩),.pointer (some ⟨w.heap.size,0,none⟩),.int .u64 150] 204)).alloc (.cells #[.pointer (some ⟨8,344,none⟩),.pointer (some ⟨w.heap.size,0,none⟩),.int .u64 150] 204)) (by rw[World.cell?_alloc_lt _ _ ⟨w.heap.size,0,none⟩ (by first |(simp;done) |(simp;omega))];simp)
 have st:=ag7 t ⟨w.heap.size+1+1+1,0,none⟩ e bc ((((w.alloc (.cells #[.pointer (some t)] 344)).alloc (.cells #[.pointer (some ⟨8,344,none⟩),.pointer (some ⟨w.heap.size,0,none⟩),.int .u64 150] 204)).alloc (.cells #[.pointer (some ⟨8,344,none⟩),.pointer (some ⟨w.heap.size,0,none⟩),.int .u64 150] 204)).alloc (.cells #[.pointer (some e)] 343))
  (by rw[World.cell?_alloc_at _ _ _ _ bp];rfl)
  (by rw[World.cell?_alloc_lt _ _ t (by first |(simp;done) |(simp;omega)),World.cell?_alloc_lt _ _ t (by first |(simp;done) |(simp;omega)),World.cell?_alloc_lt _ _ t (by first |(simp;done) |(simp;omega)),World.cell?_alloc_lt _ _ t nt];exact kz)
  (by rw[World.frozen?_alloc_old _ _ t (by first |(simp;done) |(simp;omega)),World.frozen?_alloc_old _ _ t (by first |(simp;done) |(simp;omega)),World.frozen?_alloc_old _ _ t (by first |(simp;done) |(simp;omega)),World.frozen?_alloc_old _ _ t (Nat.ne_of_lt nt)];exact pJ)
 go_enter Tryz.func94,Tryz.ntmps94
 go_wp2
 refine wp_loop_rounds 1 ?_;rw[rounds_succ]
 go_wp2
 go_ret
 exact⟨J,J⟩
theorem V_ (t:Addr) (w:World):(ReflectliteValue.unpack (.iface 160 (.pointer (some t)))).run Tryz.prog w
 = .ok (.agg #[.pointer (some ⟨8,160,none⟩),.pointer (some ⟨w.heap.size,0,none⟩),.int .u64 150]) (w.alloc (.cells #[.pointer (some t)] 160)):=aB
theorem V0 (a : Addr) (w : World) : (ReflectliteValue.methodAny (ReflectliteValue.valueError "reflectlite.Value.Type" 0) (fun t _ _ _ => ReflectliteType.toType t) #[.agg #[.pointer (some ⟨8, 160, none⟩), .pointer (some a), .int .u64 150]]).run Tryz.prog w
 = .ok (.iface 262 (.agg #[.pointer (some ⟨8,160,none⟩)])) w:=aB
theorem VX (w:World):((ReflectliteType.abiMethod λt=>(λa:Nat=>Value.int IntKind.u8 (a:Int)) <$> Rtype.kind t) #[.pointer (some ⟨8,160,none⟩)]).run Tryz.prog w= .ok (.int .u8 22) w:=aB
theorem VW (w:World):((ReflectliteType.abiMethod λt=>(λa:Nat=>Value.int IntKind.u8 (a:Int)) <$> Rtype.kind t) #[.pointer (some ⟨8,148,none⟩)]).run Tryz.prog w= .ok (.int .u8 2) w:=aB
theorem VY (a:Addr) (w:World):(ReflectliteValue.parts (.agg #[.pointer (some ⟨8,160,none⟩),.pointer (some a),.int .u64 150])).run Tryz.prog w= .ok (some (160,a,150)) w:=aB
theorem VV (a p:Addr) (W:World) (ha:W.cell? a=some (.pointer (some p))):
 (ReflectliteValue.method (ReflectliteValue.valueError "reflectlite.Value.IsNil" 0) ReflectliteValue.isNil #[.agg #[.pointer (some ⟨8, 160, none⟩), .pointer (some a), .int .u64 150]]).run Tryz.prog W = .ok (.bool false) W := by
 rw[EO];simp only[Sem.run_bind,VY,Result.andThen];simp[ReflectliteValue.isNil,loadVar,isAgg,underlying,Tryz.underlying160,ha,Result.andThen]
theorem VS (w:World):(ReflectliteType.method ReflectliteType.elem #[.agg #[.pointer (some ⟨8,160,none⟩)]]).run Tryz.prog w= .ok (.iface 262 (.agg #[.pointer (some ⟨8,148,none⟩)])) w:=aB
theorem VU (w : World) : (ReflectliteType.relation "Implements" ReflectliteType.implements_ #[.agg #[.pointer (some ⟨8, 148, none⟩)], .iface 262 (.agg #[.pointer (some ⟨8, 106, none⟩)])]).run Tryz.prog w = .ok (.bool true) w := by kernel_rfl
theorem V8 (v:Value) (w:World):(ReflectliteType.typeOf #[.iface 148 v]).run Tryz.prog w= .ok (.iface 262 (.agg #[.pointer (some ⟨8,148,none⟩)])) w:=aB
theorem VR (w : World) : (ReflectliteType.relation "AssignableTo" ReflectliteType.assignableTo #[.agg #[.pointer (some ⟨8, 148, none⟩)], .iface 262 (.agg #[.pointer (some ⟨8, 148, none⟩)])]).run Tryz.prog w = .ok (.bool true) w := by kernel_rfl
theorem Wa (e:Int) (w:World):(ReflectliteValue.unpack (.iface 148 (.int .i64 e))).run Tryz.prog w
 = .ok (.agg #[.pointer (some ⟨8,148,none⟩),.pointer (some ⟨w.heap.size,0,none⟩),.int .u64 130]) (w.alloc (.cells #[.int .i64 e] 148)):=aB
theorem agK (w:World):(Rtype.elem? 160).run Tryz.prog w= .ok (some 148) w:=aB
theorem agL (p:Addr) (w:World):(ReflectliteValue.mk 148 p ReflectliteValue.flagAddr).run Tryz.prog w= .ok (.agg #[.pointer (some ⟨8,148,none⟩),.pointer (some p),.int .u64 386]) w:=aB
theorem VT (a p:Addr) (W:World) (ha:W.cell? a=some (.pointer (some p))):
 (ReflectliteValue.method (ReflectliteValue.valueError "reflectlite.Value.Elem" 0) ReflectliteValue.elem #[.agg #[.pointer (some ⟨8, 160, none⟩), .pointer (some a), .int .u64 150]]).run Tryz.prog W
  = .ok (.agg #[.pointer (some ⟨8,148,none⟩),.pointer (some p),.int .u64 386]) W:=by
 rw[EO];simp only[Sem.run_bind,VY,Result.andThen];simp[ReflectliteValue.elem,loadVar,isAgg,underlying,Tryz.underlying160,ha,Result.andThen,agK,agL]
theorem agM (a:Addr) (w:World):(ReflectliteValue.parts (.agg #[.pointer (some ⟨8,148,none⟩),.pointer (some a),.int .u64 386])).run Tryz.prog w= .ok (some (148,a,386)) w:=aB
theorem agN (a:Addr) (w:World):(ReflectliteValue.parts (.agg #[.pointer (some ⟨8,148,none⟩),.pointer (some a),.int .u64 130])).run Tryz.prog w= .ok (some (148,a,130)) w:=aB
theorem agJ (w:World):(Rtype.directlyAssignable 148 148).run Tryz.prog w= .ok true w:=aB
theorem agO (w:World):(sizeOf 148).run Tryz.prog w= .ok 1 w:=aB
theorem VZ (ta b:Addr) (e:Int) (bc:Value) (W:World) (hb:W.cell? b=some (.int .i64 e)) (ht:W.cell? ta=some bc) (hf:W.frozen? ta=false):
 (ReflectliteValue.set #[.agg #[.pointer (some ⟨8,148,none⟩),.pointer (some ta),.int .u64 386],.agg #[.pointer (some ⟨8,148,none⟩),.pointer (some b),.int .u64 130]]).run Tryz.prog W
   = .ok (.tuple #[]) (W.setCell ta (.int .i64 e)):=by
 rw[Ph];simp only[Sem.run_bind,agM,agN,Result.andThen];simp[ReflectliteValue.flagAddr,loadVar,isAgg,underlying,Tryz.underlying148,hb,Result.andThen,agJ,storeVar,Value.cells,storeCells,Addr.add,agO];rw[run_store Tryz.prog W ta _ _ (by rfl)]
 simp[ht,hf]
set_option maxHeartbeats 16000000 in
theorem YX (e:Int) (t:Addr) (bc:Value) (w:World) (hg:w.cell? ⟨1,0,none⟩=some (.iface 262 (.agg #[.pointer (some ⟨8,106,none⟩)]))) (kz:w.cell? t=some bc) (pJ:w.frozen? t=false):
 Calls Tryz.prog 94 #[.iface 148 (.int .i64 e),.iface 160 (.pointer (some t))] w λev w'=>ev= .returned (.bool true)/\w'=((((w.alloc (.cells #[.pointer (some t)] 160)).alloc (.cells #[.pointer (some ⟨8,160,none⟩),.pointer (some ⟨w.heap.size,0,none⟩),.int .u64 150] 204)).alloc (.cells #[.pointer (some ⟨8,160,none⟩),.pointer (some ⟨w.heap.size,0,none⟩),.int .u64 150] 204)).alloc (.cells #[.int .i64 e] 148)).setCell t (.int .i64 e):=by
 have h6:=Iy.down;have h7:=Iz.down;have h8:=IA.down;have JI:=Iu.down;have JK:=Iw.down;have JL:=Ix.down;have JF:=Ir.down;have JJ:=Iv.down;have JG:=Is.down;have JH:=It.down;have tO:=V8;have mA:=Ha;have a25:=VR;have v25:=Wa;have f6:=V_;have f7:=V0;have mK:=He;have mE:=Hb;have mI:=Hc;have KI:=VX;have KG:=VW;have Ck:=VS;have i25:=VU;have n8:=VV ⟨w.heap.size,0,none⟩ t ((w.alloc (.cells #[.pointer (some t)] 160)).alloc (.cells #[.pointer (some ⟨8,160,none⟩),.pointer (some ⟨w.heap.size,0,none⟩),.int .u64 150] 204)) bp;have aS:1<w.heap.size:=vr hg;have J':((w.alloc (.cells #[.pointer (some t)] 160)).alloc (.cells #[.pointer (some ⟨8,160,none⟩),.pointer (some ⟨w.heap.size,0,none⟩),.int .u64 150] 204)).cell? ⟨1,0,none⟩=some (.iface 262 (.agg #[.pointer (some ⟨8,106,none⟩)])):=by
  rw[World.cell?_alloc_lt _ _ ⟨1,0,none⟩ (by first |(simp;done) |(simp;omega)),World.cell?_alloc_lt _ _ ⟨1,0,none⟩ aS];exact hg
 have nt:t.block<w.heap.size:=vr kz;have el:=VT ⟨w.heap.size,0,none⟩ t (((w.alloc (.cells #[.pointer (some t)] 160)).alloc (.cells #[.pointer (some ⟨8,160,none⟩),.pointer (some ⟨w.heap.size,0,none⟩),.int .u64 150] 204)).alloc (.cells #[.pointer (some ⟨8,160,none⟩),.pointer (some ⟨w.heap.size,0,none⟩),.int .u64 150] 204)) (by rw[World.cell?_alloc_lt _ _ ⟨w.heap.size,0,none⟩ (by first |(simp;done) |(simp;omega))];simp)
 have st:=VZ t ⟨w.heap.size+1+1+1,0,none⟩ e bc ((((w.alloc (.cells #[.pointer (some t)] 160)).alloc (.cells #[.pointer (some ⟨8,160,none⟩),.pointer (some ⟨w.heap.size,0,none⟩),.int .u64 150] 204)).alloc (.cells #[.pointer (some ⟨8,160,none⟩),.pointer (some ⟨w.heap.size,0,none⟩),.int .u64 150] 204)).alloc (.cells #[.int .i64 e] 148))
  (by rw[World.cell?_alloc_at _ _ _ _ bp];rfl)
  (by rw[World.cell?_alloc_lt _ _ t (by first |(simp;done) |(simp;omega)),World.cell?_alloc_lt _ _ t (by first |(simp;done) |(simp;omega)),World.cell?_alloc_lt _ _ t (by first |(simp;done) |(simp;omega)),World.cell?_alloc_lt _ _ t nt];exact kz)
  (by rw[World.frozen?_alloc_old _ _ t (by first |(simp;done) |(simp;omega)),World.frozen?_alloc_old _ _ t (by first |(simp;done) |(simp;omega)),World.frozen?_alloc_old _ _ t (by first |(simp;done) |(simp;omega)),World.frozen?_alloc_old _ _ t (Nat.ne_of_lt nt)];exact pJ)
 go_enter Tryz.func94,Tryz.ntmps94
 go_wp2
 refine wp_loop_rounds 1 ?_;rw[rounds_succ]
 go_wp2
 go_ret
 exact⟨J,J⟩
theorem YP (v:Value) (xT:TypeId) (w:World):(Instr.typeAssert (.iface 110 v) xT 274 true).run Tryz.prog w= .ok (.tuple #[.nilIface,.bool false]) w:=run_typeAssert_lacksB Tryz.underlying274 aB aB v xT w
theorem YV (v:Value) (xT:TypeId) (w:World):(Instr.typeAssert (.iface 110 v) xT 267 true).run Tryz.prog w= .ok (.tuple #[.iface 110 v,.bool true]) w:=run_typeAssert_hasB Tryz.underlying267 aB v xT w
theorem YM (v : Value) (w : World) : (Go.method 546 110 v "Unwrap").run Tryz.prog w = .ok (324, v) w := by kernel_rfl
theorem YT (v:Value) (w:World):(ReflectliteType.typeOf #[.iface 110 v]).run Tryz.prog w= .ok (.iface 262 (.agg #[.pointer (some ⟨8,110,none⟩)])) w:=aB
theorem YK (w : World) : (ReflectliteType.relation "AssignableTo" ReflectliteType.assignableTo #[.agg #[.pointer (some ⟨8, 110, none⟩)], .iface 262 (.agg #[.pointer (some ⟨8, 148, none⟩)])]).run Tryz.prog w = .ok (.bool false) w := by kernel_rfl
set_option maxHeartbeats 16000000 in
theorem Y0 (e:Int) (t:Addr) (bc:Value) (w:World) (pb:Nat) (hg:w.cell? ⟨1,0,none⟩=some (.iface 262 (.agg #[.pointer (some ⟨8,106,none⟩)]))) (kz:w.cell? t=some bc) (pJ:w.frozen? t=false) (h1:w.cell? ⟨pb,1,none⟩=some (.iface 148 (.int .i64 e))):
 Calls Tryz.prog 94 #[.iface 110 (.pointer (some ⟨pb,0,none⟩)),.iface 160 (.pointer (some t))] w λev w'=>ev= .returned (.bool true)/\w'=((((w.alloc (.cells #[.pointer (some t)] 160)).alloc (.cells #[.pointer (some ⟨8,160,none⟩),.pointer (some ⟨w.heap.size,0,none⟩),.int .u64 150] 204)).alloc (.cells #[.pointer (some ⟨8,160,none⟩),.pointer (some ⟨w.heap.size,0,none⟩),.int .u64 150] 204)).alloc (.cells #[.int .i64 e] 148)).setCell t (.int .i64 e):=by
 have h6:=Iy.down;have h7:=Iz.down;have h8:=IA.down;have JI:=Iu.down;have JK:=Iw.down;have JL:=Ix.down;have JF:=Ir.down;have JJ:=Iv.down;have JG:=Is.down;have JH:=It.down;have tO:=V8;have mA:=Ha;have a25:=VR;have v25:=Wa;have f6:=V_;have f7:=V0;have mK:=He;have mE:=Hb;have mI:=Hc;have KI:=VX;have KG:=VW;have Ck:=VS;have i25:=VU;have oN:=YP;have oU:=YV;have oM:=YM;have oT:=YT;have oF:=YK;have ry:pb<w.heap.size:=vr h1;have h1a:(((w.alloc (.cells #[.pointer (some t)] 160)).alloc (.cells #[.pointer (some ⟨8,160,none⟩),.pointer (some ⟨w.heap.size,0,none⟩),.int .u64 150] 204)).alloc (.cells #[.pointer (some ⟨8,160,none⟩),.pointer (some ⟨w.heap.size,0,none⟩),.int .u64 150] 204)).cell? ⟨pb,1,none⟩=some (.iface 148 (.int .i64 e)):=by
  rw[World.cell?_alloc_lt _ _ ⟨pb,1,none⟩ (by first |(simp;done) |(simp;omega)),World.cell?_alloc_lt _ _ ⟨pb,1,none⟩ (by first |(simp;done) |(simp;omega)),World.cell?_alloc_lt _ _ ⟨pb,1,none⟩ ry];exact h1
 have n8:=VV ⟨w.heap.size,0,none⟩ t ((w.alloc (.cells #[.pointer (some t)] 160)).alloc (.cells #[.pointer (some ⟨8,160,none⟩),.pointer (some ⟨w.heap.size,0,none⟩),.int .u64 150] 204)) bp;have aS:1<w.heap.size:=vr hg;have J':((w.alloc (.cells #[.pointer (some t)] 160)).alloc (.cells #[.pointer (some ⟨8,160,none⟩),.pointer (some ⟨w.heap.size,0,none⟩),.int .u64 150] 204)).cell? ⟨1,0,none⟩=some (.iface 262 (.agg #[.pointer (some ⟨8,106,none⟩)])):=by
  rw[World.cell?_alloc_lt _ _ ⟨1,0,none⟩ (by first |(simp;done) |(simp;omega)),World.cell?_alloc_lt _ _ ⟨1,0,none⟩ aS];exact hg
 have nt:t.block<w.heap.size:=vr kz;have el:=VT ⟨w.heap.size,0,none⟩ t (((w.alloc (.cells #[.pointer (some t)] 160)).alloc (.cells #[.pointer (some ⟨8,160,none⟩),.pointer (some ⟨w.heap.size,0,none⟩),.int .u64 150] 204)).alloc (.cells #[.pointer (some ⟨8,160,none⟩),.pointer (some ⟨w.heap.size,0,none⟩),.int .u64 150] 204)) (by rw[World.cell?_alloc_lt _ _ ⟨w.heap.size,0,none⟩ (by first |(simp;done) |(simp;omega))];simp)
 have st:=VZ t ⟨w.heap.size+1+1+1,0,none⟩ e bc ((((w.alloc (.cells #[.pointer (some t)] 160)).alloc (.cells #[.pointer (some ⟨8,160,none⟩),.pointer (some ⟨w.heap.size,0,none⟩),.int .u64 150] 204)).alloc (.cells #[.pointer (some ⟨8,160,none⟩),.pointer (some ⟨w.heap.size,0,none⟩),.int .u64 150] 204)).alloc (.cells #[.int .i64 e] 148))
  (by rw[World.cell?_alloc_at _ _ _ _ bp];rfl)
  (by rw[World.cell?_alloc_lt _ _ t (by first |(simp;done) |(simp;omega)),World.cell?_alloc_lt _ _ t (by first |(simp;done) |(simp;omega)),World.cell?_alloc_lt _ _ t (by first |(simp;done) |(simp;omega)),World.cell?_alloc_lt _ _ t nt];exact kz)
  (by rw[World.frozen?_alloc_old _ _ t (by first |(simp;done) |(simp;omega)),World.frozen?_alloc_old _ _ t (by first |(simp;done) |(simp;omega)),World.frozen?_alloc_old _ _ t (by first |(simp;done) |(simp;omega)),World.frozen?_alloc_old _ _ t (Nat.ne_of_lt nt)];exact pJ)
 go_enter Tryz.func94,Tryz.ntmps94
 go_wp2
 refine wp_loop_rounds 2 ?_;rw[rounds_succ]
 go_wp2
 rw[rounds_succ]
 go_wp2
 go_ret
 exact⟨J,J⟩
theorem Wo (t:Addr) (w:World):(ReflectliteValue.unpack (.iface 244 (.pointer (some t)))).run Tryz.prog w
 = .ok (.agg #[.pointer (some ⟨8,244,none⟩),.pointer (some ⟨w.heap.size,0,none⟩),.int .u64 150]) (w.alloc (.cells #[.pointer (some t)] 244)):=aB
theorem Wm (a : Addr) (w : World) : (ReflectliteValue.methodAny (ReflectliteValue.valueError "reflectlite.Value.Type" 0) (fun t _ _ _ => ReflectliteType.toType t) #[.agg #[.pointer (some ⟨8, 244, none⟩), .pointer (some a), .int .u64 150]]).run Tryz.prog w
 = .ok (.iface 262 (.agg #[.pointer (some ⟨8,244,none⟩)])) w:=aB
theorem Wj (w:World):((ReflectliteType.abiMethod λt=>(λa:Nat=>Value.int IntKind.u8 (a:Int)) <$> Rtype.kind t) #[.pointer (some ⟨8,244,none⟩)]).run Tryz.prog w= .ok (.int .u8 22) w:=aB
theorem Wi (w:World):((ReflectliteType.abiMethod λt=>(λa:Nat=>Value.int IntKind.u8 (a:Int)) <$> Rtype.kind t) #[.pointer (some ⟨8,243,none⟩)]).run Tryz.prog w= .ok (.int .u8 2) w:=aB
theorem Wk (a:Addr) (w:World):(ReflectliteValue.parts (.agg #[.pointer (some ⟨8,244,none⟩),.pointer (some a),.int .u64 150])).run Tryz.prog w= .ok (some (244,a,150)) w:=aB
theorem Wh (a p:Addr) (W:World) (ha:W.cell? a=some (.pointer (some p))):
 (ReflectliteValue.method (ReflectliteValue.valueError "reflectlite.Value.IsNil" 0) ReflectliteValue.isNil #[.agg #[.pointer (some ⟨8, 244, none⟩), .pointer (some a), .int .u64 150]]).run Tryz.prog W = .ok (.bool false) W := by
 rw[EO];simp only[Sem.run_bind,Wk,Result.andThen];simp[ReflectliteValue.isNil,loadVar,isAgg,underlying,Tryz.underlying244,ha,Result.andThen]
theorem We (w:World):(ReflectliteType.method ReflectliteType.elem #[.agg #[.pointer (some ⟨8,244,none⟩)]]).run Tryz.prog w= .ok (.iface 262 (.agg #[.pointer (some ⟨8,243,none⟩)])) w:=aB
theorem Wg (w : World) : (ReflectliteType.relation "Implements" ReflectliteType.implements_ #[.agg #[.pointer (some ⟨8, 243, none⟩)], .iface 262 (.agg #[.pointer (some ⟨8, 106, none⟩)])]).run Tryz.prog w = .ok (.bool true) w := by kernel_rfl
theorem Wn (v:Value) (w:World):(ReflectliteType.typeOf #[.iface 243 v]).run Tryz.prog w= .ok (.iface 262 (.agg #[.pointer (some ⟨8,243,none⟩)])) w:=aB
theorem Wd (w : World) : (ReflectliteType.relation "AssignableTo" ReflectliteType.assignableTo #[.agg #[.pointer (some ⟨8, 243, none⟩)], .iface 262 (.agg #[.pointer (some ⟨8, 243, none⟩)])]).run Tryz.prog w = .ok (.bool true) w := by kernel_rfl
theorem Wp (e:Int) (w:World):(ReflectliteValue.unpack (.iface 243 (.int .i64 e))).run Tryz.prog w
 = .ok (.agg #[.pointer (some ⟨8,243,none⟩),.pointer (some ⟨w.heap.size,0,none⟩),.int .u64 130]) (w.alloc (.cells #[.int .i64 e] 243)):=aB
theorem agQ (w:World):(Rtype.elem? 244).run Tryz.prog w= .ok (some 243) w:=aB
theorem agR (p:Addr) (w:World):(ReflectliteValue.mk 243 p ReflectliteValue.flagAddr).run Tryz.prog w= .ok (.agg #[.pointer (some ⟨8,243,none⟩),.pointer (some p),.int .u64 386]) w:=aB
theorem Wf (a p:Addr) (W:World) (ha:W.cell? a=some (.pointer (some p))):
 (ReflectliteValue.method (ReflectliteValue.valueError "reflectlite.Value.Elem" 0) ReflectliteValue.elem #[.agg #[.pointer (some ⟨8, 244, none⟩), .pointer (some a), .int .u64 150]]).run Tryz.prog W
  = .ok (.agg #[.pointer (some ⟨8,243,none⟩),.pointer (some p),.int .u64 386]) W:=by
 rw[EO];simp only[Sem.run_bind,Wk,Result.andThen];simp[ReflectliteValue.elem,loadVar,isAgg,underlying,Tryz.underlying244,ha,Result.andThen,agQ,agR]
theorem agS (a:Addr) (w:World):(ReflectliteValue.parts (.agg #[.pointer (some ⟨8,243,none⟩),.pointer (some a),.int .u64 386])).run Tryz.prog w= .ok (some (243,a,386)) w:=aB
theorem agT (a:Addr) (w:World):(ReflectliteValue.parts (.agg #[.pointer (some ⟨8,243,none⟩),.pointer (some a),.int .u64 130])).run Tryz.prog w= .ok (some (243,a,130)) w:=aB
theorem agP (w:World):(Rtype.directlyAssignable 243 243).run Tryz.prog w= .ok true w:=aB
theorem agU (w:World):(sizeOf 243).run Tryz.prog w= .ok 1 w:=aB
theorem Wl (ta b:Addr) (e:Int) (bc:Value) (W:World) (hb:W.cell? b=some (.int .i64 e)) (ht:W.cell? ta=some bc) (hf:W.frozen? ta=false):
 (ReflectliteValue.set #[.agg #[.pointer (some ⟨8,243,none⟩),.pointer (some ta),.int .u64 386],.agg #[.pointer (some ⟨8,243,none⟩),.pointer (some b),.int .u64 130]]).run Tryz.prog W
   = .ok (.tuple #[]) (W.setCell ta (.int .i64 e)):=by
 rw[Ph];simp only[Sem.run_bind,agS,agT,Result.andThen];simp[ReflectliteValue.flagAddr,loadVar,isAgg,underlying,Tryz.underlying243,hb,Result.andThen,agP,storeVar,Value.cells,storeCells,Addr.add,agU];rw[run_store Tryz.prog W ta _ _ (by rfl)]
 simp[ht,hf]
set_option maxHeartbeats 16000000 in
theorem YY (e:Int) (t:Addr) (bc:Value) (w:World) (hg:w.cell? ⟨1,0,none⟩=some (.iface 262 (.agg #[.pointer (some ⟨8,106,none⟩)]))) (kz:w.cell? t=some bc) (pJ:w.frozen? t=false):
 Calls Tryz.prog 94 #[.iface 243 (.int .i64 e),.iface 244 (.pointer (some t))] w λev w'=>ev= .returned (.bool true)/\w'=((((w.alloc (.cells #[.pointer (some t)] 244)).alloc (.cells #[.pointer (some ⟨8,244,none⟩),.pointer (some ⟨w.heap.size,0,none⟩),.int .u64 150] 204)).alloc (.cells #[.pointer (some ⟨8,244,none⟩),.pointer (some ⟨w.heap.size,0,none⟩),.int .u64 150] 204)).alloc (.cells #[.int .i64 e] 243)).setCell t (.int .i64 e):=by
 have h6:=Iy.down;have h7:=Iz.down;have h8:=IA.down;have JI:=Iu.down;have JK:=Iw.down;have JL:=Ix.down;have JF:=Ir.down;have JJ:=Iv.down;have JG:=Is.down;have JH:=It.down;have tO:=Wn;have mA:=Ha;have a25:=Wd;have v25:=Wp;have f6:=Wo;have f7:=Wm;have mK:=He;have mE:=Hb;have mI:=Hc;have KI:=Wj;have KG:=Wi;have Ck:=We;have i25:=Wg;have n8:=Wh ⟨w.heap.size,0,none⟩ t ((w.alloc (.cells #[.pointer (some t)] 244)).alloc (.cells #[.pointer (some ⟨8,244,none⟩),.pointer (some ⟨w.heap.size,0,none⟩),.int .u64 150] 204)) bp;have aS:1<w.heap.size:=vr hg;have J':((w.alloc (.cells #[.pointer (some t)] 244)).alloc (.cells #[.pointer (some ⟨8,244,none⟩),.pointer (some ⟨w.heap.size,0,none⟩),.int .u64 150] 204)).cell? ⟨1,0,none⟩=some (.iface 262 (.agg #[.pointer (some ⟨8,106,none⟩)])):=by
  rw[World.cell?_alloc_lt _ _ ⟨1,0,none⟩ (by first |(simp;done) |(simp;omega)),World.cell?_alloc_lt _ _ ⟨1,0,none⟩ aS];exact hg
 have nt:t.block<w.heap.size:=vr kz;have el:=Wf ⟨w.heap.size,0,none⟩ t (((w.alloc (.cells #[.pointer (some t)] 244)).alloc (.cells #[.pointer (some ⟨8,244,none⟩),.pointer (some ⟨w.heap.size,0,none⟩),.int .u64 150] 204)).alloc (.cells #[.pointer (some ⟨8,244,none⟩),.pointer (some ⟨w.heap.size,0,none⟩),.int .u64 150] 204)) (by rw[World.cell?_alloc_lt _ _ ⟨w.heap.size,0,none⟩ (by first |(simp;done) |(simp;omega))];simp)
 have st:=Wl t ⟨w.heap.size+1+1+1,0,none⟩ e bc ((((w.alloc (.cells #[.pointer (some t)] 244)).alloc (.cells #[.pointer (some ⟨8,244,none⟩),.pointer (some ⟨w.heap.size,0,none⟩),.int .u64 150] 204)).alloc (.cells #[.pointer (some ⟨8,244,none⟩),.pointer (some ⟨w.heap.size,0,none⟩),.int .u64 150] 204)).alloc (.cells #[.int .i64 e] 243))
  (by rw[World.cell?_alloc_at _ _ _ _ bp];rfl)
  (by rw[World.cell?_alloc_lt _ _ t (by first |(simp;done) |(simp;omega)),World.cell?_alloc_lt _ _ t (by first |(simp;done) |(simp;omega)),World.cell?_alloc_lt _ _ t (by first |(simp;done) |(simp;omega)),World.cell?_alloc_lt _ _ t nt];exact kz)
  (by rw[World.frozen?_alloc_old _ _ t (by first |(simp;done) |(simp;omega)),World.frozen?_alloc_old _ _ t (by first |(simp;done) |(simp;omega)),World.frozen?_alloc_old _ _ t (by first |(simp;done) |(simp;omega)),World.frozen?_alloc_old _ _ t (Nat.ne_of_lt nt)];exact pJ)
 go_enter Tryz.func94,Tryz.ntmps94
 go_wp2
 refine wp_loop_rounds 1 ?_;rw[rounds_succ]
 go_wp2
 go_ret
 exact⟨J,J⟩
theorem YQ (v:Value) (xT:TypeId) (w:World):(Instr.typeAssert (.iface 301 v) xT 274 true).run Tryz.prog w= .ok (.tuple #[.nilIface,.bool false]) w:=run_typeAssert_lacksB Tryz.underlying274 aB aB v xT w
theorem YW (v:Value) (xT:TypeId) (w:World):(Instr.typeAssert (.iface 301 v) xT 267 true).run Tryz.prog w= .ok (.tuple #[.iface 301 v,.bool true]) w:=run_typeAssert_hasB Tryz.underlying267 aB v xT w
theorem YN (v : Value) (w : World) : (Go.method 546 301 v "Unwrap").run Tryz.prog w = .ok (345, v) w := by kernel_rfl
theorem YU (v:Value) (w:World):(ReflectliteType.typeOf #[.iface 301 v]).run Tryz.prog w= .ok (.iface 262 (.agg #[.pointer (some ⟨8,301,none⟩)])) w:=aB
theorem YL (w : World) : (ReflectliteType.relation "AssignableTo" ReflectliteType.assignableTo #[.agg #[.pointer (some ⟨8, 301, none⟩)], .iface 262 (.agg #[.pointer (some ⟨8, 243, none⟩)])]).run Tryz.prog w = .ok (.bool false) w := by kernel_rfl
set_option maxHeartbeats 16000000 in
theorem Y1 (e:Int) (t:Addr) (bc:Value) (w:World) (pb:Nat) (hg:w.cell? ⟨1,0,none⟩=some (.iface 262 (.agg #[.pointer (some ⟨8,106,none⟩)]))) (kz:w.cell? t=some bc) (pJ:w.frozen? t=false) (h1:w.cell? ⟨pb,1,none⟩=some (.iface 243 (.int .i64 e))):
 Calls Tryz.prog 94 #[.iface 301 (.pointer (some ⟨pb,0,none⟩)),.iface 244 (.pointer (some t))] w λev w'=>ev= .returned (.bool true)/\w'=((((w.alloc (.cells #[.pointer (some t)] 244)).alloc (.cells #[.pointer (some ⟨8,244,none⟩),.pointer (some ⟨w.heap.size,0,none⟩),.int .u64 150] 204)).alloc (.cells #[.pointer (some ⟨8,244,none⟩),.pointer (some ⟨w.heap.size,0,none⟩),.int .u64 150] 204)).alloc (.cells #[.int .i64 e] 243)).setCell t (.int .i64 e):=by
 have h6:=Iy.down;have h7:=Iz.down;have h8:=IA.down;have JI:=Iu.down;have JK:=Iw.down;have JL:=Ix.down;have JF:=Ir.down;have JJ:=Iv.down;have JG:=Is.down;have JH:=It.down;have tO:=Wn;have mA:=Ha;have a25:=Wd;have v25:=Wp;have f6:=Wo;have f7:=Wm;have mK:=He;have mE:=Hb;have mI:=Hc;have KI:=Wj;have KG:=Wi;have Ck:=We;have i25:=Wg;have oN:=YQ;have oU:=YW;have oM:=YN;have oT:=YU;have oF:=YL;have ry:pb<w.heap.size:=vr h1;have h1a:(((w.alloc (.cells #[.pointer (some t)] 244)).alloc (.cells #[.pointer (some ⟨8,244,none⟩),.pointer (some ⟨w.heap.size,0,none⟩),.int .u64 150] 204)).alloc (.cells #[.pointer (some ⟨8,244,none⟩),.pointer (some ⟨w.heap.size,0,none⟩),.int .u64 150] 204)).cell? ⟨pb,1,none⟩=some (.iface 243 (.int .i64 e)):=by
  rw[World.cell?_alloc_lt _ _ ⟨pb,1,none⟩ (by first |(simp;done) |(simp;omega)),World.cell?_alloc_lt _ _ ⟨pb,1,none⟩ (by first |(simp;done) |(simp;omega)),World.cell?_alloc_lt _ _ ⟨pb,1,none⟩ ry];exact h1
 have n8:=Wh ⟨w.heap.size,0,none⟩ t ((w.alloc (.cells #[.pointer (some t)] 244)).alloc (.cells #[.pointer (some ⟨8,244,none⟩),.pointer (some ⟨w.heap.size,0,none⟩),.int .u64 150] 204)) bp;have aS:1<w.heap.size:=vr hg;have J':((w.alloc (.cells #[.pointer (some t)] 244)).alloc (.cells #[.pointer (some ⟨8,244,none⟩),.pointer (some ⟨w.heap.size,0,none⟩),.int .u64 150] 204)).cell? ⟨1,0,none⟩=some (.iface 262 (.agg #[.pointer (some ⟨8,106,none⟩)])):=by
  rw[World.cell?_alloc_lt _ _ ⟨1,0,none⟩ (by first |(simp;done) |(simp;omega)),World.cell?_alloc_lt _ _ ⟨1,0,none⟩ aS];exact hg
 have nt:t.block<w.heap.size:=vr kz;have el:=Wf ⟨w.heap.size,0,none⟩ t (((w.alloc (.cells #[.pointer (some t)] 244)).alloc (.cells #[.pointer (some ⟨8,244,none⟩),.pointer (some ⟨w.heap.size,0,none⟩),.int .u64 150] 204)).alloc (.cells #[.pointer (some ⟨8,244,none⟩),.pointer (some ⟨w.heap.size,0,none⟩),.int .u64 150] 204)) (by rw[World.cell?_alloc_lt _ _ ⟨w.heap.size,0,none⟩ (by first |(simp;done) |(simp;omega))];simp)
 have st:=Wl t ⟨w.heap.size+1+1+1,0,none⟩ e bc ((((w.alloc (.cells #[.pointer (some t)] 244)).alloc (.cells #[.pointer (some ⟨8,244,none⟩),.pointer (some ⟨w.heap.size,0,none⟩),.int .u64 150] 204)).alloc (.cells #[.pointer (some ⟨8,244,none⟩),.pointer (some ⟨w.heap.size,0,none⟩),.int .u64 150] 204)).alloc (.cells #[.int .i64 e] 243))
  (by rw[World.cell?_alloc_at _ _ _ _ bp];rfl)
  (by rw[World.cell?_alloc_lt _ _ t (by first |(simp;done) |(simp;omega)),World.cell?_alloc_lt _ _ t (by first |(simp;done) |(simp;omega)),World.cell?_alloc_lt _ _ t (by first |(simp;done) |(simp;omega)),World.cell?_alloc_lt _ _ t nt];exact kz)
  (by rw[World.frozen?_alloc_old _ _ t (by first |(simp;done) |(simp;omega)),World.frozen?_alloc_old _ _ t (by first |(simp;done) |(simp;omega)),World.frozen?_alloc_old _ _ t (by first |(simp;done) |(simp;omega)),World.frozen?_alloc_old _ _ t (Nat.ne_of_lt nt)];exact pJ)
 go_enter Tryz.func94,Tryz.ntmps94
 go_wp2
 refine wp_loop_rounds 2 ?_;rw[rounds_succ]
 go_wp2
 rw[rounds_succ]
 go_wp2
 go_ret
 exact⟨J,J⟩
end
section
open Go.Hx
def v_.f (e t:Er):Option Bool:=match e,t with
 | .dR h,.dR g=>if fc.contains h&&fc.contains g then some (Nat.beq h g) else none
 | .wrap 110 [_] (.dR h),.dR g=>if fc.contains h&&fc.contains g then some (Nat.beq h g) else none
 | .wrap 110 [_] (.num 148 _),.dR g=>if fc.contains g then some false else none
 | .wrap 222 [_] (.dR h),.dR g=>if fc.contains h&&fc.contains g then some (Nat.beq h g) else none
 |_,_=>none
theorem cellAt {W w:World} {H:Hp} {b off:Nat} {c:Array Value} {T:TypeId} {fr:Nat×Nat} {v:Value} (ow:bn W w H) (hm:(b,Obj.cells c T fr)∈H) (hv:c[off]? =some v):w.cell? ⟨b,off,none⟩=some v:=ow.cell hm hv
theorem v_.c {el:Nat->Addr} {uJ Fg:Value} (e t:Er) (r:Bool) (F:Hp) (H:v_.f e t=some r) (hG:fP 414 fc gW el F) (h1:l9 414 el e uJ F) (h2:l9 414 el t Fg F):
 gY Tryz.prog 93 [uJ,Fg] [F] (λ_:Unit=> .bool r) (λ_=>[F]):=by
 intro W w ow;have cF:bn W w F:=by simpa using ow
 unfold v_.f at H;split at H
 ·rename_i h g;obtain⟨hc,H⟩:=az H;simp only[Bool.and_eq_true,List.contains_iff_mem] at hc;obtain⟨m1,m2⟩:=hc;have h2:Fg= .iface 414 (.pointer (some (el g))):=h2;subst h2;obtain⟨c1,T1,q1⟩:=hG.2.1 h m1;obtain⟨c2,T2,q2⟩:=hG.2.1 g m2;have h1:uJ= .iface 414 (.pointer (some (el h))):=h1;subst h1
  by_cases e:h=g
  ·subst e;have hr:r=true:=by simpa using H.symm
   subst hr;exact(aeS (el h) w).mono λe w' ⟨he,hw⟩=>⟨(),he,by subst hw;simpa using cF⟩
  ·have hr:r=false:=by rw[<-Option.some.inj H];exact xB e
   subst hr;exact(aeR (el h) (el g) c1 c2 T1 T2 w (λq=>e (hG.2.2.1 h m1 g m2 (by simpa using q))) (cF.lookup q1) (cF.lookup q2)).mono λe w' ⟨he,hw⟩=>⟨(),he,by subst hw;simpa using cF⟩
 ·rename_i x0 h g;obtain⟨hc,H⟩:=az H;simp only[Bool.and_eq_true,List.contains_iff_mem] at hc;obtain⟨m1,m2⟩:=hc;have h2:Fg= .iface 414 (.pointer (some (el g))):=h2;subst h2;obtain⟨c1,T1,q1⟩:=hG.2.1 h m1;obtain⟨c2,T2,q2⟩:=hG.2.1 g m2;obtain⟨b,vo,T,hv,hm,ho⟩:=h1;subst hv;have ho:vo= .iface 414 (.pointer (some (el h))):=ho;subst ho;have gC:w.cell? ⟨b,1,none⟩=some (.iface 414 (.pointer (some (el h)))):=cellAt cF hm J
  by_cases e:h=g
  ·subst e;have hr:r=true:=by simpa using H.symm
   subst hr;exact(aeW b (el h) w gC).mono λe w' ⟨he,hw⟩=>⟨(),he,by subst hw;simpa using cF⟩
  ·have hr:r=false:=by rw[<-Option.some.inj H];exact xB e
   subst hr;exact(aeU b (el h) (el g) c1 c2 T1 T2 w gC (λq=>e (hG.2.2.1 h m1 g m2 (by simpa using q))) (cF.lookup q1) (cF.lookup q2)).mono λe w' ⟨he,hw⟩=>⟨(),he,by subst hw;simpa using cF⟩
 ·rename_i x0 m g;obtain⟨hc,H⟩:=az H;have h2:Fg= .iface 414 (.pointer (some (el g))):=h2;subst h2;obtain⟨b,vo,T,hv,hm,ho⟩:=h1;subst hv;have ho:vo= .iface 148 (.int .i64 m):=ho;subst ho;have hr:r=false:=(Option.some.inj H).symm;subst hr;exact(aeT b m (el g) w (cellAt cF hm rfl)).mono λe w' ⟨he,hw⟩=>⟨(),he,by subst hw;simpa using cF⟩
 ·rename_i x0 h g;obtain⟨hc,H⟩:=az H;simp only[Bool.and_eq_true,List.contains_iff_mem] at hc;obtain⟨m1,m2⟩:=hc;have h2:Fg= .iface 414 (.pointer (some (el g))):=h2;subst h2;obtain⟨c1,T1,q1⟩:=hG.2.1 h m1;obtain⟨c2,T2,q2⟩:=hG.2.1 g m2;obtain⟨b,vo,T,hv,hm,ho⟩:=h1;subst hv;have ho:vo= .iface 414 (.pointer (some (el h))):=ho;subst ho;have gC:w.cell? ⟨b,1,none⟩=some (.iface 414 (.pointer (some (el h)))):=cellAt cF hm J
  by_cases e:h=g
  ·subst e;have hr:r=true:=by simpa using H.symm
   subst hr;exact(aeX b (el h) w gC).mono λe w' ⟨he,hw⟩=>⟨(),he,by subst hw;simpa using cF⟩
  ·have hr:r=false:=by rw[<-Option.some.inj H];exact xB e
   subst hr;exact(aeV b (el h) (el g) c1 c2 T1 T2 w gC (λq=>e (hG.2.2.1 h m1 g m2 (by simpa using q))) (cF.lookup q1) (cF.lookup q2)).mono λe w' ⟨he,hw⟩=>⟨(),he,by subst hw;simpa using cF⟩
 ·cases H
theorem HE {W w:World} {H:Hp} {b T:Nat} {c:Array Value} {o1 o2 o3 o4:Obj} {v:Value} (ow:bn W w ((b,.cells c T (0,0))::H)):
 bn W (((((w.alloc o1).alloc o2).alloc o3).alloc o4).setCell ⟨b,0,none⟩ v) ((b,.cells (c.setIfInBounds 0 v) T (0,0))::H):=by
 have h:=(((ow.alloc o1).alloc o2).alloc o3).alloc o4;have h2:bn W ((((w.alloc o1).alloc o2).alloc o3).alloc o4) ((b,.cells c T (0,0))::H):=h.sub (List.Sublist.cons _ (List.Sublist.cons _ (List.Sublist.cons _ (List.Sublist.cons _ (List.Sublist.refl _)))));exact h2.setCell
theorem MO.n {el:Nat->Addr} {b:Nat} {x:Value} (F:Hp) (hG:fP 414 fc gW el F):
 gY Tryz.prog 94 [.nilIface,.iface 344 (.pointer (some ⟨b,0,none⟩))] [[(b,Obj.cells #[x] 343 (0,0))],F] (λ_:Unit=> .bool false) (λ_=>[[(b,Obj.cells #[x] 343 (0,0))],F]):=by
 intro W w ow;exact(L9 _ w).mono λe w' ⟨he,hw⟩=>⟨(),he,by subst hw;exact ow⟩
theorem MO.s {el:Nat->Addr} {b:Nat} (q:Nat) (F:Hp) (hG:fP 414 fc gW el F):
 gY Tryz.prog 94 [.iface 343 (.pointer (some ⟨q,0,none⟩)),.iface 344 (.pointer (some ⟨b,0,none⟩))] [[(b,Obj.cells #[.pointer none] 343 (0,0))],F] (λ_:Unit=> .bool true) (λ_=>[[(b,Obj.cells #[.pointer (some ⟨q,0,none⟩)] 343 (0,0))],F]):=by
 intro W w ow;have cF:bn W w ((b,Obj.cells #[.pointer none] 343 (0,0))::F):=by simpa using ow
 obtain⟨TG,R_,GK⟩:=hG.2.2.2 _ (List.mem_singleton.2 J);have hg:=cF.cell (off:=0) (List.mem_cons_of_mem _ GK) J;have kz:=cF.cell (off:=0) (List.mem_cons_self ..) J;have pJ:=cF.Ls (off:=0) (List.mem_cons_self ..);exact(YZ ⟨q,0,none⟩ ⟨b,0,none⟩ (.pointer none) w hg kz pJ).mono λe w' ⟨he,hw⟩=>⟨(),he,by subst hw;simpa using HE cF⟩
def QA:Er->Bool
 | .nil=>true
 | .num _ _=>true
 | .wrap 110 [_] (.num 148 _)=>true
 |_=>false
def Ga.f (e:Er):Option (Option Int):=if QA e then Er.DY 148 e else none
theorem Ga.c {el:Nat->Addr} {uJ:Value} {b:Nat} {bc:Int} (e:Er) (r:Option Int) (F:Hp) (H:Ga.f e=some r) (hG:fP 414 fc gW el F) (h1:l9 414 el e uJ F):
 gY Tryz.prog 94 [uJ,.iface 160 (.pointer (some ⟨b,0,none⟩))] [[(b,Obj.cells #[.int .i64 bc] 148 (0,0))],F] (λ_:Unit=> .bool r.isSome) (λ_=>[[(b,Obj.cells #[.int .i64 (r.getD bc)] 148 (0,0))],F]):=by
 intro W w ow;have cF:bn W w ((b,Obj.cells #[.int .i64 bc] 148 (0,0))::F):=by simpa using ow
 obtain⟨TG,R_,GK⟩:=hG.2.2.2 _ (List.mem_singleton.2 J);have hg:=cF.cell (off:=0) (List.mem_cons_of_mem _ GK) J;have kz:=cF.cell (off:=0) (List.mem_cons_self ..) J;have pJ:=cF.Ls (off:=0) (List.mem_cons_self ..);unfold Ga.f at H;obtain⟨sH,H⟩:=az H;unfold QA at sH;split at sH
 ·have h1:uJ= .nilIface:=h1;subst h1;have hr:r=none:=(Option.some.inj H).symm;subst hr;exact(L9 _ w).mono λe w' ⟨he,hw⟩=>⟨(),he,by subst hw;exact ow⟩
 ·rename_i u m _;unfold Er.DY at H;obtain⟨hu,H⟩:=az H;subst hu;have h1:uJ= .iface 148 (.int .i64 m):=h1;subst h1;have hr:r=some m:=(Option.some.inj H).symm;subst hr;exact(YX m ⟨b,0,none⟩ (.int .i64 bc) w hg kz pJ).mono λe w' ⟨he,hw⟩=>⟨(),he,by subst hw;simpa using HE cF⟩
 ·rename_i x0 m _;unfold Er.DY at H;obtain⟨hu,H⟩:=az H;obtain⟨q,vo,T,hv,hm,ho⟩:=h1;subst hv;have ho:vo= .iface 148 (.int .i64 m):=ho;subst ho;have hr:r=some m:=(Option.some.inj H).symm;subst hr;have gC:=cF.cell (off:=1) (v:= .iface 148 (.int .i64 m)) (List.mem_cons_of_mem _ hm) J;exact(Y0 m ⟨b,0,none⟩ (.int .i64 bc) w q hg kz pJ gC).mono λe w' ⟨he,hw⟩=>⟨(),he,by subst hw;simpa using HE cF⟩
 ·cases sH
def QB:Er->Bool
 | .nil=>true
 | .num _ _=>true
 | .wrap 301 [_] (.num 243 _)=>true
 |_=>false
def zv.f (e:Er):Option (Option Int):=if QB e then Er.DY 243 e else none
theorem zv.c {el:Nat->Addr} {uJ:Value} {b:Nat} {bc:Int} (e:Er) (r:Option Int) (F:Hp) (H:zv.f e=some r) (hG:fP 414 fc gW el F) (h1:l9 414 el e uJ F):
 gY Tryz.prog 94 [uJ,.iface 244 (.pointer (some ⟨b,0,none⟩))] [[(b,Obj.cells #[.int .i64 bc] 243 (0,0))],F] (λ_:Unit=> .bool r.isSome) (λ_=>[[(b,Obj.cells #[.int .i64 (r.getD bc)] 243 (0,0))],F]):=by
 intro W w ow;have cF:bn W w ((b,Obj.cells #[.int .i64 bc] 243 (0,0))::F):=by simpa using ow
 obtain⟨TG,R_,GK⟩:=hG.2.2.2 _ (List.mem_singleton.2 J);have hg:=cF.cell (off:=0) (List.mem_cons_of_mem _ GK) J;have kz:=cF.cell (off:=0) (List.mem_cons_self ..) J;have pJ:=cF.Ls (off:=0) (List.mem_cons_self ..);unfold zv.f at H;obtain⟨sH,H⟩:=az H;unfold QB at sH;split at sH
 ·have h1:uJ= .nilIface:=h1;subst h1;have hr:r=none:=(Option.some.inj H).symm;subst hr;exact(L9 _ w).mono λe w' ⟨he,hw⟩=>⟨(),he,by subst hw;exact ow⟩
 ·rename_i u m _;unfold Er.DY at H;obtain⟨hu,H⟩:=az H;subst hu;have h1:uJ= .iface 243 (.int .i64 m):=h1;subst h1;have hr:r=some m:=(Option.some.inj H).symm;subst hr;exact(YY m ⟨b,0,none⟩ (.int .i64 bc) w hg kz pJ).mono λe w' ⟨he,hw⟩=>⟨(),he,by subst hw;simpa using HE cF⟩
 ·rename_i x0 m _;unfold Er.DY at H;obtain⟨hu,H⟩:=az H;obtain⟨q,vo,T,hv,hm,ho⟩:=h1;subst hv;have ho:vo= .iface 243 (.int .i64 m):=ho;subst ho;have hr:r=some m:=(Option.some.inj H).symm;subst hr;have gC:=cF.cell (off:=1) (v:= .iface 243 (.int .i64 m)) (List.mem_cons_of_mem _ hm) J;exact(Y1 m ⟨b,0,none⟩ (.int .i64 bc) w q hg kz pJ gC).mono λe w' ⟨he,hw⟩=>⟨(),he,by subst hw;simpa using HE cF⟩
 ·cases sH
end
end Go.Proofs.YthodkonhneebbaaGreatDoor
