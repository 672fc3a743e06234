/- Part of the proof. No condition. -/
import Derived.Test.YthodkonhneebbaaGreatDoorProg
import Derived.WalkKit
import Derived.LaidEql
import Derived.Stop.Asserts
import Derived.RowKitTokens
import Derived.KernelRfl
import Derived.Test.YthodkonhneebbaaGreatDoorKWHy
namespace Go.Proofs.YthodkonhneebbaaGreatDoor
set_option maxRecDepth 100000
set_option linter.unusedVariables false
set_option linter.unusedSimpArgs false
abbrev fh:List Nat:=[0,2,3,4,5,6]
abbrev il:List (Nat×Value):=[(1,.iface 262 (.agg #[.pointer (some ⟨8,106,none⟩)]))]
theorem ae2:Go.Hx.P2 Tryz.prog 296 22:=⟨⟨#[3],λargs w=>run_callFunc_extern (e:=Extern.BytealgMakeNoZero.makeNoZero #[3] #[22]) Tryz.func296 az az az az args w⟩⟩
section
open Go.RowKit Go.Extern.Stop Go.Stop Go.Extern
theorem Ct (v:Value) (w:World):(Extern.ReflectliteType.typeOf #[.iface 414 v]).run Tryz.prog w= .ok (.iface 262 (.agg #[.pointer (some ⟨8,414,none⟩)])) w:=az
theorem Cp (w:World):(callFunc 335 #[.agg #[.pointer (some ⟨8,414,none⟩)]]).run Tryz.prog w= .ok (.value (.bool true)) w:=az
theorem Cr (v : Value) (w : World) : (Go.method 546 262 v "Comparable").run Tryz.prog w = .ok (335, v) w := by kernel_rfl
theorem Cq:(Tryz.prog.info? 414).map (·.comparable)=some true:=az
theorem Cs:(Tryz.prog.info? 434).map (·.size)=some 1:=az
theorem CI (v:Value) (xT:TypeId) (w:World):(Instr.typeAssert (.iface 414 v) xT 264 true).run Tryz.prog w= .ok (.tuple #[.nilIface,.bool false]) w:=run_typeAssert_lacksB Tryz.underlying264 az az v xT w
theorem CJ (v:Value) (xT:TypeId) (w:World):(Instr.typeAssert (.iface 414 v) xT 267 true).run Tryz.prog w= .ok (.tuple #[.nilIface,.bool false]) w:=run_typeAssert_lacksB Tryz.underlying267 az az v xT w
theorem CK (v:Value) (xT:TypeId) (w:World):(Instr.typeAssert (.iface 414 v) xT 269 true).run Tryz.prog w= .ok (.tuple #[.nilIface,.bool false]) w:=run_typeAssert_lacksB Tryz.underlying269 az az v xT w
theorem OG (v:Value) (xT:TypeId) (w:World):(Instr.typeAssert (.iface 110 v) xT 264 true).run Tryz.prog w= .ok (.tuple #[.nilIface,.bool false]) w:=run_typeAssert_lacksB Tryz.underlying264 az az v xT w
theorem Ny (v:Value) (xT:TypeId) (w:World):(Instr.typeAssert (.iface 110 v) xT 267 true).run Tryz.prog w= .ok (.tuple #[.iface 110 v,.bool true]) w:=run_typeAssert_hasB Tryz.underlying267 az v xT w
theorem Ow (v : Value) (w : World) : (Go.method 546 110 v "Unwrap").run Tryz.prog w = .ok (324, v) w := by kernel_rfl
theorem Vl (v:Value) (xT:TypeId) (w:World):(Instr.typeAssert (.iface 222 v) xT 264 true).run Tryz.prog w= .ok (.tuple #[.nilIface,.bool false]) w:=run_typeAssert_lacksB Tryz.underlying264 az az v xT w
theorem TK (v:Value) (xT:TypeId) (w:World):(Instr.typeAssert (.iface 222 v) xT 267 true).run Tryz.prog w= .ok (.tuple #[.iface 222 v,.bool true]) w:=run_typeAssert_hasB Tryz.underlying267 az v xT w
theorem Va (v : Value) (w : World) : (Go.method 546 222 v "Unwrap").run Tryz.prog w = .ok (331, v) w := by kernel_rfl
theorem agv (v:Value) (xT:TypeId) (w:World):(Instr.typeAssert (.iface 148 v) xT 264 true).run Tryz.prog w= .ok (.tuple #[.nilIface,.bool false]) w:=run_typeAssert_lacksB Tryz.underlying264 az az v xT w
theorem agw (v:Value) (xT:TypeId) (w:World):(Instr.typeAssert (.iface 148 v) xT 267 true).run Tryz.prog w= .ok (.tuple #[.nilIface,.bool false]) w:=run_typeAssert_lacksB Tryz.underlying267 az az v xT w
theorem agx (v:Value) (xT:TypeId) (w:World):(Instr.typeAssert (.iface 148 v) xT 269 true).run Tryz.prog w= .ok (.tuple #[.nilIface,.bool false]) w:=run_typeAssert_lacksB Tryz.underlying269 az az v xT w
set_option maxHeartbeats 4000000 in
def Ds:=PLift.up (@run_callFunc_extern Tryz.prog 130 _ (Extern.ReflectliteType.typeOf) Tryz.func130 az az az az)
def Io:=PLift.up (@run_callFunc_extern Tryz.prog 132 _ (λargs=>ReflectliteValue.unpack (args.getD 0 (.tuple #[]))) Tryz.func132 az az az az)
def Ip := PLift.up (@run_callFunc_extern Tryz.prog 133 _ (ReflectliteValue.methodAny (ReflectliteValue.valueError "reflectlite.Value.Type" 0) (fun t _ _ _ => ReflectliteType.toType t)) Tryz.func133 az az az az)
def Iq := PLift.up (@run_callFunc_extern Tryz.prog 134 _ (ReflectliteValue.method (ReflectliteValue.valueError "reflectlite.Value.IsNil" 0) ReflectliteValue.isNil) Tryz.func134 az az az az)
def Ij:=PLift.up (@run_callFunc_extern Tryz.prog 320 _ (ReflectliteType.abiMethod λt=>do pure (.int .u8 (<-Rtype.kind t))) Tryz.func320 az az az az)
def Il:=PLift.up (@run_callFunc_extern Tryz.prog 336 _ (ReflectliteType.method ReflectliteType.elem) Tryz.func336 az az az az)
def Im := PLift.up (@run_callFunc_extern Tryz.prog 337 _ (ReflectliteType.relation "Implements" ReflectliteType.implements_) Tryz.func337 az az az az)
def Ig:=PLift.up (@run_callFunc_extern Tryz.prog 130 _ (ReflectliteType.typeOf) Tryz.func130 az az az az)
def Ik := PLift.up (@run_callFunc_extern Tryz.prog 334 _ (ReflectliteType.relation "AssignableTo" ReflectliteType.assignableTo) Tryz.func334 az az az az)
def Ih := PLift.up (@run_callFunc_extern Tryz.prog 169 _ (ReflectliteValue.method (ReflectliteValue.valueError "reflectlite.Value.Elem" 0) ReflectliteValue.elem) Tryz.func169 az az az az)
def Ii:=PLift.up (@run_callFunc_extern Tryz.prog 170 _ (ReflectliteValue.set) Tryz.func170 az az az az)
theorem uk {w:World} {a:Addr} {v:Value} (h:w.cell? a=some v):a.block<w.heap.size:=by
 rcases Nat.lt_or_ge a.block w.heap.size with q |q
 ·exact q
 ·simp[World.cell?,Array.getElem?_eq_none q] at h
theorem ae4 (b:Addr) (w:World):Calls Tryz.prog 93 #[.iface 414 (.pointer (some b)),.iface 414 (.pointer (some b))] w λe w'=>e= .returned (.bool true)/\w'=w:=by
 obtain⟨i,hi,uc⟩:=Option.map_eq_some_iff.1 Cq;obtain⟨j,hj,yR⟩:=Option.map_eq_some_iff.1 Cs;have h8:=Ds.down;have DV:=Cp;have tT:=Ct;have mR:=Cr;have nE:=CI;have uE:=CJ;have vE:=CK;have heq:=run_eql_iface_ptr_same (P:=Tryz.prog) w b Tryz.underlying106 Tryz.underlying414 hi uc hj
 go_enter Tryz.func93,Tryz.ntmps93
 go_wp2
 refine wp_loop_rounds 1 ?_;rw[rounds_succ]
 go_wp2
 go_ret
 exact⟨J,J⟩
set_option maxHeartbeats 4000000 in
theorem ae3 (a b:Addr) (ca cb:Array Value) (ta tb:TypeId) (w:World) (bI:a≠b) (ha:w.heap[a.block]? =some (.cells ca ta (0,0))) (hb:w.heap[b.block]? =some (.cells cb tb (0,0))):Calls Tryz.prog 93 #[.iface 414 (.pointer (some a)),.iface 414 (.pointer (some b))] w λe w'=>e= .returned (.bool false)/\w'=w:=by
 obtain⟨i,hi,uc⟩:=Option.map_eq_some_iff.1 Cq;obtain⟨j,hj,yR⟩:=Option.map_eq_some_iff.1 Cs;have h8:=Ds.down;have DV:=Cp;have tT:=Ct;have mR:=Cr;have nE:=CI;have uE:=CJ;have vE:=CK;have heq:=run_eql_iface_ptr_other (P:=Tryz.prog) w Tryz.underlying106 Tryz.underlying414 hi uc hj (by rw[yR];decide) bI ha hb
 go_enter Tryz.func93,Tryz.ntmps93
 go_wp2
 refine wp_loop_rounds 1 ?_;rw[rounds_succ]
 go_wp2
 go_ret
 exact⟨J,J⟩
set_option maxHeartbeats 8000000 in
theorem ae8 (pb:Nat) (b:Addr) (w:World) (h1:w.cell? ⟨pb,1,none⟩=some (.iface 414 (.pointer (some b)))):Calls Tryz.prog 93 #[.iface 110 (.pointer (some ⟨pb,0,none⟩)),.iface 414 (.pointer (some b))] w λe w'=>e= .returned (.bool true)/\w'=w:=by
 obtain⟨i,hi,uc⟩:=Option.map_eq_some_iff.1 Cq;obtain⟨j,hj,yR⟩:=Option.map_eq_some_iff.1 Cs;have h8:=Ds.down;have DV:=Cp;have tT:=Ct;have mR:=Cr;have nE:=CI;have uE:=CJ;have vE:=CK;have nW:=OG;have uW:=Ny;have mU:=Ow;have Cl:=run_eql_iface_types (P:=Tryz.prog) 110 414 (.pointer (some ⟨pb,0,none⟩)) (.pointer (some b)) Tryz.underlying106 (by decide) w
 have heq:=run_eql_iface_ptr_same (P:=Tryz.prog) w b Tryz.underlying106 Tryz.underlying414 hi uc hj
 go_enter Tryz.func93,Tryz.ntmps93
 go_wp2
 refine wp_loop_rounds 2 ?_;rw[rounds_succ]
 go_wp2
 rw[rounds_succ]
 go_wp2
 go_ret
 exact⟨J,J⟩
set_option maxHeartbeats 8000000 in
theorem ae6 (pb:Nat) (a b:Addr) (ca cb:Array Value) (ta tb:TypeId) (w:World) (h1:w.cell? ⟨pb,1,none⟩=some (.iface 414 (.pointer (some a)))) (bI:a≠b) (ha:w.heap[a.block]? =some (.cells ca ta (0,0))) (hb:w.heap[b.block]? =some (.cells cb tb (0,0))):Calls Tryz.prog 93 #[.iface 110 (.pointer (some ⟨pb,0,none⟩)),.iface 414 (.pointer (some b))] w λe w'=>e= .returned (.bool false)/\w'=w:=by
 obtain⟨i,hi,uc⟩:=Option.map_eq_some_iff.1 Cq;obtain⟨j,hj,yR⟩:=Option.map_eq_some_iff.1 Cs;have h8:=Ds.down;have DV:=Cp;have tT:=Ct;have mR:=Cr;have nE:=CI;have uE:=CJ;have vE:=CK;have nW:=OG;have uW:=Ny;have mU:=Ow;have Cl:=run_eql_iface_types (P:=Tryz.prog) 110 414 (.pointer (some ⟨pb,0,none⟩)) (.pointer (some b)) Tryz.underlying106 (by decide) w
 have heq:=run_eql_iface_ptr_other (P:=Tryz.prog) w Tryz.underlying106 Tryz.underlying414 hi uc hj (by rw[yR];decide) bI ha hb
 go_enter Tryz.func93,Tryz.ntmps93
 go_wp2
 refine wp_loop_rounds 2 ?_;rw[rounds_succ]
 go_wp2
 rw[rounds_succ]
 go_wp2
 go_ret
 exact⟨J,J⟩
set_option maxHeartbeats 8000000 in
theorem ae5 (pb:Nat) (m:Int) (b:Addr) (w:World) (h1:w.cell? ⟨pb,1,none⟩=some (.iface 148 (.int .i64 m))):Calls Tryz.prog 93 #[.iface 110 (.pointer (some ⟨pb,0,none⟩)),.iface 414 (.pointer (some b))] w λe w'=>e= .returned (.bool false)/\w'=w:=by
 obtain⟨i,hi,uc⟩:=Option.map_eq_some_iff.1 Cq;obtain⟨j,hj,yR⟩:=Option.map_eq_some_iff.1 Cs;have h8:=Ds.down;have DV:=Cp;have tT:=Ct;have mR:=Cr;have nE:=CI;have uE:=CJ;have vE:=CK;have nW:=OG;have uW:=Ny;have mU:=Ow;have Cl:=run_eql_iface_types (P:=Tryz.prog) 110 414 (.pointer (some ⟨pb,0,none⟩)) (.pointer (some b)) Tryz.underlying106 (by decide) w
 have nN:=agv;have uN:=agw;have vN:=agx;have htn:=run_eql_iface_types (P:=Tryz.prog) 148 414 (.int .i64 m) (.pointer (some b)) Tryz.underlying106 (by decide) w
 go_enter Tryz.func93,Tryz.ntmps93
 go_wp2
 refine wp_loop_rounds 2 ?_;rw[rounds_succ]
 go_wp2
 rw[rounds_succ]
 go_wp2
 go_ret
 exact⟨J,J⟩
set_option maxHeartbeats 8000000 in
theorem ae9 (pb:Nat) (b:Addr) (w:World) (h1:w.cell? ⟨pb,1,none⟩=some (.iface 414 (.pointer (some b)))):Calls Tryz.prog 93 #[.iface 222 (.pointer (some ⟨pb,0,none⟩)),.iface 414 (.pointer (some b))] w λe w'=>e= .returned (.bool true)/\w'=w:=by
 obtain⟨i,hi,uc⟩:=Option.map_eq_some_iff.1 Cq;obtain⟨j,hj,yR⟩:=Option.map_eq_some_iff.1 Cs;have h8:=Ds.down;have DV:=Cp;have tT:=Ct;have mR:=Cr;have nE:=CI;have uE:=CJ;have vE:=CK;have nW:=Vl;have uW:=TK;have mU:=Va;have Cl:=run_eql_iface_types (P:=Tryz.prog) 222 414 (.pointer (some ⟨pb,0,none⟩)) (.pointer (some b)) Tryz.underlying106 (by decide) w
 have heq:=run_eql_iface_ptr_same (P:=Tryz.prog) w b Tryz.underlying106 Tryz.underlying414 hi uc hj
 go_enter Tryz.func93,Tryz.ntmps93
 go_wp2
 refine wp_loop_rounds 2 ?_;rw[rounds_succ]
 go_wp2
 rw[rounds_succ]
 go_wp2
 go_ret
 exact⟨J,J⟩
set_option maxHeartbeats 8000000 in
theorem ae7 (pb:Nat) (a b:Addr) (ca cb:Array Value) (ta tb:TypeId) (w:World) (h1:w.cell? ⟨pb,1,none⟩=some (.iface 414 (.pointer (some a)))) (bI:a≠b) (ha:w.heap[a.block]? =some (.cells ca ta (0,0))) (hb:w.heap[b.block]? =some (.cells cb tb (0,0))):Calls Tryz.prog 93 #[.iface 222 (.pointer (some ⟨pb,0,none⟩)),.iface 414 (.pointer (some b))] w λe w'=>e= .returned (.bool false)/\w'=w:=by
 obtain⟨i,hi,uc⟩:=Option.map_eq_some_iff.1 Cq;obtain⟨j,hj,yR⟩:=Option.map_eq_some_iff.1 Cs;have h8:=Ds.down;have DV:=Cp;have tT:=Ct;have mR:=Cr;have nE:=CI;have uE:=CJ;have vE:=CK;have nW:=Vl;have uW:=TK;have mU:=Va;have Cl:=run_eql_iface_types (P:=Tryz.prog) 222 414 (.pointer (some ⟨pb,0,none⟩)) (.pointer (some b)) Tryz.underlying106 (by decide) w
 have heq:=run_eql_iface_ptr_other (P:=Tryz.prog) w Tryz.underlying106 Tryz.underlying414 hi uc hj (by rw[yR];decide) bI ha hb
 go_enter Tryz.func93,Tryz.ntmps93
 go_wp2
 refine wp_loop_rounds 2 ?_;rw[rounds_succ]
 go_wp2
 rw[rounds_succ]
 go_wp2
 go_ret
 exact⟨J,J⟩
theorem LM (t:Value) (w:World):Calls Tryz.prog 94 #[.nilIface,t] w λe w'=>e= .returned (.bool false)/\w'=w:=by
 go_enter Tryz.func94,Tryz.ntmps94
 go_wp2
 go_ret
 exact⟨J,J⟩
theorem ED (z:Sem Value) (f:TypeId->Addr->Nat->Nat->Sem Value) (v:Value):
 ReflectliteValue.method z f #[v]=(do match<-ReflectliteValue.parts v with |none=>z |some (t,a,fl)=>f t a fl (fl%32)):=rfl
theorem O_ (v x:Value):ReflectliteValue.set #[v,x]=(do
 let(some (dst,a,fl),some (src,b,_)):=(<-ReflectliteValue.parts v,<-ReflectliteValue.parts x)
  | unsupported (.noEntry "extern/(internal/reflectlite.Value).Set.zeroValue")
 if fl / ReflectliteValue.flagAddr % 2 == 0 then unsupported (.noEntry "extern/(internal/reflectlite.Value).Set.unaddressable")
 let val<-loadVar src b
 if<-Rtype.directlyAssignable dst src then storeVar dst a val
 else if<-Rtype.implements dst src then
  if(<-Rtype.kind src)==20 then
   match val with
   | .nilIface => unsupported (.noEntry "extern/reflectlite: a nil value of one interface type handed on as a value of another")
   |_=>storeVar dst a val
  else storeVar dst a (.iface src val)
 else panicString ("reflectlite.Set: value of type " ++ (← Rtype.spelt src) ++ " is not assignable to type " ++ (← Rtype.spelt dst))
 pure (.tuple #[])):=rfl
theorem G1 (h : Value) (w : World) : (Go.method 546 262 (.agg #[h]) "Kind").run Tryz.prog w = .ok (320, h) w := by kernel_rfl
theorem GY (h : Value) (w : World) : (Go.method 546 262 (.agg #[h]) "Elem").run Tryz.prog w = .ok (336, .agg #[h]) w := by kernel_rfl
theorem GZ (h : Value) (w : World) : (Go.method 546 262 (.agg #[h]) "Implements").run Tryz.prog w = .ok (337, .agg #[h]) w := by kernel_rfl
theorem GX (h : Value) (w : World) : (Go.method 546 262 (.agg #[h]) "AssignableTo").run Tryz.prog w = .ok (334, .agg #[h]) w := by kernel_rfl
theorem aht (t:Addr) (w:World):(ReflectliteValue.unpack (.iface 344 (.pointer (some t)))).run Tryz.prog w
 = .ok (.agg #[.pointer (some ⟨8,344,none⟩),.pointer (some ⟨w.heap.size,0,none⟩),.int .u64 150]) (w.alloc (.cells #[.pointer (some t)] 344)):=az
theorem ahr (a : Addr) (w : World) : (ReflectliteValue.methodAny (ReflectliteValue.valueError "reflectlite.Value.Type" 0) (fun t _ _ _ => ReflectliteType.toType t) #[.agg #[.pointer (some ⟨8, 344, none⟩), .pointer (some a), .int .u64 150]]).run Tryz.prog w
 = .ok (.iface 262 (.agg #[.pointer (some ⟨8,344,none⟩)])) w:=az
theorem ahl (w:World):((ReflectliteType.abiMethod λt=>(λa:Nat=>Value.int IntKind.u8 (a:Int)) <$> Rtype.kind t) #[.pointer (some ⟨8,344,none⟩)]).run Tryz.prog w= .ok (.int .u8 22) w:=az
theorem ahk (w:World):((ReflectliteType.abiMethod λt=>(λa:Nat=>Value.int IntKind.u8 (a:Int)) <$> Rtype.kind t) #[.pointer (some ⟨8,343,none⟩)]).run Tryz.prog w= .ok (.int .u8 22) w:=az
theorem Ws (a:Addr) (w:World):(ReflectliteValue.parts (.agg #[.pointer (some ⟨8,344,none⟩),.pointer (some a),.int .u64 150])).run Tryz.prog w= .ok (some (344,a,150)) w:=az
theorem ahj (a p:Addr) (W:World) (ha:W.cell? a=some (.pointer (some p))):
 (ReflectliteValue.method (ReflectliteValue.valueError "reflectlite.Value.IsNil" 0) ReflectliteValue.isNil #[.agg #[.pointer (some ⟨8, 344, none⟩), .pointer (some a), .int .u64 150]]).run Tryz.prog W = .ok (.bool false) W := by
 rw[ED];simp only[Sem.run_bind,Ws,Result.andThen];simp[ReflectliteValue.isNil,loadVar,isAgg,underlying,Tryz.underlying344,ha,Result.andThen]
theorem ahf (w:World):(ReflectliteType.method ReflectliteType.elem #[.agg #[.pointer (some ⟨8,344,none⟩)]]).run Tryz.prog w= .ok (.iface 262 (.agg #[.pointer (some ⟨8,343,none⟩)])) w:=az
theorem ahi (w : World) : (ReflectliteType.relation "Implements" ReflectliteType.implements_ #[.agg #[.pointer (some ⟨8, 343, none⟩)], .iface 262 (.agg #[.pointer (some ⟨8, 106, none⟩)])]).run Tryz.prog w = .ok (.bool true) w := by kernel_rfl
theorem ahs (v:Value) (w:World):(ReflectliteType.typeOf #[.iface 343 v]).run Tryz.prog w= .ok (.iface 262 (.agg #[.pointer (some ⟨8,343,none⟩)])) w:=az
theorem ahd (w : World) : (ReflectliteType.relation "AssignableTo" ReflectliteType.assignableTo #[.agg #[.pointer (some ⟨8, 343, none⟩)], .iface 262 (.agg #[.pointer (some ⟨8, 343, none⟩)])]).run Tryz.prog w = .ok (.bool true) w := by kernel_rfl
theorem ahu (e:Addr) (w:World):(ReflectliteValue.unpack (.iface 343 (.pointer (some e)))).run Tryz.prog w
 = .ok (.agg #[.pointer (some ⟨8,343,none⟩),.pointer (some ⟨w.heap.size,0,none⟩),.int .u64 150]) (w.alloc (.cells #[.pointer (some e)] 343)):=az
theorem ahg (w:World):(Rtype.elem? 344).run Tryz.prog w= .ok (some 343) w:=az
theorem ahm (p:Addr) (w:World):(ReflectliteValue.mk 343 p ReflectliteValue.flagAddr).run Tryz.prog w= .ok (.agg #[.pointer (some ⟨8,343,none⟩),.pointer (some p),.int .u64 406]) w:=az
theorem ahh (a p:Addr) (W:World) (ha:W.cell? a=some (.pointer (some p))):
 (ReflectliteValue.method (ReflectliteValue.valueError "reflectlite.Value.Elem" 0) ReflectliteValue.elem #[.agg #[.pointer (some ⟨8, 344, none⟩), .pointer (some a), .int .u64 150]]).run Tryz.prog W
  = .ok (.agg #[.pointer (some ⟨8,343,none⟩),.pointer (some p),.int .u64 406]) W:=by
 rw[ED];simp only[Sem.run_bind,Ws,Result.andThen];simp[ReflectliteValue.elem,loadVar,isAgg,underlying,Tryz.underlying344,ha,Result.andThen,ahg,ahm]
theorem ahn (a:Addr) (w:World):(ReflectliteValue.parts (.agg #[.pointer (some ⟨8,343,none⟩),.pointer (some a),.int .u64 406])).run Tryz.prog w= .ok (some (343,a,406)) w:=az
theorem aho (a:Addr) (w:World):(ReflectliteValue.parts (.agg #[.pointer (some ⟨8,343,none⟩),.pointer (some a),.int .u64 150])).run Tryz.prog w= .ok (some (343,a,150)) w:=az
theorem ahe (w:World):(Rtype.directlyAssignable 343 343).run Tryz.prog w= .ok true w:=az
theorem ahq (w:World):(sizeOf 343).run Tryz.prog w= .ok 1 w:=az
theorem ahp (ta b:Addr) (e:Addr) (a_:Value) (W:World) (hb:W.cell? b=some (.pointer (some e))) (ht:W.cell? ta=some a_) (hf:W.frozen? ta=false):
 (ReflectliteValue.set #[.agg #[.pointer (some ⟨8,343,none⟩),.pointer (some ta),.int .u64 406],.agg #[.pointer (some ⟨8,343,none⟩),.pointer (some b),.int .u64 150]]).run Tryz.prog W
   = .ok (.tuple #[]) (W.setCell ta (.pointer (some e))):=by
 rw[O_];simp only[Sem.run_bind,ahn,aho,Result.andThen];simp[ReflectliteValue.flagAddr,loadVar,isAgg,underlying,Tryz.underlying343,hb,Result.andThen,ahe,storeVar,Value.cells,storeCells,Addr.add,ahq];rw[run_store Tryz.prog W ta _ _ (by rfl)]
 simp[ht,hf]
set_option maxHeartbeats 16000000 in
theorem YS (e:Addr) (t:Addr) (a_:Value) (w:World) (hg:w.cell? ⟨1,0,none⟩=some (.iface 262 (.agg #[.pointer (some ⟨8,106,none⟩)]))) (lb:w.cell? t=some a_) (pt:w.frozen? t=false):
 Calls Tryz.prog 94 #[.iface 343 (.pointer (some e)),.iface 344 (.pointer (some t))] w λev w'=>ev= .returned (.bool true)/\w'=((((w.alloc (.cells #[.pointer (some t)] 344)).alloc (.cells #[.pointer (some ⟨8,344,none⟩),.pointer (some ⟨w.heap.size,0,none⟩),.int .u64 150] 204)).alloc (.cells #[.pointer (some ⟨8,344,none⟩),.pointer (some ⟨w.heap.size,0,none⟩),.int .u64 150] 204)).alloc (.cells #[.pointer (some e)] 343)).setCell t (.pointer (some e)):=by
 have h6:=Io.down;have h7:=Ip.down;have h8:=Iq.down;have Js:=Ij.down;have Ju:=Il.down;have Jv:=Im.down;have Jp:=Ig.down;have Jt:=Ik.down;have Jq:=Ih.down;have Jr:=Ii.down;have tO:=ahs;have mA:=GX;have a25:=ahd;have v25:=ahu;have f6:=aht;have f7:=ahr;have mK:=G1;have mE:=GY;have mI:=GZ;have Kg:=ahl;have Ke:=ahk;have BX:=ahf;have i25:=ahi;have n8:=ahj ⟨w.heap.size,0,none⟩ t ((w.alloc (.cells #[.pointer (some t)] 344)).alloc (.cells #[.pointer (some ⟨8,344,none⟩),.pointer (some ⟨w.heap.size,0,none⟩),.int .u64 150] 204)) bh;have aR:1<w.heap.size:=uk hg;have JO:((w.alloc (.cells #[.pointer (some t)] 344)).alloc (.cells #[.pointer (some ⟨8,344,none⟩),.pointer (some ⟨w.heap.size,0,none⟩),.int .u64 150] 204)).cell? ⟨1,0,none⟩=some (.iface 262 (.agg #[.pointer (some ⟨8,106,none⟩)])):=by
  rw[World.cell?_alloc_lt _ _ ⟨1,0,none⟩ (by first |(simp;done) |(simp;omega)),World.cell?_alloc_lt _ _ ⟨1,0,none⟩ aR];exact hg
 have oD:t.block<w.heap.size:=uk lb;have el:=ahh ⟨w.heap.size,0,none⟩ t (((w.alloc (.cells #[.pointer (some t)] 344)).alloc (.cells #[.pointer (some ⟨8,344,none⟩),.pointer (some ⟨w.heap.size,0,none⟩),.int .u64 150] 204)).alloc (.cells #[.pointer (some ⟨8,344,none⟩),.pointer (some ⟨w.heap.size,0,none⟩),.int .u64 150] 204)) (by rw[World.cell?_alloc_lt _ _ ⟨w.heap.size,0,none⟩ (by first |(simp;done) |(simp;omega))];simp)
 have st:=ahp t ⟨w.heap.size+1+1+1,0,none⟩ e a_ ((((w.alloc (.cells #[.pointer (some t)] 344)).alloc (.cells #[.pointer (some ⟨8,344,none⟩),.pointer (some ⟨w.heap.size,0,none⟩),.int .u64 150] 204)).alloc (.cells #[.pointer (some ⟨8,344,none⟩),.pointer (some ⟨w.heap.size,0,none⟩),.int .u64 150] 204)).alloc (.cells #[.pointer (some e)] 343))
  (by rw[World.cell?_alloc_at _ _ _ _ bh];rfl)
  (by rw[World.cell?_alloc_lt _ _ t (by first |(simp;done) |(simp;omega)),World.cell?_alloc_lt _ _ t (by first |(simp;done) |(simp;omega)),World.cell?_alloc_lt _ _ t (by first |(simp;done) |(simp;omega)),World.cell?_alloc_lt _ _ t oD];exact lb)
  (by rw[World.frozen?_alloc_old _ _ t (by first |(simp;done) |(simp;omega)),World.frozen?_alloc_old _ _ t (by first |(simp;done) |(simp;omega)),World.frozen?_alloc_old _ _ t (by first |(simp;done) |(simp;omega)),World.frozen?_alloc_old _ _ t (Nat.ne_of_lt oD)];exact pt)
 go_enter Tryz.func94,Tryz.ntmps94
 go_wp2
 refine wp_loop_rounds 1 ?_;rw[rounds_succ]
 go_wp2
 go_ret
 exact⟨J,J⟩
theorem Wd (t:Addr) (w:World):(ReflectliteValue.unpack (.iface 160 (.pointer (some t)))).run Tryz.prog w
 = .ok (.agg #[.pointer (some ⟨8,160,none⟩),.pointer (some ⟨w.heap.size,0,none⟩),.int .u64 150]) (w.alloc (.cells #[.pointer (some t)] 160)):=az
theorem Wb (a : Addr) (w : World) : (ReflectliteValue.methodAny (ReflectliteValue.valueError "reflectlite.Value.Type" 0) (fun t _ _ _ => ReflectliteType.toType t) #[.agg #[.pointer (some ⟨8, 160, none⟩), .pointer (some a), .int .u64 150]]).run Tryz.prog w
 = .ok (.iface 262 (.agg #[.pointer (some ⟨8,160,none⟩)])) w:=az
theorem V8 (w:World):((ReflectliteType.abiMethod λt=>(λa:Nat=>Value.int IntKind.u8 (a:Int)) <$> Rtype.kind t) #[.pointer (some ⟨8,160,none⟩)]).run Tryz.prog w= .ok (.int .u8 22) w:=az
theorem V0 (w:World):((ReflectliteType.abiMethod λt=>(λa:Nat=>Value.int IntKind.u8 (a:Int)) <$> Rtype.kind t) #[.pointer (some ⟨8,148,none⟩)]).run Tryz.prog w= .ok (.int .u8 2) w:=az
theorem V_ (a:Addr) (w:World):(ReflectliteValue.parts (.agg #[.pointer (some ⟨8,160,none⟩),.pointer (some a),.int .u64 150])).run Tryz.prog w= .ok (some (160,a,150)) w:=az
theorem VZ (a p:Addr) (W:World) (ha:W.cell? a=some (.pointer (some p))):
 (ReflectliteValue.method (ReflectliteValue.valueError "reflectlite.Value.IsNil" 0) ReflectliteValue.isNil #[.agg #[.pointer (some ⟨8, 160, none⟩), .pointer (some a), .int .u64 150]]).run Tryz.prog W = .ok (.bool false) W := by
 rw[ED];simp only[Sem.run_bind,V_,Result.andThen];simp[ReflectliteValue.isNil,loadVar,isAgg,underlying,Tryz.underlying160,ha,Result.andThen]
theorem VW (w:World):(ReflectliteType.method ReflectliteType.elem #[.agg #[.pointer (some ⟨8,160,none⟩)]]).run Tryz.prog w= .ok (.iface 262 (.agg #[.pointer (some ⟨8,148,none⟩)])) w:=az
theorem VY (w : World) : (ReflectliteType.relation "Implements" ReflectliteType.implements_ #[.agg #[.pointer (some ⟨8, 148, none⟩)], .iface 262 (.agg #[.pointer (some ⟨8, 106, none⟩)])]).run Tryz.prog w = .ok (.bool true) w := by kernel_rfl
theorem Wc (v:Value) (w:World):(ReflectliteType.typeOf #[.iface 148 v]).run Tryz.prog w= .ok (.iface 262 (.agg #[.pointer (some ⟨8,148,none⟩)])) w:=az
theorem VV (w : World) : (ReflectliteType.relation "AssignableTo" ReflectliteType.assignableTo #[.agg #[.pointer (some ⟨8, 148, none⟩)], .iface 262 (.agg #[.pointer (some ⟨8, 148, none⟩)])]).run Tryz.prog w = .ok (.bool true) w := by kernel_rfl
theorem We (e:Int) (w:World):(ReflectliteValue.unpack (.iface 148 (.int .i64 e))).run Tryz.prog w
 = .ok (.agg #[.pointer (some ⟨8,148,none⟩),.pointer (some ⟨w.heap.size,0,none⟩),.int .u64 130]) (w.alloc (.cells #[.int .i64 e] 148)):=az
theorem ag4 (w:World):(Rtype.elem? 160).run Tryz.prog w= .ok (some 148) w:=az
theorem ag5 (p:Addr) (w:World):(ReflectliteValue.mk 148 p ReflectliteValue.flagAddr).run Tryz.prog w= .ok (.agg #[.pointer (some ⟨8,148,none⟩),.pointer (some p),.int .u64 386]) w:=az
theorem VX (a p:Addr) (W:World) (ha:W.cell? a=some (.pointer (some p))):
 (ReflectliteValue.method (ReflectliteValue.valueError "reflectlite.Value.Elem" 0) ReflectliteValue.elem #[.agg #[.pointer (some ⟨8, 160, none⟩), .pointer (some a), .int .u64 150]]).run Tryz.prog W
  = .ok (.agg #[.pointer (some ⟨8,148,none⟩),.pointer (some p),.int .u64 386]) W:=by
 rw[ED];simp only[Sem.run_bind,V_,Result.andThen];simp[ReflectliteValue.elem,loadVar,isAgg,underlying,Tryz.underlying160,ha,Result.andThen,ag4,ag5]
theorem ag6 (a:Addr) (w:World):(ReflectliteValue.parts (.agg #[.pointer (some ⟨8,148,none⟩),.pointer (some a),.int .u64 386])).run Tryz.prog w= .ok (some (148,a,386)) w:=az
theorem ag7 (a:Addr) (w:World):(ReflectliteValue.parts (.agg #[.pointer (some ⟨8,148,none⟩),.pointer (some a),.int .u64 130])).run Tryz.prog w= .ok (some (148,a,130)) w:=az
theorem ag3 (w:World):(Rtype.directlyAssignable 148 148).run Tryz.prog w= .ok true w:=az
theorem ag8 (w:World):(sizeOf 148).run Tryz.prog w= .ok 1 w:=az
theorem Wa (ta b:Addr) (e:Int) (a_:Value) (W:World) (hb:W.cell? b=some (.int .i64 e)) (ht:W.cell? ta=some a_) (hf:W.frozen? ta=false):
 (ReflectliteValue.set #[.agg #[.pointer (some ⟨8,148,none⟩),.pointer (some ta),.int .u64 386],.agg #[.pointer (some ⟨8,148,none⟩),.pointer (some b),.int .u64 130]]).run Tryz.prog W
   = .ok (.tuple #[]) (W.setCell ta (.int .i64 e)):=by
 rw[O_];simp only[Sem.run_bind,ag6,ag7,Result.andThen];simp[ReflectliteValue.flagAddr,loadVar,isAgg,underlying,Tryz.underlying148,hb,Result.andThen,ag3,storeVar,Value.cells,storeCells,Addr.add,ag8];rw[run_store Tryz.prog W ta _ _ (by rfl)]
 simp[ht,hf]
set_option maxHeartbeats 16000000 in
theorem YQ (e:Int) (t:Addr) (a_:Value) (w:World) (hg:w.cell? ⟨1,0,none⟩=some (.iface 262 (.agg #[.pointer (some ⟨8,106,none⟩)]))) (lb:w.cell? t=some a_) (pt:w.frozen? t=false):
 Calls Tryz.prog 94 #[.iface 148 (.int .i64 e),.iface 160 (.pointer (some t))] w λev w'=>ev= .returned (.bool true)/\w'=((((w.alloc (.cells #[.pointer (some t)] 160)).alloc (.cells #[.pointer (some ⟨8,160,none⟩),.pointer (some ⟨w.heap.size,0,none⟩),.int .u64 150] 204)).alloc (.cells #[.pointer (some ⟨8,160,none⟩),.pointer (some ⟨w.heap.size,0,none⟩),.int .u64 150] 204)).alloc (.cells #[.int .i64 e] 148)).setCell t (.int .i64 e):=by
 have h6:=Io.down;have h7:=Ip.down;have h8:=Iq.down;have Js:=Ij.down;have Ju:=Il.down;have Jv:=Im.down;have Jp:=Ig.down;have Jt:=Ik.down;have Jq:=Ih.down;have Jr:=Ii.down;have tO:=Wc;have mA:=GX;have a25:=VV;have v25:=We;have f6:=Wd;have f7:=Wb;have mK:=G1;have mE:=GY;have mI:=GZ;have Kg:=V8;have Ke:=V0;have BX:=VW;have i25:=VY;have n8:=VZ ⟨w.heap.size,0,none⟩ t ((w.alloc (.cells #[.pointer (some t)] 160)).alloc (.cells #[.pointer (some ⟨8,160,none⟩),.pointer (some ⟨w.heap.size,0,none⟩),.int .u64 150] 204)) bh;have aR:1<w.heap.size:=uk hg;have JO:((w.alloc (.cells #[.pointer (some t)] 160)).alloc (.cells #[.pointer (some ⟨8,160,none⟩),.pointer (some ⟨w.heap.size,0,none⟩),.int .u64 150] 204)).cell? ⟨1,0,none⟩=some (.iface 262 (.agg #[.pointer (some ⟨8,106,none⟩)])):=by
  rw[World.cell?_alloc_lt _ _ ⟨1,0,none⟩ (by first |(simp;done) |(simp;omega)),World.cell?_alloc_lt _ _ ⟨1,0,none⟩ aR];exact hg
 have oD:t.block<w.heap.size:=uk lb;have el:=VX ⟨w.heap.size,0,none⟩ t (((w.alloc (.cells #[.pointer (some t)] 160)).alloc (.cells #[.pointer (some ⟨8,160,none⟩),.pointer (some ⟨w.heap.size,0,none⟩),.int .u64 150] 204)).alloc (.cells #[.pointer (some ⟨8,160,none⟩),.pointer (some ⟨w.heap.size,0,none⟩),.int .u64 150] 204)) (by rw[World.cell?_alloc_lt _ _ ⟨w.heap.size,0,none⟩ (by first |(simp;done) |(simp;omega))];simp)
 have st:=Wa t ⟨w.heap.size+1+1+1,0,none⟩ e a_ ((((w.alloc (.cells #[.pointer (some t)] 160)).alloc (.cells #[.pointer (some ⟨8,160,none⟩),.pointer (some ⟨w.heap.size,0,none⟩),.int .u64 150] 204)).alloc (.cells #[.pointer (some ⟨8,160,none⟩),.pointer (some ⟨w.heap.size,0,none⟩),.int .u64 150] 204)).alloc (.cells #[.int .i64 e] 148))
  (by rw[World.cell?_alloc_at _ _ _ _ bh];rfl)
  (by rw[World.cell?_alloc_lt _ _ t (by first |(simp;done) |(simp;omega)),World.cell?_alloc_lt _ _ t (by first |(simp;done) |(simp;omega)),World.cell?_alloc_lt _ _ t (by first |(simp;done) |(simp;omega)),World.cell?_alloc_lt _ _ t oD];exact lb)
  (by rw[World.frozen?_alloc_old _ _ t (by first |(simp;done) |(simp;omega)),World.frozen?_alloc_old _ _ t (by first |(simp;done) |(simp;omega)),World.frozen?_alloc_old _ _ t (by first |(simp;done) |(simp;omega)),World.frozen?_alloc_old _ _ t (Nat.ne_of_lt oD)];exact pt)
 go_enter Tryz.func94,Tryz.ntmps94
 go_wp2
 refine wp_loop_rounds 1 ?_;rw[rounds_succ]
 go_wp2
 go_ret
 exact⟨J,J⟩
theorem YI (v:Value) (xT:TypeId) (w:World):(Instr.typeAssert (.iface 110 v) xT 274 true).run Tryz.prog w= .ok (.tuple #[.nilIface,.bool false]) w:=run_typeAssert_lacksB Tryz.underlying274 az az v xT w
theorem YO (v:Value) (xT:TypeId) (w:World):(Instr.typeAssert (.iface 110 v) xT 267 true).run Tryz.prog w= .ok (.tuple #[.iface 110 v,.bool true]) w:=run_typeAssert_hasB Tryz.underlying267 az v xT w
theorem YE (v : Value) (w : World) : (Go.method 546 110 v "Unwrap").run Tryz.prog w = .ok (324, v) w := by kernel_rfl
theorem YM (v:Value) (w:World):(ReflectliteType.typeOf #[.iface 110 v]).run Tryz.prog w= .ok (.iface 262 (.agg #[.pointer (some ⟨8,110,none⟩)])) w:=az
theorem YC (w : World) : (ReflectliteType.relation "AssignableTo" ReflectliteType.assignableTo #[.agg #[.pointer (some ⟨8, 110, none⟩)], .iface 262 (.agg #[.pointer (some ⟨8, 148, none⟩)])]).run Tryz.prog w = .ok (.bool false) w := by kernel_rfl
set_option maxHeartbeats 16000000 in
theorem YT (e:Int) (t:Addr) (a_:Value) (w:World) (pb:Nat) (hg:w.cell? ⟨1,0,none⟩=some (.iface 262 (.agg #[.pointer (some ⟨8,106,none⟩)]))) (lb:w.cell? t=some a_) (pt:w.frozen? t=false) (h1:w.cell? ⟨pb,1,none⟩=some (.iface 148 (.int .i64 e))):
 Calls Tryz.prog 94 #[.iface 110 (.pointer (some ⟨pb,0,none⟩)),.iface 160 (.pointer (some t))] w λev w'=>ev= .returned (.bool true)/\w'=((((w.alloc (.cells #[.pointer (some t)] 160)).alloc (.cells #[.pointer (some ⟨8,160,none⟩),.pointer (some ⟨w.heap.size,0,none⟩),.int .u64 150] 204)).alloc (.cells #[.pointer (some ⟨8,160,none⟩),.pointer (some ⟨w.heap.size,0,none⟩),.int .u64 150] 204)).alloc (.cells #[.int .i64 e] 148)).setCell t (.int .i64 e):=by
 have h6:=Io.down;have h7:=Ip.down;have h8:=Iq.down;have Js:=Ij.down;have Ju:=Il.down;have Jv:=Im.down;have Jp:=Ig.down;have Jt:=Ik.down;have Jq:=Ih.down;have Jr:=Ii.down;have tO:=Wc;have mA:=GX;have a25:=VV;have v25:=We;have f6:=Wd;have f7:=Wb;have mK:=G1;have mE:=GY;have mI:=GZ;have Kg:=V8;have Ke:=V0;have BX:=VW;have i25:=VY;have oN:=YI;have oU:=YO;have oM:=YE;have oT:=YM;have oF:=YC;have mz:pb<w.heap.size:=uk h1;have h1a:(((w.alloc (.cells #[.pointer (some t)] 160)).alloc (.cells #[.pointer (some ⟨8,160,none⟩),.pointer (some ⟨w.heap.size,0,none⟩),.int .u64 150] 204)).alloc (.cells #[.pointer (some ⟨8,160,none⟩),.pointer (some ⟨w.heap.size,0,none⟩),.int .u64 150] 204)).cell? ⟨pb,1,none⟩=some (.iface 148 (.int .i64 e)):=by
  rw[World.cell?_alloc_lt _ _ ⟨pb,1,none⟩ (by first |(simp;done) |(simp;omega)),World.cell?_alloc_lt _ _ ⟨pb,1,none⟩ (by first |(simp;done) |(simp;omega)),World.cell?_alloc_lt _ _ ⟨pb,1,none⟩ mz];exact h1
 have n8:=VZ ⟨w.heap.size,0,none⟩ t ((w.alloc (.cells #[.pointer (some t)] 160)).alloc (.cells #[.pointer (some ⟨8,160,none⟩),.pointer (some ⟨w.heap.size,0,none⟩),.int .u64 150] 204)) bh;have aR:1<w.heap.size:=uk hg;have JO:((w.alloc (.cells #[.pointer (some t)] 160)).alloc (.cells #[.pointer (some ⟨8,160,none⟩),.pointer (some ⟨w.heap.size,0,none⟩),.int .u64 150] 204)).cell? ⟨1,0,none⟩=some (.iface 262 (.agg #[.pointer (some ⟨8,106,none⟩)])):=by
  rw[World.cell?_alloc_lt _ _ ⟨1,0,none⟩ (by first |(simp;done) |(simp;omega)),World.cell?_alloc_lt _ _ ⟨1,0,none⟩ aR];exact hg
 have oD:t.block<w.heap.size:=uk lb;have el:=VX ⟨w.heap.size,0,none⟩ t (((w.alloc (.cells #[.pointer (some t)] 160)).alloc (.cells #[.pointer (some ⟨8,160,none⟩),.pointer (some ⟨w.heap.size,0,none⟩),.int .u64 150] 204)).alloc (.cells #[.pointer (some ⟨8,160,none⟩),.pointer (some ⟨w.heap.size,0,none⟩),.int .u64 150] 204)) (by rw[World.cell?_alloc_lt _ _ ⟨w.heap.size,0,none⟩ (by first |(simp;done) |(simp;omega))];simp)
 have st:=Wa t ⟨w.heap.size+1+1+1,0,none⟩ e a_ ((((w.alloc (.cells #[.pointer (some t)] 160)).alloc (.cells #[.pointer (some ⟨8,160,none⟩),.pointer (some ⟨w.heap.size,0,none⟩),.int .u64 150] 204)).alloc (.cells #[.pointer (some ⟨8,160,none⟩),.pointer (some ⟨w.heap.size,0,none⟩),.int .u64 150] 204)).alloc (.cells #[.int .i64 e] 148))
  (by rw[World.cell?_alloc_at _ _ _ _ bh];rfl)
  (by rw[World.cell?_alloc_lt _ _ t (by first |(simp;done) |(simp;omega)),World.cell?_alloc_lt _ _ t (by first |(simp;done) |(simp;omega)),World.cell?_alloc_lt _ _ t (by first |(simp;done) |(simp;omega)),World.cell?_alloc_lt _ _ t oD];exact lb)
  (by rw[World.frozen?_alloc_old _ _ t (by first |(simp;done) |(simp;omega)),World.frozen?_alloc_old _ _ t (by first |(simp;done) |(simp;omega)),World.frozen?_alloc_old _ _ t (by first |(simp;done) |(simp;omega)),World.frozen?_alloc_old _ _ t (Nat.ne_of_lt oD)];exact pt)
 go_enter Tryz.func94,Tryz.ntmps94
 go_wp2
 refine wp_loop_rounds 2 ?_;rw[rounds_succ]
 go_wp2
 rw[rounds_succ]
 go_wp2
 go_ret
 exact⟨J,J⟩
theorem Wq (t:Addr) (w:World):(ReflectliteValue.unpack (.iface 244 (.pointer (some t)))).run Tryz.prog w
 = .ok (.agg #[.pointer (some ⟨8,244,none⟩),.pointer (some ⟨w.heap.size,0,none⟩),.int .u64 150]) (w.alloc (.cells #[.pointer (some t)] 244)):=az
theorem Wo (a : Addr) (w : World) : (ReflectliteValue.methodAny (ReflectliteValue.valueError "reflectlite.Value.Type" 0) (fun t _ _ _ => ReflectliteType.toType t) #[.agg #[.pointer (some ⟨8, 244, none⟩), .pointer (some a), .int .u64 150]]).run Tryz.prog w
 = .ok (.iface 262 (.agg #[.pointer (some ⟨8,244,none⟩)])) w:=az
theorem Wl (w:World):((ReflectliteType.abiMethod λt=>(λa:Nat=>Value.int IntKind.u8 (a:Int)) <$> Rtype.kind t) #[.pointer (some ⟨8,244,none⟩)]).run Tryz.prog w= .ok (.int .u8 22) w:=az
theorem Wk (w:World):((ReflectliteType.abiMethod λt=>(λa:Nat=>Value.int IntKind.u8 (a:Int)) <$> Rtype.kind t) #[.pointer (some ⟨8,243,none⟩)]).run Tryz.prog w= .ok (.int .u8 2) w:=az
theorem Wm (a:Addr) (w:World):(ReflectliteValue.parts (.agg #[.pointer (some ⟨8,244,none⟩),.pointer (some a),.int .u64 150])).run Tryz.prog w= .ok (some (244,a,150)) w:=az
theorem Wj (a p:Addr) (W:World) (ha:W.cell? a=some (.pointer (some p))):
 (ReflectliteValue.method (ReflectliteValue.valueError "reflectlite.Value.IsNil" 0) ReflectliteValue.isNil #[.agg #[.pointer (some ⟨8, 244, none⟩), .pointer (some a), .int .u64 150]]).run Tryz.prog W = .ok (.bool false) W := by
 rw[ED];simp only[Sem.run_bind,Wm,Result.andThen];simp[ReflectliteValue.isNil,loadVar,isAgg,underlying,Tryz.underlying244,ha,Result.andThen]
theorem Wg (w:World):(ReflectliteType.method ReflectliteType.elem #[.agg #[.pointer (some ⟨8,244,none⟩)]]).run Tryz.prog w= .ok (.iface 262 (.agg #[.pointer (some ⟨8,243,none⟩)])) w:=az
theorem Wi (w : World) : (ReflectliteType.relation "Implements" ReflectliteType.implements_ #[.agg #[.pointer (some ⟨8, 243, none⟩)], .iface 262 (.agg #[.pointer (some ⟨8, 106, none⟩)])]).run Tryz.prog w = .ok (.bool true) w := by kernel_rfl
theorem Wp (v:Value) (w:World):(ReflectliteType.typeOf #[.iface 243 v]).run Tryz.prog w= .ok (.iface 262 (.agg #[.pointer (some ⟨8,243,none⟩)])) w:=az
theorem Wf (w : World) : (ReflectliteType.relation "AssignableTo" ReflectliteType.assignableTo #[.agg #[.pointer (some ⟨8, 243, none⟩)], .iface 262 (.agg #[.pointer (some ⟨8, 243, none⟩)])]).run Tryz.prog w = .ok (.bool true) w := by kernel_rfl
theorem Wr (e:Int) (w:World):(ReflectliteValue.unpack (.iface 243 (.int .i64 e))).run Tryz.prog w
 = .ok (.agg #[.pointer (some ⟨8,243,none⟩),.pointer (some ⟨w.heap.size,0,none⟩),.int .u64 130]) (w.alloc (.cells #[.int .i64 e] 243)):=az
theorem ag_ (w:World):(Rtype.elem? 244).run Tryz.prog w= .ok (some 243) w:=az
theorem ag' (p:Addr) (w:World):(ReflectliteValue.mk 243 p ReflectliteValue.flagAddr).run Tryz.prog w= .ok (.agg #[.pointer (some ⟨8,243,none⟩),.pointer (some p),.int .u64 386]) w:=az
theorem Wh (a p:Addr) (W:World) (ha:W.cell? a=some (.pointer (some p))):
 (ReflectliteValue.method (ReflectliteValue.valueError "reflectlite.Value.Elem" 0) ReflectliteValue.elem #[.agg #[.pointer (some ⟨8, 244, none⟩), .pointer (some a), .int .u64 150]]).run Tryz.prog W
  = .ok (.agg #[.pointer (some ⟨8,243,none⟩),.pointer (some p),.int .u64 386]) W:=by
 rw[ED];simp only[Sem.run_bind,Wm,Result.andThen];simp[ReflectliteValue.elem,loadVar,isAgg,underlying,Tryz.underlying244,ha,Result.andThen,ag_,ag']
theorem aha (a:Addr) (w:World):(ReflectliteValue.parts (.agg #[.pointer (some ⟨8,243,none⟩),.pointer (some a),.int .u64 386])).run Tryz.prog w= .ok (some (243,a,386)) w:=az
theorem ahb (a:Addr) (w:World):(ReflectliteValue.parts (.agg #[.pointer (some ⟨8,243,none⟩),.pointer (some a),.int .u64 130])).run Tryz.prog w= .ok (some (243,a,130)) w:=az
theorem ag9 (w:World):(Rtype.directlyAssignable 243 243).run Tryz.prog w= .ok true w:=az
theorem ahc (w:World):(sizeOf 243).run Tryz.prog w= .ok 1 w:=az
theorem Wn (ta b:Addr) (e:Int) (a_:Value) (W:World) (hb:W.cell? b=some (.int .i64 e)) (ht:W.cell? ta=some a_) (hf:W.frozen? ta=false):
 (ReflectliteValue.set #[.agg #[.pointer (some ⟨8,243,none⟩),.pointer (some ta),.int .u64 386],.agg #[.pointer (some ⟨8,243,none⟩),.pointer (some b),.int .u64 130]]).run Tryz.prog W
   = .ok (.tuple #[]) (W.setCell ta (.int .i64 e)):=by
 rw[O_];simp only[Sem.run_bind,aha,ahb,Result.andThen];simp[ReflectliteValue.flagAddr,loadVar,isAgg,underlying,Tryz.underlying243,hb,Result.andThen,ag9,storeVar,Value.cells,storeCells,Addr.add,ahc];rw[run_store Tryz.prog W ta _ _ (by rfl)]
 simp[ht,hf]
set_option maxHeartbeats 16000000 in
theorem YR (e:Int) (t:Addr) (a_:Value) (w:World) (hg:w.cell? ⟨1,0,none⟩=some (.iface 262 (.agg #[.pointer (some ⟨8,106,none⟩)]))) (lb:w.cell? t=some a_) (pt:w.frozen? t=false):
 Calls Tryz.prog 94 #[.iface 243 (.int .i64 e),.iface 244 (.pointer (some t))] w λev w'=>ev= .returned (.bool true)/\w'=((((w.alloc (.cells #[.pointer (some t)] 244)).alloc (.cells #[.pointer (some ⟨8,244,none⟩),.pointer (some ⟨w.heap.size,0,none⟩),.int .u64 150] 204)).alloc (.cells #[.pointer (some ⟨8,244,none⟩),.pointer (some ⟨w.heap.size,0,none⟩),.int .u64 150] 204)).alloc (.cells #[.int .i64 e] 243)).setCell t (.int .i64 e):=by
 have h6:=Io.down;have h7:=Ip.down;have h8:=Iq.down;have Js:=Ij.down;have Ju:=Il.down;have Jv:=Im.down;have Jp:=Ig.down;have Jt:=Ik.down;have Jq:=Ih.down;have Jr:=Ii.down;have tO:=Wp;have mA:=GX;have a25:=Wf;have v25:=Wr;have f6:=Wq;have f7:=Wo;have mK:=G1;have mE:=GY;have mI:=GZ;have Kg:=Wl;have Ke:=Wk;have BX:=Wg;have i25:=Wi;have n8:=Wj ⟨w.heap.size,0,none⟩ t ((w.alloc (.cells #[.pointer (some t)] 244)).alloc (.cells #[.pointer (some ⟨8,244,none⟩),.pointer (some ⟨w.heap.size,0,none⟩),.int .u64 150] 204)) bh;have aR:1<w.heap.size:=uk hg;have JO:((w.alloc (.cells #[.pointer (some t)] 244)).alloc (.cells #[.pointer (some ⟨8,244,none⟩),.pointer (some ⟨w.heap.size,0,none⟩),.int .u64 150] 204)).cell? ⟨1,0,none⟩=some (.iface 262 (.agg #[.pointer (some ⟨8,106,none⟩)])):=by
  rw[World.cell?_alloc_lt _ _ ⟨1,0,none⟩ (by first |(simp;done) |(simp;omega)),World.cell?_alloc_lt _ _ ⟨1,0,none⟩ aR];exact hg
 have oD:t.block<w.heap.size:=uk lb;have el:=Wh ⟨w.heap.size,0,none⟩ t (((w.alloc (.cells #[.pointer (some t)] 244)).alloc (.cells #[.pointer (some ⟨8,244,none⟩),.pointer (some ⟨w.heap.size,0,none⟩),.int .u64 150] 204)).alloc (.cells #[.pointer (some ⟨8,244,none⟩),.pointer (some ⟨w.heap.size,0,none⟩),.int .u64 150] 204)) (by rw[World.cell?_alloc_lt _ _ ⟨w.heap.size,0,none⟩ (by first |(simp;done) |(simp;omega))];simp)
 have st:=Wn t ⟨w.heap.size+1+1+1,0,none⟩ e a_ ((((w.alloc (.cells #[.pointer (some t)] 244)).alloc (.cells #[.pointer (some ⟨8,244,none⟩),.pointer (some ⟨w.heap.size,0,none⟩),.int .u64 150] 204)).alloc (.cells #[.pointer (some ⟨8,244,none⟩),.pointer (some ⟨w.heap.size,0,none⟩),.int .u64 150] 204)).alloc (.cells #[.int .i64 e] 243))
  (by rw[World.cell?_alloc_at _ _ _ _ bh];rfl)
  (by rw[World.cell?_alloc_lt _ _ t (by first |(simp;done) |(simp;omega)),World.cell?_alloc_lt _ _ t (by first |(simp;done) |(simp;omega)),World.cell?_alloc_lt _ _ t (by first |(simp;done) |(simp;omega)),World.cell?_alloc_lt _ _ t oD];exact lb)
  (by rw[World.frozen?_alloc_old _ _ t (by first |(simp;done) |(simp;omega)),World.frozen?_alloc_old _ _ t (by first |(simp;done) |(simp;omega)),World.frozen?_alloc_old _ _ t (by first |(simp;done) |(simp;omega)),World.frozen?_alloc_old _ _ t (Nat.ne_of_lt oD)];exact pt)
 go_enter Tryz.func94,Tryz.ntmps94
 go_wp2
 refine wp_loop_rounds 1 ?_;rw[rounds_succ]
 go_wp2
 go_ret
 exact⟨J,J⟩
theorem YJ (v:Value) (xT:TypeId) (w:World):(Instr.typeAssert (.iface 301 v) xT 274 true).run Tryz.prog w= .ok (.tuple #[.nilIface,.bool false]) w:=run_typeAssert_lacksB Tryz.underlying274 az az v xT w
theorem YP (v:Value) (xT:TypeId) (w:World):(Instr.typeAssert (.iface 301 v) xT 267 true).run Tryz.prog w= .ok (.tuple #[.iface 301 v,.bool true]) w:=run_typeAssert_hasB Tryz.underlying267 az v xT w
theorem YF (v : Value) (w : World) : (Go.method 546 301 v "Unwrap").run Tryz.prog w = .ok (345, v) w := by kernel_rfl
theorem YN (v:Value) (w:World):(ReflectliteType.typeOf #[.iface 301 v]).run Tryz.prog w= .ok (.iface 262 (.agg #[.pointer (some ⟨8,301,none⟩)])) w:=az
theorem YD (w : World) : (ReflectliteType.relation "AssignableTo" ReflectliteType.assignableTo #[.agg #[.pointer (some ⟨8, 301, none⟩)], .iface 262 (.agg #[.pointer (some ⟨8, 243, none⟩)])]).run Tryz.prog w = .ok (.bool false) w := by kernel_rfl
set_option maxHeartbeats 16000000 in
theorem YU (e:Int) (t:Addr) (a_:Value) (w:World) (pb:Nat) (hg:w.cell? ⟨1,0,none⟩=some (.iface 262 (.agg #[.pointer (some ⟨8,106,none⟩)]))) (lb:w.cell? t=some a_) (pt:w.frozen? t=false) (h1:w.cell? ⟨pb,1,none⟩=some (.iface 243 (.int .i64 e))):
 Calls Tryz.prog 94 #[.iface 301 (.pointer (some ⟨pb,0,none⟩)),.iface 244 (.pointer (some t))] w λev w'=>ev= .returned (.bool true)/\w'=((((w.alloc (.cells #[.pointer (some t)] 244)).alloc (.cells #[.pointer (some ⟨8,244,none⟩),.pointer (some ⟨w.heap.size,0,none⟩),.int .u64 150] 204)).alloc (.cells #[.pointer (some ⟨8,244,none⟩),.pointer (some ⟨w.heap.size,0,none⟩),.int .u64 150] 204)).alloc (.cells #[.int .i64 e] 243)).setCell t (.int .i64 e):=by
 have h6:=Io.down;have h7:=Ip.down;have h8:=Iq.down;have Js:=Ij.down;have Ju:=Il.down;have Jv:=Im.down;have Jp:=Ig.down;have Jt:=Ik.down;have Jq:=Ih.down;have Jr:=Ii.down;have tO:=Wp;have mA:=GX;have a25:=Wf;have v25:=Wr;have f6:=Wq;have f7:=Wo;have mK:=G1;have mE:=GY;have mI:=GZ;have Kg:=Wl;have Ke:=Wk;have BX:=Wg;have i25:=Wi;have oN:=YJ;have oU:=YP;have oM:=YF;have oT:=YN;have oF:=YD;have mz:pb<w.heap.size:=uk h1;have h1a:(((w.alloc (.cells #[.pointer (some t)] 244)).alloc (.cells #[.pointer (some ⟨8,244,none⟩),.pointer (some ⟨w.heap.size,0,none⟩),.int .u64 150] 204)).alloc (.cells #[.pointer (some ⟨8,244,none⟩),.pointer (some ⟨w.heap.size,0,none⟩),.int .u64 150] 204)).cell? ⟨pb,1,none⟩=some (.iface 243 (.int .i64 e)):=by
  rw[World.cell?_alloc_lt _ _ ⟨pb,1,none⟩ (by first |(simp;done) |(simp;omega)),World.cell?_alloc_lt _ _ ⟨pb,1,none⟩ (by first |(simp;done) |(simp;omega)),World.cell?_alloc_lt _ _ ⟨pb,1,none⟩ mz];exact h1
 have n8:=Wj ⟨w.heap.size,0,none⟩ t ((w.alloc (.cells #[.pointer (some t)] 244)).alloc (.cells #[.pointer (some ⟨8,244,none⟩),.pointer (some ⟨w.heap.size,0,none⟩),.int .u64 150] 204)) bh;have aR:1<w.heap.size:=uk hg;have JO:((w.alloc (.cells #[.pointer (some t)] 244)).alloc (.cells #[.pointer (some ⟨8,244,none⟩),.pointer (some ⟨w.heap.size,0,none⟩),.int .u64 150] 204)).cell? ⟨1,0,none⟩=some (.iface 262 (.agg #[.pointer (some ⟨8,106,none⟩)])):=by
  rw[World.cell?_alloc_lt _ _ ⟨1,0,none⟩ (by first |(simp;done) |(simp;omega)),World.cell?_alloc_lt _ _ ⟨1,0,none⟩ aR];exact hg
 have oD:t.block<w.heap.size:=uk lb;have el:=Wh ⟨w.heap.size,0,none⟩ t (((w.alloc (.cells #[.pointer (some t)] 244)).alloc (.cells #[.pointer (some ⟨8,244,none⟩),.pointer (some ⟨w.heap.size,0,none⟩),.int .u64 150] 204)).alloc (.cells #[.pointer (some ⟨8,244,none⟩),.pointer (some ⟨w.heap.size,0,none⟩),.int .u64 150] 204)) (by rw[World.cell?_alloc_lt _ _ ⟨w.heap.size,0,none⟩ (by first |(simp;done) |(simp;omega))];simp)
 have st:=Wn t ⟨w.heap.size+1+1+1,0,none⟩ e a_ ((((w.alloc (.cells #[.pointer (some t)] 244)).alloc (.cells #[.pointer (some ⟨8,244,none⟩),.pointer (some ⟨w.heap.size,0,none⟩),.int .u64 150] 204)).alloc (.cells #[.pointer (some ⟨8,244,none⟩),.pointer (some ⟨w.heap.size,0,none⟩),.int .u64 150] 204)).alloc (.cells #[.int .i64 e] 243))
  (by rw[World.cell?_alloc_at _ _ _ _ bh];rfl)
  (by rw[World.cell?_alloc_lt _ _ t (by first |(simp;done) |(simp;omega)),World.cell?_alloc_lt _ _ t (by first |(simp;done) |(simp;omega)),World.cell?_alloc_lt _ _ t (by first |(simp;done) |(simp;omega)),World.cell?_alloc_lt _ _ t oD];exact lb)
  (by rw[World.frozen?_alloc_old _ _ t (by first |(simp;done) |(simp;omega)),World.frozen?_alloc_old _ _ t (by first |(simp;done) |(simp;omega)),World.frozen?_alloc_old _ _ t (by first |(simp;done) |(simp;omega)),World.frozen?_alloc_old _ _ t (Nat.ne_of_lt oD)];exact pt)
 go_enter Tryz.func94,Tryz.ntmps94
 go_wp2
 refine wp_loop_rounds 2 ?_;rw[rounds_succ]
 go_wp2
 rw[rounds_succ]
 go_wp2
 go_ret
 exact⟨J,J⟩
end
section
open Go.Hx
def vc.f (e t:Er):Option Bool:=match e,t with
 | .eB h,.eB g=>if fh.contains h&&fh.contains g then some (Nat.beq h g) else none
 | .wrap 110 [_] (.eB h),.eB g=>if fh.contains h&&fh.contains g then some (Nat.beq h g) else none
 | .wrap 110 [_] (.num 148 _),.eB g=>if fh.contains g then some false else none
 | .wrap 222 [_] (.eB h),.eB g=>if fh.contains h&&fh.contains g then some (Nat.beq h g) else none
 |_,_=>none
theorem cellAt {W w:World} {H:Hp} {b off:Nat} {c:Array Value} {T:TypeId} {fr:Nat×Nat} {v:Value} (ow:bl W w H) (hm:(b,Obj.cells c T fr)∈H) (hv:c[off]? =some v):w.cell? ⟨b,off,none⟩=some v:=ow.cell hm hv
theorem vc.c {el:Nat->Addr} {tG EZ:Value} (e t:Er) (r:Bool) (F:Hp) (H:vc.f e t=some r) (hG:fU 414 fh il el F) (h1:lU 414 el e tG F) (h2:lU 414 el t EZ F):
 gP Tryz.prog 93 [tG,EZ] [F] (λ_:Unit=> .bool r) (λ_=>[F]):=by
 intro W w ow;have cn:bl W w F:=by simpa using ow
 unfold vc.f at H;split at H
 ·rename_i h g;obtain⟨hc,H⟩:=aA H;simp only[Bool.and_eq_true,List.contains_iff_mem] at hc;obtain⟨m1,m2⟩:=hc;have h2:EZ= .iface 414 (.pointer (some (el g))):=h2;subst h2;obtain⟨c1,T1,q1⟩:=hG.2.1 h m1;obtain⟨c2,T2,q2⟩:=hG.2.1 g m2;have h1:tG= .iface 414 (.pointer (some (el h))):=h1;subst h1
  by_cases e:h=g
  ·subst e;have hr:r=true:=by simpa using H.symm
   subst hr;exact(ae4 (el h) w).mono λe w' ⟨he,hw⟩=>⟨(),he,by subst hw;simpa using cn⟩
  ·have hr:r=false:=by rw[<-Option.some.inj H];exact wQ e
   subst hr;exact(ae3 (el h) (el g) c1 c2 T1 T2 w (λq=>e (hG.2.2.1 h m1 g m2 (by simpa using q))) (cn.lookup q1) (cn.lookup q2)).mono λe w' ⟨he,hw⟩=>⟨(),he,by subst hw;simpa using cn⟩
 ·rename_i x0 h g;obtain⟨hc,H⟩:=aA H;simp only[Bool.and_eq_true,List.contains_iff_mem] at hc;obtain⟨m1,m2⟩:=hc;have h2:EZ= .iface 414 (.pointer (some (el g))):=h2;subst h2;obtain⟨c1,T1,q1⟩:=hG.2.1 h m1;obtain⟨c2,T2,q2⟩:=hG.2.1 g m2;obtain⟨b,vo,T,hv,hm,ho⟩:=h1;subst hv;have ho:vo= .iface 414 (.pointer (some (el h))):=ho;subst ho;have dW:w.cell? ⟨b,1,none⟩=some (.iface 414 (.pointer (some (el h)))):=cellAt cn hm J
  by_cases e:h=g
  ·subst e;have hr:r=true:=by simpa using H.symm
   subst hr;exact(ae8 b (el h) w dW).mono λe w' ⟨he,hw⟩=>⟨(),he,by subst hw;simpa using cn⟩
  ·have hr:r=false:=by rw[<-Option.some.inj H];exact wQ e
   subst hr;exact(ae6 b (el h) (el g) c1 c2 T1 T2 w dW (λq=>e (hG.2.2.1 h m1 g m2 (by simpa using q))) (cn.lookup q1) (cn.lookup q2)).mono λe w' ⟨he,hw⟩=>⟨(),he,by subst hw;simpa using cn⟩
 ·rename_i x0 m g;obtain⟨hc,H⟩:=aA H;have h2:EZ= .iface 414 (.pointer (some (el g))):=h2;subst h2;obtain⟨b,vo,T,hv,hm,ho⟩:=h1;subst hv;have ho:vo= .iface 148 (.int .i64 m):=ho;subst ho;have hr:r=false:=(Option.some.inj H).symm;subst hr;exact(ae5 b m (el g) w (cellAt cn hm rfl)).mono λe w' ⟨he,hw⟩=>⟨(),he,by subst hw;simpa using cn⟩
 ·rename_i x0 h g;obtain⟨hc,H⟩:=aA H;simp only[Bool.and_eq_true,List.contains_iff_mem] at hc;obtain⟨m1,m2⟩:=hc;have h2:EZ= .iface 414 (.pointer (some (el g))):=h2;subst h2;obtain⟨c1,T1,q1⟩:=hG.2.1 h m1;obtain⟨c2,T2,q2⟩:=hG.2.1 g m2;obtain⟨b,vo,T,hv,hm,ho⟩:=h1;subst hv;have ho:vo= .iface 414 (.pointer (some (el h))):=ho;subst ho;have dW:w.cell? ⟨b,1,none⟩=some (.iface 414 (.pointer (some (el h)))):=cellAt cn hm J
  by_cases e:h=g
  ·subst e;have hr:r=true:=by simpa using H.symm
   subst hr;exact(ae9 b (el h) w dW).mono λe w' ⟨he,hw⟩=>⟨(),he,by subst hw;simpa using cn⟩
  ·have hr:r=false:=by rw[<-Option.some.inj H];exact wQ e
   subst hr;exact(ae7 b (el h) (el g) c1 c2 T1 T2 w dW (λq=>e (hG.2.2.1 h m1 g m2 (by simpa using q))) (cn.lookup q1) (cn.lookup q2)).mono λe w' ⟨he,hw⟩=>⟨(),he,by subst hw;simpa using cn⟩
 ·cases H
theorem Hi {W w:World} {H:Hp} {b T:Nat} {c:Array Value} {o1 o2 o3 o4:Obj} {v:Value} (ow:bl W w ((b,.cells c T (0,0))::H)):
 bl W (((((w.alloc o1).alloc o2).alloc o3).alloc o4).setCell ⟨b,0,none⟩ v) ((b,.cells (c.setIfInBounds 0 v) T (0,0))::H):=by
 have h:=(((ow.alloc o1).alloc o2).alloc o3).alloc o4;have h2:bl W ((((w.alloc o1).alloc o2).alloc o3).alloc o4) ((b,.cells c T (0,0))::H):=h.sub (List.Sublist.cons _ (List.Sublist.cons _ (List.Sublist.cons _ (List.Sublist.cons _ (List.Sublist.refl _)))));exact h2.setCell
theorem Mz.n {el:Nat->Addr} {b:Nat} {x:Value} (F:Hp) (hG:fU 414 fh il el F):
 gP Tryz.prog 94 [.nilIface,.iface 344 (.pointer (some ⟨b,0,none⟩))] [[(b,Obj.cells #[x] 343 (0,0))],F] (λ_:Unit=> .bool false) (λ_=>[[(b,Obj.cells #[x] 343 (0,0))],F]):=by
 intro W w ow;exact(LM _ w).mono λe w' ⟨he,hw⟩=>⟨(),he,by subst hw;exact ow⟩
theorem Mz.s {el:Nat->Addr} {b:Nat} (q:Nat) (F:Hp) (hG:fU 414 fh il el F):
 gP Tryz.prog 94 [.iface 343 (.pointer (some ⟨q,0,none⟩)),.iface 344 (.pointer (some ⟨b,0,none⟩))] [[(b,Obj.cells #[.pointer none] 343 (0,0))],F] (λ_:Unit=> .bool true) (λ_=>[[(b,Obj.cells #[.pointer (some ⟨q,0,none⟩)] 343 (0,0))],F]):=by
 intro W w ow;have cn:bl W w ((b,Obj.cells #[.pointer none] 343 (0,0))::F):=by simpa using ow
 obtain⟨TG,RW,Gn⟩:=hG.2.2.2 _ (List.mem_singleton.2 J);have hg:=cn.cell (off:=0) (List.mem_cons_of_mem _ Gn) J;have lb:=cn.cell (off:=0) (List.mem_cons_self ..) J;have pt:=cn.K9 (off:=0) (List.mem_cons_self ..);exact(YS ⟨q,0,none⟩ ⟨b,0,none⟩ (.pointer none) w hg lb pt).mono λe w' ⟨he,hw⟩=>⟨(),he,by subst hw;simpa using Hi cn⟩
def Qn:Er->Bool
 | .nil=>true
 | .num _ _=>true
 | .wrap 110 [_] (.num 148 _)=>true
 |_=>false
def FW.f (e:Er):Option (Option Int):=if Qn e then Er.DE 148 e else none
theorem FW.c {el:Nat->Addr} {tG:Value} {b:Nat} {a_:Int} (e:Er) (r:Option Int) (F:Hp) (H:FW.f e=some r) (hG:fU 414 fh il el F) (h1:lU 414 el e tG F):
 gP Tryz.prog 94 [tG,.iface 160 (.pointer (some ⟨b,0,none⟩))] [[(b,Obj.cells #[.int .i64 a_] 148 (0,0))],F] (λ_:Unit=> .bool r.isSome) (λ_=>[[(b,Obj.cells #[.int .i64 (r.getD a_)] 148 (0,0))],F]):=by
 intro W w ow;have cn:bl W w ((b,Obj.cells #[.int .i64 a_] 148 (0,0))::F):=by simpa using ow
 obtain⟨TG,RW,Gn⟩:=hG.2.2.2 _ (List.mem_singleton.2 J);have hg:=cn.cell (off:=0) (List.mem_cons_of_mem _ Gn) J;have lb:=cn.cell (off:=0) (List.mem_cons_self ..) J;have pt:=cn.K9 (off:=0) (List.mem_cons_self ..);unfold FW.f at H;obtain⟨vx,H⟩:=aA H;unfold Qn at vx;split at vx
 ·have h1:tG= .nilIface:=h1;subst h1;have hr:r=none:=(Option.some.inj H).symm;subst hr;exact(LM _ w).mono λe w' ⟨he,hw⟩=>⟨(),he,by subst hw;exact ow⟩
 ·rename_i u m _;unfold Er.DE at H;obtain⟨hu,H⟩:=aA H;subst hu;have h1:tG= .iface 148 (.int .i64 m):=h1;subst h1;have hr:r=some m:=(Option.some.inj H).symm;subst hr;exact(YQ m ⟨b,0,none⟩ (.int .i64 a_) w hg lb pt).mono λe w' ⟨he,hw⟩=>⟨(),he,by subst hw;simpa using Hi cn⟩
 ·rename_i x0 m _;unfold Er.DE at H;obtain⟨hu,H⟩:=aA H;obtain⟨q,vo,T,hv,hm,ho⟩:=h1;subst hv;have ho:vo= .iface 148 (.int .i64 m):=ho;subst ho;have hr:r=some m:=(Option.some.inj H).symm;subst hr;have dW:=cn.cell (off:=1) (v:= .iface 148 (.int .i64 m)) (List.mem_cons_of_mem _ hm) J;exact(YT m ⟨b,0,none⟩ (.int .i64 a_) w q hg lb pt dW).mono λe w' ⟨he,hw⟩=>⟨(),he,by subst hw;simpa using Hi cn⟩
 ·cases vx
def Qo:Er->Bool
 | .nil=>true
 | .num _ _=>true
 | .wrap 301 [_] (.num 243 _)=>true
 |_=>false
def yF.f (e:Er):Option (Option Int):=if Qo e then Er.DE 243 e else none
theorem yF.c {el:Nat->Addr} {tG:Value} {b:Nat} {a_:Int} (e:Er) (r:Option Int) (F:Hp) (H:yF.f e=some r) (hG:fU 414 fh il el F) (h1:lU 414 el e tG F):
 gP Tryz.prog 94 [tG,.iface 244 (.pointer (some ⟨b,0,none⟩))] [[(b,Obj.cells #[.int .i64 a_] 243 (0,0))],F] (λ_:Unit=> .bool r.isSome) (λ_=>[[(b,Obj.cells #[.int .i64 (r.getD a_)] 243 (0,0))],F]):=by
 intro W w ow;have cn:bl W w ((b,Obj.cells #[.int .i64 a_] 243 (0,0))::F):=by simpa using ow
 obtain⟨TG,RW,Gn⟩:=hG.2.2.2 _ (List.mem_singleton.2 J);have hg:=cn.cell (off:=0) (List.mem_cons_of_mem _ Gn) J;have lb:=cn.cell (off:=0) (List.mem_cons_self ..) J;have pt:=cn.K9 (off:=0) (List.mem_cons_self ..);unfold yF.f at H;obtain⟨vx,H⟩:=aA H;unfold Qo at vx;split at vx
 ·have h1:tG= .nilIface:=h1;subst h1;have hr:r=none:=(Option.some.inj H).symm;subst hr;exact(LM _ w).mono λe w' ⟨he,hw⟩=>⟨(),he,by subst hw;exact ow⟩
 ·rename_i u m _;unfold Er.DE at H;obtain⟨hu,H⟩:=aA H;subst hu;have h1:tG= .iface 243 (.int .i64 m):=h1;subst h1;have hr:r=some m:=(Option.some.inj H).symm;subst hr;exact(YR m ⟨b,0,none⟩ (.int .i64 a_) w hg lb pt).mono λe w' ⟨he,hw⟩=>⟨(),he,by subst hw;simpa using Hi cn⟩
 ·rename_i x0 m _;unfold Er.DE at H;obtain⟨hu,H⟩:=aA H;obtain⟨q,vo,T,hv,hm,ho⟩:=h1;subst hv;have ho:vo= .iface 243 (.int .i64 m):=ho;subst ho;have hr:r=some m:=(Option.some.inj H).symm;subst hr;have dW:=cn.cell (off:=1) (v:= .iface 243 (.int .i64 m)) (List.mem_cons_of_mem _ hm) J;exact(YU m ⟨b,0,none⟩ (.int .i64 a_) w q hg lb pt dW).mono λe w' ⟨he,hw⟩=>⟨(),he,by subst hw;simpa using Hi cn⟩
 ·cases vx
end
end Go.Proofs.YthodkonhneebbaaGreatDoor
