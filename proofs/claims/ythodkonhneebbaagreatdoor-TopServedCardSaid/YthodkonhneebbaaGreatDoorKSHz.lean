/- The logic of this claim, the last rules: calls by places, and more. -/
import Derived.KernelRfl
import Derived.Test.YthodkonhneebbaaGreatDoorKSHy
namespace Go.Hx
set_option autoImplicit true
set_option relaxedAutoImplicit true
set_option linter.unusedVariables false
set_option linter.unusedSimpArgs false
set_option linter.unusedSectionVars false
section
variable {W : World}
variable {P : Program}
def cG:Option Hp->List Hp->List Hp
 |some A,r=>A::r
 |none,r=>[]::r
def sA:List Nat->List Hp->List Hp
 |[],_=>[]
 |j::js,HL=>cG (idx j HL) (sA js (HL.eraseIdx j))
def sR:List Nat->List Hp->List Hp
 |[],HL=>HL
 |j::js,HL=>sR js (HL.eraseIdx j)
theorem Bx: ∀(js:List Nat) (HL:List Hp),qM js HL=(sA js HL,sR js HL)
 |[],_=>rfl
 |j::js,HL=>by
  unfold qM sA sR;rw[Bx js (HL.eraseIdx j)]
  cases idx j HL<;>rfl
def upto:Nat->Nat->List Nat
 |_,0=>[]
 |i,m+1=>i::upto (i+1) m
theorem Xs: ∀(m i:Nat),upto i m=List.range' i m
 |0,i=>by simp[upto]
 |m+1,i=>by rw[upto,Xs m (i+1),List.range'_succ]
section
variable {n : Nat} {Q : Exit -> Act -> World -> Prop} {env : Env} {H : Hp} {K : Act -> World -> Prop} {ops : Array Oper} {i : Nat} {o : Oper} {HL : List Hp}
theorem Zq {id:Nat} (m:Nat) (hl:Nat.beq ops.size m=true) (h:aJ W n (wpOps P ops Q (upto 0 m)) env HL):aJ W n ((Code.region id ops false).wp P Q) env HL:=
 at_region _ (by rw[Xs,Nat.eq_of_beq_eq_true hl,List.range_eq_range']) h
theorem QF {d:Nat} {c:Operand} {args:Array Operand} {types:Array TypeId} {f:FuncId} {first captured:Array Value} {vs as:List Value} {v:Value}
 (js:List Nat) (hs:slot n ops env i=some (o,d)) (aQ:o.op= .call ⟨.value c,args,types⟩) (hc:ev env c=some (.func (.func f) first captured)) (ha:args.toList.mapM (ev env)=some vs) (hf:Has P f)
 (has:first.toList++(vs++captured.toList)=as) (nY:gY P f as (sA js HL++[(sR js HL).flatten]) (λ_:Unit=>v) (λ_=>sA js HL++[(sR js HL).flatten]))
 (h:aJ W n K ((d,v)::env) HL):aJ W n (wpOp P ops Q i K) env HL:=by
 refine tI (B:=λ_=>sA js HL) js hs aQ hc ha hf has (Bx js HL) nY (λ_=>py (λw o=>?_) h);have:=HY js HL;rw[Bx] at this;rw[List.flatten_append] at o;exact o.perm (List.perm_append_comm.trans this.symm)
theorem Ja {d:Nat} {c:Operand} {args:Array Operand} {types:Array TypeId} {f:FuncId} {first captured:Array Value} {vs as:List Value} {v:Value} {As R:List Hp}
 (js:List Nat) (hs:slot n ops env i=some (o,d)) (aQ:o.op= .call ⟨.value c,args,types⟩) (hc:ev env c=some (.func (.func f) first captured)) (ha:args.toList.mapM (ev env)=some vs) (hf:Has P f)
 (has:first.toList++(vs++captured.toList)=as) (wB:qM js HL=(As,R)) (nY:gY P f as (As++[R.flatten]) (λ_:Unit=>v) (λ_=>As++[R.flatten]))
 (h:aJ W n K ((d,v)::env) HL):aJ W n (wpOp P ops Q i K) env HL:=
 QF js hs aQ hc ha hf has (by rw[Bx] at wB;obtain⟨rfl,rfl⟩:=Prod.mk.inj wB;exact nY) h
theorem Y_ {d:Nat} {c:Operand} {args:Array Operand} {types:Array TypeId} {f:FuncId} {first captured:Array Value} {vs as:List Value} (Rp:Value->List Hp->Prop) (kp:List Nat)
 (js:List Nat) (hs:slot n ops env i=some (o,d)) (aQ:o.op= .call ⟨.value c,args,types⟩) (hc:ev env c=some (.func (.func f) first captured)) (ha:args.toList.mapM (ev env)=some vs) (hf:Has P f)
 (has:first.toList++(vs++captured.toList)=as)
 (nY:gY P f as (sA js HL++[(sR js HL).flatten]) (λp:{p:Value×List Hp // Rp p.1 p.2}=>p.1.1) (λp=>(p.1.2++sA kp HL)++[(sR js HL).flatten]))
 (h: ∀u G,Rp u G->aJ W n K ((d,u)::env) (sR js HL++(G++sA kp HL))):aJ W n (wpOp P ops Q i K) env HL:=
 FP Rp _ js hs aQ hc ha hf has (Bx js HL) nY h
theorem xz {d:Nat} {c:Operand} {args:Array Operand} {types:Array TypeId} {f:FuncId} {first captured:Array Value} {vs as:List Value} {v:Value} {l:List Oper} {F:Act->Prop}
 (js:List Nat) (hw:want ops env o=some true) (hd:o.dst=some d) (hn:Nat.blt d n=true) (aQ:o.op= .call ⟨.value c,args,types⟩) (hc:ev env c=some (.func (.func f) first captured)) (ha:args.toList.mapM (ev env)=some vs) (hf:Has P f)
 (has:first.toList++(vs++captured.toList)=as) (nY:gY P f as (sA js HL++[(sR js HL).flatten]) (λ_:Unit=>v) (λ_=>sA js HL++[(sR js HL).flatten]))
 (h:iI W P n ops HL.flatten l F ((d,v)::env)):iI W P n ops HL.flatten (o::l) F env:=
 ZM js hw hd hn aQ hc ha hf has (Bx js HL) nY h
end
end
section
variable {W : World}
variable {P : Program}
inductive Fr where
 |Fa (c:Code)
 |D5 (id:Nat)
 |mid (M:Act->World->Prop)
def den (P:Program) (Q0:Exit->Act->World->Prop):List Fr->Exit->Act->World->Prop
 |[]=>Q0
 | .Fa y::K=>Exit.then (y.wp P (den P Q0 K)) (den P Q0 K)
 | .D5 id::K=>Exit.inBlock id (den P Q0 K)
 | .mid M::K=>Exit.then M (den P Q0 K)
inductive Sx where
 |AZ (c:Code) (K:List Fr) (env:Env)
 |Bm (o:Array Oper) (l:List Nat) (K:List Fr) (env:Env)
 |out (e:Exit) (K:List Fr) (env:Env)
def Sx.goal (W:World) (P:Program) (n:Nat) (Q0:Exit->Act->World->Prop) (HL:List Hp):Sx->Prop
 | .AZ c K env=>aJ W n (c.wp P (den P Q0 K)) env HL
 | .Bm ops l K env=>aJ W n (wpOps P ops (den P Q0 K) l) env HL
 | .out e K env=>aJ W n (den P Q0 K e) env HL
def PN:Code->List Fr->Env->Option Sx
 | .skip,K,env=>some (.out .normal K env)
 | .seq a b,K,env=>some (.AZ a (.Fa b::K) env)
 | .block id a,K,env=>some (.AZ a (.D5 id::K) env)
 | .exit id,K,env=>some (.out (.exit id) K env)
 | .ret,K,env=>some (.out .ret K env)
 | .region _ ops false,K,env=>some (.Bm ops (upto 0 ops.size) K env)
 |_,_,_=>none
def PO:Exit->List Fr->Env->Option Sx
 | .normal,.Fa c::K,env=>some (.AZ c K env)
 | .normal,.D5 _::K,env=>some (.out .normal K env)
 | .exit i,.Fa _::K,env=>some (.out (.exit i) K env)
 | .exit i,.mid _::K,env=>some (.out (.exit i) K env)
 | .exit i,.D5 j::K,env=>bif Nat.beq i j then some (.out .normal K env) else some (.out (.exit i) K env)
 | .ret,_::K,env=>some (.out .ret K env)
 |_,_,_=>none
def Lj (T:Ty P) (n:Nat):Sx->Option Sx
 | .AZ c K env=>PN c K env
 | .Bm _ [] K env=>some (.out .normal K env)
 | .Bm ops (i::l) K env=>match Am T n ops env i with
  |some e=>some (.Bm ops l K (e::env))
  |none=>none
 | .out e K env=>PO e K env
def EP (T:Ty P) (n:Nat):Nat->Sx->Sx
 |0,s=>s
 |k+1,s=>match Lj T n s with
  |some s'=>EP T n k s'
  |none=>s
section
variable {n : Nat} {Q0 : Exit -> Act -> World -> Prop} {env : Env} {HL : List Hp}
theorem aio {c:Code} {K:List Fr} {s:Sx} (h:PN c K env=some s) (g:s.goal W P n Q0 HL):aJ W n (c.wp P (den P Q0 K)) env HL:=by
 unfold PN at h;split at h<;>first |(cases h;done) |skip
 all_goals (simp only[Option.some.injEq] at h;subst h)
 ·exact Zv g
 ·exact QO g
 ·exact Y8 g
 ·exact Ze g
 ·exact at_ret g
 ·exact Zq _ (by simp) g
theorem aiq {e:Exit} {K:List Fr} {s:Sx} (h:PO e K env=some s) (g:s.goal W P n Q0 HL):aJ W n (den P Q0 K e) env HL:=by
 unfold PO at h;split at h
 ·simp only[Option.some.injEq] at h;subst h;exact ZB g
 ·simp only[Option.some.injEq] at h;subst h;exact Zo g
 ·simp only[Option.some.injEq] at h;subst h;exact QQ g
 ·simp only[Option.some.injEq] at h;subst h;exact QQ g
 ·rename_i i j K
  cases hb:Nat.beq i j with
  |true=>simp only[hb,cond_true,Option.some.injEq] at h;subst h;rw[Nat.eq_of_beq_eq_true hb];exact ZD g
  |false=>simp only[hb,cond_false,Option.some.injEq] at h;subst h;exact ZE hb g
 ·rename_i f K;simp only[Option.some.injEq] at h;subst h
  cases f with
  |Fa y=>exact QN g
  |D5 id=>exact Zp g
  |mid M=>exact QN g
 ·cases h
theorem aip {T:Ty P} {s s':Sx} (h:Lj T n s=some s') (g:s'.goal W P n Q0 HL):s.goal W P n Q0 HL:=by
 cases s with
 |AZ c K env=>exact aio h g
 |out e K env=>exact aiq h g
 |Bm ops l K env=>
  cases l with
  |nil=>simp only[Lj,Option.some.injEq] at h;subst h;exact at_end g
  |cons i l=>
   simp only[Lj] at h;split at h
   ·rename_i e he;simp only[Option.some.injEq] at h;subst h;exact Zt T he g
   ·cases h
theorem K6 (T:Ty P): ∀(k:Nat) (s:Sx),(EP T n k s).goal W P n Q0 HL->s.goal W P n Q0 HL
 |0,_,h=>h
 |k+1,s,h=>by
  unfold EP at h;split at h
  ·rename_i s' hs;exact aip hs (K6 T k s' h)
  ·exact h
theorem rc (T:Ty P) {c:Code} {K:List Fr} (k:Nat) (h:(EP T n k (.AZ c K env)).goal W P n Q0 HL):aJ W n (c.wp P (den P Q0 K)) env HL:=K6 T k (.AZ c K env) h
theorem ro (T:Ty P) {ops:Array Oper} {l:List Nat} {K:List Fr} (k:Nat) (h:(EP T n k (.Bm ops l K env)).goal W P n Q0 HL):aJ W n (wpOps P ops (den P Q0 K) l) env HL:=K6 T k (.Bm ops l K env) h
theorem rx (T:Ty P) {e:Exit} {K:List Fr} (k:Nat) (h:(EP T n k (.out e K env)).goal W P n Q0 HL):aJ W n (den P Q0 K e) env HL:=K6 T k (.out e K env) h
end
theorem U6: ∀(l:List Value) (m k:Nat) (v:Value),lk k ((l.zipIdx m).map λx=>(x.2,x.1))=some v->m<=k
 |[],_,_,_,h=>by simp[lk] at h
 |a::l,m,k,v,h=>by
  simp only[List.zipIdx_cons,List.map_cons,lk] at h
  by_cases hk:k=m
  ·omega
  ·rw[xB hk] at h;have:=U6 l (m+1) k v (by simpa using h)
   omega
theorem Xf: ∀(l:List Value) (m:Nat) (env:Env),(∀k v,lk k ((l.zipIdx m).map λx=>(x.2,x.1))=some v->lk k env=some v)->sub ((l.zipIdx m).map λx=>(x.2,x.1)) env
 |[],_,_,_=>trivial
 |a::l,m,env,h=>by
  simp only[List.zipIdx_cons,List.map_cons];refine⟨h m a (by simp[lk]),Xf l (m+1) env λk v hk=>h k v ?_⟩
  have:=U6 l (m+1) k v hk;simp only[List.zipIdx_cons,List.map_cons,lk];rw[xB (show ¬k=m by omega)]
  simpa using hk
theorem aF {f:FuncId} {fn:Func} {c:Code} {args:List Value} {β:Type} {V:β->Value} {G:β->List Hp} {HL:List Hp}
 (hf:P.funcs[f]? =some fn) (hb:fn.body=some c) (hn:Nat.ble args.length fn.ntmps=true)
 (h: ∀W,aJ W fn.ntmps (c.wp P (den P (bodyPost P fn λe w'=> ∃b,e= .returned (V b)/\bn W w' (G b).flatten) [])) ((args.zipIdx.map λx=>(x.2,x.1))) HL):gY P f args HL V G:=
 aay _ hf hb hn (Xf args 0 _ λ_ _ h=>h) h
end
section
variable {W : World}
variable {P : Program}
def D7 (n:Nat) (ops:Array Oper) (env:Env) (i:Nat):Option (Nat×FuncId×List Value):=
 match slot n ops env i with
 |none=>none
 |some (o,d)=>match o.op with
  | .call ⟨.value c,args,_⟩=>match ev env c,args.toList.mapM (ev env) with
   |some (.func (.func f) first captured),some vs=>some (d,f,first.toList++(vs++captured.toList))
   |_,_=>none
  |_=>none
theorem Rj {n:Nat} {ops:Array Oper} {env:Env} {i d:Nat} {f:FuncId} {vl:List Value} (h:D7 n ops env i=some (d,f,vl)):
 ∃o c args types first captured vs,slot n ops env i=some (o,d)/\o.op= .call ⟨.value c,args,types⟩/\ev env c=some (.func (.func f) first captured)/\args.toList.mapM (ev env)=some vs/\first.toList++(vs++captured.toList)=vl:=by
 unfold D7 at h;split at h
 ·cases h
 ·rename_i o d' ho;split at h
  ·rename_i c args types aQ;split at h
   ·rename_i f' first captured vs hc ha
    simp only[Option.some.injEq,Prod.mk.injEq] at h;obtain⟨rfl,rfl,rfl⟩:=h;exact⟨o,c,args,types,first,captured,vs,ho,aQ,hc,ha,rfl⟩
   ·cases h
  ·cases h
section
variable {n : Nat} {Q : Exit -> Act -> World -> Prop} {env : Env} {H : Hp} {K : Act -> World -> Prop} {ops : Array Oper} {i : Nat} {HL : List Hp} {rest : List Nat}
variable {α β : Type} {x : Option α} {g : α -> Option β} {z : β} {d : Nat} {f : FuncId} {vl : List Value}
theorem kh {V:α->Value} (js:List Nat) (hv:D7 n ops env i=some (d,f,vl)) (hf:Has P f) (e:x.bind g=some z)
 (hc: ∀{v},x=some v->gY P f vl (sA js HL++[(sR js HL).flatten]) (λ_:Unit=>V v) (λ_=>sA js HL++[(sR js HL).flatten]))
 (h: ∀v,g v=some z->aJ W n K ((d,V v)::env) HL):aJ W n (wpOp P ops Q i K) env HL:=by
 obtain⟨v,e1,e2⟩:=gx e;obtain⟨o,c,args,types,first,captured,vs,h1,h2,h3,h4,h5⟩:=Rj hv
 exact QF js h1 h2 h3 h4 hf h5 (hc e1) (h v e2)
theorem kR (Rp:α->Value->List Hp->Prop) (kp js:List Nat) (hv:D7 n ops env i=some (d,f,vl)) (hf:Has P f) (e:x.bind g=some z)
 (hc: ∀{v},x=some v->gY P f vl (sA js HL++[(sR js HL).flatten]) (λp:{p:Value×List Hp // Rp v p.1 p.2}=>p.1.1) (λp=>(p.1.2++sA kp HL)++[(sR js HL).flatten]))
 (h: ∀v,g v=some z-> ∀u G,Rp v u G->aJ W n K ((d,u)::env) (sR js HL++(G++sA kp HL))):aJ W n (wpOp P ops Q i K) env HL:=by
 obtain⟨v,e1,e2⟩:=gx e;obtain⟨o,c,args,types,first,captured,vs,h1,h2,h3,h4,h5⟩:=Rj hv
 exact Y_ (Rp v) kp js h1 h2 h3 h4 hf h5 (hc e1) (h v e2)
theorem k {V:α->Value} (js:List Nat) (hv:D7 n ops env i=some (d,f,vl)) (hf:Has P f) (e:x.bind g=some z)
 (hc: ∀{v},x=some v->gY P f vl (sA js HL++[(sR js HL).flatten]) (λ_:Unit=>V v) (λ_=>sA js HL++[(sR js HL).flatten]))
 (h: ∀v,g v=some z->aJ W n (wpOps P ops Q rest) ((d,V v)::env) HL):aJ W n (wpOps P ops Q (i::rest)) env HL:=aV (kh js hv hf e hc h)
theorem kr (Rp:α->Value->List Hp->Prop) (kp js:List Nat) (hv:D7 n ops env i=some (d,f,vl)) (hf:Has P f) (e:x.bind g=some z)
 (hc: ∀{v},x=some v->gY P f vl (sA js HL++[(sR js HL).flatten]) (λp:{p:Value×List Hp // Rp v p.1 p.2}=>p.1.1) (λp=>(p.1.2++sA kp HL)++[(sR js HL).flatten]))
 (h: ∀v,g v=some z-> ∀u G,Rp v u G->aJ W n (wpOps P ops Q rest) ((d,u)::env) (sR js HL++(G++sA kp HL))):aJ W n (wpOps P ops Q (i::rest)) env HL:=aV (kR Rp kp js hv hf e hc h)
end
section
variable {n : Nat} {Q : Exit -> Act -> World -> Prop} {env : Env} {H : Hp} {c : Operand} {a b : Code} {β : Type} {X Y : Option β} {z : β} {F : Act -> World -> Prop}
theorem cd {p:Prop} {i1 i2:Decidable p} (hc:ev env c=some (.bool (@decide p i1))) (e: @ite _ p i2 X Y=some z) (ht:X=some z->At W n (a.wp P Q) env H) (hf:Y=some z->At W n (b.wp P Q) env H):At W n ((Code.cond c a b).wp P Q) env H:=
 B9 hc (λh=>ht ((@if_pos p i2 (@of_decide_eq_true p i1 h) _ X Y).symm.trans e)) (λh=>hf ((@if_neg p i2 (@of_decide_eq_false p i1 h) _ X Y).symm.trans e))
theorem cb {p:Bool} (hc:ev env c=some (.bool p)) (e:(if p=true then X else Y)=some z) (ht:X=some z->At W n (a.wp P Q) env H) (hf:Y=some z->At W n (b.wp P Q) env H):At W n ((Code.cond c a b).wp P Q) env H:=
 B9 hc (λh=>ht (by rwa[if_pos h] at e)) (λh=>hf (by rwa[if_neg (by simp[h])] at e))
theorem ad {p:Prop} {i1 i2:Decidable p} (s:Nat) (hs:lk s env=some (.bool (@decide p i1))) (e: @ite _ p i2 X Y=some z) (ht:X=some z->At W n F ((s,.bool true)::env) H) (hf:Y=some z->At W n F ((s,.bool false)::env) H):At W n F env H:=
 Ma hs (λh=>ht ((@if_pos p i2 (@of_decide_eq_true p i1 h) _ X Y).symm.trans e)) (λh=>hf ((@if_neg p i2 (@of_decide_eq_false p i1 h) _ X Y).symm.trans e))
theorem ab {p:Bool} (s:Nat) (hs:lk s env=some (.bool p)) (e:(if p=true then X else Y)=some z) (ht:X=some z->At W n F ((s,.bool true)::env) H) (hf:Y=some z->At W n F ((s,.bool false)::env) H):At W n F env H:=
 Ma hs (λh=>ht (by rwa[if_pos h] at e)) (λh=>hf (by rwa[if_neg (by simp[h])] at e))
theorem qd {ops:Array Oper} {l:List Oper} {F:Act->Prop} {p:Prop} {i1 i2:Decidable p} (s:Nat) (hs:lk s env=some (.bool (@decide p i1))) (e: @ite _ p i2 X Y=some z) (ht:X=some z->iI W P n ops H l F ((s,.bool true)::env)) (hf:Y=some z->iI W P n ops H l F ((s,.bool false)::env)):iI W P n ops H l F env:=
 QW hs (λh=>ht ((@if_pos p i2 (@of_decide_eq_true p i1 h) _ X Y).symm.trans e)) (λh=>hf ((@if_neg p i2 (@of_decide_eq_false p i1 h) _ X Y).symm.trans e))
theorem qb {ops:Array Oper} {l:List Oper} {F:Act->Prop} {p:Bool} (s:Nat) (hs:lk s env=some (.bool p)) (e:(if p=true then X else Y)=some z) (ht:X=some z->iI W P n ops H l F ((s,.bool true)::env)) (hf:Y=some z->iI W P n ops H l F ((s,.bool false)::env)):iI W P n ops H l F env:=
 QW hs (λh=>ht (by rwa[if_pos h] at e)) (λh=>hf (by rwa[if_neg (by simp[h])] at e))
end
section
variable {T : Ty P} {n : Nat} {Q : Exit -> Act -> World -> Prop} {env : Env} {HL : List Hp} {ops : Array Oper} {i : Nat} {rest : List Nat} {K : Act -> World -> Prop}
def CQ (T:Ty P) (n:Nat) (ops:Array Oper) (env:Env) (i:Nat):Option (Nat×Nat×Nat):=
 match slot n ops env i with
 |none=>none
 |some (o,d)=>match o.op with
  | .load t x=>match ev env x,T.bX t with
   |some (.pointer (some ⟨b,off,none⟩)),some td=>bif nR td then none else some (d,b,off)
   |_,_=>none
  |_=>none
theorem OE {d b off:Nat} (h:CQ T n ops env i=some (d,b,off)): ∃o t x td,slot n ops env i=some (o,d)/\o.op= .load t x/\ev env x=some (.pointer (some ⟨b,off,none⟩))/\T.bX t=some td/\nR td=false:=by
 unfold CQ at h;split at h
 ·cases h
 ·rename_i o d' ho;split at h
  ·rename_i t x aQ;split at h
   ·rename_i b' C7 td hx hu
    cases ha:nR td with
    |true=>rw[ha] at h;cases h
    |false=>
     rw[ha] at h;simp only[cond_false,Option.some.injEq,Prod.mk.injEq] at h;obtain⟨rfl,rfl,rfl⟩:=h;exact⟨o,t,x,td,ho,aQ,hx,hu,ha⟩
   ·cases h
  ·cases h
theorem ld (T:Ty P) {d b off:Nat} {arr:Array Value} {E:TypeId} {fr:Nat×Nat} {Hr:Hp} {v:Value} (j:Nat) (h1:CQ T n ops env i=some (d,b,off)) (hj:idx j HL=some ((b,.cells arr E fr)::Hr)) (hv:idx off arr.toList=some v)
 (h:aJ W n (wpOps P ops Q rest) ((d,v)::env) HL):aJ W n (wpOps P ops Q (i::rest)) env HL:=
 let⟨_,_,_,_,h2,h3,h4,h5,h6⟩:=OE h1
 bA h2 (cw T h3 h4 h5 h6 (Ox (j:=j) hj hv)) h
theorem lg (T:Ty P) {d b off:Nat} {v:Value} (h1:CQ T n ops env i=some (d,b,off)) (hm: ∃arr E fr,(b,Obj.cells arr E fr)∈HL.flatten/\arr[off]? =some v)
 (h:aJ W n (wpOps P ops Q rest) ((d,v)::env) HL):aJ W n (wpOps P ops Q (i::rest)) env HL:=
 let⟨_,_,_,_,h2,h3,h4,h5,h6⟩:=OE h1
 bA h2 (cw T h3 h4 h5 h6 hm) h
theorem pb (T:Ty P) {fn:Func} {β:Type} {V:β->Value} {G:β->List Hp} {rs:List ResultVar} {vs:List Value} (hf:fn.results.toList=rs) (hr:nP T env HL.flatten rs vs) (js:List Nat) (b:β) (hv:Ac vs=V b) (hg:pick js HL=G b):
 aJ W n (bodyPost P fn (λe w'=> ∃b,e= .returned (V b)/\bn W w' (G b).flatten) .ret) env HL:=
 FU hf hr (λw o=>⟨b,by rw[hv],Db js hg o⟩)
end
section
variable {n : Nat} {Q0 : Exit -> Act -> World -> Prop} {env : Env} {HL : List Hp}
theorem bH {K:List Fr} (h:PF Q0):PF (den P Q0 K):=by
 induction K with
 |nil=>exact h
 |cons f K ih=>cases f with
  |Fa y=>exact VL ih
  |D5 id=>exact agA ih
  |mid M=>exact VL ih
end
section
variable {n : Nat} {Q : Exit -> Act -> World -> Prop} {env : Env} {ops : Array Oper} {HL : List Hp} {late : List Nat} {A : List (List Nat)} {H0 : List Hp}
def Qv (ops:Array Oper):Nat->List (List Nat)->List (List Nat)
 |0,r=>r
 |k+1,r=>
  let es:=match ops[r.length]? with
   |none=>[]
   |some o=>(o.after.toList.filter λ(e:Edge)=>Region.binds .any e).map λ(e:Edge)=>e.on
  Qv ops k (r++[(es++(es.map λe=>r.getD e []).flatten).eraseDups])
def DX (ops:Array Oper):List (List Nat):=Qv ops ops.size []
def takes (ops:Array Oper) (A:List (List Nat)) (late:List Nat):Array Bool->List Nat->Bool
 |_,[]=>true
 |l,i::r=>BH ops A late l i&&takes ops A late (l.setIfInBounds i true) r
theorem Ui (T:Ty P): ∀(l:List Nat) {env fF:Env} {fuel:Nat} {listed:Array Bool} (hg:oS ops A=true) (jK:PF Q) (hb:takes ops A late listed l=true) (hS: ∀listed,px W late listed HL H0) (hr:rI T n ops l env=some fF)
 (h:aJ W n (gI P ops Q (SO W H0) late fuel (l.foldl (λa i=>a.setIfInBounds i true) listed)) fF HL),aJ W n (gI P ops Q (SO W H0) late (fuel+l.length) listed) env HL
 |[],_,_,_,_,_,_,_,_,hr,h=>by simp only[rI,Option.some.injEq] at hr;subst hr;exact h
 |i::r,env,fF,fuel,listed,hg,jK,hb,hS,hr,h=>by
  simp only[takes,Bool.and_eq_true] at hb;simp only[rI] at hr;split at hr
  ·rename_i e he;exact QV T i hg jK hb.1 (hS listed) he (Ui T r hg jK hb.2 hS hr h)
  ·cases hr
theorem hs (T:Ty P) (fu:Nat) (l:List Nat) {env fF:Env} {m:Nat} {listed:Array Bool} (hm:m=fu+l.length) (hg:oS ops A=true) (jK:PF Q) (hb:takes ops A late listed l=true) (hS: ∀listed,px W late listed HL H0) (hr:rI T n ops l env=some fF)
 (h:aJ W n (gI P ops Q (SO W H0) late fu (l.foldl (λa i=>a.setIfInBounds i true) listed)) fF HL):aJ W n (gI P ops Q (SO W H0) late m listed) env HL:=by
 subst hm;exact Ui T l hg jK hb hS hr h
end
section
variable {n : Nat} {Q : Exit -> Act -> World -> Prop} {env : Env} {HL : List Hp} {ops : Array Oper} {i d : Nat} {K : Act -> World -> Prop}
def W4 (n:Nat) (ops:Array Oper) (env:Env) (i:Nat):Option Nat:=
 match ops[i]? with
 |none=>none
 |some o=>match want ops env o,o.dst with
  |some false,some d=>bif Nat.blt d n then some d else none
  |_,_=>none
theorem ZC (h1:W4 n ops env i=some d) (h:aJ W n K ((d,undef)::env) HL):aJ W n (wpOp P ops Q i K) env HL:=by
 unfold W4 at h1;split at h1
 ·cases h1
 ·rename_i o ho;split at h1
  ·rename_i d' hw hd
   cases hb:Nat.blt d' n with
   |false=>simp[hb] at h1
   |true=>
    simp only[hb,cond_true,Option.some.injEq] at h1;subst h1;exact Me ho hw hd (by simpa using hb) h
  ·cases h1
end
end
section
variable {W : World} {P : Program}
theorem Jl {f:FuncId} {as:List Value} {A As:List Hp} {R:Hp} {v:Value} (e:A.flatten=As.flatten) (c:gY P f as (A++[R]) (λ_:Unit=>v) (λ_=>A++[R])):
 gY P f as (As++[R]) (λ_:Unit=>v) (λ_=>As++[R]):=
 aaz (by rw[List.flatten_append,List.flatten_append,e]) c
theorem Jm {f:FuncId} {as:List Value} {A As A2 Qd:List Hp} {R:Hp} {β:Type} {V:β->Value} {g:β->List Hp} (e:A.flatten=As.flatten) (e2:A2.flatten=Qd.flatten)
 (c:gY P f as (A++[R]) V (λb=>(g b++A2)++[R])):gY P f as (As++[R]) V (λb=>(g b++Qd)++[R]):=
 aaA (by rw[List.flatten_append,List.flatten_append,e]) (λb=>by rw[List.flatten_append,List.flatten_append,List.flatten_append,List.flatten_append,e2]) c
end
section
variable {W : World} {P : Program}
def nE:List Nat->Env->Option Env
 |[],_=>some []
 |k::ks,env=>match lk k env,nE ks env with
  |some v,some r=>some ((k,v)::r)
  |_,_=>none
theorem wF: ∀{ks:List Nat} {env E:Env},nE ks env=some E->sub E env
 |[],_,_,h=>by simp only[nE,Option.some.injEq] at h;subst h;trivial
 |k::ks,env,E,h=>by
  unfold nE at h;split at h
  ·rename_i v r hv hr;simp only[Option.some.injEq] at h;subst h;exact⟨hv,wF hr⟩
  ·cases h
def nH:List Nat->List Hp->Option (List Hp)
 |[],_=>some []
 |j::js,HL=>match idx j HL,nH js (HL.eraseIdx j) with
  |some A,some r=>some (A::r)
  |_,_=>none
theorem Hz: ∀{js:List Nat} {HL G:List Hp},nH js HL=some G->pick js HL=G
 |[],_,_,h=>by simp only[nH,Option.some.injEq] at h;subst h;rfl
 |j::js,HL,G,h=>by
  unfold nH at h;split at h
  ·rename_i A r hA hr;simp only[Option.some.injEq] at h;subst h;simp only[pick,hA,Hz hr]
  ·cases h
def gE:Env->Env->Option (List Value)
 |[],_=>some []
 |e::r,env=>match lk e.1 env,gE r env with
  |some v,some l=>some (v::l)
  |_,_=>none
theorem Jx: ∀{E env:Env},gE E env=some (E.map (·.2))->sub E env
 |[],_,_=>trivial
 |e::r,env,h=>by
  unfold gE at h;split at h
  ·rename_i v l hv hl;simp only[List.map_cons,Option.some.injEq,List.cons.injEq] at h;refine⟨by rw[hv,h.1],Jx (by rw[hl,h.2])⟩
  ·cases h
theorem BE: ∀{A B env:Env},sub A env->sub B env->sub (A++B) env
 |[],_,_,_,h=>h
 |_::_,_,_,h1,h2=>⟨h1.1,BE h1.2 h2⟩
theorem oi {α:Type} {a b:α} (h:some a=some b):a=b:=Option.some.inj h
section
variable {n : Nat} {Q0 : Exit -> Act -> World -> Prop} {env E : Env} {HL G : List Hp} {F : Act -> World -> Prop}
theorem ke (ks js:List Nat) (h1:nE ks env=some E) (h2:nH js HL=some G) (h:aJ W n F E G):aJ W n F env HL:=Mg E js G (wF h1) (Hz h2) h
theorem ks {H:Hp} (ks:List Nat) (h1:nE ks env=some E) (h:At W n F E H):At W n F env H:=ZA E (wF h1) h
theorem kf (ks js:List Nat) (Ec:Env) (hE:nE ks env=some E) (hG:nH js HL=some G) (hc:sub Ec env) (h:aJ W n F (E++Ec) G):aJ W n F env HL:=Mg _ js G (BE (wF hE) hc) (Hz hG) h
theorem kg (ks js UK:List Nat) (Ec:Env) (Gc:List Hp) (hE:nE ks env=some E) (hG:nH js HL=some G) (hc:sub Ec env) (hh:pick UK HL=G++Gc) (h:aJ W n F (E++Ec) (G++Gc)):aJ W n F env HL:=Mg _ UK _ (BE (wF hE) hc) hh h
theorem am {σ:Type} {I:σ->Prop} {E:σ->Env} {G:σ->List Hp} (s:σ) (js:List Nat) (hi:I s) (hs:gE (E s) env=some ((E s).map (·.2))) (hh:pick js HL=G s):aJ W n (DS W n I E G) env HL:=
 Zl s js hi (Jx hs) hh
theorem ar {τ:Type} {I:Nat×τ->Prop} {E:Nat×τ->Env} {G:Nat×τ->List Hp} {k:Nat} {t:τ} (t':τ) (js:List Nat) (hi:I (k,t')) (hs:gE (E (k,t')) env=some ((E (k,t')).map (·.2))) (hh:pick js HL=G (k,t')):
 aJ W n (Round W n I E (λs=>(G s).flatten) (λs=>s.1) (k+1,t)) env HL:=
 Zs (k,t') js hi (Nat.lt_succ_self k) (Jx hs) hh
theorem lq {c:Code} {K:List Fr} {τ:Type} (ks js:List Nat) (f:Nat×τ->Prop×Env×List Hp) (hE:nE ks env=some E) (hG:nH js HL=some G) (s0:Nat×τ) (UJ:List Nat) (hi:(f s0).1)
 (hs:gE (f s0).2.1 env=some ((f s0).2.1.map (·.2))) (hh:pick UJ HL=G++(f s0).2.2)
 (round: ∀k t,(f (k+1,t)).1->aJ W n (c.wp P (den P Q0 (.mid (Round W n (λs=>(f s).1) (λs=>E++(f s).2.1) (λs=>(G++(f s).2.2).flatten) (λs=>s.1) (k+1,t))::K))) (E++(f (k+1,t)).2.1) (G++(f (k+1,t)).2.2))
 (hz: ∀t,(f (0,t)).1->False:=by intro _ h;first |(cases h.1;done) |(cases h;done)):aJ W n ((Code.loop c).wp P (den P Q0 K)) env HL:=
 QH (λs=>(f s).1) (λs=>E++(f s).2.1) (λs=>G++(f s).2.2) (λs=>s.1) s0 UJ hi (BE (wF hE) (Jx hs)) hh (λ⟨k,t⟩ h=>by
  cases k with
  |zero=>exact(hz t h).elim
  |succ k=>exact round k t h)
theorem lu {c:Code} {K:List Fr} (ks js:List Nat) (hE:nE ks env=some E) (hG:nH js HL=some G)
 (round:aJ W n (c.wp P (den P Q0 (.mid (Round W n (λ_:Unit=>True) (λ_=>E) (λ_=>G.flatten) (λ_=>0) ())::K))) E G):aJ W n ((Code.loop c).wp P (den P Q0 K)) env HL:=
 QH (λ_:Unit=>True) (λ_=>E) (λ_=>G) (λ_=>0) () js trivial (wF hE) (Hz hG) (λ_ _=>round)
theorem mq {x y:Code} {K:List Fr} {σ β γ:Type} {X:Option β} {g:β->Option γ} {z:γ} (e:X.bind g=some z) (ks js:List Nat) (f:β->σ->Prop×Env×List Hp) (hE:nE ks env=some E) (hG:nH js HL=some G)
 (h1: ∀v,X=some v->g v=some z->aJ W n (x.wp P (den P Q0 (.mid (DS W n (λs=>(f v s).1) (λs=>E++(f v s).2.1) (λs=>G++(f v s).2.2))::K))) env HL)
 (h2: ∀v s,(f v s).1->g v=some z->aJ W n (y.wp P (den P Q0 K)) (E++(f v s).2.1) (G++(f v s).2.2)):aJ W n ((Code.seq x y).wp P (den P Q0 K)) env HL:=by
 obtain⟨v,e1,e2⟩:=gx e;exact Zu _ _ _ (h1 v e1 e2) (λs hs=>h2 v s hs e2)
theorem mn {x:Code} {K:List Fr} {σ β γ:Type} {X:Option β} {g:β->Option γ} {z:γ} (e:X.bind g=some z) (ks js:List Nat) (f:β->σ->Prop×Env×List Hp) (hE:nE ks env=some E) (hG:nH js HL=some G)
 (h1: ∀v,X=some v->g v=some z->aJ W n (x.wp P (den P Q0 (.mid (DS W n (λs=>(f v s).1) (λs=>E++(f v s).2.1) (λs=>G++(f v s).2.2))::K))) env HL)
 (h2: ∀v s,(f v s).1->g v=some z->aJ W n (den P Q0 K .normal) (E++(f v s).2.1) (G++(f v s).2.2)):aJ W n (x.wp P (den P Q0 K)) env HL:=by
 obtain⟨v,e1,e2⟩:=gx e;exact Y4 _ _ _ (h1 v e1 e2) (λs hs=>h2 v s hs e2)
end
end
section
variable {W : World} {P : Program}
def xc:Nat->List Value->List Value->List Value
 |_,[],cs=>cs
 |0,v::vs,_::cs=>v::xc 0 vs cs
 |k+1,vs,c::cs=>c::xc k vs cs
 |_,_,[]=>[]
theorem W8: ∀(vs cs:List Value),vs.length<=cs.length->xc 0 vs cs=vs++cs.drop vs.length
 |[],cs,_=>by cases cs<;>simp[xc]
 |v::vs,[],h=>by simp at h
 |v::vs,c::cs,h=>by simp only[xc,W8 vs cs (by simpa using h),List.length_cons,List.drop_succ_cons,List.cons_append]
theorem W9: ∀(k:Nat) (vs cs:List Value),k+vs.length<=cs.length->gn cs k vs=xc k vs cs
 |0,vs,cs,h=>by rw[W8 vs cs U];simp[gn]
 |k+1,vs,[],h=>by simp at h
 |k+1,[],c::cs,h=>by simp[gn,xc]
 |k+1,v::vs,c::cs,h=>by
  have:=W9 k (v::vs) cs (by simp at h⊢;omega)
  simp only[gn] at this⊢;simp only[xc,<-this,List.take_succ_cons,List.cons_append];rw[show k+1+(v::vs).length=(k+(v::vs).length)+1 from by omega,List.drop_succ_cons]
def Ie (T:Ty P) (ops:Array Oper) (env:Env) (i:Nat):Option (Nat×Nat×List Value):=
 match s_ ops env i with
 |none=>none
 |some o=>match o.op with
  | .store t x y=>match ev env x,ev env y,T.inf t with
   |some (.pointer (some ⟨b,off,none⟩)),some v,some (sz,_,_)=>bif Nat.beq (bO v).length sz&&(bO v).all Value.oneCell' then some (b,off,bO v) else none
   |_,_,_=>none
  |_=>none
section
variable {n : Nat} {Q : Exit -> Act -> World -> Prop} {env : Env} {HL : List Hp} {ops : Array Oper} {i : Nat} {rest : List Nat} {K : Act -> World -> Prop}
theorem aim {T:Ty P} {b off:Nat} {vs:List Value} (h:Ie T ops env i=some (b,off,vs)):
 ∃o t x y v sz by' z,s_ ops env i=some o/\o.op= .store t x y/\ev env x=some (.pointer (some ⟨b,off,none⟩))/\ev env y=some v/\T.inf t=some (sz,by',z)/\(bO v).length=sz/\(bO v).all Value.oneCell'=true/\bO v=vs:=by
 unfold Ie at h;split at h
 ·cases h
 ·rename_i o ho;split at h
  ·rename_i t x y aQ;split at h
   ·rename_i b' C7 v sz by' z hx hy hi
    cases hc:(Nat.beq (bO v).length sz&&(bO v).all Value.oneCell') with
    |false=>rw[hc] at h;cases h
    |true=>
     rw[hc] at h;simp only[cond_true,Option.some.injEq,Prod.mk.injEq] at h;obtain⟨rfl,rfl,rfl⟩:=h;simp only[Bool.and_eq_true] at hc;exact⟨o,t,x,y,v,sz,by',z,ho,aQ,hx,hy,hi,Nat.eq_of_beq_eq_true hc.1,hc.2,rfl⟩
   ·cases h
  ·cases h
theorem st (T:Ty P) {b off:Nat} {vs:List Value} {arr:Array Value} {E:TypeId} {Hr:Hp} (j:Nat) (h1:Ie T ops env i=some (b,off,vs)) (hj:idx j HL=some ((b,.cells arr E (0,0))::Hr)) (hb:Nat.ble (off+vs.length) arr.size=true)
 (h:aJ W n K env (HL.set j ((b,.cells (xc off vs arr.toList).toArray E (0,0))::Hr))):aJ W n (wpOp P ops Q i K) env HL:=by
 obtain⟨o,t,x,y,v,sz,by',z,a1,a2,a3,a4,a5,a6,a7,rfl⟩:=aim h1
 have kt:=Nat.le_of_ble_eq_true hb;exact Zw T j _ a1 a2 a3 a4 a5 hj (by rw[a6];simp) a7 (by rw[<-a6];exact hb) (W9 _ _ _ (by simpa using kt)) h
theorem sc (T:Ty P) {b off:Nat} {vs:List Value} {arr:Array Value} {E:TypeId} {Hr:Hp} (j:Nat) (h1:Ie T ops env i=some (b,off,vs)) (hj:idx j HL=some ((b,.cells arr E (0,0))::Hr)) (hb:Nat.ble (off+vs.length) arr.size=true)
 (h:aJ W n (wpOps P ops Q rest) env (HL.set j ((b,.cells (xc off vs arr.toList).toArray E (0,0))::Hr))):aJ W n (wpOps P ops Q (i::rest)) env HL:=aV (st T j h1 hj hb h)
def O0 (T:Ty P) (n:Nat) (ops:Array Oper) (env:Env) (i:Nat):Option (Nat×Nat×List Value):=
 match slot n ops env i with
 |none=>none
 |some (o,d)=>match o.op with
  | .alloc t=>match T.inf t with
   |some (_,_,z)=>some (d,t,bO z)
   |none=>none
  | .box t x=>match ev env x with
   |some v=>some (d,t,bO v)
   |none=>none
  |_=>none
theorem nw (T:Ty P) {d t:Nat} {cs:List Value} (h1:O0 T n ops env i=some (d,t,cs)) (h: ∀b,aJ W n K ((d,.pointer (some ⟨b,0,none⟩))::env) (HL++[[(b,Obj.cells cs.toArray t (0,0))]])):aJ W n (wpOp P ops Q i K) env HL:=by
 unfold O0 at h1;split at h1
 ·cases h1
 ·rename_i o d' hs;split at h1
  ·rename_i t' aQ;split at h1
   ·rename_i sz by' z hi
    simp only[Option.some.injEq,Prod.mk.injEq] at h1;obtain⟨rfl,rfl,rfl⟩:=h1;exact Y2 T _ hs aQ hi rfl h
   ·cases h1
  ·rename_i t' x aQ;split at h1
   ·rename_i v hx;simp only[Option.some.injEq,Prod.mk.injEq] at h1;obtain⟨rfl,rfl,rfl⟩:=h1;exact QE T _ hs aQ hx rfl h
   ·cases h1
  ·cases h1
theorem nc (T:Ty P) {d t:Nat} {cs:List Value} (h1:O0 T n ops env i=some (d,t,cs)) (h: ∀b,aJ W n (wpOps P ops Q rest) ((d,.pointer (some ⟨b,0,none⟩))::env) (HL++[[(b,Obj.cells cs.toArray t (0,0))]])):aJ W n (wpOps P ops Q (i::rest)) env HL:=aV (nw T h1 h)
def cut:Nat->Nat->List Value->List Value
 |_,0,_=>[]
 |0,k+1,c::cs=>c::cut 0 k cs
 |o+1,k+1,_::cs=>cut o (k+1) cs
 |_,_+1,[]=>[]
theorem MD: ∀(o k:Nat) (cs:List Value) (j:Nat) (v:Value),(cut o k cs)[j]? =some v->cs[o+j]? =some v
 |_,0,_,_,_,h=>by simp[cut] at h
 |0,k+1,c::cs,0,v,h=>by simpa[cut] using h
 |0,k+1,c::cs,j+1,v,h=>by
  have:=MD 0 k cs j v (by simpa[cut] using h)
  simpa using this
 |o+1,k+1,c::cs,j,v,h=>by
  have:=MD o (k+1) cs j v (by simpa[cut] using h)
  rw[show o+1+j=o+j+1 from by omega];simpa using this
 |0,_+1,[],_,_,h=>by simp[cut] at h
 |_+1,_+1,[],_,_,h=>by simp[cut] at h
theorem aeE {j b:Nat} {ar:Array Value} {E:TypeId} {fr:Nat×Nat} {Hr:Hp} {off k:Nat} (hj:idx j HL=some ((b,.cells ar E fr)::Hr)):
 ∃arr E fr,(b,Obj.cells arr E fr)∈HL.flatten/\ ∀j v,(cut off k ar.toList)[j]? =some v->arr[off+j]? =some v:=
 ⟨ar,E,fr,ie (by rw[<-idx_eq];exact hj) (List.mem_cons_self ..),λj v h=>by simpa using MD _ _ _ _ _ h⟩
theorem gA (T:Ty P) {b off t:Nat} {x:Operand} {td:TypeDesc} {sz by':Nat} {z:Value} {arr:Array Value} {E:TypeId} {fr:Nat×Nat} {Hr:Hp} {o:Oper} (j:Nat) (aQ:o.op= .load t x) (hx:ev env x=some (.pointer (some ⟨b,off,none⟩)))
 (hu:T.bX t=some td) (ha:nR td=true) (hi:T.inf t=some (sz,by',z)) (hj:idx j HL=some ((b,.cells arr E fr)::Hr)) (hl:Nat.beq (cut off sz arr.toList).length sz=true):gQ W P n env HL.flatten o (.agg (cut off sz arr.toList).toArray):=
 fY T aQ hx hu ha hi (Nat.eq_of_beq_eq_true hl) (aeE hj)
def Oz (T:Ty P) (n:Nat) (ops:Array Oper) (env:Env) (i:Nat):Option (Nat×Nat×Nat×Nat):=
 match slot n ops env i with
 |none=>none
 |some (o,d)=>match o.op with
  | .load t x=>match ev env x,T.bX t,T.inf t with
   |some (.pointer (some ⟨b,off,none⟩)),some td,some (sz,_,_)=>bif nR td then some (d,b,off,sz) else none
   |_,_,_=>none
  |_=>none
theorem la (T:Ty P) {d b off sz:Nat} {arr:Array Value} {E:TypeId} {fr:Nat×Nat} {Hr:Hp} (j:Nat) (h1:Oz T n ops env i=some (d,b,off,sz)) (hj:idx j HL=some ((b,.cells arr E fr)::Hr)) (hl:Nat.beq (cut off sz arr.toList).length sz=true)
 (h:aJ W n (wpOps P ops Q rest) ((d,.agg (cut off sz arr.toList).toArray)::env) HL):aJ W n (wpOps P ops Q (i::rest)) env HL:=by
 unfold Oz at h1;split at h1
 ·cases h1
 ·rename_i o d' hs;split at h1
  ·rename_i t x aQ;split at h1
   ·rename_i b' C7 td sz' by' z hx hu hi
    cases ha:nR td with
    |false=>rw[ha] at h1;cases h1
    |true=>
     rw[ha] at h1;simp only[cond_true,Option.some.injEq,Prod.mk.injEq] at h1;obtain⟨rfl,rfl,rfl,rfl⟩:=h1;exact bA hs (gA T j aQ hx hu ha hi hj hl) h
   ·cases h1
  ·cases h1
def tmps (env:Env):List ResultVar->Option (List Value)
 |[]=>some []
 | .tmp t::rs=>match lk t env,tmps env rs with
  |some v,some vs=>some (v::vs)
  |_,_=>none
 |_::_=>none
theorem Xk {T:Ty P} {H:Hp}: ∀{rs:List ResultVar} {vs:List Value},tmps env rs=some vs->nP T env H rs vs
 |[],_,h=>by simp only[tmps,Option.some.injEq] at h;subst h;exact .nil
 | .tmp t::rs,vs,h=>by
  unfold tmps at h;split at h
  ·rename_i v vs' hv hr;simp only[Option.some.injEq] at h;subst h;exact .tmp hv (Xk hr)
  ·cases h
 | .cell _ _::_,_,h=>by cases h
theorem pv {fn:Func} {v:Value} {R:Ending->World->Prop} (T:Ty P) (hr:(tmps env fn.results.toList).map Ac=some v) (h: ∀w,bn W w HL.flatten->R (.returned v) w):aJ W n (bodyPost P fn R .ret) env HL:=by
 cases ht:tmps env fn.results.toList with
 |none=>rw[ht] at hr;cases hr
 |some vs=>
  rw[ht] at hr;simp only[Option.map_some,Option.some.injEq] at hr;subst hr;exact FU (T:=T) rfl (Xk ht) h
theorem p1 (T:Ty P) {fn:Func} {R:Value->List Hp->Prop} {A:List Hp} {F:Hp} {v:Value} {g:List Hp} (hr:(tmps env fn.results.toList).map Ac=some v) (js:List Nat) (h:R v g) (hg:pick js HL=(g++A)++[F]):
 aJ W n (bodyPost P fn (λe w'=> ∃b:{qp:Value×List Hp // R qp.1 qp.2},e= .returned b.1.1/\bn W w' ((b.1.2++A)++[F]).flatten) .ret) env HL:=
 pv T hr (λ_ o=>⟨⟨(v,g),h⟩,rfl,Db js hg o⟩)
theorem p0 (T:Ty P) {fn:Func} {G:List Hp} {v:Value} (hr:(tmps env fn.results.toList).map Ac=some v) (js:List Nat) (hg:pick js HL=G):
 aJ W n (bodyPost P fn (λe w'=> ∃_:Unit,e= .returned v/\bn W w' G.flatten) .ret) env HL:=
 pv T hr (λ_ o=>⟨(),rfl,Db js hg o⟩)
end
abbrev CR (P:Program) (f:FuncId) (as:List Value) (Hs A:List Hp) (F:Hp) (R:Value->List Hp->Prop):Prop:=
 gY P f as (Hs++[F]) (λqp:{qp:Value×List Hp // R qp.1 qp.2}=>qp.1.1) (λqp=>(qp.1.2++A)++[F])
abbrev CU (P:Program) (f:FuncId) (as:List Value) (Hs:List Hp) (F:Hp) (v:Value):Prop:=
 gY P f as (Hs++[F]) (λ_:Unit=>v) (λ_=>Hs++[F])
abbrev pp (b:Nat):Value:= .pointer (some ⟨b,0,none⟩)
abbrev ii (x:Int):Value:= .int .i64 x
abbrev uu (x:Int):Value:= .int .u64 x
abbrev bb (x:Bool):Value:= .bool x
abbrev ll {α:Type} (a:Option Addr) (l:List α) (n:Nat):Value:= .slice a l.length n
abbrev nl:Value:= .slice none 0 0
abbrev cl (b t:Nat) (l:List Value):Hp:=[(b,Obj.cells l.toArray t (0,0))]
end
section
variable {W : World} {P : Program}
section
variable {n : Nat} {Q : Exit -> Act -> World -> Prop} {env : Env} {ops : Array Oper} {i : Nat} {o : Oper} {HL : List Hp} {late : List Nat} {A : List (List Nat)} {H0 : List Hp} {fuel : Nat} {listed : Array Bool}
theorem so (js:List Nat) (h:pick js HL=H0:=by rfl):px W late listed HL H0:=aiv js h
theorem sz (h:HL=H0:=by rfl):px W late listed HL H0:= .inr λ_ o=>by subst h;exact o
theorem sl (h:rC late listed=false:=by kernel_rfl):px W late listed HL H0:= .inl h
theorem rg (late js:List Nat) {id:Nat} (hm:P.follows .mixedOrders=true) (jK:PF Q)
 (h:oS ops (DX ops)=true->PF Q->aJ W n (gI P ops Q (SO W (pick js HL)) late ops.size (Array.replicate ops.size false)) env HL) (hg:oS ops (DX ops)=true:=by kernel_rfl):
 aJ W n ((Code.region id ops true).wp P Q) env HL:=QM _ late _ hm hg jK h
theorem rz (late:List Nat) {id:Nat} (hm:P.follows .mixedOrders=true) (jK:PF Q)
 (h:oS ops (DX ops)=true->PF Q->aJ W n (gI P ops Q (SO W HL) late ops.size (Array.replicate ops.size false)) env HL) (hg:oS ops (DX ops)=true:=by kernel_rfl):
 aJ W n ((Code.region id ops true).wp P Q) env HL:=QM _ late _ hm hg jK h
theorem ha (T:Ty P) (fu:Nat) (l:List Nat) {env fF:Env} {m:Nat} {listed:Array Bool} (hS: ∀{listed},px W late listed HL H0) (hg:oS ops A=true) (jK:PF Q) (hr:rI T n ops l env=some fF)
 (h:aJ W n (gI P ops Q (SO W H0) late fu (l.foldl (λa i=>a.setIfInBounds i true) listed)) fF HL) (hm:m=fu+l.length:=by rfl) (hb:takes ops A late listed l=true:=by kernel_rfl):aJ W n (gI P ops Q (SO W H0) late m listed) env HL:=
 hs T fu l hm hg jK hb (λ_=>hS) hr h
theorem hb (T:Ty P) (i:Nat) {e:Nat×Value} (hS:px W late listed HL H0) (hg:oS ops A=true) (jK:PF Q) (hs:Am T n ops env i=some e)
 (h:aJ W n (gI P ops Q (SO W H0) late fuel (listed.setIfInBounds i true)) (e::env) HL) (hb:BH ops A late listed i=true:=by kernel_rfl):aJ W n (gI P ops Q (SO W H0) late (fuel+1) listed) env HL:=QV T i hg jK hb hS hs h
theorem av (i:Nat) {d:Nat} {v:Value} (hS:px W late listed HL H0) (hg:oS ops A=true) (jK:PF Q) (hs:slot n ops env i=some (o,d)) (hv:gQ W P n env H0.flatten o v)
 (h:aJ W n (gI P ops Q (SO W H0) late fuel (listed.setIfInBounds i true)) ((d,v)::env) HL) (hb:BH ops A late listed i=true:=by kernel_rfl) (hl:(late.all λj=>(A.getD j []).contains i)=true:=by rfl):
 aJ W n (gI P ops Q (SO W H0) late (fuel+1) listed) env HL:=ZK i hg jK hb hS hl hs hv h
theorem an (hS:px W late listed HL H0) (h:aJ W n (gI P ops Q (SO W H0) late fuel listed) env HL):aJ W n (sa W P ops Q H0 late fuel listed) env HL:=ZG hS h
theorem ao (i:Nat) (h:aJ W n (wpOp P ops Q i (sa W P ops Q H0 late fuel (listed.setIfInBounds i true))) env HL) (hr:Region.ready .any ops listed=[i]:=by kernel_rfl):
 aJ W n (gI P ops Q (SO W H0) late (fuel+1) listed) env HL:=ZH i hr h
theorem gK (i j:Nat) (h1:aJ W n (wpOp P ops Q i (sa W P ops Q H0 late fuel (listed.setIfInBounds i true))) env HL)
 (h2:aJ W n (wpOp P ops Q j (sa W P ops Q H0 late fuel (listed.setIfInBounds j true))) env HL) (hr:Region.ready .any ops listed=[i,j]:=by kernel_rfl):
 aJ W n (gI P ops Q (SO W H0) late (fuel+1) listed) env HL:=ZJ i j hr h1 h2
theorem QC (i j m:Nat) (h1:aJ W n (wpOp P ops Q i (sa W P ops Q H0 late fuel (listed.setIfInBounds i true))) env HL)
 (h2:aJ W n (wpOp P ops Q j (sa W P ops Q H0 late fuel (listed.setIfInBounds j true))) env HL)
 (h3:aJ W n (wpOp P ops Q m (sa W P ops Q H0 late fuel (listed.setIfInBounds m true))) env HL) (hr:Region.ready .any ops listed=[i,j,m]:=by kernel_rfl):
 aJ W n (gI P ops Q (SO W H0) late (fuel+1) listed) env HL:=ZI i j m hr h1 h2 h3
theorem ae (h:aJ W n (Q .normal) env HL) (hr:Region.ready .any ops listed=[]:=by kernel_rfl):aJ W n (gI P ops Q (SO W H0) late fuel listed) env HL:=ZF hr h
end
end
section
variable {W : World} {P : Program}
section
variable {n : Nat} {Q : Exit -> Act -> World -> Prop} {env E : Env} {H : Hp} {ops : Array Oper}
theorem ga (T:Ty P) (l1:List Nat) {l2:List Nat} (s:Nat) (ks:List Nat) (d:Nat) {c x:Bool} {e1 e2:Env} (hs:lk s env=some (.bool c))
 (h1:rI T n ops l1 ((s,.bool true)::env)=some e1) (h2:rI T n ops l1 ((s,.bool false)::env)=some e2) (k1:lk d e1=some (.bool x)) (k2:lk d e2=some (.bool false))
 (hE:nE ks e1=some E) (Gl:nE ks e2=some E) (h:At W n (wpOps P ops Q l2) (E++[(d,.bool (c&&x))]) H):At W n (wpOps P ops Q (l1++l2)) env H:=
 QG T l1 (E++[(d,.bool (c&&x))]) hs h1 h2 (λhc=>BE (B:=[(d,.bool (c&&x))]) (wF hE) ⟨by rw[k1,hc,Bool.true_and],trivial⟩) (λhc=>BE (B:=[(d,.bool (c&&x))]) (wF Gl) ⟨by rw[k2,hc,Bool.false_and],trivial⟩) h
theorem go (T:Ty P) (l1:List Nat) {l2:List Nat} (s:Nat) (ks:List Nat) (d:Nat) {c x:Bool} {e1 e2:Env} (hs:lk s env=some (.bool c))
 (h1:rI T n ops l1 ((s,.bool true)::env)=some e1) (h2:rI T n ops l1 ((s,.bool false)::env)=some e2) (k1:lk d e1=some (.bool true)) (k2:lk d e2=some (.bool x))
 (hE:nE ks e1=some E) (Gl:nE ks e2=some E) (h:At W n (wpOps P ops Q l2) (E++[(d,.bool (c||x))]) H):At W n (wpOps P ops Q (l1++l2)) env H:=
 QG T l1 (E++[(d,.bool (c||x))]) hs h1 h2 (λhc=>BE (B:=[(d,.bool (c||x))]) (wF hE) ⟨by rw[k1,hc,Bool.true_or],trivial⟩) (λhc=>BE (B:=[(d,.bool (c||x))]) (wF Gl) ⟨by rw[k2,hc,Bool.false_or],trivial⟩) h
end
section
variable {HL : List Hp}
theorem rO {α:Type} {k:Fl α} {xs:List α} {a:Option Addr} {F:Hp} (h:aO k xs a F) (j:Nat) (hj:idx j HL=some F:=by rfl):aO k xs a HL.flatten:=ahp h hj
theorem oO {α:Type} {k:Fl α} {E:Nat} {xs:List α} {a:Option Addr} {n:Nat} {F:Hp} (h:aj k E xs a n F) (j:Nat) (hj:idx j HL=some F:=by rfl):aO k xs a HL.flatten:=VJ h hj
end
section
variable {n : Nat} {Q : Exit -> Act -> World -> Prop} {env : Env} {HL : List Hp} {ops : Array Oper} {i : Nat} {rest : List Nat}
def UI (T:Ty P) (n:Nat) (ops:Array Oper) (env:Env) (i:Nat):Option (Nat×Option Addr×Nat×Int×Nat):=
 match slot n ops env i with
 |none=>none
 |some (o,d)=>match o.op with
  | .indexAddr t x y=>match ev env x,ev env y,T.bX t with
   |some (.slice a m _),some (.int _ j),some (.slice E)=>match T.inf E with
    |some (sz,_,_)=>some (d,a,m,j,sz)
    |none=>none
   |_,_,_=>none
  |_=>none
theorem ix (T:Ty P) {d m sz b off:Nat} {a:Option Addr} {j:Int} (h1:UI T n ops env i=some (d,a,m,j,sz)) (ha:a=some ⟨b,off,none⟩) (hc:0<=j/\j<(m:Int))
 (h:aJ W n (wpOps P ops Q rest) ((d,.pointer (some ⟨b,off+j.toNat*sz,none⟩))::env) HL):aJ W n (wpOps P ops Q (i::rest)) env HL:=by
 unfold UI at h1;split at h1
 ·cases h1
 ·rename_i o d' hs;split at h1
  ·rename_i t x y aQ;split at h1
   ·rename_i a' m' cp kk j' E hx hy hu;split at h1
    ·rename_i sz' by' z hi
     simp only[Option.some.injEq,Prod.mk.injEq] at h1;obtain⟨rfl,rfl,rfl,rfl,rfl⟩:=h1;exact bA hs (cu T aQ hx hy hu hi ha hc.1 hc.2) h
    ·cases h1
   ·cases h1
  ·cases h1
theorem le {α:Type} [Inhabited α] {k:Fl α} (T:Ty P) {d b off:Nat} {v:Value} {xs:List α} {a:Option Addr} {j:Int} (f:Nat) (hr:aO k xs a HL.flatten) (ha:a=some ⟨b,off,none⟩) (hj:0<=j/\j<(xs.length:Int)) (h1:CQ T n ops env i=some (d,b,off+j.toNat*k.size+f)) (hc:idx f (k.enc (rd xs j))=some v)
 (h:aJ W n (wpOps P ops Q rest) ((d,v)::env) HL):aJ W n (wpOps P ops Q (i::rest)) env HL:=lg T h1 (eH hr ha hj f hc) h
end
section
variable {n : Nat} {Q : Exit -> Act -> World -> Prop} {env : Env} {HL jD : List Hp} {ops : Array Oper} {i : Nat} {rest : List Nat} {K : Act -> World -> Prop}
def U0 (T:Ty P) (n:Nat) (ops:Array Oper) (env:Env) (i j:Nat) (HL:List Hp):Option (Nat×Nat×Nat×Value):=
 match CQ T n ops env i,idx j HL with
 |some (d,b,off),some ((b',.cells arr _ _)::_)=>match idx off arr.toList with
  |some v=>some (d,b,b',v)
  |none=>none
 |_,_=>none
theorem lf (T:Ty P) {d b:Nat} {v:Value} (j:Nat) (h1:U0 T n ops env i j HL=some (d,b,b,v)) (h:aJ W n (wpOps P ops Q rest) ((d,v)::env) HL):aJ W n (wpOps P ops Q (i::rest)) env HL:=by
 unfold U0 at h1;split at h1
 ·rename_i d' b' off QY arr E fr Hr ha hj;split at h1
  ·rename_i v' hv;simp only[Option.some.injEq,Prod.mk.injEq] at h1;obtain⟨rfl,rfl,rfl,rfl⟩:=h1;exact ld T j ha hj hv h
  ·cases h1
 ·cases h1
def UT (T:Ty P) (n:Nat) (ops:Array Oper) (env:Env) (i j:Nat) (HL:List Hp):Option (Nat×Nat×Nat×List Value):=
 match Oz T n ops env i,idx j HL with
 |some (d,b,off,sz),some ((b',.cells arr _ _)::_)=>bif Nat.beq (cut off sz arr.toList).length sz then some (d,b,b',cut off sz arr.toList) else none
 |_,_=>none
theorem lm (T:Ty P) {d b:Nat} {cs:List Value} (j:Nat) (h1:UT T n ops env i j HL=some (d,b,b,cs)) (h:aJ W n (wpOps P ops Q rest) ((d,.agg cs.toArray)::env) HL):aJ W n (wpOps P ops Q (i::rest)) env HL:=by
 unfold UT at h1;split at h1
 ·rename_i d' b' off sz QY arr E fr Hr ha hj
  cases hc:Nat.beq (cut off sz arr.toList).length sz with
  |false=>rw[hc] at h1;cases h1
  |true=>
   rw[hc] at h1;simp only[cond_true,Option.some.injEq,Prod.mk.injEq] at h1;obtain⟨rfl,rfl,rfl,rfl⟩:=h1;exact la T j ha hj hc h
 ·cases h1
def Ic (T:Ty P) (ops:Array Oper) (env:Env) (i j:Nat) (HL:List Hp):Option (Nat×Nat×List Hp):=
 match Ie T ops env i,idx j HL with
 |some (b,off,vs),some ((b',.cells arr E (0,0))::Hr)=>bif Nat.ble (off+vs.length) arr.size then some (b,b',HL.set j ((b',.cells (xc off vs arr.toList).toArray E (0,0))::Hr)) else none
 |_,_=>none
theorem sf (T:Ty P) {b:Nat} (j:Nat) (h1:Ic T ops env i j HL=some (b,b,jD)) (h:aJ W n K env jD):aJ W n (wpOp P ops Q i K) env HL:=by
 unfold Ic at h1;split at h1
 ·rename_i b' off vs QY arr E Hr ha hj
  cases hc:Nat.ble (off+vs.length) arr.size with
  |false=>rw[hc] at h1;cases h1
  |true=>
   rw[hc] at h1;simp only[cond_true,Option.some.injEq,Prod.mk.injEq] at h1;obtain⟨rfl,rfl,rfl⟩:=h1;exact st T j ha hj hc h
 ·cases h1
theorem sg (T:Ty P) {b:Nat} (j:Nat) (h1:Ic T ops env i j HL=some (b,b,jD)) (h:aJ W n (wpOps P ops Q rest) env jD):aJ W n (wpOps P ops Q (i::rest)) env HL:=aV (sf T j h1 h)
end
def fH:List Hp->Option (List Hp)
 |[]=>some []
 |A::r=>match fH r with
  |some r'=>some (A::r')
  |none=>none
theorem Co: ∀{l r:List Hp},fH l=some r->l=r
 |[],_,h=>by simpa[fH] using h
 |A::l,r,h=>by
  unfold fH at h;split at h
  ·rename_i r' hr;simp only[Option.some.injEq] at h;subst h;rw[Co hr]
  ·cases h
theorem fz {n:Nat} {F:Act->World->Prop} {env:Env} {HL jD:List Hp} (h:fH HL=some jD) (h':aJ W n F env jD):aJ W n F env HL:=by rw[Co h];exact h'
section
variable {W : World} {P : Program} {n : Nat} {Q : Exit -> Act -> World -> Prop} {env : Env} {ops : Array Oper} {HL : List Hp} {late : List Nat} {A : List (List Nat)} {H0 : List Hp} {fuel : Nat} {listed : Array Bool}
theorem al (T:Ty P) (i j:Nat) {d b off:Nat} {v:Value} {arr:Array Value} {E:TypeId} {fr:Nat×Nat} {Hr:Hp} (hS:px W late listed HL H0) (hg:oS ops A=true) (jK:PF Q) (h1:CQ T n ops env i=some (d,b,off)) (hj:idx j H0=some ((b,.cells arr E fr)::Hr)) (hv:idx off arr.toList=some v)
 (h:aJ W n (gI P ops Q (SO W H0) late fuel (listed.setIfInBounds i true)) ((d,v)::env) HL) (hb:BH ops A late listed i=true:=by kernel_rfl) (hl:(late.all λj=>(A.getD j []).contains i)=true:=by rfl):
 aJ W n (gI P ops Q (SO W H0) late (fuel+1) listed) env HL:=
 let⟨_,_,_,_,h2,h3,h4,h5,h6⟩:=OE h1
 av i hS hg jK h2 (cw T h3 h4 h5 h6 (Ox (j:=j) hj hv)) h hb hl
def U1 (T:Ty P) (n:Nat) (ops:Array Oper) (env:Env) (o:Oper):Option (Nat×Nat×Nat):=
 match want ops env o,o.dst,o.op with
 |some true,some d,.load t x=>match ev env x,T.bX t with
  |some (.pointer (some ⟨b,off,none⟩)),some td=>bif Nat.blt d n&&!nR td then some (d,b,off) else none
  |_,_=>none
 |_,_,_=>none
theorem cD (T:Ty P) (j:Nat) {o:Oper} {d b off:Nat} {v:Value} {arr:Array Value} {E:TypeId} {fr:Nat×Nat} {Hr:Hp} {l:List Oper} {F:Act->Prop} (h1:U1 T n ops env o=some (d,b,off)) (hj:idx j HL=some ((b,.cells arr E fr)::Hr)) (hv:idx off arr.toList=some v)
 (h:iI W P n ops HL.flatten l F ((d,v)::env)):iI W P n ops HL.flatten (o::l) F env:=by
 unfold U1 at h1;split at h1
 ·rename_i d' t x hw hd aQ;split at h1
  ·rename_i b' C7 td hx hu
   cases hc:(Nat.blt d' n&&!nR td) with
   |false=>rw[hc] at h1;cases h1
   |true=>
    rw[hc] at h1;simp only[cond_true,Option.some.injEq,Prod.mk.injEq] at h1;obtain⟨rfl,rfl,rfl⟩:=h1;simp only[Bool.and_eq_true,Bool.not_eq_true'] at hc;exact bf hw hd hc.1 (cw T aQ hx hu hc.2 (Ox (j:=j) hj hv)) h
  ·cases h1
 ·cases h1
end
end
end Go.Hx
