/- The logic of this claim, the last rules: calls by places, and more. -/
import Derived.KernelRfl
import Derived.Test.YthodkonhneebbaaGreatDoorKDHy
namespace Go.Hx
set_option autoImplicit true
set_option relaxedAutoImplicit true
set_option linter.unusedVariables false
set_option linter.unusedSimpArgs false
set_option linter.unusedSectionVars false
section
variable {W : World}
variable {P : Program}
def cG:Option Hp->List Hp->List Hp
 |some A,r=>A::r
 |none,r=>[]::r
def sA:List Nat->List Hp->List Hp
 |[],_=>[]
 |j::js,HL=>cG (idx j HL) (sA js (HL.eraseIdx j))
def sR:List Nat->List Hp->List Hp
 |[],HL=>HL
 |j::js,HL=>sR js (HL.eraseIdx j)
theorem Bj: ∀(js:List Nat) (HL:List Hp),qB js HL=(sA js HL,sR js HL)
 |[],_=>rfl
 |j::js,HL=>by
  unfold qB sA sR;rw[Bj js (HL.eraseIdx j)]
  cases idx j HL<;>rfl
def upto:Nat->Nat->List Nat
 |_,0=>[]
 |i,m+1=>i::upto (i+1) m
theorem W9: ∀(m i:Nat),upto i m=List.range' i m
 |0,i=>by simp[upto]
 |m+1,i=>by rw[upto,W9 m (i+1),List.range'_succ]
section
variable {n : Nat} {Q : Exit -> Act -> World -> Prop} {env : Env} {H : Hp} {K : Act -> World -> Prop} {ops : Array Oper} {i : Nat} {o : Oper} {HL : List Hp}
theorem Y6 {id:Nat} (m:Nat) (hl:Nat.beq ops.size m=true) (h:aH W n (wpOps P ops Q (upto 0 m)) env HL):aH W n ((Code.region id ops false).wp P Q) env HL:=
 at_region _ (by rw[W9,Nat.eq_of_beq_eq_true hl,List.range_eq_range']) h
theorem Qm {d:Nat} {c:Operand} {args:Array Operand} {types:Array TypeId} {f:FuncId} {first captured:Array Value} {vs as:List Value} {v:Value}
 (js:List Nat) (hs:slot n ops env i=some (o,d)) (aR:o.op= .call ⟨.value c,args,types⟩) (hc:ev env c=some (.func (.func f) first captured)) (ha:args.toList.mapM (ev env)=some vs) (hf:Has P f)
 (has:first.toList++(vs++captured.toList)=as) (nS:gR P f as (sA js HL++[(sR js HL).flatten]) (λ_:Unit=>v) (λ_=>sA js HL++[(sR js HL).flatten]))
 (h:aH W n K ((d,v)::env) HL):aH W n (wpOp P ops Q i K) env HL:=by
 refine vJ (B:=λ_=>sA js HL) js hs aR hc ha hf has (Bj js HL) nS (λ_=>po (λw o=>?_) h);have:=HK js HL;rw[Bj] at this;rw[List.flatten_append] at o;exact o.perm (List.perm_append_comm.trans this.symm)
theorem IY {d:Nat} {c:Operand} {args:Array Operand} {types:Array TypeId} {f:FuncId} {first captured:Array Value} {vs as:List Value} {v:Value} {As R:List Hp}
 (js:List Nat) (hs:slot n ops env i=some (o,d)) (aR:o.op= .call ⟨.value c,args,types⟩) (hc:ev env c=some (.func (.func f) first captured)) (ha:args.toList.mapM (ev env)=some vs) (hf:Has P f)
 (has:first.toList++(vs++captured.toList)=as) (wh:qB js HL=(As,R)) (nS:gR P f as (As++[R.flatten]) (λ_:Unit=>v) (λ_=>As++[R.flatten]))
 (h:aH W n K ((d,v)::env) HL):aH W n (wpOp P ops Q i K) env HL:=
 Qm js hs aR hc ha hf has (by rw[Bj] at wh;obtain⟨rfl,rfl⟩:=Prod.mk.inj wh;exact nS) h
theorem YO {d:Nat} {c:Operand} {args:Array Operand} {types:Array TypeId} {f:FuncId} {first captured:Array Value} {vs as:List Value} (Rp:Value->List Hp->Prop) (kp:List Nat)
 (js:List Nat) (hs:slot n ops env i=some (o,d)) (aR:o.op= .call ⟨.value c,args,types⟩) (hc:ev env c=some (.func (.func f) first captured)) (ha:args.toList.mapM (ev env)=some vs) (hf:Has P f)
 (has:first.toList++(vs++captured.toList)=as)
 (nS:gR P f as (sA js HL++[(sR js HL).flatten]) (λp:{p:Value×List Hp // Rp p.1 p.2}=>p.1.1) (λp=>(p.1.2++sA kp HL)++[(sR js HL).flatten]))
 (h: ∀u G,Rp u G->aH W n K ((d,u)::env) (sR js HL++(G++sA kp HL))):aH W n (wpOp P ops Q i K) env HL:=
 FF Rp _ js hs aR hc ha hf has (Bj js HL) nS h
theorem xi {d:Nat} {c:Operand} {args:Array Operand} {types:Array TypeId} {f:FuncId} {first captured:Array Value} {vs as:List Value} {v:Value} {l:List Oper} {F:Act->Prop}
 (js:List Nat) (hw:want ops env o=some true) (hd:o.dst=some d) (hn:Nat.blt d n=true) (aR:o.op= .call ⟨.value c,args,types⟩) (hc:ev env c=some (.func (.func f) first captured)) (ha:args.toList.mapM (ev env)=some vs) (hf:Has P f)
 (has:first.toList++(vs++captured.toList)=as) (nS:gR P f as (sA js HL++[(sR js HL).flatten]) (λ_:Unit=>v) (λ_=>sA js HL++[(sR js HL).flatten]))
 (h:iE W P n ops HL.flatten l F ((d,v)::env)):iE W P n ops HL.flatten (o::l) F env:=
 Zq js hw hd hn aR hc ha hf has (Bj js HL) nS h
end
end
section
variable {W : World}
variable {P : Program}
inductive Fr where
 |EY (c:Code)
 |DR (id:Nat)
 |mid (M:Act->World->Prop)
def den (P:Program) (Q0:Exit->Act->World->Prop):List Fr->Exit->Act->World->Prop
 |[]=>Q0
 | .EY y::K=>Exit.then (y.wp P (den P Q0 K)) (den P Q0 K)
 | .DR id::K=>Exit.inBlock id (den P Q0 K)
 | .mid M::K=>Exit.then M (den P Q0 K)
inductive Sx where
 |AJ (c:Code) (K:List Fr) (env:Env)
 |A_ (o:Array Oper) (l:List Nat) (K:List Fr) (env:Env)
 |out (e:Exit) (K:List Fr) (env:Env)
def Sx.goal (W:World) (P:Program) (n:Nat) (Q0:Exit->Act->World->Prop) (HL:List Hp):Sx->Prop
 | .AJ c K env=>aH W n (c.wp P (den P Q0 K)) env HL
 | .A_ ops l K env=>aH W n (wpOps P ops (den P Q0 K) l) env HL
 | .out e K env=>aH W n (den P Q0 K e) env HL
def Pn:Code->List Fr->Env->Option Sx
 | .skip,K,env=>some (.out .normal K env)
 | .seq a b,K,env=>some (.AJ a (.EY b::K) env)
 | .block id a,K,env=>some (.AJ a (.DR id::K) env)
 | .exit id,K,env=>some (.out (.exit id) K env)
 | .ret,K,env=>some (.out .ret K env)
 | .region _ ops false,K,env=>some (.A_ ops (upto 0 ops.size) K env)
 |_,_,_=>none
def Po:Exit->List Fr->Env->Option Sx
 | .normal,.EY c::K,env=>some (.AJ c K env)
 | .normal,.DR _::K,env=>some (.out .normal K env)
 | .exit i,.EY _::K,env=>some (.out (.exit i) K env)
 | .exit i,.mid _::K,env=>some (.out (.exit i) K env)
 | .exit i,.DR j::K,env=>bif Nat.beq i j then some (.out .normal K env) else some (.out (.exit i) K env)
 | .ret,_::K,env=>some (.out .ret K env)
 |_,_,_=>none
def K3 (T:Ty P) (n:Nat):Sx->Option Sx
 | .AJ c K env=>Pn c K env
 | .A_ _ [] K env=>some (.out .normal K env)
 | .A_ ops (i::l) K env=>match z7 T n ops env i with
  |some e=>some (.A_ ops l K (e::env))
  |none=>none
 | .out e K env=>Po e K env
def EE (T:Ty P) (n:Nat):Nat->Sx->Sx
 |0,s=>s
 |k+1,s=>match K3 T n s with
  |some s'=>EE T n k s'
  |none=>s
section
variable {n : Nat} {Q0 : Exit -> Act -> World -> Prop} {env : Env} {HL : List Hp}
theorem ahQ {c:Code} {K:List Fr} {s:Sx} (h:Pn c K env=some s) (g:s.goal W P n Q0 HL):aH W n (c.wp P (den P Q0 K)) env HL:=by
 unfold Pn at h;split at h<;>first |(cases h;done) |skip
 all_goals (simp only[Option.some.injEq] at h;subst h)
 ·exact Y' g
 ·exact Qv g
 ·exact YM g
 ·exact YU g
 ·exact at_ret g
 ·exact Y6 _ (by simp) g
theorem ahS {e:Exit} {K:List Fr} {s:Sx} (h:Po e K env=some s) (g:s.goal W P n Q0 HL):aH W n (den P Q0 K e) env HL:=by
 unfold Po at h;split at h
 ·simp only[Option.some.injEq] at h;subst h;exact Zf g
 ·simp only[Option.some.injEq] at h;subst h;exact Y4 g
 ·simp only[Option.some.injEq] at h;subst h;exact Qx g
 ·simp only[Option.some.injEq] at h;subst h;exact Qx g
 ·rename_i i j K
  cases hb:Nat.beq i j with
  |true=>simp only[hb,cond_true,Option.some.injEq] at h;subst h;rw[Nat.eq_of_beq_eq_true hb];exact Zh g
  |false=>simp only[hb,cond_false,Option.some.injEq] at h;subst h;exact Zi hb g
 ·rename_i f K;simp only[Option.some.injEq] at h;subst h
  cases f with
  |EY y=>exact Qu g
  |DR id=>exact Y5 g
  |mid M=>exact Qu g
 ·cases h
theorem ahR {T:Ty P} {s s':Sx} (h:K3 T n s=some s') (g:s'.goal W P n Q0 HL):s.goal W P n Q0 HL:=by
 cases s with
 |AJ c K env=>exact ahQ h g
 |out e K env=>exact ahS h g
 |A_ ops l K env=>
  cases l with
  |nil=>simp only[K3,Option.some.injEq] at h;subst h;exact at_end g
  |cons i l=>
   simp only[K3] at h;split at h
   ·rename_i e he;simp only[Option.some.injEq] at h;subst h;exact Y9 T he g
   ·cases h
theorem KN (T:Ty P): ∀(k:Nat) (s:Sx),(EE T n k s).goal W P n Q0 HL->s.goal W P n Q0 HL
 |0,_,h=>h
 |k+1,s,h=>by
  unfold EE at h;split at h
  ·rename_i s' hs;exact ahR hs (KN T k s' h)
  ·exact h
theorem rc (T:Ty P) {c:Code} {K:List Fr} (k:Nat) (h:(EE T n k (.AJ c K env)).goal W P n Q0 HL):aH W n (c.wp P (den P Q0 K)) env HL:=KN T k (.AJ c K env) h
theorem ro (T:Ty P) {ops:Array Oper} {l:List Nat} {K:List Fr} (k:Nat) (h:(EE T n k (.A_ ops l K env)).goal W P n Q0 HL):aH W n (wpOps P ops (den P Q0 K) l) env HL:=KN T k (.A_ ops l K env) h
theorem rx (T:Ty P) {e:Exit} {K:List Fr} (k:Nat) (h:(EE T n k (.out e K env)).goal W P n Q0 HL):aH W n (den P Q0 K e) env HL:=KN T k (.out e K env) h
end
theorem UM: ∀(l:List Value) (m k:Nat) (v:Value),lk k ((l.zipIdx m).map λx=>(x.2,x.1))=some v->m<=k
 |[],_,_,_,h=>by simp[lk] at h
 |a::l,m,k,v,h=>by
  simp only[List.zipIdx_cons,List.map_cons,lk] at h
  by_cases hk:k=m
  ·omega
  ·rw[xk hk] at h;have:=UM l (m+1) k v (by simpa using h)
   omega
theorem WV: ∀(l:List Value) (m:Nat) (env:Env),(∀k v,lk k ((l.zipIdx m).map λx=>(x.2,x.1))=some v->lk k env=some v)->sub ((l.zipIdx m).map λx=>(x.2,x.1)) env
 |[],_,_,_=>trivial
 |a::l,m,env,h=>by
  simp only[List.zipIdx_cons,List.map_cons];refine⟨h m a (by simp[lk]),WV l (m+1) env λk v hk=>h k v ?_⟩
  have:=UM l (m+1) k v hk;simp only[List.zipIdx_cons,List.map_cons,lk];rw[xk (show ¬k=m by omega)]
  simpa using hk
theorem aG {f:FuncId} {fn:Func} {c:Code} {args:List Value} {β:Type} {V:β->Value} {G:β->List Hp} {HL:List Hp}
 (hf:P.funcs[f]? =some fn) (hb:fn.body=some c) (hn:Nat.ble args.length fn.ntmps=true)
 (h: ∀W,aH W fn.ntmps (c.wp P (den P (bodyPost P fn λe w'=> ∃b,e= .returned (V b)/\bl W w' (G b).flatten) [])) ((args.zipIdx.map λx=>(x.2,x.1))) HL):gR P f args HL V G:=
 aad _ hf hb hn (WV args 0 _ λ_ _ h=>h) h
end
section
variable {W : World}
variable {P : Program}
def DT (n:Nat) (ops:Array Oper) (env:Env) (i:Nat):Option (Nat×FuncId×List Value):=
 match slot n ops env i with
 |none=>none
 |some (o,d)=>match o.op with
  | .call ⟨.value c,args,_⟩=>match ev env c,args.toList.mapM (ev env) with
   |some (.func (.func f) first captured),some vs=>some (d,f,first.toList++(vs++captured.toList))
   |_,_=>none
  |_=>none
theorem Q1 {n:Nat} {ops:Array Oper} {env:Env} {i d:Nat} {f:FuncId} {vl:List Value} (h:DT n ops env i=some (d,f,vl)):
 ∃o c args types first captured vs,slot n ops env i=some (o,d)/\o.op= .call ⟨.value c,args,types⟩/\ev env c=some (.func (.func f) first captured)/\args.toList.mapM (ev env)=some vs/\first.toList++(vs++captured.toList)=vl:=by
 unfold DT at h;split at h
 ·cases h
 ·rename_i o d' ho;split at h
  ·rename_i c args types aR;split at h
   ·rename_i f' first captured vs hc ha
    simp only[Option.some.injEq,Prod.mk.injEq] at h;obtain⟨rfl,rfl,rfl⟩:=h;exact⟨o,c,args,types,first,captured,vs,ho,aR,hc,ha,rfl⟩
   ·cases h
  ·cases h
section
variable {n : Nat} {Q : Exit -> Act -> World -> Prop} {env : Env} {H : Hp} {K : Act -> World -> Prop} {ops : Array Oper} {i : Nat} {HL : List Hp} {rest : List Nat}
variable {α β : Type} {x : Option α} {g : α -> Option β} {z : β} {d : Nat} {f : FuncId} {vl : List Value}
theorem kh {V:α->Value} (js:List Nat) (hv:DT n ops env i=some (d,f,vl)) (hf:Has P f) (e:x.bind g=some z)
 (hc: ∀{v},x=some v->gR P f vl (sA js HL++[(sR js HL).flatten]) (λ_:Unit=>V v) (λ_=>sA js HL++[(sR js HL).flatten]))
 (h: ∀v,g v=some z->aH W n K ((d,V v)::env) HL):aH W n (wpOp P ops Q i K) env HL:=by
 obtain⟨v,e1,e2⟩:=gu e;obtain⟨o,c,args,types,first,captured,vs,h1,h2,h3,h4,h5⟩:=Q1 hv
 exact Qm js h1 h2 h3 h4 hf h5 (hc e1) (h v e2)
theorem kR (Rp:α->Value->List Hp->Prop) (kp js:List Nat) (hv:DT n ops env i=some (d,f,vl)) (hf:Has P f) (e:x.bind g=some z)
 (hc: ∀{v},x=some v->gR P f vl (sA js HL++[(sR js HL).flatten]) (λp:{p:Value×List Hp // Rp v p.1 p.2}=>p.1.1) (λp=>(p.1.2++sA kp HL)++[(sR js HL).flatten]))
 (h: ∀v,g v=some z-> ∀u G,Rp v u G->aH W n K ((d,u)::env) (sR js HL++(G++sA kp HL))):aH W n (wpOp P ops Q i K) env HL:=by
 obtain⟨v,e1,e2⟩:=gu e;obtain⟨o,c,args,types,first,captured,vs,h1,h2,h3,h4,h5⟩:=Q1 hv
 exact YO (Rp v) kp js h1 h2 h3 h4 hf h5 (hc e1) (h v e2)
theorem k {V:α->Value} (js:List Nat) (hv:DT n ops env i=some (d,f,vl)) (hf:Has P f) (e:x.bind g=some z)
 (hc: ∀{v},x=some v->gR P f vl (sA js HL++[(sR js HL).flatten]) (λ_:Unit=>V v) (λ_=>sA js HL++[(sR js HL).flatten]))
 (h: ∀v,g v=some z->aH W n (wpOps P ops Q rest) ((d,V v)::env) HL):aH W n (wpOps P ops Q (i::rest)) env HL:=aV (kh js hv hf e hc h)
theorem kr (Rp:α->Value->List Hp->Prop) (kp js:List Nat) (hv:DT n ops env i=some (d,f,vl)) (hf:Has P f) (e:x.bind g=some z)
 (hc: ∀{v},x=some v->gR P f vl (sA js HL++[(sR js HL).flatten]) (λp:{p:Value×List Hp // Rp v p.1 p.2}=>p.1.1) (λp=>(p.1.2++sA kp HL)++[(sR js HL).flatten]))
 (h: ∀v,g v=some z-> ∀u G,Rp v u G->aH W n (wpOps P ops Q rest) ((d,u)::env) (sR js HL++(G++sA kp HL))):aH W n (wpOps P ops Q (i::rest)) env HL:=aV (kR Rp kp js hv hf e hc h)
end
section
variable {n : Nat} {Q : Exit -> Act -> World -> Prop} {env : Env} {H : Hp} {c : Operand} {a b : Code} {β : Type} {X Y : Option β} {z : β} {F : Act -> World -> Prop}
theorem cd {p:Prop} {i1 i2:Decidable p} (hc:ev env c=some (.bool (@decide p i1))) (e: @ite _ p i2 X Y=some z) (ht:X=some z->At W n (a.wp P Q) env H) (hf:Y=some z->At W n (b.wp P Q) env H):At W n ((Code.cond c a b).wp P Q) env H:=
 BV hc (λh=>ht ((@if_pos p i2 (@of_decide_eq_true p i1 h) _ X Y).symm.trans e)) (λh=>hf ((@if_neg p i2 (@of_decide_eq_false p i1 h) _ X Y).symm.trans e))
theorem cb {p:Bool} (hc:ev env c=some (.bool p)) (e:(if p=true then X else Y)=some z) (ht:X=some z->At W n (a.wp P Q) env H) (hf:Y=some z->At W n (b.wp P Q) env H):At W n ((Code.cond c a b).wp P Q) env H:=
 BV hc (λh=>ht (by rwa[if_pos h] at e)) (λh=>hf (by rwa[if_neg (by simp[h])] at e))
theorem ad {p:Prop} {i1 i2:Decidable p} (s:Nat) (hs:lk s env=some (.bool (@decide p i1))) (e: @ite _ p i2 X Y=some z) (ht:X=some z->At W n F ((s,.bool true)::env) H) (hf:Y=some z->At W n F ((s,.bool false)::env) H):At W n F env H:=
 LL hs (λh=>ht ((@if_pos p i2 (@of_decide_eq_true p i1 h) _ X Y).symm.trans e)) (λh=>hf ((@if_neg p i2 (@of_decide_eq_false p i1 h) _ X Y).symm.trans e))
theorem ab {p:Bool} (s:Nat) (hs:lk s env=some (.bool p)) (e:(if p=true then X else Y)=some z) (ht:X=some z->At W n F ((s,.bool true)::env) H) (hf:Y=some z->At W n F ((s,.bool false)::env) H):At W n F env H:=
 LL hs (λh=>ht (by rwa[if_pos h] at e)) (λh=>hf (by rwa[if_neg (by simp[h])] at e))
theorem qd {ops:Array Oper} {l:List Oper} {F:Act->Prop} {p:Prop} {i1 i2:Decidable p} (s:Nat) (hs:lk s env=some (.bool (@decide p i1))) (e: @ite _ p i2 X Y=some z) (ht:X=some z->iE W P n ops H l F ((s,.bool true)::env)) (hf:Y=some z->iE W P n ops H l F ((s,.bool false)::env)):iE W P n ops H l F env:=
 QB hs (λh=>ht ((@if_pos p i2 (@of_decide_eq_true p i1 h) _ X Y).symm.trans e)) (λh=>hf ((@if_neg p i2 (@of_decide_eq_false p i1 h) _ X Y).symm.trans e))
theorem qb {ops:Array Oper} {l:List Oper} {F:Act->Prop} {p:Bool} (s:Nat) (hs:lk s env=some (.bool p)) (e:(if p=true then X else Y)=some z) (ht:X=some z->iE W P n ops H l F ((s,.bool true)::env)) (hf:Y=some z->iE W P n ops H l F ((s,.bool false)::env)):iE W P n ops H l F env:=
 QB hs (λh=>ht (by rwa[if_pos h] at e)) (λh=>hf (by rwa[if_neg (by simp[h])] at e))
end
section
variable {T : Ty P} {n : Nat} {Q : Exit -> Act -> World -> Prop} {env : Env} {HL : List Hp} {ops : Array Oper} {i : Nat} {rest : List Nat} {K : Act -> World -> Prop}
def CD (T:Ty P) (n:Nat) (ops:Array Oper) (env:Env) (i:Nat):Option (Nat×Nat×Nat):=
 match slot n ops env i with
 |none=>none
 |some (o,d)=>match o.op with
  | .load t x=>match ev env x,T.bW t with
   |some (.pointer (some ⟨b,off,none⟩)),some td=>bif nK td then none else some (d,b,off)
   |_,_=>none
  |_=>none
theorem Oc {d b off:Nat} (h:CD T n ops env i=some (d,b,off)): ∃o t x td,slot n ops env i=some (o,d)/\o.op= .load t x/\ev env x=some (.pointer (some ⟨b,off,none⟩))/\T.bW t=some td/\nK td=false:=by
 unfold CD at h;split at h
 ·cases h
 ·rename_i o d' ho;split at h
  ·rename_i t x aR;split at h
   ·rename_i b' CT td hx hu
    cases ha:nK td with
    |true=>rw[ha] at h;cases h
    |false=>
     rw[ha] at h;simp only[cond_false,Option.some.injEq,Prod.mk.injEq] at h;obtain⟨rfl,rfl,rfl⟩:=h;exact⟨o,t,x,td,ho,aR,hx,hu,ha⟩
   ·cases h
  ·cases h
theorem ld (T:Ty P) {d b off:Nat} {arr:Array Value} {E:TypeId} {fr:Nat×Nat} {Hr:Hp} {v:Value} (j:Nat) (h1:CD T n ops env i=some (d,b,off)) (hj:idx j HL=some ((b,.cells arr E fr)::Hr)) (hv:idx off arr.toList=some v)
 (h:aH W n (wpOps P ops Q rest) ((d,v)::env) HL):aH W n (wpOps P ops Q (i::rest)) env HL:=
 let⟨_,_,_,_,h2,h3,h4,h5,h6⟩:=Oc h1
 bx h2 (cC T h3 h4 h5 h6 (N7 (j:=j) hj hv)) h
theorem lg (T:Ty P) {d b off:Nat} {v:Value} (h1:CD T n ops env i=some (d,b,off)) (hm: ∃arr E fr,(b,Obj.cells arr E fr)∈HL.flatten/\arr[off]? =some v)
 (h:aH W n (wpOps P ops Q rest) ((d,v)::env) HL):aH W n (wpOps P ops Q (i::rest)) env HL:=
 let⟨_,_,_,_,h2,h3,h4,h5,h6⟩:=Oc h1
 bx h2 (cC T h3 h4 h5 h6 hm) h
theorem pb (T:Ty P) {fn:Func} {β:Type} {V:β->Value} {G:β->List Hp} {rs:List ResultVar} {vs:List Value} (hf:fn.results.toList=rs) (hr:nI T env HL.flatten rs vs) (js:List Nat) (b:β) (hv:zR vs=V b) (hg:pick js HL=G b):
 aH W n (bodyPost P fn (λe w'=> ∃b,e= .returned (V b)/\bl W w' (G b).flatten) .ret) env HL:=
 FJ hf hr (λw o=>⟨b,by rw[hv],CZ js hg o⟩)
end
section
variable {n : Nat} {Q0 : Exit -> Act -> World -> Prop} {env : Env} {HL : List Hp}
theorem bR {K:List Fr} (h:PF Q0):PF (den P Q0 K):=by
 induction K with
 |nil=>exact h
 |cons f K ih=>cases f with
  |EY y=>exact Vr ih
  |DR id=>exact af1 ih
  |mid M=>exact Vr ih
end
section
variable {n : Nat} {Q : Exit -> Act -> World -> Prop} {env : Env} {ops : Array Oper} {HL : List Hp} {late : List Nat} {A : List (List Nat)} {H0 : List Hp}
def Qc (ops:Array Oper):Nat->List (List Nat)->List (List Nat)
 |0,r=>r
 |k+1,r=>
  let es:=match ops[r.length]? with
   |none=>[]
   |some o=>(o.after.toList.filter λ(e:Edge)=>Region.binds .any e).map λ(e:Edge)=>e.on
  Qc ops k (r++[(es++(es.map λe=>r.getD e []).flatten).eraseDups])
def DL (ops:Array Oper):List (List Nat):=Qc ops ops.size []
def takes (ops:Array Oper) (A:List (List Nat)) (late:List Nat):Array Bool->List Nat->Bool
 |_,[]=>true
 |l,i::r=>Bs ops A late l i&&takes ops A late (l.setIfInBounds i true) r
theorem TV (T:Ty P): ∀(l:List Nat) {env fC:Env} {fuel:Nat} {listed:Array Bool} (hg:oJ ops A=true) (jC:PF Q) (hb:takes ops A late listed l=true) (hS: ∀listed,pk W late listed HL H0) (hr:rn T n ops l env=some fC)
 (h:aH W n (gz P ops Q (SO W H0) late fuel (l.foldl (λa i=>a.setIfInBounds i true) listed)) fC HL),aH W n (gz P ops Q (SO W H0) late (fuel+l.length) listed) env HL
 |[],_,_,_,_,_,_,_,_,hr,h=>by simp only[rn,Option.some.injEq] at hr;subst hr;exact h
 |i::r,env,fC,fuel,listed,hg,jC,hb,hS,hr,h=>by
  simp only[takes,Bool.and_eq_true] at hb;simp only[rn] at hr;split at hr
  ·rename_i e he;exact QA T i hg jC hb.1 (hS listed) he (TV T r hg jC hb.2 hS hr h)
  ·cases hr
theorem hs (T:Ty P) (fu:Nat) (l:List Nat) {env fC:Env} {m:Nat} {listed:Array Bool} (hm:m=fu+l.length) (hg:oJ ops A=true) (jC:PF Q) (hb:takes ops A late listed l=true) (hS: ∀listed,pk W late listed HL H0) (hr:rn T n ops l env=some fC)
 (h:aH W n (gz P ops Q (SO W H0) late fu (l.foldl (λa i=>a.setIfInBounds i true) listed)) fC HL):aH W n (gz P ops Q (SO W H0) late m listed) env HL:=by
 subst hm;exact TV T l hg jC hb hS hr h
end
section
variable {n : Nat} {Q : Exit -> Act -> World -> Prop} {env : Env} {HL : List Hp} {ops : Array Oper} {i d : Nat} {K : Act -> World -> Prop}
def WH (n:Nat) (ops:Array Oper) (env:Env) (i:Nat):Option Nat:=
 match ops[i]? with
 |none=>none
 |some o=>match want ops env o,o.dst with
  |some false,some d=>bif Nat.blt d n then some d else none
  |_,_=>none
theorem Zg (h1:WH n ops env i=some d) (h:aH W n K ((d,undef)::env) HL):aH W n (wpOp P ops Q i K) env HL:=by
 unfold WH at h1;split at h1
 ·cases h1
 ·rename_i o ho;split at h1
  ·rename_i d' hw hd
   cases hb:Nat.blt d' n with
   |false=>simp[hb] at h1
   |true=>
    simp only[hb,cond_true,Option.some.injEq] at h1;subst h1;exact LP ho hw hd (by simpa using hb) h
  ·cases h1
end
end
section
variable {W : World} {P : Program}
theorem I9 {f:FuncId} {as:List Value} {A As:List Hp} {R:Hp} {v:Value} (e:A.flatten=As.flatten) (c:gR P f as (A++[R]) (λ_:Unit=>v) (λ_=>A++[R])):
 gR P f as (As++[R]) (λ_:Unit=>v) (λ_=>As++[R]):=
 aae (by rw[List.flatten_append,List.flatten_append,e]) c
theorem I_ {f:FuncId} {as:List Value} {A As A2 PT:List Hp} {R:Hp} {β:Type} {V:β->Value} {g:β->List Hp} (e:A.flatten=As.flatten) (e2:A2.flatten=PT.flatten)
 (c:gR P f as (A++[R]) V (λb=>(g b++A2)++[R])):gR P f as (As++[R]) V (λb=>(g b++PT)++[R]):=
 aaf (by rw[List.flatten_append,List.flatten_append,e]) (λb=>by rw[List.flatten_append,List.flatten_append,List.flatten_append,List.flatten_append,e2]) c
end
section
variable {W : World} {P : Program}
def nE:List Nat->Env->Option Env
 |[],_=>some []
 |k::ks,env=>match lk k env,nE ks env with
  |some v,some r=>some ((k,v)::r)
  |_,_=>none
theorem wo: ∀{ks:List Nat} {env E:Env},nE ks env=some E->sub E env
 |[],_,_,h=>by simp only[nE,Option.some.injEq] at h;subst h;trivial
 |k::ks,env,E,h=>by
  unfold nE at h;split at h
  ·rename_i v r hv hr;simp only[Option.some.injEq] at h;subst h;exact⟨hv,wo hr⟩
  ·cases h
def nH:List Nat->List Hp->Option (List Hp)
 |[],_=>some []
 |j::js,HL=>match idx j HL,nH js (HL.eraseIdx j) with
  |some A,some r=>some (A::r)
  |_,_=>none
theorem Hb: ∀{js:List Nat} {HL G:List Hp},nH js HL=some G->pick js HL=G
 |[],_,_,h=>by simp only[nH,Option.some.injEq] at h;subst h;rfl
 |j::js,HL,G,h=>by
  unfold nH at h;split at h
  ·rename_i A r hA hr;simp only[Option.some.injEq] at h;subst h;simp only[pick,hA,Hb hr]
  ·cases h
def gE:Env->Env->Option (List Value)
 |[],_=>some []
 |e::r,env=>match lk e.1 env,gE r env with
  |some v,some l=>some (v::l)
  |_,_=>none
theorem Ji: ∀{E env:Env},gE E env=some (E.map (·.2))->sub E env
 |[],_,_=>trivial
 |e::r,env,h=>by
  unfold gE at h;split at h
  ·rename_i v l hv hl;simp only[List.map_cons,Option.some.injEq,List.cons.injEq] at h;refine⟨by rw[hv,h.1],Ji (by rw[hl,h.2])⟩
  ·cases h
theorem Bp: ∀{A B env:Env},sub A env->sub B env->sub (A++B) env
 |[],_,_,_,h=>h
 |_::_,_,_,h1,h2=>⟨h1.1,Bp h1.2 h2⟩
theorem oi {α:Type} {a b:α} (h:some a=some b):a=b:=Option.some.inj h
section
variable {n : Nat} {Q0 : Exit -> Act -> World -> Prop} {env E : Env} {HL G : List Hp} {F : Act -> World -> Prop}
theorem ke (ks js:List Nat) (h1:nE ks env=some E) (h2:nH js HL=some G) (h:aH W n F E G):aH W n F env HL:=LR E js G (wo h1) (Hb h2) h
theorem ks {H:Hp} (ks:List Nat) (h1:nE ks env=some E) (h:At W n F E H):At W n F env H:=Ze E (wo h1) h
theorem kf (ks js:List Nat) (Ec:Env) (hE:nE ks env=some E) (hG:nH js HL=some G) (hc:sub Ec env) (h:aH W n F (E++Ec) G):aH W n F env HL:=LR _ js G (Bp (wo hE) hc) (Hb hG) h
theorem kg (ks js Ur:List Nat) (Ec:Env) (Gc:List Hp) (hE:nE ks env=some E) (hG:nH js HL=some G) (hc:sub Ec env) (hh:pick Ur HL=G++Gc) (h:aH W n F (E++Ec) (G++Gc)):aH W n F env HL:=LR _ Ur _ (Bp (wo hE) hc) hh h
theorem am {σ:Type} {I:σ->Prop} {E:σ->Env} {G:σ->List Hp} (s:σ) (js:List Nat) (hi:I s) (hs:gE (E s) env=some ((E s).map (·.2))) (hh:pick js HL=G s):aH W n (DH W n I E G) env HL:=
 Y1 s js hi (Ji hs) hh
theorem ar {τ:Type} {I:Nat×τ->Prop} {E:Nat×τ->Env} {G:Nat×τ->List Hp} {k:Nat} {t:τ} (t':τ) (js:List Nat) (hi:I (k,t')) (hs:gE (E (k,t')) env=some ((E (k,t')).map (·.2))) (hh:pick js HL=G (k,t')):
 aH W n (Round W n I E (λs=>(G s).flatten) (λs=>s.1) (k+1,t)) env HL:=
 Y8 (k,t') js hi (Nat.lt_succ_self k) (Ji hs) hh
theorem lq {c:Code} {K:List Fr} {τ:Type} (ks js:List Nat) (f:Nat×τ->Prop×Env×List Hp) (hE:nE ks env=some E) (hG:nH js HL=some G) (s0:Nat×τ) (Uq:List Nat) (hi:(f s0).1)
 (hs:gE (f s0).2.1 env=some ((f s0).2.1.map (·.2))) (hh:pick Uq HL=G++(f s0).2.2)
 (round: ∀k t,(f (k+1,t)).1->aH W n (c.wp P (den P Q0 (.mid (Round W n (λs=>(f s).1) (λs=>E++(f s).2.1) (λs=>(G++(f s).2.2).flatten) (λs=>s.1) (k+1,t))::K))) (E++(f (k+1,t)).2.1) (G++(f (k+1,t)).2.2))
 (hz: ∀t,(f (0,t)).1->False:=by intro _ h;first |(cases h.1;done) |(cases h;done)):aH W n ((Code.loop c).wp P (den P Q0 K)) env HL:=
 Qo (λs=>(f s).1) (λs=>E++(f s).2.1) (λs=>G++(f s).2.2) (λs=>s.1) s0 Uq hi (Bp (wo hE) (Ji hs)) hh (λ⟨k,t⟩ h=>by
  cases k with
  |zero=>exact(hz t h).elim
  |succ k=>exact round k t h)
theorem lu {c:Code} {K:List Fr} (ks js:List Nat) (hE:nE ks env=some E) (hG:nH js HL=some G)
 (round:aH W n (c.wp P (den P Q0 (.mid (Round W n (λ_:Unit=>True) (λ_=>E) (λ_=>G.flatten) (λ_=>0) ())::K))) E G):aH W n ((Code.loop c).wp P (den P Q0 K)) env HL:=
 Qo (λ_:Unit=>True) (λ_=>E) (λ_=>G) (λ_=>0) () js trivial (wo hE) (Hb hG) (λ_ _=>round)
theorem mq {x y:Code} {K:List Fr} {σ β γ:Type} {X:Option β} {g:β->Option γ} {z:γ} (e:X.bind g=some z) (ks js:List Nat) (f:β->σ->Prop×Env×List Hp) (hE:nE ks env=some E) (hG:nH js HL=some G)
 (h1: ∀v,X=some v->g v=some z->aH W n (x.wp P (den P Q0 (.mid (DH W n (λs=>(f v s).1) (λs=>E++(f v s).2.1) (λs=>G++(f v s).2.2))::K))) env HL)
 (h2: ∀v s,(f v s).1->g v=some z->aH W n (y.wp P (den P Q0 K)) (E++(f v s).2.1) (G++(f v s).2.2)):aH W n ((Code.seq x y).wp P (den P Q0 K)) env HL:=by
 obtain⟨v,e1,e2⟩:=gu e;exact Y_ _ _ _ (h1 v e1 e2) (λs hs=>h2 v s hs e2)
theorem mn {x:Code} {K:List Fr} {σ β γ:Type} {X:Option β} {g:β->Option γ} {z:γ} (e:X.bind g=some z) (ks js:List Nat) (f:β->σ->Prop×Env×List Hp) (hE:nE ks env=some E) (hG:nH js HL=some G)
 (h1: ∀v,X=some v->g v=some z->aH W n (x.wp P (den P Q0 (.mid (DH W n (λs=>(f v s).1) (λs=>E++(f v s).2.1) (λs=>G++(f v s).2.2))::K))) env HL)
 (h2: ∀v s,(f v s).1->g v=some z->aH W n (den P Q0 K .normal) (E++(f v s).2.1) (G++(f v s).2.2)):aH W n (x.wp P (den P Q0 K)) env HL:=by
 obtain⟨v,e1,e2⟩:=gu e;exact YI _ _ _ (h1 v e1 e2) (λs hs=>h2 v s hs e2)
end
end
section
variable {W : World} {P : Program}
def wR:Nat->List Value->List Value->List Value
 |_,[],cs=>cs
 |0,v::vs,_::cs=>v::wR 0 vs cs
 |k+1,vs,c::cs=>c::wR k vs cs
 |_,_,[]=>[]
theorem WM: ∀(vs cs:List Value),vs.length<=cs.length->wR 0 vs cs=vs++cs.drop vs.length
 |[],cs,_=>by cases cs<;>simp[wR]
 |v::vs,[],h=>by simp at h
 |v::vs,c::cs,h=>by simp only[wR,WM vs cs (by simpa using h),List.length_cons,List.drop_succ_cons,List.cons_append]
theorem WN: ∀(k:Nat) (vs cs:List Value),k+vs.length<=cs.length->gj cs k vs=wR k vs cs
 |0,vs,cs,h=>by rw[WM vs cs U];simp[gj]
 |k+1,vs,[],h=>by simp at h
 |k+1,[],c::cs,h=>by simp[gj,wR]
 |k+1,v::vs,c::cs,h=>by
  have:=WN k (v::vs) cs (by simp at h⊢;omega)
  simp only[gj] at this⊢;simp only[wR,<-this,List.take_succ_cons,List.cons_append];rw[show k+1+(v::vs).length=(k+(v::vs).length)+1 from by omega,List.drop_succ_cons]
def HR (T:Ty P) (ops:Array Oper) (env:Env) (i:Nat):Option (Nat×Nat×List Value):=
 match sL ops env i with
 |none=>none
 |some o=>match o.op with
  | .store t x y=>match ev env x,ev env y,T.inf t with
   |some (.pointer (some ⟨b,off,none⟩)),some v,some (sz,_,_)=>bif Nat.beq (bL v).length sz&&(bL v).all Value.oneCell' then some (b,off,bL v) else none
   |_,_,_=>none
  |_=>none
section
variable {n : Nat} {Q : Exit -> Act -> World -> Prop} {env : Env} {HL : List Hp} {ops : Array Oper} {i : Nat} {rest : List Nat} {K : Act -> World -> Prop}
theorem ahO {T:Ty P} {b off:Nat} {vs:List Value} (h:HR T ops env i=some (b,off,vs)):
 ∃o t x y v sz by' z,sL ops env i=some o/\o.op= .store t x y/\ev env x=some (.pointer (some ⟨b,off,none⟩))/\ev env y=some v/\T.inf t=some (sz,by',z)/\(bL v).length=sz/\(bL v).all Value.oneCell'=true/\bL v=vs:=by
 unfold HR at h;split at h
 ·cases h
 ·rename_i o ho;split at h
  ·rename_i t x y aR;split at h
   ·rename_i b' CT v sz by' z hx hy hi
    cases hc:(Nat.beq (bL v).length sz&&(bL v).all Value.oneCell') with
    |false=>rw[hc] at h;cases h
    |true=>
     rw[hc] at h;simp only[cond_true,Option.some.injEq,Prod.mk.injEq] at h;obtain⟨rfl,rfl,rfl⟩:=h;simp only[Bool.and_eq_true] at hc;exact⟨o,t,x,y,v,sz,by',z,ho,aR,hx,hy,hi,Nat.eq_of_beq_eq_true hc.1,hc.2,rfl⟩
   ·cases h
  ·cases h
theorem st (T:Ty P) {b off:Nat} {vs:List Value} {arr:Array Value} {E:TypeId} {Hr:Hp} (j:Nat) (h1:HR T ops env i=some (b,off,vs)) (hj:idx j HL=some ((b,.cells arr E (0,0))::Hr)) (hb:Nat.ble (off+vs.length) arr.size=true)
 (h:aH W n K env (HL.set j ((b,.cells (wR off vs arr.toList).toArray E (0,0))::Hr))):aH W n (wpOp P ops Q i K) env HL:=by
 obtain⟨o,t,x,y,v,sz,by',z,a1,a2,a3,a4,a5,a6,a7,rfl⟩:=ahO h1
 have kn:=Nat.le_of_ble_eq_true hb;exact Za T j _ a1 a2 a3 a4 a5 hj (by rw[a6];simp) a7 (by rw[<-a6];exact hb) (WN _ _ _ (by simpa using kn)) h
theorem sc (T:Ty P) {b off:Nat} {vs:List Value} {arr:Array Value} {E:TypeId} {Hr:Hp} (j:Nat) (h1:HR T ops env i=some (b,off,vs)) (hj:idx j HL=some ((b,.cells arr E (0,0))::Hr)) (hb:Nat.ble (off+vs.length) arr.size=true)
 (h:aH W n (wpOps P ops Q rest) env (HL.set j ((b,.cells (wR off vs arr.toList).toArray E (0,0))::Hr))):aH W n (wpOps P ops Q (i::rest)) env HL:=aV (st T j h1 hj hb h)
def OB (T:Ty P) (n:Nat) (ops:Array Oper) (env:Env) (i:Nat):Option (Nat×Nat×List Value):=
 match slot n ops env i with
 |none=>none
 |some (o,d)=>match o.op with
  | .alloc t=>match T.inf t with
   |some (_,_,z)=>some (d,t,bL z)
   |none=>none
  | .box t x=>match ev env x with
   |some v=>some (d,t,bL v)
   |none=>none
  |_=>none
theorem nw (T:Ty P) {d t:Nat} {cs:List Value} (h1:OB T n ops env i=some (d,t,cs)) (h: ∀b,aH W n K ((d,.pointer (some ⟨b,0,none⟩))::env) (HL++[[(b,Obj.cells cs.toArray t (0,0))]])):aH W n (wpOp P ops Q i K) env HL:=by
 unfold OB at h1;split at h1
 ·cases h1
 ·rename_i o d' hs;split at h1
  ·rename_i t' aR;split at h1
   ·rename_i sz by' z hi
    simp only[Option.some.injEq,Prod.mk.injEq] at h1;obtain⟨rfl,rfl,rfl⟩:=h1;exact YG T _ hs aR hi rfl h
   ·cases h1
  ·rename_i t' x aR;split at h1
   ·rename_i v hx;simp only[Option.some.injEq,Prod.mk.injEq] at h1;obtain⟨rfl,rfl,rfl⟩:=h1;exact Ql T _ hs aR hx rfl h
   ·cases h1
  ·cases h1
theorem nc (T:Ty P) {d t:Nat} {cs:List Value} (h1:OB T n ops env i=some (d,t,cs)) (h: ∀b,aH W n (wpOps P ops Q rest) ((d,.pointer (some ⟨b,0,none⟩))::env) (HL++[[(b,Obj.cells cs.toArray t (0,0))]])):aH W n (wpOps P ops Q (i::rest)) env HL:=aV (nw T h1 h)
def cut:Nat->Nat->List Value->List Value
 |_,0,_=>[]
 |0,k+1,c::cs=>c::cut 0 k cs
 |o+1,k+1,_::cs=>cut o (k+1) cs
 |_,_+1,[]=>[]
theorem Mg: ∀(o k:Nat) (cs:List Value) (j:Nat) (v:Value),(cut o k cs)[j]? =some v->cs[o+j]? =some v
 |_,0,_,_,_,h=>by simp[cut] at h
 |0,k+1,c::cs,0,v,h=>by simpa[cut] using h
 |0,k+1,c::cs,j+1,v,h=>by
  have:=Mg 0 k cs j v (by simpa[cut] using h)
  simpa using this
 |o+1,k+1,c::cs,j,v,h=>by
  have:=Mg o (k+1) cs j v (by simpa[cut] using h)
  rw[show o+1+j=o+j+1 from by omega];simpa using this
 |0,_+1,[],_,_,h=>by simp[cut] at h
 |_+1,_+1,[],_,_,h=>by simp[cut] at h
theorem aeb {j b:Nat} {ar:Array Value} {E:TypeId} {fr:Nat×Nat} {Hr:Hp} {off k:Nat} (hj:idx j HL=some ((b,.cells ar E fr)::Hr)):
 ∃arr E fr,(b,Obj.cells arr E fr)∈HL.flatten/\ ∀j v,(cut off k ar.toList)[j]? =some v->arr[off+j]? =some v:=
 ⟨ar,E,fr,gY (by rw[<-idx_eq];exact hj) (List.mem_cons_self ..),λj v h=>by simpa using Mg _ _ _ _ _ h⟩
theorem gA (T:Ty P) {b off t:Nat} {x:Operand} {td:TypeDesc} {sz by':Nat} {z:Value} {arr:Array Value} {E:TypeId} {fr:Nat×Nat} {Hr:Hp} {o:Oper} (j:Nat) (aR:o.op= .load t x) (hx:ev env x=some (.pointer (some ⟨b,off,none⟩)))
 (hu:T.bW t=some td) (ha:nK td=true) (hi:T.inf t=some (sz,by',z)) (hj:idx j HL=some ((b,.cells arr E fr)::Hr)) (hl:Nat.beq (cut off sz arr.toList).length sz=true):gS W P n env HL.flatten o (.agg (cut off sz arr.toList).toArray):=
 gd T aR hx hu ha hi (Nat.eq_of_beq_eq_true hl) (aeb hj)
def N9 (T:Ty P) (n:Nat) (ops:Array Oper) (env:Env) (i:Nat):Option (Nat×Nat×Nat×Nat):=
 match slot n ops env i with
 |none=>none
 |some (o,d)=>match o.op with
  | .load t x=>match ev env x,T.bW t,T.inf t with
   |some (.pointer (some ⟨b,off,none⟩)),some td,some (sz,_,_)=>bif nK td then some (d,b,off,sz) else none
   |_,_,_=>none
  |_=>none
theorem la (T:Ty P) {d b off sz:Nat} {arr:Array Value} {E:TypeId} {fr:Nat×Nat} {Hr:Hp} (j:Nat) (h1:N9 T n ops env i=some (d,b,off,sz)) (hj:idx j HL=some ((b,.cells arr E fr)::Hr)) (hl:Nat.beq (cut off sz arr.toList).length sz=true)
 (h:aH W n (wpOps P ops Q rest) ((d,.agg (cut off sz arr.toList).toArray)::env) HL):aH W n (wpOps P ops Q (i::rest)) env HL:=by
 unfold N9 at h1;split at h1
 ·cases h1
 ·rename_i o d' hs;split at h1
  ·rename_i t x aR;split at h1
   ·rename_i b' CT td sz' by' z hx hu hi
    cases ha:nK td with
    |false=>rw[ha] at h1;cases h1
    |true=>
     rw[ha] at h1;simp only[cond_true,Option.some.injEq,Prod.mk.injEq] at h1;obtain⟨rfl,rfl,rfl,rfl⟩:=h1;exact bx hs (gA T j aR hx hu ha hi hj hl) h
   ·cases h1
  ·cases h1
def tmps (env:Env):List ResultVar->Option (List Value)
 |[]=>some []
 | .tmp t::rs=>match lk t env,tmps env rs with
  |some v,some vs=>some (v::vs)
  |_,_=>none
 |_::_=>none
theorem W1 {T:Ty P} {H:Hp}: ∀{rs:List ResultVar} {vs:List Value},tmps env rs=some vs->nI T env H rs vs
 |[],_,h=>by simp only[tmps,Option.some.injEq] at h;subst h;exact .nil
 | .tmp t::rs,vs,h=>by
  unfold tmps at h;split at h
  ·rename_i v vs' hv hr;simp only[Option.some.injEq] at h;subst h;exact .tmp hv (W1 hr)
  ·cases h
 | .cell _ _::_,_,h=>by cases h
theorem pv {fn:Func} {v:Value} {R:Ending->World->Prop} (T:Ty P) (hr:(tmps env fn.results.toList).map zR=some v) (h: ∀w,bl W w HL.flatten->R (.returned v) w):aH W n (bodyPost P fn R .ret) env HL:=by
 cases ht:tmps env fn.results.toList with
 |none=>rw[ht] at hr;cases hr
 |some vs=>
  rw[ht] at hr;simp only[Option.map_some,Option.some.injEq] at hr;subst hr;exact FJ (T:=T) rfl (W1 ht) h
theorem p1 (T:Ty P) {fn:Func} {R:Value->List Hp->Prop} {A:List Hp} {F:Hp} {v:Value} {g:List Hp} (hr:(tmps env fn.results.toList).map zR=some v) (js:List Nat) (h:R v g) (hg:pick js HL=(g++A)++[F]):
 aH W n (bodyPost P fn (λe w'=> ∃b:{qp:Value×List Hp // R qp.1 qp.2},e= .returned b.1.1/\bl W w' ((b.1.2++A)++[F]).flatten) .ret) env HL:=
 pv T hr (λ_ o=>⟨⟨(v,g),h⟩,rfl,CZ js hg o⟩)
theorem p0 (T:Ty P) {fn:Func} {G:List Hp} {v:Value} (hr:(tmps env fn.results.toList).map zR=some v) (js:List Nat) (hg:pick js HL=G):
 aH W n (bodyPost P fn (λe w'=> ∃_:Unit,e= .returned v/\bl W w' G.flatten) .ret) env HL:=
 pv T hr (λ_ o=>⟨(),rfl,CZ js hg o⟩)
end
abbrev CR (P:Program) (f:FuncId) (as:List Value) (Hs A:List Hp) (F:Hp) (R:Value->List Hp->Prop):Prop:=
 gR P f as (Hs++[F]) (λqp:{qp:Value×List Hp // R qp.1 qp.2}=>qp.1.1) (λqp=>(qp.1.2++A)++[F])
abbrev CU (P:Program) (f:FuncId) (as:List Value) (Hs:List Hp) (F:Hp) (v:Value):Prop:=
 gR P f as (Hs++[F]) (λ_:Unit=>v) (λ_=>Hs++[F])
abbrev pp (b:Nat):Value:= .pointer (some ⟨b,0,none⟩)
abbrev ii (x:Int):Value:= .int .i64 x
abbrev uu (x:Int):Value:= .int .u64 x
abbrev bb (x:Bool):Value:= .bool x
abbrev ll {α:Type} (a:Option Addr) (l:List α) (n:Nat):Value:= .slice a l.length n
abbrev nl:Value:= .slice none 0 0
abbrev cl (b t:Nat) (l:List Value):Hp:=[(b,Obj.cells l.toArray t (0,0))]
end
section
variable {W : World} {P : Program}
section
variable {n : Nat} {Q : Exit -> Act -> World -> Prop} {env : Env} {ops : Array Oper} {i : Nat} {o : Oper} {HL : List Hp} {late : List Nat} {A : List (List Nat)} {H0 : List Hp} {fuel : Nat} {listed : Array Bool}
theorem so (js:List Nat) (h:pick js HL=H0:=by rfl):pk W late listed HL H0:=ahX js h
theorem sz (h:HL=H0:=by rfl):pk W late listed HL H0:= .inr λ_ o=>by subst h;exact o
theorem sl (h:ri late listed=false:=by kernel_rfl):pk W late listed HL H0:= .inl h
theorem rg (late js:List Nat) {id:Nat} (hm:P.follows .mixedOrders=true) (jC:PF Q)
 (h:oJ ops (DL ops)=true->PF Q->aH W n (gz P ops Q (SO W (pick js HL)) late ops.size (Array.replicate ops.size false)) env HL) (hg:oJ ops (DL ops)=true:=by kernel_rfl):
 aH W n ((Code.region id ops true).wp P Q) env HL:=Qt _ late _ hm hg jC h
theorem rz (late:List Nat) {id:Nat} (hm:P.follows .mixedOrders=true) (jC:PF Q)
 (h:oJ ops (DL ops)=true->PF Q->aH W n (gz P ops Q (SO W HL) late ops.size (Array.replicate ops.size false)) env HL) (hg:oJ ops (DL ops)=true:=by kernel_rfl):
 aH W n ((Code.region id ops true).wp P Q) env HL:=Qt _ late _ hm hg jC h
theorem ha (T:Ty P) (fu:Nat) (l:List Nat) {env fC:Env} {m:Nat} {listed:Array Bool} (hS: ∀{listed},pk W late listed HL H0) (hg:oJ ops A=true) (jC:PF Q) (hr:rn T n ops l env=some fC)
 (h:aH W n (gz P ops Q (SO W H0) late fu (l.foldl (λa i=>a.setIfInBounds i true) listed)) fC HL) (hm:m=fu+l.length:=by rfl) (hb:takes ops A late listed l=true:=by kernel_rfl):aH W n (gz P ops Q (SO W H0) late m listed) env HL:=
 hs T fu l hm hg jC hb (λ_=>hS) hr h
theorem hb (T:Ty P) (i:Nat) {e:Nat×Value} (hS:pk W late listed HL H0) (hg:oJ ops A=true) (jC:PF Q) (hs:z7 T n ops env i=some e)
 (h:aH W n (gz P ops Q (SO W H0) late fuel (listed.setIfInBounds i true)) (e::env) HL) (hb:Bs ops A late listed i=true:=by kernel_rfl):aH W n (gz P ops Q (SO W H0) late (fuel+1) listed) env HL:=QA T i hg jC hb hS hs h
theorem av (i:Nat) {d:Nat} {v:Value} (hS:pk W late listed HL H0) (hg:oJ ops A=true) (jC:PF Q) (hs:slot n ops env i=some (o,d)) (hv:gS W P n env H0.flatten o v)
 (h:aH W n (gz P ops Q (SO W H0) late fuel (listed.setIfInBounds i true)) ((d,v)::env) HL) (hb:Bs ops A late listed i=true:=by kernel_rfl) (hl:(late.all λj=>(A.getD j []).contains i)=true:=by rfl):
 aH W n (gz P ops Q (SO W H0) late (fuel+1) listed) env HL:=Zo i hg jC hb hS hl hs hv h
theorem an (hS:pk W late listed HL H0) (h:aH W n (gz P ops Q (SO W H0) late fuel listed) env HL):aH W n (rQ W P ops Q H0 late fuel listed) env HL:=Zk hS h
theorem ao (i:Nat) (h:aH W n (wpOp P ops Q i (rQ W P ops Q H0 late fuel (listed.setIfInBounds i true))) env HL) (hr:Region.ready .any ops listed=[i]:=by kernel_rfl):
 aH W n (gz P ops Q (SO W H0) late (fuel+1) listed) env HL:=Zl i hr h
theorem gM (i j:Nat) (h1:aH W n (wpOp P ops Q i (rQ W P ops Q H0 late fuel (listed.setIfInBounds i true))) env HL)
 (h2:aH W n (wpOp P ops Q j (rQ W P ops Q H0 late fuel (listed.setIfInBounds j true))) env HL) (hr:Region.ready .any ops listed=[i,j]:=by kernel_rfl):
 aH W n (gz P ops Q (SO W H0) late (fuel+1) listed) env HL:=Zn i j hr h1 h2
theorem Qj (i j m:Nat) (h1:aH W n (wpOp P ops Q i (rQ W P ops Q H0 late fuel (listed.setIfInBounds i true))) env HL)
 (h2:aH W n (wpOp P ops Q j (rQ W P ops Q H0 late fuel (listed.setIfInBounds j true))) env HL)
 (h3:aH W n (wpOp P ops Q m (rQ W P ops Q H0 late fuel (listed.setIfInBounds m true))) env HL) (hr:Region.ready .any ops listed=[i,j,m]:=by kernel_rfl):
 aH W n (gz P ops Q (SO W H0) late (fuel+1) listed) env HL:=Zm i j m hr h1 h2 h3
theorem ae (h:aH W n (Q .normal) env HL) (hr:Region.ready .any ops listed=[]:=by kernel_rfl):aH W n (gz P ops Q (SO W H0) late fuel listed) env HL:=Zj hr h
end
end
section
variable {W : World} {P : Program}
section
variable {n : Nat} {Q : Exit -> Act -> World -> Prop} {env E : Env} {H : Hp} {ops : Array Oper}
theorem ga (T:Ty P) (l1:List Nat) {l2:List Nat} (s:Nat) (ks:List Nat) (d:Nat) {c x:Bool} {e1 e2:Env} (hs:lk s env=some (.bool c))
 (h1:rn T n ops l1 ((s,.bool true)::env)=some e1) (h2:rn T n ops l1 ((s,.bool false)::env)=some e2) (k1:lk d e1=some (.bool x)) (k2:lk d e2=some (.bool false))
 (hE:nE ks e1=some E) (F8:nE ks e2=some E) (h:At W n (wpOps P ops Q l2) (E++[(d,.bool (c&&x))]) H):At W n (wpOps P ops Q (l1++l2)) env H:=
 Qn T l1 (E++[(d,.bool (c&&x))]) hs h1 h2 (λhc=>Bp (B:=[(d,.bool (c&&x))]) (wo hE) ⟨by rw[k1,hc,Bool.true_and],trivial⟩) (λhc=>Bp (B:=[(d,.bool (c&&x))]) (wo F8) ⟨by rw[k2,hc,Bool.false_and],trivial⟩) h
theorem go (T:Ty P) (l1:List Nat) {l2:List Nat} (s:Nat) (ks:List Nat) (d:Nat) {c x:Bool} {e1 e2:Env} (hs:lk s env=some (.bool c))
 (h1:rn T n ops l1 ((s,.bool true)::env)=some e1) (h2:rn T n ops l1 ((s,.bool false)::env)=some e2) (k1:lk d e1=some (.bool true)) (k2:lk d e2=some (.bool x))
 (hE:nE ks e1=some E) (F8:nE ks e2=some E) (h:At W n (wpOps P ops Q l2) (E++[(d,.bool (c||x))]) H):At W n (wpOps P ops Q (l1++l2)) env H:=
 Qn T l1 (E++[(d,.bool (c||x))]) hs h1 h2 (λhc=>Bp (B:=[(d,.bool (c||x))]) (wo hE) ⟨by rw[k1,hc,Bool.true_or],trivial⟩) (λhc=>Bp (B:=[(d,.bool (c||x))]) (wo F8) ⟨by rw[k2,hc,Bool.false_or],trivial⟩) h
end
section
variable {HL : List Hp}
theorem rO {α:Type} {k:Fl α} {xs:List α} {a:Option Addr} {F:Hp} (h:aP k xs a F) (j:Nat) (hj:idx j HL=some F:=by rfl):aP k xs a HL.flatten:=agS h hj
theorem oO {α:Type} {k:Fl α} {E:Nat} {xs:List α} {a:Option Addr} {n:Nat} {F:Hp} (h:ak k E xs a n F) (j:Nat) (hj:idx j HL=some F:=by rfl):aP k xs a HL.flatten:=Vp h hj
end
section
variable {n : Nat} {Q : Exit -> Act -> World -> Prop} {env : Env} {HL : List Hp} {ops : Array Oper} {i : Nat} {rest : List Nat}
def Uo (T:Ty P) (n:Nat) (ops:Array Oper) (env:Env) (i:Nat):Option (Nat×Option Addr×Nat×Int×Nat):=
 match slot n ops env i with
 |none=>none
 |some (o,d)=>match o.op with
  | .indexAddr t x y=>match ev env x,ev env y,T.bW t with
   |some (.slice a m _),some (.int _ j),some (.slice E)=>match T.inf E with
    |some (sz,_,_)=>some (d,a,m,j,sz)
    |none=>none
   |_,_,_=>none
  |_=>none
theorem ix (T:Ty P) {d m sz b off:Nat} {a:Option Addr} {j:Int} (h1:Uo T n ops env i=some (d,a,m,j,sz)) (ha:a=some ⟨b,off,none⟩) (hc:0<=j/\j<(m:Int))
 (h:aH W n (wpOps P ops Q rest) ((d,.pointer (some ⟨b,off+j.toNat*sz,none⟩))::env) HL):aH W n (wpOps P ops Q (i::rest)) env HL:=by
 unfold Uo at h1;split at h1
 ·cases h1
 ·rename_i o d' hs;split at h1
  ·rename_i t x y aR;split at h1
   ·rename_i a' m' cp kk j' E hx hy hu;split at h1
    ·rename_i sz' by' z hi
     simp only[Option.some.injEq,Prod.mk.injEq] at h1;obtain⟨rfl,rfl,rfl,rfl,rfl⟩:=h1;exact bx hs (cB T aR hx hy hu hi ha hc.1 hc.2) h
    ·cases h1
   ·cases h1
  ·cases h1
theorem le {α:Type} [Inhabited α] {k:Fl α} (T:Ty P) {d b off:Nat} {v:Value} {xs:List α} {a:Option Addr} {j:Int} (f:Nat) (hr:aP k xs a HL.flatten) (ha:a=some ⟨b,off,none⟩) (hj:0<=j/\j<(xs.length:Int)) (h1:CD T n ops env i=some (d,b,off+j.toNat*k.size+f)) (hc:idx f (k.enc (rd xs j))=some v)
 (h:aH W n (wpOps P ops Q rest) ((d,v)::env) HL):aH W n (wpOps P ops Q (i::rest)) env HL:=lg T h1 (fv hr ha hj f hc) h
end
section
variable {n : Nat} {Q : Exit -> Act -> World -> Prop} {env : Env} {HL jw : List Hp} {ops : Array Oper} {i : Nat} {rest : List Nat} {K : Act -> World -> Prop}
def UG (T:Ty P) (n:Nat) (ops:Array Oper) (env:Env) (i j:Nat) (HL:List Hp):Option (Nat×Nat×Nat×Value):=
 match CD T n ops env i,idx j HL with
 |some (d,b,off),some ((b',.cells arr _ _)::_)=>match idx off arr.toList with
  |some v=>some (d,b,b',v)
  |none=>none
 |_,_=>none
theorem lf (T:Ty P) {d b:Nat} {v:Value} (j:Nat) (h1:UG T n ops env i j HL=some (d,b,b,v)) (h:aH W n (wpOps P ops Q rest) ((d,v)::env) HL):aH W n (wpOps P ops Q (i::rest)) env HL:=by
 unfold UG at h1;split at h1
 ·rename_i d' b' off QD arr E fr Hr ha hj;split at h1
  ·rename_i v' hv;simp only[Option.some.injEq,Prod.mk.injEq] at h1;obtain⟨rfl,rfl,rfl,rfl⟩:=h1;exact ld T j ha hj hv h
  ·cases h1
 ·cases h1
def UA (T:Ty P) (n:Nat) (ops:Array Oper) (env:Env) (i j:Nat) (HL:List Hp):Option (Nat×Nat×Nat×List Value):=
 match N9 T n ops env i,idx j HL with
 |some (d,b,off,sz),some ((b',.cells arr _ _)::_)=>bif Nat.beq (cut off sz arr.toList).length sz then some (d,b,b',cut off sz arr.toList) else none
 |_,_=>none
theorem lm (T:Ty P) {d b:Nat} {cs:List Value} (j:Nat) (h1:UA T n ops env i j HL=some (d,b,b,cs)) (h:aH W n (wpOps P ops Q rest) ((d,.agg cs.toArray)::env) HL):aH W n (wpOps P ops Q (i::rest)) env HL:=by
 unfold UA at h1;split at h1
 ·rename_i d' b' off sz QD arr E fr Hr ha hj
  cases hc:Nat.beq (cut off sz arr.toList).length sz with
  |false=>rw[hc] at h1;cases h1
  |true=>
   rw[hc] at h1;simp only[cond_true,Option.some.injEq,Prod.mk.injEq] at h1;obtain⟨rfl,rfl,rfl,rfl⟩:=h1;exact la T j ha hj hc h
 ·cases h1
def HQ (T:Ty P) (ops:Array Oper) (env:Env) (i j:Nat) (HL:List Hp):Option (Nat×Nat×List Hp):=
 match HR T ops env i,idx j HL with
 |some (b,off,vs),some ((b',.cells arr E (0,0))::Hr)=>bif Nat.ble (off+vs.length) arr.size then some (b,b',HL.set j ((b',.cells (wR off vs arr.toList).toArray E (0,0))::Hr)) else none
 |_,_=>none
theorem sf (T:Ty P) {b:Nat} (j:Nat) (h1:HQ T ops env i j HL=some (b,b,jw)) (h:aH W n K env jw):aH W n (wpOp P ops Q i K) env HL:=by
 unfold HQ at h1;split at h1
 ·rename_i b' off vs QD arr E Hr ha hj
  cases hc:Nat.ble (off+vs.length) arr.size with
  |false=>rw[hc] at h1;cases h1
  |true=>
   rw[hc] at h1;simp only[cond_true,Option.some.injEq,Prod.mk.injEq] at h1;obtain⟨rfl,rfl,rfl⟩:=h1;exact st T j ha hj hc h
 ·cases h1
theorem sg (T:Ty P) {b:Nat} (j:Nat) (h1:HQ T ops env i j HL=some (b,b,jw)) (h:aH W n (wpOps P ops Q rest) env jw):aH W n (wpOps P ops Q (i::rest)) env HL:=aV (sf T j h1 h)
end
def fH:List Hp->Option (List Hp)
 |[]=>some []
 |A::r=>match fH r with
  |some r'=>some (A::r')
  |none=>none
theorem Cc: ∀{l r:List Hp},fH l=some r->l=r
 |[],_,h=>by simpa[fH] using h
 |A::l,r,h=>by
  unfold fH at h;split at h
  ·rename_i r' hr;simp only[Option.some.injEq] at h;subst h;rw[Cc hr]
  ·cases h
theorem fz {n:Nat} {F:Act->World->Prop} {env:Env} {HL jw:List Hp} (h:fH HL=some jw) (h':aH W n F env jw):aH W n F env HL:=by rw[Cc h];exact h'
section
variable {W : World} {P : Program} {n : Nat} {Q : Exit -> Act -> World -> Prop} {env : Env} {ops : Array Oper} {HL : List Hp} {late : List Nat} {A : List (List Nat)} {H0 : List Hp} {fuel : Nat} {listed : Array Bool}
theorem al (T:Ty P) (i j:Nat) {d b off:Nat} {v:Value} {arr:Array Value} {E:TypeId} {fr:Nat×Nat} {Hr:Hp} (hS:pk W late listed HL H0) (hg:oJ ops A=true) (jC:PF Q) (h1:CD T n ops env i=some (d,b,off)) (hj:idx j H0=some ((b,.cells arr E fr)::Hr)) (hv:idx off arr.toList=some v)
 (h:aH W n (gz P ops Q (SO W H0) late fuel (listed.setIfInBounds i true)) ((d,v)::env) HL) (hb:Bs ops A late listed i=true:=by kernel_rfl) (hl:(late.all λj=>(A.getD j []).contains i)=true:=by rfl):
 aH W n (gz P ops Q (SO W H0) late (fuel+1) listed) env HL:=
 let⟨_,_,_,_,h2,h3,h4,h5,h6⟩:=Oc h1
 av i hS hg jC h2 (cC T h3 h4 h5 h6 (N7 (j:=j) hj hv)) h hb hl
def UH (T:Ty P) (n:Nat) (ops:Array Oper) (env:Env) (o:Oper):Option (Nat×Nat×Nat):=
 match want ops env o,o.dst,o.op with
 |some true,some d,.load t x=>match ev env x,T.bW t with
  |some (.pointer (some ⟨b,off,none⟩)),some td=>bif Nat.blt d n&&!nK td then some (d,b,off) else none
  |_,_=>none
 |_,_,_=>none
theorem cw (T:Ty P) (j:Nat) {o:Oper} {d b off:Nat} {v:Value} {arr:Array Value} {E:TypeId} {fr:Nat×Nat} {Hr:Hp} {l:List Oper} {F:Act->Prop} (h1:UH T n ops env o=some (d,b,off)) (hj:idx j HL=some ((b,.cells arr E fr)::Hr)) (hv:idx off arr.toList=some v)
 (h:iE W P n ops HL.flatten l F ((d,v)::env)):iE W P n ops HL.flatten (o::l) F env:=by
 unfold UH at h1;split at h1
 ·rename_i d' t x hw hd aR;split at h1
  ·rename_i b' CT td hx hu
   cases hc:(Nat.blt d' n&&!nK td) with
   |false=>rw[hc] at h1;cases h1
   |true=>
    rw[hc] at h1;simp only[cond_true,Option.some.injEq,Prod.mk.injEq] at h1;obtain⟨rfl,rfl,rfl⟩:=h1;simp only[Bool.and_eq_true,Bool.not_eq_true'] at hc;exact bg hw hd hc.1 (cC T aR hx hu hc.2 (N7 (j:=j) hj hv)) h
  ·cases h1
 ·cases h1
end
end
end Go.Hx
