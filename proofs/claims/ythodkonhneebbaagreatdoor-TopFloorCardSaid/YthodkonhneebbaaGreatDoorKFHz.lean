/- The logic of this claim, the last rules: calls by places, and more. -/
import Derived.KernelRfl
import Derived.Test.YthodkonhneebbaaGreatDoorKFHy
namespace Go.Hx
set_option autoImplicit true
set_option relaxedAutoImplicit true
set_option linter.unusedVariables false
set_option linter.unusedSimpArgs false
set_option linter.unusedSectionVars false
section
variable {W : World}
variable {P : Program}
def cG:Option Hp->List Hp->List Hp
 |some A,r=>A::r
 |none,r=>[]::r
def sA:List Nat->List Hp->List Hp
 |[],_=>[]
 |j::js,HL=>cG (idx j HL) (sA js (HL.eraseIdx j))
def sR:List Nat->List Hp->List Hp
 |[],HL=>HL
 |j::js,HL=>sR js (HL.eraseIdx j)
theorem AU: ∀(js:List Nat) (HL:List Hp),pW js HL=(sA js HL,sR js HL)
 |[],_=>rfl
 |j::js,HL=>by
  unfold pW sA sR;rw[AU js (HL.eraseIdx j)]
  cases idx j HL<;>rfl
def upto:Nat->Nat->List Nat
 |_,0=>[]
 |i,m+1=>i::upto (i+1) m
theorem WM: ∀(m i:Nat),upto i m=List.range' i m
 |0,i=>by simp[upto]
 |m+1,i=>by rw[upto,WM m (i+1),List.range'_succ]
section
variable {n : Nat} {Q : Exit -> Act -> World -> Prop} {env : Env} {H : Hp} {K : Act -> World -> Prop} {ops : Array Oper} {i : Nat} {o : Oper} {HL : List Hp}
theorem YI {id:Nat} (m:Nat) (hl:Nat.beq ops.size m=true) (h:aG W n (wpOps P ops Q (upto 0 m)) env HL):aG W n ((Code.region id ops false).wp P Q) env HL:=
 at_region _ (by rw[WM,Nat.eq_of_beq_eq_true hl,List.range_eq_range']) h
theorem P2 {args:Array Operand} {types:Array TypeId} {first captured:Array Value}
 (js:List Nat) (hs:slot n ops env i=some (o,d)) (aS:o.op= .call ⟨.value c,args,types⟩) (hc:ev env c=some (.func (.func f) first captured)) (ha:args.toList.mapM (ev env)=some vs) (hf:Has P f)
 (has:first.toList++(vs++captured.toList)=as) (nj:gJ P f as (sA js HL++[(sR js HL).flatten]) (λ_:Unit=>v) (λ_=>sA js HL++[(sR js HL).flatten]))
 (h:aG W n K ((d,v)::env) HL):aG W n (wpOp P ops Q i K) env HL:=by
 refine rY (B:=λ_=>sA js HL) js hs aS hc ha hf has (AU js HL) nj (λ_=>oH (λw o=>?_) h);have:=Hc js HL;rw[AU] at this;rw[List.flatten_append] at o;exact o.perm (List.perm_append_comm.trans this.symm)
theorem Iz
 (js:List Nat) (hs:slot n ops env i=some (o,d)) (aS:o.op= .call ⟨.value c,args,types⟩) (hc:ev env c=some (.func (.func f) first captured)) (ha:args.toList.mapM (ev env)=some vs) (hf:Has P f)
 (has:first.toList++(vs++captured.toList)=as) (vf:pW js HL=(As,R)) (nj:gJ P f as (As++[R.flatten]) (λ_:Unit=>v) (λ_=>As++[R.flatten]))
 (h:aG W n K ((d,v)::env) HL):aG W n (wpOp P ops Q i K) env HL:=
 P2 js hs aS hc ha hf has (by rw[AU] at vf;obtain⟨rfl,rfl⟩:=Prod.mk.inj vf;exact nj) h
theorem Yq (Rp:Value->List Hp->Prop) (kp:List Nat)
 (js:List Nat) (hs:slot n ops env i=some (o,d)) (aS:o.op= .call ⟨.value c,args,types⟩) (hc:ev env c=some (.func (.func f) first captured)) (ha:args.toList.mapM (ev env)=some vs) (hf:Has P f)
 (has:first.toList++(vs++captured.toList)=as)
 (nj:gJ P f as (sA js HL++[(sR js HL).flatten]) (λp:{p:Value×List Hp // Rp p.1 p.2}=>p.1.1) (λp=>(p.1.2++sA kp HL)++[(sR js HL).flatten]))
 (h: ∀u G,Rp u G->aG W n K ((d,u)::env) (sR js HL++(G++sA kp HL))):aG W n (wpOp P ops Q i K) env HL:=
 Fa Rp _ js hs aS hc ha hf has (AU js HL) nj h
theorem wv
 (js:List Nat) (hw:want ops env o=some true) (hd:o.dst=some d) (hn:Nat.blt d n=true) (aS:o.op= .call ⟨.value c,args,types⟩) (hc:ev env c=some (.func (.func f) first captured)) (ha:args.toList.mapM (ev env)=some vs) (hf:Has P f)
 (has:first.toList++(vs++captured.toList)=as) (nj:gJ P f as (sA js HL++[(sR js HL).flatten]) (λ_:Unit=>v) (λ_=>sA js HL++[(sR js HL).flatten]))
 (h:i_ W P n ops HL.flatten l F ((d,v)::env)):i_ W P n ops HL.flatten (o::l) F env:=
 Y5 js hw hd hn aS hc ha hf has (AU js HL) nj h
end
end
section
variable {W : World}
variable {P : Program}
inductive Fr where
 |Ey (c:Code)
 |Dp (id:Nat)
 |mid (M:Act->World->Prop)
def den (P:Program) (Q0:Exit->Act->World->Prop):List Fr->Exit->Act->World->Prop
 |[]=>Q0
 | .Ey y::K=>Exit.then (y.wp P (den P Q0 K)) (den P Q0 K)
 | .Dp id::K=>Exit.inBlock id (den P Q0 K)
 | .mid M::K=>Exit.then M (den P Q0 K)
inductive Sx where
 |zQ (c:Code) (K:List Fr) (env:Env)
 |AJ (o:Array Oper) (l:List Nat) (K:List Fr) (env:Env)
 |out (e:Exit) (K:List Fr) (env:Env)
def Sx.goal (W:World) (P:Program) (n:Nat) (Q0:Exit->Act->World->Prop) (HL:List Hp):Sx->Prop
 | .zQ c K env=>aG W n (c.wp P (den P Q0 K)) env HL
 | .AJ ops l K env=>aG W n (wpOps P ops (den P Q0 K) l) env HL
 | .out e K env=>aG W n (den P Q0 K e) env HL
def O1:Code->List Fr->Env->Option Sx
 | .skip,K,env=>some (.out .normal K env)
 | .seq a b,K,env=>some (.zQ a (.Ey b::K) env)
 | .block id a,K,env=>some (.zQ a (.Dp id::K) env)
 | .exit id,K,env=>some (.out (.exit id) K env)
 | .ret,K,env=>some (.out .ret K env)
 | .region _ ops false,K,env=>some (.AJ ops (upto 0 ops.size) K env)
 |_,_,_=>none
def O7:Exit->List Fr->Env->Option Sx
 | .normal,.Ey c::K,env=>some (.zQ c K env)
 | .normal,.Dp _::K,env=>some (.out .normal K env)
 | .exit i,.Ey _::K,env=>some (.out (.exit i) K env)
 | .exit i,.mid _::K,env=>some (.out (.exit i) K env)
 | .exit i,.Dp j::K,env=>bif Nat.beq i j then some (.out .normal K env) else some (.out (.exit i) K env)
 | .ret,_::K,env=>some (.out .ret K env)
 |_,_,_=>none
def KE (T:Ty P) (n:Nat):Sx->Option Sx
 | .zQ c K env=>O1 c K env
 | .AJ _ [] K env=>some (.out .normal K env)
 | .AJ ops (i::l) K env=>match zk T n ops env i with
  |some e=>some (.AJ ops l K (e::env))
  |none=>none
 | .out e K env=>O7 e K env
def Eh (T:Ty P) (n:Nat):Nat->Sx->Sx
 |0,s=>s
 |k+1,s=>match KE T n s with
  |some s'=>Eh T n k s'
  |none=>s
section
variable {n : Nat} {Q0 : Exit -> Act -> World -> Prop} {env : Env} {HL : List Hp}
theorem aij {c:Code} {s:Sx} (h:O1 c K env=some s) (g:s.goal W P n Q0 HL):aG W n (c.wp P (den P Q0 K)) env HL:=by
 unfold O1 at h;split at h<;>first |(cases h;done) |skip
 all_goals (simp only[Option.some.injEq] at h;subst h)
 ·exact YN g
 ·exact Qa g
 ·exact Yo g
 ·exact Yw g
 ·exact at_ret g
 ·exact YI _ (by simp) g
theorem ail {s:Sx} (h:O7 e K env=some s) (g:s.goal W P n Q0 HL):aG W n (den P Q0 K e) env HL:=by
 unfold O7 at h;split at h
 ·simp only[Option.some.injEq] at h;subst h;exact YU g
 ·simp only[Option.some.injEq] at h;subst h;exact YG g
 ·simp only[Option.some.injEq] at h;subst h;exact Qc g
 ·simp only[Option.some.injEq] at h;subst h;exact Qc g
 ·rename_i i j K
  cases hb:Nat.beq i j with
  |true=>simp only[hb,cond_true,Option.some.injEq] at h;subst h;rw[Nat.eq_of_beq_eq_true hb];exact YW g
  |false=>simp only[hb,cond_false,Option.some.injEq] at h;subst h;exact YX hb g
 ·rename_i f K;simp only[Option.some.injEq] at h;subst h
  cases f with
  |Ey y=>exact P_ g
  |Dp id=>exact YH g
  |mid M=>exact P_ g
 ·cases h
theorem aik {T:Ty P} {s s':Sx} (h:KE T n s=some s') (g:s'.goal W P n Q0 HL):s.goal W P n Q0 HL:=by
 cases s with
 |zQ c K env=>exact aij h g
 |out e K env=>exact ail h g
 |AJ ops l K env=>
  cases l with
  |nil=>simp only[KE,Option.some.injEq] at h;subst h;exact at_end g
  |cons i l=>
   simp only[KE] at h;split at h
   ·rename_i e he;simp only[Option.some.injEq] at h;subst h;exact YL T he g
   ·cases h
theorem Ko (T:Ty P): ∀(k:Nat) (s:Sx),(Eh T n k s).goal W P n Q0 HL->s.goal W P n Q0 HL
 |0,_,h=>h
 |k+1,s,h=>by
  unfold Eh at h;split at h
  ·rename_i s' hs;exact aik hs (Ko T k s' h)
  ·exact h
theorem rc (T:Ty P) (k:Nat) (h:(Eh T n k (.zQ c K env)).goal W P n Q0 HL):aG W n (c.wp P (den P Q0 K)) env HL:=Ko T k (.zQ c K env) h
theorem ro (T:Ty P) (k:Nat) (h:(Eh T n k (.AJ ops l K env)).goal W P n Q0 HL):aG W n (wpOps P ops (den P Q0 K) l) env HL:=Ko T k (.AJ ops l K env) h
theorem rx (T:Ty P) (k:Nat) (h:(Eh T n k (.out e K env)).goal W P n Q0 HL):aG W n (den P Q0 K e) env HL:=Ko T k (.out e K env) h
end
theorem Uu: ∀(l:List Value) (m k:Nat) (v:Value),lk k ((l.zipIdx m).map λx=>(x.2,x.1))=some v->m<=k
 |[],_,_,_,h=>by simp[lk] at h
 |a::l,m,k,v,h=>by
  simp only[List.zipIdx_cons,List.map_cons,lk] at h
  by_cases hk:k=m
  ·omega
  ·rw[wy hk] at h;have:=Uu l (m+1) k v (by simpa using h)
   omega
theorem Wu: ∀(l:List Value) (m:Nat) (env:Env),(∀k v,lk k ((l.zipIdx m).map λx=>(x.2,x.1))=some v->lk k env=some v)->sub ((l.zipIdx m).map λx=>(x.2,x.1)) env
 |[],_,_,_=>trivial
 |a::l,m,env,h=>by
  simp only[List.zipIdx_cons,List.map_cons];refine⟨h m a (by simp[lk]),Wu l (m+1) env λk v hk=>h k v ?_⟩
  have:=Uu l (m+1) k v hk;simp only[List.zipIdx_cons,List.map_cons,lk];rw[wy (show ¬k=m by omega)]
  simpa using hk
theorem aB {f:FuncId} {fn:Func} {c:Code} {args:List Value} {β:Type} {V:β->Value} {G:β->List Hp} {HL:List Hp}
 (hf:P.funcs[f]? =some fn) (hb:fn.body=some c) (hn:Nat.ble args.length fn.ntmps=true)
 (h: ∀W,aG W fn.ntmps (c.wp P (den P (bodyPost P fn λe w'=> ∃b,e= .returned (V b)/\bh W w' (G b).flatten) [])) ((args.zipIdx.map λx=>(x.2,x.1))) HL):gJ P f args HL V G:=
 ZN _ hf hb hn (Wu args 0 _ λ_ _ h=>h) h
end
section
variable {W : World}
variable {P : Program}
def Dr (n:Nat) (ops:Array Oper) (env:Env) (i:Nat):Option (Nat×FuncId×List Value):=
 match slot n ops env i with
 |none=>none
 |some (o,d)=>match o.op with
  | .call ⟨.value c,args,_⟩=>match ev env c,args.toList.mapM (ev env) with
   |some (.func (.func f) first captured),some vs=>some (d,f,first.toList++(vs++captured.toList))
   |_,_=>none
  |_=>none
theorem QB {n:Nat} (h:Dr n ops env i=some (d,f,vl)):
 ∃o c args types first captured vs,slot n ops env i=some (o,d)/\o.op= .call ⟨.value c,args,types⟩/\ev env c=some (.func (.func f) first captured)/\args.toList.mapM (ev env)=some vs/\first.toList++(vs++captured.toList)=vl:=by
 unfold Dr at h;split at h
 ·cases h
 ·rename_i o d' ho;split at h
  ·rename_i c args types aS;split at h
   ·rename_i f' first captured vs hc ha
    simp only[Option.some.injEq,Prod.mk.injEq] at h;obtain⟨rfl,rfl,rfl⟩:=h;exact⟨o,c,args,types,first,captured,vs,ho,aS,hc,ha,rfl⟩
   ·cases h
  ·cases h
section
variable {n : Nat} {Q : Exit -> Act -> World -> Prop} {env : Env} {H : Hp} {K : Act -> World -> Prop} {ops : Array Oper} {i : Nat} {HL : List Hp} {rest : List Nat}
variable {α β : Type} {x : Option α} {g : α -> Option β} {z : β} {d : Nat} {f : FuncId} {vl : List Value}
theorem kh {V:α->Value} (js:List Nat) (hv:Dr n ops env i=some (d,f,vl)) (hf:Has P f) (e:x.bind g=some z)
 (hc: ∀{v},x=some v->gJ P f vl (sA js HL++[(sR js HL).flatten]) (λ_:Unit=>V v) (λ_=>sA js HL++[(sR js HL).flatten]))
 (h: ∀v,g v=some z->aG W n K ((d,V v)::env) HL):aG W n (wpOp P ops Q i K) env HL:=by
 obtain⟨v,e1,e2⟩:=gj e;obtain⟨o,c,args,types,first,captured,vs,h1,h2,h3,h4,h5⟩:=QB hv
 exact P2 js h1 h2 h3 h4 hf h5 (hc e1) (h v e2)
theorem kR (Rp:α->Value->List Hp->Prop) (kp js:List Nat) (hv:Dr n ops env i=some (d,f,vl)) (hf:Has P f) (e:x.bind g=some z)
 (hc: ∀{v},x=some v->gJ P f vl (sA js HL++[(sR js HL).flatten]) (λp:{p:Value×List Hp // Rp v p.1 p.2}=>p.1.1) (λp=>(p.1.2++sA kp HL)++[(sR js HL).flatten]))
 (h: ∀v,g v=some z-> ∀u G,Rp v u G->aG W n K ((d,u)::env) (sR js HL++(G++sA kp HL))):aG W n (wpOp P ops Q i K) env HL:=by
 obtain⟨v,e1,e2⟩:=gj e;obtain⟨o,c,args,types,first,captured,vs,h1,h2,h3,h4,h5⟩:=QB hv
 exact Yq (Rp v) kp js h1 h2 h3 h4 hf h5 (hc e1) (h v e2)
theorem k {V:α->Value} (js:List Nat) (hv:Dr n ops env i=some (d,f,vl)) (hf:Has P f) (e:x.bind g=some z)
 (hc: ∀{v},x=some v->gJ P f vl (sA js HL++[(sR js HL).flatten]) (λ_:Unit=>V v) (λ_=>sA js HL++[(sR js HL).flatten]))
 (h: ∀v,g v=some z->aG W n (wpOps P ops Q rest) ((d,V v)::env) HL):aG W n (wpOps P ops Q (i::rest)) env HL:=aX (kh js hv hf e hc h)
theorem kr (Rp:α->Value->List Hp->Prop) (kp js:List Nat) (hv:Dr n ops env i=some (d,f,vl)) (hf:Has P f) (e:x.bind g=some z)
 (hc: ∀{v},x=some v->gJ P f vl (sA js HL++[(sR js HL).flatten]) (λp:{p:Value×List Hp // Rp v p.1 p.2}=>p.1.1) (λp=>(p.1.2++sA kp HL)++[(sR js HL).flatten]))
 (h: ∀v,g v=some z-> ∀u G,Rp v u G->aG W n (wpOps P ops Q rest) ((d,u)::env) (sR js HL++(G++sA kp HL))):aG W n (wpOps P ops Q (i::rest)) env HL:=aX (kR Rp kp js hv hf e hc h)
end
section
variable {n : Nat} {Q : Exit -> Act -> World -> Prop} {env : Env} {H : Hp} {c : Operand} {a b : Code} {β : Type} {X Y : Option β} {z : β} {F : Act -> World -> Prop}
theorem cd (hc:ev env c=some (.bool (@decide p i1))) (e: @ite _ p i2 X Y=some z) (ht:X=some z->At W n (a.wp P Q) env H) (hf:Y=some z->At W n (b.wp P Q) env H):At W n ((Code.cond c a b).wp P Q) env H:=
 zI hc (λh=>ht ((@if_pos p i2 (@of_decide_eq_true p i1 h) _ X Y).symm.trans e)) (λh=>hf ((@if_neg p i2 (@of_decide_eq_false p i1 h) _ X Y).symm.trans e))
theorem cb (hc:ev env c=some (.bool p)) (e:(if p=true then X else Y)=some z) (ht:X=some z->At W n (a.wp P Q) env H) (hf:Y=some z->At W n (b.wp P Q) env H):At W n ((Code.cond c a b).wp P Q) env H:=
 zI hc (λh=>ht (by rwa[if_pos h] at e)) (λh=>hf (by rwa[if_neg (by simp[h])] at e))
theorem ad (s:Nat) (hs:lk s env=some (.bool (@decide p i1))) (e: @ite _ p i2 X Y=some z) (ht:X=some z->At W n F ((s,.bool true)::env) H) (hf:Y=some z->At W n F ((s,.bool false)::env) H):At W n F env H:=
 Lu hs (λh=>ht ((@if_pos p i2 (@of_decide_eq_true p i1 h) _ X Y).symm.trans e)) (λh=>hf ((@if_neg p i2 (@of_decide_eq_false p i1 h) _ X Y).symm.trans e))
theorem ab (s:Nat) (hs:lk s env=some (.bool p)) (e:(if p=true then X else Y)=some z) (ht:X=some z->At W n F ((s,.bool true)::env) H) (hf:Y=some z->At W n F ((s,.bool false)::env) H):At W n F env H:=
 Lu hs (λh=>ht (by rwa[if_pos h] at e)) (λh=>hf (by rwa[if_neg (by simp[h])] at e))
theorem qd {ops:Array Oper} {l:List Oper} {F:Act->Prop} {p:Prop} {i1 i2:Decidable p} (s:Nat) (hs:lk s env=some (.bool (@decide p i1))) (e: @ite _ p i2 X Y=some z) (ht:X=some z->i_ W P n ops H l F ((s,.bool true)::env)) (hf:Y=some z->i_ W P n ops H l F ((s,.bool false)::env)):i_ W P n ops H l F env:=
 Qg hs (λh=>ht ((@if_pos p i2 (@of_decide_eq_true p i1 h) _ X Y).symm.trans e)) (λh=>hf ((@if_neg p i2 (@of_decide_eq_false p i1 h) _ X Y).symm.trans e))
theorem qb {ops:Array Oper} {l:List Oper} {F:Act->Prop} {p:Bool} (s:Nat) (hs:lk s env=some (.bool p)) (e:(if p=true then X else Y)=some z) (ht:X=some z->i_ W P n ops H l F ((s,.bool true)::env)) (hf:Y=some z->i_ W P n ops H l F ((s,.bool false)::env)):i_ W P n ops H l F env:=
 Qg hs (λh=>ht (by rwa[if_pos h] at e)) (λh=>hf (by rwa[if_neg (by simp[h])] at e))
end
section
variable {T : Ty P} {n : Nat} {Q : Exit -> Act -> World -> Prop} {env : Env} {HL : List Hp} {ops : Array Oper} {i : Nat} {rest : List Nat} {K : Act -> World -> Prop}
def D1 (T:Ty P) (n:Nat) (ops:Array Oper) (env:Env) (i:Nat):Option (Nat×Nat×Nat):=
 match slot n ops env i with
 |none=>none
 |some (o,d)=>match o.op with
  | .load t x=>match ev env x,T.bR t with
   |some (.pointer (some ⟨b,off,none⟩)),some td=>bif oG td then none else some (d,b,off)
   |_,_=>none
  |_=>none
theorem Uo (h:D1 T n ops env i=some (d,b,off)): ∃o t x td,slot n ops env i=some (o,d)/\o.op= .load t x/\ev env x=some (.pointer (some ⟨b,off,none⟩))/\T.bR t=some td/\oG td=false:=by
 unfold D1 at h;split at h
 ·cases h
 ·rename_i o d' ho;split at h
  ·rename_i t x aS;split at h
   ·rename_i b' D8 td hx hu
    cases ha:oG td with
    |true=>rw[ha] at h;cases h
    |false=>
     rw[ha] at h;simp only[cond_false,Option.some.injEq,Prod.mk.injEq] at h;obtain⟨rfl,rfl,rfl⟩:=h;exact⟨o,t,x,td,ho,aS,hx,hu,ha⟩
   ·cases h
  ·cases h
theorem ld (T:Ty P) (j:Nat) (h1:D1 T n ops env i=some (d,b,off)) (hj:idx j HL=some ((b,.cells arr E fr)::Hr)) (hv:idx off arr.toList=some v)
 (h:aG W n (wpOps P ops Q rest) ((d,v)::env) HL):aG W n (wpOps P ops Q (i::rest)) env HL:=
 let⟨_,_,_,_,h2,h3,h4,h5,h6⟩:=Uo h1
 br h2 (aw T h3 h4 h5 h6 (aF (j:=j) hj hv)) h
theorem lg (T:Ty P) (h1:D1 T n ops env i=some (d,b,off)) (hm: ∃arr E fr,(b,Obj.cells arr E fr)∈HL.flatten/\arr[off]? =some v)
 (h:aG W n (wpOps P ops Q rest) ((d,v)::env) HL):aG W n (wpOps P ops Q (i::rest)) env HL:=
 let⟨_,_,_,_,h2,h3,h4,h5,h6⟩:=Uo h1
 br h2 (aw T h3 h4 h5 h6 hm) h
theorem pb (T:Ty P) {fn:Func} {β:Type} {V:β->Value} {G:β->List Hp} {rs:List ResultVar} {vs:List Value} (hf:fn.results.toList=rs) (hr:mV T env HL.flatten rs vs) (js:List Nat) (b:β) (hv:y5 vs=V b) (hg:pick js HL=G b):
 aG W n (bodyPost P fn (λe w'=> ∃b,e= .returned (V b)/\bh W w' (G b).flatten) .ret) env HL:=
 Ff hf hr (λw o=>⟨b,by rw[hv],Cu js hg o⟩)
end
section
variable {n : Nat} {Q0 : Exit -> Act -> World -> Prop} {env : Env} {HL : List Hp}
theorem bO (h:PF Q0):PF (den P Q0 K):=by
 induction K with
 |nil=>exact h
 |cons f K ih=>cases f with
  |Ey y=>exact Va ih
  |Dp id=>exact agj ih
  |mid M=>exact Va ih
end
section
variable {n : Nat} {Q : Exit -> Act -> World -> Prop} {env : Env} {ops : Array Oper} {HL : List Hp} {late : List Nat} {A : List (List Nat)} {H0 : List Hp}
def PS (ops:Array Oper):Nat->List (List Nat)->List (List Nat)
 |0,r=>r
 |k+1,r=>
  let es:=match ops[r.length]? with
   |none=>[]
   |some o=>(o.after.toList.filter λ(e:Edge)=>Region.binds .any e).map λ(e:Edge)=>e.on
  PS ops k (r++[(es++(es.map λe=>r.getD e []).flatten).eraseDups])
def Dj (ops:Array Oper):List (List Nat):=PS ops ops.size []
def takes (ops:Array Oper) (A:List (List Nat)) (late:List Nat):Array Bool->List Nat->Bool
 |_,[]=>true
 |l,i::r=>CZ ops A late l i&&takes ops A late (l.setIfInBounds i true) r
theorem TJ (T:Ty P): ∀(l:List Nat) {env f_:Env} {fuel:Nat} {listed:Array Bool} (hg:oV ops A=true) (j4:PF Q) (hb:takes ops A late listed l=true) (hS: ∀listed,pE W late listed HL H0) (hr:qG T n ops l env=some f_)
 (h:aG W n (gI P ops Q (SO W H0) late fuel (l.foldl (λa i=>a.setIfInBounds i true) listed)) f_ HL),aG W n (gI P ops Q (SO W H0) late (fuel+l.length) listed) env HL
 |[],_,_,_,_,_,_,_,_,hr,h=>by simp only[qG,Option.some.injEq] at hr;subst hr;exact h
 |i::r,env,f_,fuel,listed,hg,j4,hb,hS,hr,h=>by
  simp only[takes,Bool.and_eq_true] at hb;simp only[qG] at hr;split at hr
  ·rename_i e he;exact Qf T i hg j4 hb.1 (hS listed) he (TJ T r hg j4 hb.2 hS hr h)
  ·cases hr
theorem hs (T:Ty P) (fu:Nat) (l:List Nat) {env f_:Env} {m:Nat} {listed:Array Bool} (hm:m=fu+l.length) (hg:oV ops A=true) (j4:PF Q) (hb:takes ops A late listed l=true) (hS: ∀listed,pE W late listed HL H0) (hr:qG T n ops l env=some f_)
 (h:aG W n (gI P ops Q (SO W H0) late fu (l.foldl (λa i=>a.setIfInBounds i true) listed)) f_ HL):aG W n (gI P ops Q (SO W H0) late m listed) env HL:=by
 subst hm;exact TJ T l hg j4 hb hS hr h
end
section
variable {n : Nat} {Q : Exit -> Act -> World -> Prop} {env : Env} {HL : List Hp} {ops : Array Oper} {i d : Nat} {K : Act -> World -> Prop}
def Wk (n:Nat) (ops:Array Oper) (env:Env) (i:Nat):Option Nat:=
 match ops[i]? with
 |none=>none
 |some o=>match want ops env o,o.dst with
  |some false,some d=>bif Nat.blt d n then some d else none
  |_,_=>none
theorem YV (h1:Wk n ops env i=some d) (h:aG W n K ((d,undef)::env) HL):aG W n (wpOp P ops Q i K) env HL:=by
 unfold Wk at h1;split at h1
 ·cases h1
 ·rename_i o ho;split at h1
  ·rename_i d' hw hd
   cases hb:Nat.blt d' n with
   |false=>simp[hb] at h1
   |true=>
    simp only[hb,cond_true,Option.some.injEq] at h1;subst h1;exact Ly ho hw hd (by simpa using hb) h
  ·cases h1
end
end
section
variable {W : World} {P : Program}
theorem IJ (e:A.flatten=As.flatten) (c:gJ P f as (A++[R]) (λ_:Unit=>v) (λ_=>A++[R])):
 gJ P f as (As++[R]) (λ_:Unit=>v) (λ_=>As++[R]):=
 ZO (by rw[List.flatten_append,List.flatten_append,e]) c
theorem IK {f:FuncId} {as:List Value} {A As A2 Ps:List Hp} {R:Hp} {β:Type} {V:β->Value} {g:β->List Hp} (e:A.flatten=As.flatten) (e2:A2.flatten=Ps.flatten)
 (c:gJ P f as (A++[R]) V (λb=>(g b++A2)++[R])):gJ P f as (As++[R]) V (λb=>(g b++Ps)++[R]):=
 ZP (by rw[List.flatten_append,List.flatten_append,e]) (λb=>by rw[List.flatten_append,List.flatten_append,List.flatten_append,List.flatten_append,e2]) c
end
section
variable {W : World} {P : Program}
def nE:List Nat->Env->Option Env
 |[],_=>some []
 |k::ks,env=>match lk k env,nE ks env with
  |some v,some r=>some ((k,v)::r)
  |_,_=>none
theorem vm: ∀{ks:List Nat} {env E:Env},nE ks env=some E->sub E env
 |[],_,_,h=>by simp only[nE,Option.some.injEq] at h;subst h;trivial
 |k::ks,env,E,h=>by
  unfold nE at h;split at h
  ·rename_i v r hv hr;simp only[Option.some.injEq] at h;subst h;exact⟨hv,vm hr⟩
  ·cases h
def nH:List Nat->List Hp->Option (List Hp)
 |[],_=>some []
 |j::js,HL=>match idx j HL,nH js (HL.eraseIdx j) with
  |some A,some r=>some (A::r)
  |_,_=>none
theorem GM: ∀{js:List Nat} {HL G:List Hp},nH js HL=some G->pick js HL=G
 |[],_,_,h=>by simp only[nH,Option.some.injEq] at h;subst h;rfl
 |j::js,HL,G,h=>by
  unfold nH at h;split at h
  ·rename_i A r hA hr;simp only[Option.some.injEq] at h;subst h;simp only[pick,hA,GM hr]
  ·cases h
def gE:Env->Env->Option (List Value)
 |[],_=>some []
 |e::r,env=>match lk e.1 env,gE r env with
  |some v,some l=>some (v::l)
  |_,_=>none
theorem IX: ∀{E env:Env},gE E env=some (E.map (·.2))->sub E env
 |[],_,_=>trivial
 |e::r,env,h=>by
  unfold gE at h;split at h
  ·rename_i v l hv hl;simp only[List.map_cons,Option.some.injEq,List.cons.injEq] at h;refine⟨by rw[hv,h.1],IX (by rw[hl,h.2])⟩
  ·cases h
theorem A1: ∀{A B env:Env},sub A env->sub B env->sub (A++B) env
 |[],_,_,_,h=>h
 |_::_,_,_,h1,h2=>⟨h1.1,A1 h1.2 h2⟩
theorem oi (h:some a=some b):a=b:=Option.some.inj h
section
variable {n : Nat} {Q0 : Exit -> Act -> World -> Prop} {env E : Env} {HL G : List Hp} {F : Act -> World -> Prop}
theorem ke (ks js:List Nat) (h1:nE ks env=some E) (h2:nH js HL=some G) (h:aG W n F E G):aG W n F env HL:=LA E js G (vm h1) (GM h2) h
theorem ks (ks:List Nat) (h1:nE ks env=some E) (h:At W n F E H):At W n F env H:=YT E (vm h1) h
theorem kf (ks js:List Nat) (Ec:Env) (hE:nE ks env=some E) (hG:nH js HL=some G) (hc:sub Ec env) (h:aG W n F (E++Ec) G):aG W n F env HL:=LA _ js G (A1 (vm hE) hc) (GM hG) h
theorem kg (ks js Ub:List Nat) (Ec:Env) (Gc:List Hp) (hE:nE ks env=some E) (hG:nH js HL=some G) (hc:sub Ec env) (hh:pick Ub HL=G++Gc) (h:aG W n F (E++Ec) (G++Gc)):aG W n F env HL:=LA _ Ub _ (A1 (vm hE) hc) hh h
theorem am {σ:Type} {I:σ->Prop} {E:σ->Env} {G:σ->List Hp} (s:σ) (js:List Nat) (hi:I s) (hs:gE (E s) env=some ((E s).map (·.2))) (hh:pick js HL=G s):aG W n (Dg W n I E G) env HL:=
 YD s js hi (IX hs) hh
theorem ar {τ:Type} {I:Nat×τ->Prop} {E:Nat×τ->Env} {G:Nat×τ->List Hp} {k:Nat} {t:τ} (t':τ) (js:List Nat) (hi:I (k,t')) (hs:gE (E (k,t')) env=some ((E (k,t')).map (·.2))) (hh:pick js HL=G (k,t')):
 aG W n (Round W n I E (λs=>(G s).flatten) (λs=>s.1) (k+1,t)) env HL:=
 YK (k,t') js hi (Nat.lt_succ_self k) (IX hs) hh
theorem lq (ks js:List Nat) (f:Nat×τ->Prop×Env×List Hp) (hE:nE ks env=some E) (hG:nH js HL=some G) (s0:Nat×τ) (Ua:List Nat) (hi:(f s0).1)
 (hs:gE (f s0).2.1 env=some ((f s0).2.1.map (·.2))) (hh:pick Ua HL=G++(f s0).2.2)
 (round: ∀k t,(f (k+1,t)).1->aG W n (c.wp P (den P Q0 (.mid (Round W n (λs=>(f s).1) (λs=>E++(f s).2.1) (λs=>(G++(f s).2.2).flatten) (λs=>s.1) (k+1,t))::K))) (E++(f (k+1,t)).2.1) (G++(f (k+1,t)).2.2))
 (hz: ∀t,(f (0,t)).1->False:=by intro _ h;first |(cases h.1;done) |(cases h;done)):aG W n ((Code.loop c).wp P (den P Q0 K)) env HL:=
 P4 (λs=>(f s).1) (λs=>E++(f s).2.1) (λs=>G++(f s).2.2) (λs=>s.1) s0 Ua hi (A1 (vm hE) (IX hs)) hh (λ⟨k,t⟩ h=>by
  cases k with
  |zero=>exact(hz t h).elim
  |succ k=>exact round k t h)
theorem lu (ks js:List Nat) (hE:nE ks env=some E) (hG:nH js HL=some G)
 (round:aG W n (c.wp P (den P Q0 (.mid (Round W n (λ_:Unit=>True) (λ_=>E) (λ_=>G.flatten) (λ_=>0) ())::K))) E G):aG W n ((Code.loop c).wp P (den P Q0 K)) env HL:=
 P4 (λ_:Unit=>True) (λ_=>E) (λ_=>G) (λ_=>0) () js trivial (vm hE) (GM hG) (λ_ _=>round)
theorem mq (e:X.bind g=some z) (ks js:List Nat) (f:β->σ->Prop×Env×List Hp) (hE:nE ks env=some E) (hG:nH js HL=some G)
 (h1: ∀v,X=some v->g v=some z->aG W n (x.wp P (den P Q0 (.mid (Dg W n (λs=>(f v s).1) (λs=>E++(f v s).2.1) (λs=>G++(f v s).2.2))::K))) env HL)
 (h2: ∀v s,(f v s).1->g v=some z->aG W n (y.wp P (den P Q0 K)) (E++(f v s).2.1) (G++(f v s).2.2)):aG W n ((Code.seq x y).wp P (den P Q0 K)) env HL:=by
 obtain⟨v,e1,e2⟩:=gj e;exact YM _ _ _ (h1 v e1 e2) (λs hs=>h2 v s hs e2)
theorem mn {x:Code} {K:List Fr} {σ β γ:Type} {X:Option β} {g:β->Option γ} {z:γ} (e:X.bind g=some z) (ks js:List Nat) (f:β->σ->Prop×Env×List Hp) (hE:nE ks env=some E) (hG:nH js HL=some G)
 (h1: ∀v,X=some v->g v=some z->aG W n (x.wp P (den P Q0 (.mid (Dg W n (λs=>(f v s).1) (λs=>E++(f v s).2.1) (λs=>G++(f v s).2.2))::K))) env HL)
 (h2: ∀v s,(f v s).1->g v=some z->aG W n (den P Q0 K .normal) (E++(f v s).2.1) (G++(f v s).2.2)):aG W n (x.wp P (den P Q0 K)) env HL:=by
 obtain⟨v,e1,e2⟩:=gj e;exact Yk _ _ _ (h1 v e1 e2) (λs hs=>h2 v s hs e2)
end
end
section
variable {W : World} {P : Program}
def vR:Nat->List Value->List Value->List Value
 |_,[],cs=>cs
 |0,v::vs,_::cs=>v::vR 0 vs cs
 |k+1,vs,c::cs=>c::vR k vs cs
 |_,_,[]=>[]
theorem Wo: ∀(vs cs:List Value),vs.length<=cs.length->vR 0 vs cs=vs++cs.drop vs.length
 |[],cs,_=>by cases cs<;>simp[vR]
 |v::vs,[],h=>by simp at h
 |v::vs,c::cs,h=>by simp only[vR,Wo vs cs (by simpa using h),List.length_cons,List.drop_succ_cons,List.cons_append]
theorem Wp: ∀(k:Nat) (vs cs:List Value),k+vs.length<=cs.length->fT cs k vs=vR k vs cs
 |0,vs,cs,h=>by rw[Wo vs cs U];simp[fT]
 |k+1,vs,[],h=>by simp at h
 |k+1,[],c::cs,h=>by simp[fT,vR]
 |k+1,v::vs,c::cs,h=>by
  have:=Wp k (v::vs) cs (by simp at h⊢;omega)
  simp only[fT] at this⊢;simp only[vR,<-this,List.take_succ_cons,List.cons_append];rw[show k+1+(v::vs).length=(k+(v::vs).length)+1 from by omega,List.drop_succ_cons]
def Ht (T:Ty P) (ops:Array Oper) (env:Env) (i:Nat):Option (Nat×Nat×List Value):=
 match rL ops env i with
 |none=>none
 |some o=>match o.op with
  | .store t x y=>match ev env x,ev env y,T.inf t with
   |some (.pointer (some ⟨b,off,none⟩)),some v,some (sz,_,_)=>bif Nat.beq (bG v).length sz&&(bG v).all Value.oneCell' then some (b,off,bG v) else none
   |_,_,_=>none
  |_=>none
section
variable {n : Nat} {Q : Exit -> Act -> World -> Prop} {env : Env} {HL : List Hp} {ops : Array Oper} {i : Nat} {rest : List Nat} {K : Act -> World -> Prop}
theorem aih (h:Ht T ops env i=some (b,off,vs)):
 ∃o t x y v sz by' z,rL ops env i=some o/\o.op= .store t x y/\ev env x=some (.pointer (some ⟨b,off,none⟩))/\ev env y=some v/\T.inf t=some (sz,by',z)/\(bG v).length=sz/\(bG v).all Value.oneCell'=true/\bG v=vs:=by
 unfold Ht at h;split at h
 ·cases h
 ·rename_i o ho;split at h
  ·rename_i t x y aS;split at h
   ·rename_i b' D8 v sz by' z hx hy hi
    cases hc:(Nat.beq (bG v).length sz&&(bG v).all Value.oneCell') with
    |false=>rw[hc] at h;cases h
    |true=>
     rw[hc] at h;simp only[cond_true,Option.some.injEq,Prod.mk.injEq] at h;obtain⟨rfl,rfl,rfl⟩:=h;simp only[Bool.and_eq_true] at hc;exact⟨o,t,x,y,v,sz,by',z,ho,aS,hx,hy,hi,Nat.eq_of_beq_eq_true hc.1,hc.2,rfl⟩
   ·cases h
  ·cases h
theorem st (T:Ty P) (j:Nat) (h1:Ht T ops env i=some (b,off,vs)) (hj:idx j HL=some ((b,.cells arr E (0,0))::Hr)) (hb:Nat.ble (off+vs.length) arr.size=true)
 (h:aG W n K env (HL.set j ((b,.cells (vR off vs arr.toList).toArray E (0,0))::Hr))):aG W n (wpOp P ops Q i K) env HL:=by
 obtain⟨o,t,x,y,v,sz,by',z,a1,a2,a3,a4,a5,a6,a7,rfl⟩:=aih h1
 have jv:=Nat.le_of_ble_eq_true hb;exact YO T j _ a1 a2 a3 a4 a5 hj (by rw[a6];simp) a7 (by rw[<-a6];exact hb) (Wp _ _ _ (by simpa using jv)) h
theorem sc (T:Ty P) (j:Nat) (h1:Ht T ops env i=some (b,off,vs)) (hj:idx j HL=some ((b,.cells arr E (0,0))::Hr)) (hb:Nat.ble (off+vs.length) arr.size=true)
 (h:aG W n (wpOps P ops Q rest) env (HL.set j ((b,.cells (vR off vs arr.toList).toArray E (0,0))::Hr))):aG W n (wpOps P ops Q (i::rest)) env HL:=aX (st T j h1 hj hb h)
def Of (T:Ty P) (n:Nat) (ops:Array Oper) (env:Env) (i:Nat):Option (Nat×Nat×List Value):=
 match slot n ops env i with
 |none=>none
 |some (o,d)=>match o.op with
  | .alloc t=>match T.inf t with
   |some (_,_,z)=>some (d,t,bG z)
   |none=>none
  | .box t x=>match ev env x with
   |some v=>some (d,t,bG v)
   |none=>none
  |_=>none
theorem nw (T:Ty P) (h1:Of T n ops env i=some (d,t,cs)) (h: ∀b,aG W n K ((d,.pointer (some ⟨b,0,none⟩))::env) (HL++[[(b,Obj.cells cs.toArray t (0,0))]])):aG W n (wpOp P ops Q i K) env HL:=by
 unfold Of at h1;split at h1
 ·cases h1
 ·rename_i o d' hs;split at h1
  ·rename_i t' aS;split at h1
   ·rename_i sz by' z hi
    simp only[Option.some.injEq,Prod.mk.injEq] at h1;obtain⟨rfl,rfl,rfl⟩:=h1;exact Yi T _ hs aS hi rfl h
   ·cases h1
  ·rename_i t' x aS;split at h1
   ·rename_i v hx;simp only[Option.some.injEq,Prod.mk.injEq] at h1;obtain⟨rfl,rfl,rfl⟩:=h1;exact P1 T _ hs aS hx rfl h
   ·cases h1
  ·cases h1
theorem nc (T:Ty P) (h1:Of T n ops env i=some (d,t,cs)) (h: ∀b,aG W n (wpOps P ops Q rest) ((d,.pointer (some ⟨b,0,none⟩))::env) (HL++[[(b,Obj.cells cs.toArray t (0,0))]])):aG W n (wpOps P ops Q (i::rest)) env HL:=aX (nw T h1 h)
def cut:Nat->Nat->List Value->List Value
 |_,0,_=>[]
 |0,k+1,c::cs=>c::cut 0 k cs
 |o+1,k+1,_::cs=>cut o (k+1) cs
 |_,_+1,[]=>[]
theorem L3: ∀(o k:Nat) (cs:List Value) (j:Nat) (v:Value),(cut o k cs)[j]? =some v->cs[o+j]? =some v
 |_,0,_,_,_,h=>by simp[cut] at h
 |0,k+1,c::cs,0,v,h=>by simpa[cut] using h
 |0,k+1,c::cs,j+1,v,h=>by
  have:=L3 0 k cs j v (by simpa[cut] using h)
  simpa using this
 |o+1,k+1,c::cs,j,v,h=>by
  have:=L3 o (k+1) cs j v (by simpa[cut] using h)
  rw[show o+1+j=o+j+1 from by omega];simpa using this
 |0,_+1,[],_,_,h=>by simp[cut] at h
 |_+1,_+1,[],_,_,h=>by simp[cut] at h
theorem aei {j b:Nat} {ar:Array Value} {E:TypeId} {fr:Nat×Nat} {Hr:Hp} {off k:Nat} (hj:idx j HL=some ((b,.cells ar E fr)::Hr)):
 ∃arr E fr,(b,Obj.cells arr E fr)∈HL.flatten/\ ∀j v,(cut off k ar.toList)[j]? =some v->arr[off+j]? =some v:=
 ⟨ar,E,fr,gQ (by rw[<-idx_eq];exact hj) (List.mem_cons_self ..),λj v h=>by simpa using L3 _ _ _ _ _ h⟩
theorem gA (T:Ty P) (j:Nat) (aS:o.op= .load t x) (hx:ev env x=some (.pointer (some ⟨b,off,none⟩)))
 (hu:T.bR t=some td) (ha:oG td=true) (hi:T.inf t=some (sz,by',z)) (hj:idx j HL=some ((b,.cells arr E fr)::Hr)) (hl:Nat.beq (cut off sz arr.toList).length sz=true):gK W P n env HL.flatten o (.agg (cut off sz arr.toList).toArray):=
 fO T aS hx hu ha hi (Nat.eq_of_beq_eq_true hl) (aei hj)
def NR (T:Ty P) (n:Nat) (ops:Array Oper) (env:Env) (i:Nat):Option (Nat×Nat×Nat×Nat):=
 match slot n ops env i with
 |none=>none
 |some (o,d)=>match o.op with
  | .load t x=>match ev env x,T.bR t,T.inf t with
   |some (.pointer (some ⟨b,off,none⟩)),some td,some (sz,_,_)=>bif oG td then some (d,b,off,sz) else none
   |_,_,_=>none
  |_=>none
theorem la (T:Ty P) (j:Nat) (h1:NR T n ops env i=some (d,b,off,sz)) (hj:idx j HL=some ((b,.cells arr E fr)::Hr)) (hl:Nat.beq (cut off sz arr.toList).length sz=true)
 (h:aG W n (wpOps P ops Q rest) ((d,.agg (cut off sz arr.toList).toArray)::env) HL):aG W n (wpOps P ops Q (i::rest)) env HL:=by
 unfold NR at h1;split at h1
 ·cases h1
 ·rename_i o d' hs;split at h1
  ·rename_i t x aS;split at h1
   ·rename_i b' D8 td sz' by' z hx hu hi
    cases ha:oG td with
    |false=>rw[ha] at h1;cases h1
    |true=>
     rw[ha] at h1;simp only[cond_true,Option.some.injEq,Prod.mk.injEq] at h1;obtain⟨rfl,rfl,rfl,rfl⟩:=h1;exact br hs (gA T j aS hx hu ha hi hj hl) h
   ·cases h1
  ·cases h1
def tmps (env:Env):List ResultVar->Option (List Value)
 |[]=>some []
 | .tmp t::rs=>match lk t env,tmps env rs with
  |some v,some vs=>some (v::vs)
  |_,_=>none
 |_::_=>none
theorem WE: ∀{rs:List ResultVar} {vs:List Value},tmps env rs=some vs->mV T env H rs vs
 |[],_,h=>by simp only[tmps,Option.some.injEq] at h;subst h;exact .nil
 | .tmp t::rs,vs,h=>by
  unfold tmps at h;split at h
  ·rename_i v vs' hv hr;simp only[Option.some.injEq] at h;subst h;exact .tmp hv (WE hr)
  ·cases h
 | .cell _ _::_,_,h=>by cases h
theorem pv {fn:Func} {R:Ending->World->Prop} (T:Ty P) (hr:(tmps env fn.results.toList).map y5=some v) (h: ∀w,bh W w HL.flatten->R (.returned v) w):aG W n (bodyPost P fn R .ret) env HL:=by
 cases ht:tmps env fn.results.toList with
 |none=>rw[ht] at hr;cases hr
 |some vs=>
  rw[ht] at hr;simp only[Option.map_some,Option.some.injEq] at hr;subst hr;exact Ff (T:=T) rfl (WE ht) h
theorem p1 (T:Ty P) {fn:Func} {R:Value->List Hp->Prop} {A:List Hp} {F:Hp} {v:Value} {g:List Hp} (hr:(tmps env fn.results.toList).map y5=some v) (js:List Nat) (h:R v g) (hg:pick js HL=(g++A)++[F]):
 aG W n (bodyPost P fn (λe w'=> ∃b:{qp:Value×List Hp // R qp.1 qp.2},e= .returned b.1.1/\bh W w' ((b.1.2++A)++[F]).flatten) .ret) env HL:=
 pv T hr (λ_ o=>⟨⟨(v,g),h⟩,rfl,Cu js hg o⟩)
theorem p0 (T:Ty P) (hr:(tmps env fn.results.toList).map y5=some v) (js:List Nat) (hg:pick js HL=G):
 aG W n (bodyPost P fn (λe w'=> ∃_:Unit,e= .returned v/\bh W w' G.flatten) .ret) env HL:=
 pv T hr (λ_ o=>⟨(),rfl,Cu js hg o⟩)
end
abbrev CR (P:Program) (f:FuncId) (as:List Value) (Hs A:List Hp) (F:Hp) (R:Value->List Hp->Prop):Prop:=
 gJ P f as (Hs++[F]) (λqp:{qp:Value×List Hp // R qp.1 qp.2}=>qp.1.1) (λqp=>(qp.1.2++A)++[F])
abbrev CU (P:Program) (f:FuncId) (as:List Value) (Hs:List Hp) (F:Hp) (v:Value):Prop:=
 gJ P f as (Hs++[F]) (λ_:Unit=>v) (λ_=>Hs++[F])
abbrev pp (b:Nat):Value:= .pointer (some ⟨b,0,none⟩)
abbrev ii (x:Int):Value:= .int .i64 x
abbrev uu (x:Int):Value:= .int .u64 x
abbrev bb (x:Bool):Value:= .bool x
abbrev ll {α:Type} (a:Option Addr) (l:List α) (n:Nat):Value:= .slice a l.length n
abbrev nl:Value:= .slice none 0 0
abbrev cl (b t:Nat) (l:List Value):Hp:=[(b,Obj.cells l.toArray t (0,0))]
end
section
variable {W : World} {P : Program}
section
variable {n : Nat} {Q : Exit -> Act -> World -> Prop} {env : Env} {ops : Array Oper} {i : Nat} {o : Oper} {HL : List Hp} {late : List Nat} {A : List (List Nat)} {H0 : List Hp} {fuel : Nat} {listed : Array Bool}
theorem so (js:List Nat) (h:pick js HL=H0:=by rfl):pE W late listed HL H0:=ais js h
theorem sz (h:HL=H0:=by rfl):pE W late listed HL H0:= .inr λ_ o=>by subst h;exact o
theorem sl (h:qA late listed=false:=by kernel_rfl):pE W late listed HL H0:= .inl h
theorem rg (late js:List Nat) {id:Nat} (hm:P.follows .mixedOrders=true) (j4:PF Q)
 (h:oV ops (Dj ops)=true->PF Q->aG W n (gI P ops Q (SO W (pick js HL)) late ops.size (Array.replicate ops.size false)) env HL) (hg:oV ops (Dj ops)=true:=by kernel_rfl):
 aG W n ((Code.region id ops true).wp P Q) env HL:=P9 _ late _ hm hg j4 h
theorem rz (late:List Nat) {id:Nat} (hm:P.follows .mixedOrders=true) (j4:PF Q)
 (h:oV ops (Dj ops)=true->PF Q->aG W n (gI P ops Q (SO W HL) late ops.size (Array.replicate ops.size false)) env HL) (hg:oV ops (Dj ops)=true:=by kernel_rfl):
 aG W n ((Code.region id ops true).wp P Q) env HL:=P9 _ late _ hm hg j4 h
theorem ha (T:Ty P) (fu:Nat) (l:List Nat) {env f_:Env} {m:Nat} {listed:Array Bool} (hS: ∀{listed},pE W late listed HL H0) (hg:oV ops A=true) (j4:PF Q) (hr:qG T n ops l env=some f_)
 (h:aG W n (gI P ops Q (SO W H0) late fu (l.foldl (λa i=>a.setIfInBounds i true) listed)) f_ HL) (hm:m=fu+l.length:=by rfl) (hb:takes ops A late listed l=true:=by kernel_rfl):aG W n (gI P ops Q (SO W H0) late m listed) env HL:=
 hs T fu l hm hg j4 hb (λ_=>hS) hr h
theorem hb (T:Ty P) (i:Nat) (hS:pE W late listed HL H0) (hg:oV ops A=true) (j4:PF Q) (hs:zk T n ops env i=some e)
 (h:aG W n (gI P ops Q (SO W H0) late fuel (listed.setIfInBounds i true)) (e::env) HL) (hb:CZ ops A late listed i=true:=by kernel_rfl):aG W n (gI P ops Q (SO W H0) late (fuel+1) listed) env HL:=Qf T i hg j4 hb hS hs h
theorem av (i:Nat) (hS:pE W late listed HL H0) (hg:oV ops A=true) (j4:PF Q) (hs:slot n ops env i=some (o,d)) (hv:gK W P n env H0.flatten o v)
 (h:aG W n (gI P ops Q (SO W H0) late fuel (listed.setIfInBounds i true)) ((d,v)::env) HL) (hb:CZ ops A late listed i=true:=by kernel_rfl) (hl:(late.all λj=>(A.getD j []).contains i)=true:=by rfl):
 aG W n (gI P ops Q (SO W H0) late (fuel+1) listed) env HL:=Y3 i hg j4 hb hS hl hs hv h
theorem an (hS:pE W late listed HL H0) (h:aG W n (gI P ops Q (SO W H0) late fuel listed) env HL):aG W n (rf W P ops Q H0 late fuel listed) env HL:=YZ hS h
theorem ao (i:Nat) (h:aG W n (wpOp P ops Q i (rf W P ops Q H0 late fuel (listed.setIfInBounds i true))) env HL) (hr:Region.ready .any ops listed=[i]:=by kernel_rfl):
 aG W n (gI P ops Q (SO W H0) late (fuel+1) listed) env HL:=Y0 i hr h
theorem gy (i j:Nat) (h1:aG W n (wpOp P ops Q i (rf W P ops Q H0 late fuel (listed.setIfInBounds i true))) env HL)
 (h2:aG W n (wpOp P ops Q j (rf W P ops Q H0 late fuel (listed.setIfInBounds j true))) env HL) (hr:Region.ready .any ops listed=[i,j]:=by kernel_rfl):
 aG W n (gI P ops Q (SO W H0) late (fuel+1) listed) env HL:=Y2 i j hr h1 h2
theorem PZ (i j m:Nat) (h1:aG W n (wpOp P ops Q i (rf W P ops Q H0 late fuel (listed.setIfInBounds i true))) env HL)
 (h2:aG W n (wpOp P ops Q j (rf W P ops Q H0 late fuel (listed.setIfInBounds j true))) env HL)
 (h3:aG W n (wpOp P ops Q m (rf W P ops Q H0 late fuel (listed.setIfInBounds m true))) env HL) (hr:Region.ready .any ops listed=[i,j,m]:=by kernel_rfl):
 aG W n (gI P ops Q (SO W H0) late (fuel+1) listed) env HL:=Y1 i j m hr h1 h2 h3
theorem ae (h:aG W n (Q .normal) env HL) (hr:Region.ready .any ops listed=[]:=by kernel_rfl):aG W n (gI P ops Q (SO W H0) late fuel listed) env HL:=YY hr h
end
end
section
variable {W : World} {P : Program}
section
variable {n : Nat} {Q : Exit -> Act -> World -> Prop} {env E : Env} {H : Hp} {ops : Array Oper}
theorem ga (T:Ty P) (l1:List Nat) (s:Nat) (ks:List Nat) (d:Nat) (hs:lk s env=some (.bool c))
 (h1:qG T n ops l1 ((s,.bool true)::env)=some e1) (h2:qG T n ops l1 ((s,.bool false)::env)=some e2) (k1:lk d e1=some (.bool x)) (k2:lk d e2=some (.bool false))
 (hE:nE ks e1=some E) (FD:nE ks e2=some E) (h:At W n (wpOps P ops Q l2) (E++[(d,.bool (c&&x))]) H):At W n (wpOps P ops Q (l1++l2)) env H:=
 P3 T l1 (E++[(d,.bool (c&&x))]) hs h1 h2 (λhc=>A1 (B:=[(d,.bool (c&&x))]) (vm hE) ⟨by rw[k1,hc,Bool.true_and],trivial⟩) (λhc=>A1 (B:=[(d,.bool (c&&x))]) (vm FD) ⟨by rw[k2,hc,Bool.false_and],trivial⟩) h
theorem go (T:Ty P) (l1:List Nat) (s:Nat) (ks:List Nat) (d:Nat) (hs:lk s env=some (.bool c))
 (h1:qG T n ops l1 ((s,.bool true)::env)=some e1) (h2:qG T n ops l1 ((s,.bool false)::env)=some e2) (k1:lk d e1=some (.bool true)) (k2:lk d e2=some (.bool x))
 (hE:nE ks e1=some E) (FD:nE ks e2=some E) (h:At W n (wpOps P ops Q l2) (E++[(d,.bool (c||x))]) H):At W n (wpOps P ops Q (l1++l2)) env H:=
 P3 T l1 (E++[(d,.bool (c||x))]) hs h1 h2 (λhc=>A1 (B:=[(d,.bool (c||x))]) (vm hE) ⟨by rw[k1,hc,Bool.true_or],trivial⟩) (λhc=>A1 (B:=[(d,.bool (c||x))]) (vm FD) ⟨by rw[k2,hc,Bool.false_or],trivial⟩) h
end
section
variable {HL : List Hp}
theorem rO {α:Type} {k:Fl α} {xs:List α} {a:Option Addr} {F:Hp} (h:aT k xs a F) (j:Nat) (hj:idx j HL=some F:=by rfl):aT k xs a HL.flatten:=ahb h hj
theorem oO {α:Type} {k:Fl α} {E:Nat} {xs:List α} {a:Option Addr} {n:Nat} {F:Hp} (h:ak k E xs a n F) (j:Nat) (hj:idx j HL=some F:=by rfl):aT k xs a HL.flatten:=U6 h hj
end
section
variable {n : Nat} {Q : Exit -> Act -> World -> Prop} {env : Env} {HL : List Hp} {ops : Array Oper} {i : Nat} {rest : List Nat}
def T_ (T:Ty P) (n:Nat) (ops:Array Oper) (env:Env) (i:Nat):Option (Nat×Option Addr×Nat×Int×Nat):=
 match slot n ops env i with
 |none=>none
 |some (o,d)=>match o.op with
  | .indexAddr t x y=>match ev env x,ev env y,T.bR t with
   |some (.slice a m _),some (.int _ j),some (.slice E)=>match T.inf E with
    |some (sz,_,_)=>some (d,a,m,j,sz)
    |none=>none
   |_,_,_=>none
  |_=>none
theorem ix (T:Ty P) {d m sz b off:Nat} {a:Option Addr} {j:Int} (h1:T_ T n ops env i=some (d,a,m,j,sz)) (ha:a=some ⟨b,off,none⟩) (hc:0<=j/\j<(m:Int))
 (h:aG W n (wpOps P ops Q rest) ((d,.pointer (some ⟨b,off+j.toNat*sz,none⟩))::env) HL):aG W n (wpOps P ops Q (i::rest)) env HL:=by
 unfold T_ at h1;split at h1
 ·cases h1
 ·rename_i o d' hs;split at h1
  ·rename_i t x y aS;split at h1
   ·rename_i a' m' cp kk j' E hx hy hu;split at h1
    ·rename_i sz' by' z hi
     simp only[Option.some.injEq,Prod.mk.injEq] at h1;obtain⟨rfl,rfl,rfl,rfl,rfl⟩:=h1;exact br hs (cn T aS hx hy hu hi ha hc.1 hc.2) h
    ·cases h1
   ·cases h1
  ·cases h1
theorem le {α:Type} [Inhabited α] {k:Fl α} (T:Ty P) {d b off:Nat} {v:Value} {xs:List α} {a:Option Addr} {j:Int} (f:Nat) (hr:aT k xs a HL.flatten) (ha:a=some ⟨b,off,none⟩) (hj:0<=j/\j<(xs.length:Int)) (h1:D1 T n ops env i=some (d,b,off+j.toNat*k.size+f)) (hc:idx f (k.enc (rd xs j))=some v)
 (h:aG W n (wpOps P ops Q rest) ((d,v)::env) HL):aG W n (wpOps P ops Q (i::rest)) env HL:=lg T h1 (e_ hr ha hj f hc) h
end
section
variable {n : Nat} {Q : Exit -> Act -> World -> Prop} {env : Env} {HL jU : List Hp} {ops : Array Oper} {i : Nat} {rest : List Nat} {K : Act -> World -> Prop}
def Up (T:Ty P) (n:Nat) (ops:Array Oper) (env:Env) (i j:Nat) (HL:List Hp):Option (Nat×Nat×Nat×Value):=
 match D1 T n ops env i,idx j HL with
 |some (d,b,off),some ((b',.cells arr _ _)::_)=>match idx off arr.toList with
  |some v=>some (d,b,b',v)
  |none=>none
 |_,_=>none
theorem lf (T:Ty P) (j:Nat) (h1:Up T n ops env i j HL=some (d,b,b,v)) (h:aG W n (wpOps P ops Q rest) ((d,v)::env) HL):aG W n (wpOps P ops Q (i::rest)) env HL:=by
 unfold Up at h1;split at h1
 ·rename_i d' b' off Qj arr E fr Hr ha hj;split at h1
  ·rename_i v' hv;simp only[Option.some.injEq,Prod.mk.injEq] at h1;obtain⟨rfl,rfl,rfl,rfl⟩:=h1;exact ld T j ha hj hv h
  ·cases h1
 ·cases h1
def Uk (T:Ty P) (n:Nat) (ops:Array Oper) (env:Env) (i j:Nat) (HL:List Hp):Option (Nat×Nat×Nat×List Value):=
 match NR T n ops env i,idx j HL with
 |some (d,b,off,sz),some ((b',.cells arr _ _)::_)=>bif Nat.beq (cut off sz arr.toList).length sz then some (d,b,b',cut off sz arr.toList) else none
 |_,_=>none
theorem lm (T:Ty P) (j:Nat) (h1:Uk T n ops env i j HL=some (d,b,b,cs)) (h:aG W n (wpOps P ops Q rest) ((d,.agg cs.toArray)::env) HL):aG W n (wpOps P ops Q (i::rest)) env HL:=by
 unfold Uk at h1;split at h1
 ·rename_i d' b' off sz Qj arr E fr Hr ha hj
  cases hc:Nat.beq (cut off sz arr.toList).length sz with
  |false=>rw[hc] at h1;cases h1
  |true=>
   rw[hc] at h1;simp only[cond_true,Option.some.injEq,Prod.mk.injEq] at h1;obtain⟨rfl,rfl,rfl,rfl⟩:=h1;exact la T j ha hj hc h
 ·cases h1
def Hn (T:Ty P) (ops:Array Oper) (env:Env) (i j:Nat) (HL:List Hp):Option (Nat×Nat×List Hp):=
 match Ht T ops env i,idx j HL with
 |some (b,off,vs),some ((b',.cells arr E (0,0))::Hr)=>bif Nat.ble (off+vs.length) arr.size then some (b,b',HL.set j ((b',.cells (vR off vs arr.toList).toArray E (0,0))::Hr)) else none
 |_,_=>none
theorem sf (T:Ty P) (j:Nat) (h1:Hn T ops env i j HL=some (b,b,jU)) (h:aG W n K env jU):aG W n (wpOp P ops Q i K) env HL:=by
 unfold Hn at h1;split at h1
 ·rename_i b' off vs Qj arr E Hr ha hj
  cases hc:Nat.ble (off+vs.length) arr.size with
  |false=>rw[hc] at h1;cases h1
  |true=>
   rw[hc] at h1;simp only[cond_true,Option.some.injEq,Prod.mk.injEq] at h1;obtain⟨rfl,rfl,rfl⟩:=h1;exact st T j ha hj hc h
 ·cases h1
theorem sg (T:Ty P) (j:Nat) (h1:Hn T ops env i j HL=some (b,b,jU)) (h:aG W n (wpOps P ops Q rest) env jU):aG W n (wpOps P ops Q (i::rest)) env HL:=aX (sf T j h1 h)
end
def fH:List Hp->Option (List Hp)
 |[]=>some []
 |A::r=>match fH r with
  |some r'=>some (A::r')
  |none=>none
theorem BJ: ∀{l r:List Hp},fH l=some r->l=r
 |[],_,h=>by simpa[fH] using h
 |A::l,r,h=>by
  unfold fH at h;split at h
  ·rename_i r' hr;simp only[Option.some.injEq] at h;subst h;rw[BJ hr]
  ·cases h
theorem fz (h:fH HL=some jU) (h':aG W n F env jU):aG W n F env HL:=by rw[BJ h];exact h'
end
end Go.Hx
