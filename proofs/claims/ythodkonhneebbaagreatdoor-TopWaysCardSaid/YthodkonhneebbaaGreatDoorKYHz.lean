/- The logic of this claim, the last rules: calls by places, and more. -/
import Derived.KernelRfl
import Derived.Test.YthodkonhneebbaaGreatDoorKYHy
namespace Go.Hx
set_option autoImplicit true
set_option relaxedAutoImplicit true
set_option linter.unusedVariables false
set_option linter.unusedSimpArgs false
set_option linter.unusedSectionVars false
section
def cG:Option Hp->List Hp->List Hp
 |some A,r=>A::r
 |none,r=>[]::r
def sA:List Nat->List Hp->List Hp
 |[],_=>[]
 |j::js,HL=>cG (idx j HL) (sA js (HL.eraseIdx j))
def sR:List Nat->List Hp->List Hp
 |[],HL=>HL
 |j::js,HL=>sR js (HL.eraseIdx j)
theorem BZ: ∀(js:List Nat) (HL:List Hp),rf js HL=(sA js HL,sR js HL)
 |[],_=>rfl
 |j::js,HL=>by
  unfold rf sA sR;rw[BZ js (HL.eraseIdx j)]
  cases idx j HL<;>rfl
def upto:Nat->Nat->List Nat
 |_,0=>[]
 |i,m+1=>i::upto (i+1) m
theorem Zb: ∀(m i:Nat),upto i m=List.range' i m
 |0,i=>by simp[upto]
 |m+1,i=>by rw[upto,Zb m (i+1),List.range'_succ]
section
theorem abd {id:Nat} (m:Nat) (hl:Nat.beq ops.size m=true) (h:aK W n (wpOps P ops Q (upto 0 m)) env HL):aK W n ((Code.region id ops false).wp P Q) env HL:=
 at_region _ (by rw[Zb,Nat.eq_of_beq_eq_true hl,List.range_eq_range']) h
theorem R_ {args:Array Operand} {types:Array TypeId} {first captured:Array Value}
 (js:List Nat) (hs:slot n ops env i=some (o,d)) (aV:o.op= .call ⟨.value c,args,types⟩) (hc:ev env c=some (.func (.func f) first captured)) (ha:args.toList.mapM (ev env)=some vs) (hf:Has P f)
 (has:first.toList++(vs++captured.toList)=as) (oH:hZ P f as (sA js HL++[(sR js HL).flatten]) (λ_:Unit=>v) (λ_=>sA js HL++[(sR js HL).flatten]))
 (h:aK W n K ((d,v)::env) HL):aK W n (wpOp P ops Q i K) env HL:=by
 refine wm (B:=λ_=>sA js HL) js hs aV hc ha hf has (BZ js HL) oH (λ_=>pR (λw o=>?_) h);have:=Jb js HL;rw[BZ] at this;rw[List.flatten_append] at o;exact o.perm (List.perm_append_comm.trans this.symm)
theorem J'
 (js:List Nat) (hs:slot n ops env i=some (o,d)) (aV:o.op= .call ⟨.value c,args,types⟩) (hc:ev env c=some (.func (.func f) first captured)) (ha:args.toList.mapM (ev env)=some vs) (hf:Has P f)
 (has:first.toList++(vs++captured.toList)=as) (wT:rf js HL=(As,R)) (oH:hZ P f as (As++[R.flatten]) (λ_:Unit=>v) (λ_=>As++[R.flatten]))
 (h:aK W n K ((d,v)::env) HL):aK W n (wpOp P ops Q i K) env HL:=
 R_ js hs aV hc ha hf has (by rw[BZ] at wT;obtain⟨rfl,rfl⟩:=Prod.mk.inj wT;exact oH) h
theorem aaX (Rp:Value->List Hp->Prop) (kp:List Nat)
 (js:List Nat) (hs:slot n ops env i=some (o,d)) (aV:o.op= .call ⟨.value c,args,types⟩) (hc:ev env c=some (.func (.func f) first captured)) (ha:args.toList.mapM (ev env)=some vs) (hf:Has P f)
 (has:first.toList++(vs++captured.toList)=as)
 (oH:hZ P f as (sA js HL++[(sR js HL).flatten]) (λp:{p:Value×List Hp // Rp p.1 p.2}=>p.1.1) (λp=>(p.1.2++sA kp HL)++[(sR js HL).flatten]))
 (h: ∀u G,Rp u G->aK W n K ((d,u)::env) (sR js HL++(G++sA kp HL))):aK W n (wpOp P ops Q i K) env HL:=
 GL Rp _ js hs aV hc ha hf has (BZ js HL) oH h
theorem xS
 (js:List Nat) (hw:want ops env o=some true) (hd:o.dst=some d) (hn:Nat.blt d n=true) (aV:o.op= .call ⟨.value c,args,types⟩) (hc:ev env c=some (.func (.func f) first captured)) (ha:args.toList.mapM (ev env)=some vs) (hf:Has P f)
 (has:first.toList++(vs++captured.toList)=as) (oH:hZ P f as (sA js HL++[(sR js HL).flatten]) (λ_:Unit=>v) (λ_=>sA js HL++[(sR js HL).flatten]))
 (h:iT W P n ops HL.flatten l F ((d,v)::env)):iT W P n ops HL.flatten (o::l) F env:=
 abB js hw hd hn aV hc ha hf has (BZ js HL) oH h
end
end
section
inductive Fr where
 |F6 (c:Code)
 |EO (id:Nat)
 |mid (M:Act->World->Prop)
def den (P:Program) (Q0:Exit->Act->World->Prop):List Fr->Exit->Act->World->Prop
 |[]=>Q0
 | .F6 y::K=>Exit.then (y.wp P (den P Q0 K)) (den P Q0 K)
 | .EO id::K=>Exit.inBlock id (den P Q0 K)
 | .mid M::K=>Exit.then M (den P Q0 K)
inductive Sx where
 |Bi (c:Code) (K:List Fr) (env:Env)
 |BN (o:Array Oper) (l:List Nat) (K:List Fr) (env:Env)
 |out (e:Exit) (K:List Fr) (env:Env)
def Sx.goal (W:World) (P:Program) (n:Nat) (Q0:Exit->Act->World->Prop) (HL:List Hp):Sx->Prop
 | .Bi c K env=>aK W n (c.wp P (den P Q0 K)) env HL
 | .BN ops l K env=>aK W n (wpOps P ops (den P Q0 K) l) env HL
 | .out e K env=>aK W n (den P Q0 K e) env HL
def Q7:Code->List Fr->Env->Option Sx
 | .skip,K,env=>some (.out .normal K env)
 | .seq a b,K,env=>some (.Bi a (.F6 b::K) env)
 | .block id a,K,env=>some (.Bi a (.EO id::K) env)
 | .exit id,K,env=>some (.out (.exit id) K env)
 | .ret,K,env=>some (.out .ret K env)
 | .region _ ops false,K,env=>some (.BN ops (upto 0 ops.size) K env)
 |_,_,_=>none
def Q8:Exit->List Fr->Env->Option Sx
 | .normal,.F6 c::K,env=>some (.Bi c K env)
 | .normal,.EO _::K,env=>some (.out .normal K env)
 | .exit i,.F6 _::K,env=>some (.out (.exit i) K env)
 | .exit i,.mid _::K,env=>some (.out (.exit i) K env)
 | .exit i,.EO j::K,env=>bif Nat.beq i j then some (.out .normal K env) else some (.out (.exit i) K env)
 | .ret,_::K,env=>some (.out .ret K env)
 |_,_,_=>none
def Mu (T:Ty P) (n:Nat):Sx->Option Sx
 | .Bi c K env=>Q7 c K env
 | .BN _ [] K env=>some (.out .normal K env)
 | .BN ops (i::l) K env=>match AM T n ops env i with
  |some e=>some (.BN ops l K (e::env))
  |none=>none
 | .out e K env=>Q8 e K env
def FN (T:Ty P) (n:Nat):Nat->Sx->Sx
 |0,s=>s
 |k+1,s=>match Mu T n s with
  |some s'=>FN T n k s'
  |none=>s
section
theorem akn {c:Code} {s:Sx} (h:Q7 c K env=some s) (g:s.goal W P n Q0 HL):aK W n (c.wp P (den P Q0 K)) env HL:=by
 unfold Q7 at h;split at h<;>first |(cases h;done) |skip
 all_goals (simp only[Option.some.injEq] at h;subst h)
 ·exact abi g
 ·exact Si g
 ·exact aaV g
 ·exact aa3 g
 ·exact at_ret g
 ·exact abd _ (by simp) g
theorem akp {s:Sx} (h:Q8 e K env=some s) (g:s.goal W P n Q0 HL):aK W n (den P Q0 K e) env HL:=by
 unfold Q8 at h;split at h
 ·simp only[Option.some.injEq] at h;subst h;exact abp g
 ·simp only[Option.some.injEq] at h;subst h;exact abb g
 ·simp only[Option.some.injEq] at h;subst h;exact Sk g
 ·simp only[Option.some.injEq] at h;subst h;exact Sk g
 ·rename_i i j K
  cases hb:Nat.beq i j with
  |true=>simp only[hb,cond_true,Option.some.injEq] at h;subst h;rw[Nat.eq_of_beq_eq_true hb];exact abr g
  |false=>simp only[hb,cond_false,Option.some.injEq] at h;subst h;exact abt hb g
 ·rename_i f K;simp only[Option.some.injEq] at h;subst h
  cases f with
  |F6 y=>exact Sh g
  |EO id=>exact abc g
  |mid M=>exact Sh g
 ·cases h
theorem ako {T:Ty P} {s s':Sx} (h:Mu T n s=some s') (g:s'.goal W P n Q0 HL):s.goal W P n Q0 HL:=by
 cases s with
 |Bi c K env=>exact akn h g
 |out e K env=>exact akp h g
 |BN ops l K env=>
  cases l with
  |nil=>simp only[Mu,Option.some.injEq] at h;subst h;exact at_end g
  |cons i l=>
   simp only[Mu] at h;split at h
   ·rename_i e he;simp only[Option.some.injEq] at h;subst h;exact abg T he g
   ·cases h
theorem Mg (T:Ty P): ∀(k:Nat) (s:Sx),(FN T n k s).goal W P n Q0 HL->s.goal W P n Q0 HL
 |0,_,h=>h
 |k+1,s,h=>by
  unfold FN at h;split at h
  ·rename_i s' hs;exact ako hs (Mg T k s' h)
  ·exact h
theorem rc (T:Ty P) (k:Nat) (h:(FN T n k (.Bi c K env)).goal W P n Q0 HL):aK W n (c.wp P (den P Q0 K)) env HL:=Mg T k (.Bi c K env) h
theorem ro (T:Ty P) (k:Nat) (h:(FN T n k (.BN ops l K env)).goal W P n Q0 HL):aK W n (wpOps P ops (den P Q0 K) l) env HL:=Mg T k (.BN ops l K env) h
theorem rx (T:Ty P) (k:Nat) (h:(FN T n k (.out e K env)).goal W P n Q0 HL):aK W n (den P Q0 K e) env HL:=Mg T k (.out e K env) h
end
theorem WU: ∀(l:List Value) (m k:Nat) (v:Value),lk k ((l.zipIdx m).map λx=>(x.2,x.1))=some v->m<=k
 |[],_,_,_,h=>by simp[lk] at h
 |a::l,m,k,v,h=>by
  simp only[List.zipIdx_cons,List.map_cons,lk] at h
  by_cases hk:k=m
  ·omega
  ·rw[xV hk] at h;have:=WU l (m+1) k v (by simpa using h)
   omega
theorem YU: ∀(l:List Value) (m:Nat) (env:Env),(∀k v,lk k ((l.zipIdx m).map λx=>(x.2,x.1))=some v->lk k env=some v)->sub ((l.zipIdx m).map λx=>(x.2,x.1)) env
 |[],_,_,_=>trivial
 |a::l,m,env,h=>by
  simp only[List.zipIdx_cons,List.map_cons];refine⟨h m a (by simp[lk]),YU l (m+1) env λk v hk=>h k v ?_⟩
  have:=WU l (m+1) k v hk;simp only[List.zipIdx_cons,List.map_cons,lk];rw[xV (show ¬k=m by omega)]
  simpa using hk
theorem aH {f:FuncId} {fn:Func} {c:Code} {args:List Value} {β:Type} {V:β->Value} {G:β->List Hp} {HL:List Hp}
 (hf:P.funcs[f]? =some fn) (hb:fn.body=some c) (hn:Nat.ble args.length fn.ntmps=true)
 (h: ∀W,aK W fn.ntmps (c.wp P (den P (bodyPost P fn λe w'=> ∃b,e= .returned (V b)/\bn W w' (G b).flatten) [])) ((args.zipIdx.map λx=>(x.2,x.1))) HL):hZ P f args HL V G:=
 ab4 _ hf hb hn (YU args 0 _ λ_ _ h=>h) h
end
section
def ER (n:Nat) (ops:Array Oper) (env:Env) (i:Nat):Option (Nat×FuncId×List Value):=
 match slot n ops env i with
 |none=>none
 |some (o,d)=>match o.op with
  | .call ⟨.value c,args,_⟩=>match ev env c,args.toList.mapM (ev env) with
   |some (.func (.func f) first captured),some vs=>some (d,f,first.toList++(vs++captured.toList))
   |_,_=>none
  |_=>none
theorem SN {n:Nat} (h:ER n ops env i=some (d,f,vl)):
 ∃o c args types first captured vs,slot n ops env i=some (o,d)/\o.op= .call ⟨.value c,args,types⟩/\ev env c=some (.func (.func f) first captured)/\args.toList.mapM (ev env)=some vs/\first.toList++(vs++captured.toList)=vl:=by
 unfold ER at h;split at h
 ·cases h
 ·rename_i o d' ho;split at h
  ·rename_i c args types aV;split at h
   ·rename_i f' first captured vs hc ha
    simp only[Option.some.injEq,Prod.mk.injEq] at h;obtain⟨rfl,rfl,rfl⟩:=h;exact⟨o,c,args,types,first,captured,vs,ho,aV,hc,ha,rfl⟩
   ·cases h
  ·cases h
section
theorem kh {V:α->Value} (js:List Nat) (hv:ER n ops env i=some (d,f,vl)) (hf:Has P f) (e:x.bind g=some z)
 (hc: ∀{v},x=some v->hZ P f vl (sA js HL++[(sR js HL).flatten]) (λ_:Unit=>V v) (λ_=>sA js HL++[(sR js HL).flatten]))
 (h: ∀v,g v=some z->aK W n K ((d,V v)::env) HL):aK W n (wpOp P ops Q i K) env HL:=by
 obtain⟨v,e1,e2⟩:=fY e;obtain⟨o,c,args,types,first,captured,vs,h1,h2,h3,h4,h5⟩:=SN hv
 exact R_ js h1 h2 h3 h4 hf h5 (hc e1) (h v e2)
theorem kR (Rp:α->Value->List Hp->Prop) (kp js:List Nat) (hv:ER n ops env i=some (d,f,vl)) (hf:Has P f) (e:x.bind g=some z)
 (hc: ∀{v},x=some v->hZ P f vl (sA js HL++[(sR js HL).flatten]) (λp:{p:Value×List Hp // Rp v p.1 p.2}=>p.1.1) (λp=>(p.1.2++sA kp HL)++[(sR js HL).flatten]))
 (h: ∀v,g v=some z-> ∀u G,Rp v u G->aK W n K ((d,u)::env) (sR js HL++(G++sA kp HL))):aK W n (wpOp P ops Q i K) env HL:=by
 obtain⟨v,e1,e2⟩:=fY e;obtain⟨o,c,args,types,first,captured,vs,h1,h2,h3,h4,h5⟩:=SN hv
 exact aaX (Rp v) kp js h1 h2 h3 h4 hf h5 (hc e1) (h v e2)
theorem k {V:α->Value} (js:List Nat) (hv:ER n ops env i=some (d,f,vl)) (hf:Has P f) (e:x.bind g=some z)
 (hc: ∀{v},x=some v->hZ P f vl (sA js HL++[(sR js HL).flatten]) (λ_:Unit=>V v) (λ_=>sA js HL++[(sR js HL).flatten]))
 (h: ∀v,g v=some z->aK W n (wpOps P ops Q rest) ((d,V v)::env) HL):aK W n (wpOps P ops Q (i::rest)) env HL:=ba (kh js hv hf e hc h)
theorem kr (Rp:α->Value->List Hp->Prop) (kp js:List Nat) (hv:ER n ops env i=some (d,f,vl)) (hf:Has P f) (e:x.bind g=some z)
 (hc: ∀{v},x=some v->hZ P f vl (sA js HL++[(sR js HL).flatten]) (λp:{p:Value×List Hp // Rp v p.1 p.2}=>p.1.1) (λp=>(p.1.2++sA kp HL)++[(sR js HL).flatten]))
 (h: ∀v,g v=some z-> ∀u G,Rp v u G->aK W n (wpOps P ops Q rest) ((d,u)::env) (sR js HL++(G++sA kp HL))):aK W n (wpOps P ops Q (i::rest)) env HL:=ba (kR Rp kp js hv hf e hc h)
end
section
theorem cd (hc:ev env c=some (.bool (@decide p i1))) (e: @ite _ p i2 X Y=some z) (ht:X=some z->At W n (a.wp P Q) env H) (hf:Y=some z->At W n (b.wp P Q) env H):At W n ((Code.cond c a b).wp P Q) env H:=
 CH hc (λh=>ht ((@if_pos p i2 (@of_decide_eq_true p i1 h) _ X Y).symm.trans e)) (λh=>hf ((@if_neg p i2 (@of_decide_eq_false p i1 h) _ X Y).symm.trans e))
theorem cb (hc:ev env c=some (.bool p)) (e:(if p=true then X else Y)=some z) (ht:X=some z->At W n (a.wp P Q) env H) (hf:Y=some z->At W n (b.wp P Q) env H):At W n ((Code.cond c a b).wp P Q) env H:=
 CH hc (λh=>ht (by rwa[if_pos h] at e)) (λh=>hf (by rwa[if_neg (by simp[h])] at e))
theorem ad (s:Nat) (hs:lk s env=some (.bool (@decide p i1))) (e: @ite _ p i2 X Y=some z) (ht:X=some z->At W n F ((s,.bool true)::env) H) (hf:Y=some z->At W n F ((s,.bool false)::env) H):At W n F env H:=
 Nn hs (λh=>ht ((@if_pos p i2 (@of_decide_eq_true p i1 h) _ X Y).symm.trans e)) (λh=>hf ((@if_neg p i2 (@of_decide_eq_false p i1 h) _ X Y).symm.trans e))
theorem ab (s:Nat) (hs:lk s env=some (.bool p)) (e:(if p=true then X else Y)=some z) (ht:X=some z->At W n F ((s,.bool true)::env) H) (hf:Y=some z->At W n F ((s,.bool false)::env) H):At W n F env H:=
 Nn hs (λh=>ht (by rwa[if_pos h] at e)) (λh=>hf (by rwa[if_neg (by simp[h])] at e))
theorem qd {ops:Array Oper} {l:List Oper} {F:Act->Prop} {p:Prop} {i1 i2:Decidable p} (s:Nat) (hs:lk s env=some (.bool (@decide p i1))) (e: @ite _ p i2 X Y=some z) (ht:X=some z->iT W P n ops H l F ((s,.bool true)::env)) (hf:Y=some z->iT W P n ops H l F ((s,.bool false)::env)):iT W P n ops H l F env:=
 Sp hs (λh=>ht ((@if_pos p i2 (@of_decide_eq_true p i1 h) _ X Y).symm.trans e)) (λh=>hf ((@if_neg p i2 (@of_decide_eq_false p i1 h) _ X Y).symm.trans e))
theorem qb {ops:Array Oper} {l:List Oper} {F:Act->Prop} {p:Bool} (s:Nat) (hs:lk s env=some (.bool p)) (e:(if p=true then X else Y)=some z) (ht:X=some z->iT W P n ops H l F ((s,.bool true)::env)) (hf:Y=some z->iT W P n ops H l F ((s,.bool false)::env)):iT W P n ops H l F env:=
 Sp hs (λh=>ht (by rwa[if_pos h] at e)) (λh=>hf (by rwa[if_neg (by simp[h])] at e))
end
section
def Dz (T:Ty P) (n:Nat) (ops:Array Oper) (env:Env) (i:Nat):Option (Nat×Nat×Nat):=
 match slot n ops env i with
 |none=>none
 |some (o,d)=>match o.op with
  | .load t x=>match ev env x,T.bW t with
   |some (.pointer (some ⟨b,off,none⟩)),some td=>bif oz td then none else some (d,b,off)
   |_,_=>none
  |_=>none
theorem P0 (h:Dz T n ops env i=some (d,b,off)): ∃o t x td,slot n ops env i=some (o,d)/\o.op= .load t x/\ev env x=some (.pointer (some ⟨b,off,none⟩))/\T.bW t=some td/\oz td=false:=by
 unfold Dz at h;split at h
 ·cases h
 ·rename_i o d' ho;split at h
  ·rename_i t x aV;split at h
   ·rename_i b' DP td hx hu
    cases ha:oz td with
    |true=>rw[ha] at h;cases h
    |false=>
     rw[ha] at h;simp only[cond_false,Option.some.injEq,Prod.mk.injEq] at h;obtain⟨rfl,rfl,rfl⟩:=h;exact⟨o,t,x,td,ho,aV,hx,hu,ha⟩
   ·cases h
  ·cases h
theorem ld (T:Ty P) (j:Nat) (h1:Dz T n ops env i=some (d,b,off)) (hj:idx j HL=some ((b,.cells arr E fr)::Hr)) (hv:idx off arr.toList=some v)
 (h:aK W n (wpOps P ops Q rest) ((d,v)::env) HL):aK W n (wpOps P ops Q (i::rest)) env HL:=
 let⟨_,_,_,_,h2,h3,h4,h5,h6⟩:=P0 h1
 bz h2 (cS T h3 h4 h5 h6 (PS (j:=j) hj hv)) h
theorem lg (T:Ty P) (h1:Dz T n ops env i=some (d,b,off)) (hm: ∃arr E fr,(b,Obj.cells arr E fr)∈HL.flatten/\arr[off]? =some v)
 (h:aK W n (wpOps P ops Q rest) ((d,v)::env) HL):aK W n (wpOps P ops Q (i::rest)) env HL:=
 let⟨_,_,_,_,h2,h3,h4,h5,h6⟩:=P0 h1
 bz h2 (cS T h3 h4 h5 h6 hm) h
theorem pb (T:Ty P) {fn:Func} {β:Type} {V:β->Value} {G:β->List Hp} {rs:List ResultVar} {vs:List Value} (hf:fn.results.toList=rs) (hr:ou T env HL.flatten rs vs) (js:List Nat) (b:β) (hv:AA vs=V b) (hg:pick js HL=G b):
 aK W n (bodyPost P fn (λe w'=> ∃b,e= .returned (V b)/\bn W w' (G b).flatten) .ret) env HL:=
 GP hf hr (λw o=>⟨b,by rw[hv],DT js hg o⟩)
end
section
theorem bU (h:PF Q0):PF (den P Q0 K):=by
 induction K with
 |nil=>exact h
 |cons f K ih=>cases f with
  |F6 y=>exact XD ih
  |EO id=>exact aik ih
  |mid M=>exact XD ih
end
section
def RW (ops:Array Oper):Nat->List (List Nat)->List (List Nat)
 |0,r=>r
 |k+1,r=>
  let es:=match ops[r.length]? with
   |none=>[]
   |some o=>(o.after.toList.filter λ(e:Edge)=>Region.binds .any e).map λ(e:Edge)=>e.on
  RW ops k (r++[(es++(es.map λe=>r.getD e []).flatten).eraseDups])
def EI (ops:Array Oper):List (List Nat):=RW ops ops.size []
def takes (ops:Array Oper) (A:List (List Nat)) (late:List Nat):Array Bool->List Nat->Bool
 |_,[]=>true
 |l,i::r=>B8 ops A late l i&&takes ops A late (l.setIfInBounds i true) r
theorem VX (T:Ty P): ∀(l:List Nat) {env gF:Env} {fuel:Nat} {listed:Array Bool} (hg:pz ops A=true) (jS:PF Q) (hb:takes ops A late listed l=true) (hS: ∀listed,pP W late listed HL H0) (hr:sa T n ops l env=some gF)
 (h:aK W n (gK P ops Q (SO W H0) late fuel (l.foldl (λa i=>a.setIfInBounds i true) listed)) gF HL),aK W n (gK P ops Q (SO W H0) late (fuel+l.length) listed) env HL
 |[],_,_,_,_,_,_,_,_,hr,h=>by simp only[sa,Option.some.injEq] at hr;subst hr;exact h
 |i::r,env,gF,fuel,listed,hg,jS,hb,hS,hr,h=>by
  simp only[takes,Bool.and_eq_true] at hb;simp only[sa] at hr;split at hr
  ·rename_i e he;exact Sn T i hg jS hb.1 (hS listed) he (VX T r hg jS hb.2 hS hr h)
  ·cases hr
theorem hs (T:Ty P) (fu:Nat) (l:List Nat) {env gF:Env} {m:Nat} {listed:Array Bool} (hm:m=fu+l.length) (hg:pz ops A=true) (jS:PF Q) (hb:takes ops A late listed l=true) (hS: ∀listed,pP W late listed HL H0) (hr:sa T n ops l env=some gF)
 (h:aK W n (gK P ops Q (SO W H0) late fu (l.foldl (λa i=>a.setIfInBounds i true) listed)) gF HL):aK W n (gK P ops Q (SO W H0) late m listed) env HL:=by
 subst hm;exact VX T l hg jS hb hS hr h
end
section
def YH (n:Nat) (ops:Array Oper) (env:Env) (i:Nat):Option Nat:=
 match ops[i]? with
 |none=>none
 |some o=>match want ops env o,o.dst with
  |some false,some d=>bif Nat.blt d n then some d else none
  |_,_=>none
theorem abq (h1:YH n ops env i=some d) (h:aK W n K ((d,undef)::env) HL):aK W n (wpOp P ops Q i K) env HL:=by
 unfold YH at h1;split at h1
 ·cases h1
 ·rename_i o ho;split at h1
  ·rename_i d' hw hd
   cases hb:Nat.blt d' n with
   |false=>simp[hb] at h1
   |true=>
    simp only[hb,cond_true,Option.some.injEq] at h1;subst h1;exact Ns ho hw hd (by simpa using hb) h
  ·cases h1
end
end
section
theorem Km (e:A.flatten=As.flatten) (c:hZ P f as (A++[R]) (λ_:Unit=>v) (λ_=>A++[R])):
 hZ P f as (As++[R]) (λ_:Unit=>v) (λ_=>As++[R]):=
 ab5 (by rw[List.flatten_append,List.flatten_append,e]) c
theorem Kn {f:FuncId} {as:List Value} {A As A2 Ru:List Hp} {R:Hp} {β:Type} {V:β->Value} {g:β->List Hp} (e:A.flatten=As.flatten) (e2:A2.flatten=Ru.flatten)
 (c:hZ P f as (A++[R]) V (λb=>(g b++A2)++[R])):hZ P f as (As++[R]) V (λb=>(g b++Ru)++[R]):=
 ab6 (by rw[List.flatten_append,List.flatten_append,e]) (λb=>by rw[List.flatten_append,List.flatten_append,List.flatten_append,List.flatten_append,e2]) c
end
section
def nE:List Nat->Env->Option Env
 |[],_=>some []
 |k::ks,env=>match lk k env,nE ks env with
  |some v,some r=>some ((k,v)::r)
  |_,_=>none
theorem wY: ∀{ks:List Nat} {env E:Env},nE ks env=some E->sub E env
 |[],_,_,h=>by simp only[nE,Option.some.injEq] at h;subst h;trivial
 |k::ks,env,E,h=>by
  unfold nE at h;split at h
  ·rename_i v r hv hr;simp only[Option.some.injEq] at h;subst h;exact⟨hv,wY hr⟩
  ·cases h
def nH:List Nat->List Hp->Option (List Hp)
 |[],_=>some []
 |j::js,HL=>match idx j HL,nH js (HL.eraseIdx j) with
  |some A,some r=>some (A::r)
  |_,_=>none
theorem IJ: ∀{js:List Nat} {HL G:List Hp},nH js HL=some G->pick js HL=G
 |[],_,_,h=>by simp only[nH,Option.some.injEq] at h;subst h;rfl
 |j::js,HL,G,h=>by
  unfold nH at h;split at h
  ·rename_i A r hA hr;simp only[Option.some.injEq] at h;subst h;simp only[pick,hA,IJ hr]
  ·cases h
def gE:Env->Env->Option (List Value)
 |[],_=>some []
 |e::r,env=>match lk e.1 env,gE r env with
  |some v,some l=>some (v::l)
  |_,_=>none
theorem KA: ∀{E env:Env},gE E env=some (E.map (·.2))->sub E env
 |[],_,_=>trivial
 |e::r,env,h=>by
  unfold gE at h;split at h
  ·rename_i v l hv hl;simp only[List.map_cons,Option.some.injEq,List.cons.injEq] at h;refine⟨by rw[hv,h.1],KA (by rw[hl,h.2])⟩
  ·cases h
theorem B5: ∀{A B env:Env},sub A env->sub B env->sub (A++B) env
 |[],_,_,_,h=>h
 |_::_,_,_,h1,h2=>⟨h1.1,B5 h1.2 h2⟩
theorem oi (h:some a=some b):a=b:=Option.some.inj h
section
theorem ke (ks js:List Nat) (h1:nE ks env=some E) (h2:nH js HL=some G) (h:aK W n F E G):aK W n F env HL:=Nu E js G (wY h1) (IJ h2) h
theorem ks (ks:List Nat) (h1:nE ks env=some E) (h:At W n F E H):At W n F env H:=abo E (wY h1) h
theorem kf (ks js:List Nat) (Ec:Env) (hE:nE ks env=some E) (hG:nH js HL=some G) (hc:sub Ec env) (h:aK W n F (E++Ec) G):aK W n F env HL:=Nu _ js G (B5 (wY hE) hc) (IJ hG) h
theorem kg (ks js Wx:List Nat) (Ec:Env) (Gc:List Hp) (hE:nE ks env=some E) (hG:nH js HL=some G) (hc:sub Ec env) (hh:pick Wx HL=G++Gc) (h:aK W n F (E++Ec) (G++Gc)):aK W n F env HL:=Nu _ Wx _ (B5 (wY hE) hc) hh h
theorem am {σ:Type} {I:σ->Prop} {E:σ->Env} {G:σ->List Hp} (s:σ) (js:List Nat) (hi:I s) (hs:gE (E s) env=some ((E s).map (·.2))) (hh:pick js HL=G s):aK W n (ED W n I E G) env HL:=
 aa_ s js hi (KA hs) hh
theorem ar {τ:Type} {I:Nat×τ->Prop} {E:Nat×τ->Env} {G:Nat×τ->List Hp} {k:Nat} {t:τ} (t':τ) (js:List Nat) (hi:I (k,t')) (hs:gE (E (k,t')) env=some ((E (k,t')).map (·.2))) (hh:pick js HL=G (k,t')):
 aK W n (Round W n I E (λs=>(G s).flatten) (λs=>s.1) (k+1,t)) env HL:=
 abf (k,t') js hi (Nat.lt_succ_self k) (KA hs) hh
theorem lq (ks js:List Nat) (f:Nat×τ->Prop×Env×List Hp) (hE:nE ks env=some E) (hG:nH js HL=some G) (s0:Nat×τ) (Ww:List Nat) (hi:(f s0).1)
 (hs:gE (f s0).2.1 env=some ((f s0).2.1.map (·.2))) (hh:pick Ww HL=G++(f s0).2.2)
 (round: ∀k t,(f (k+1,t)).1->aK W n (c.wp P (den P Q0 (.mid (Round W n (λs=>(f s).1) (λs=>E++(f s).2.1) (λs=>(G++(f s).2.2).flatten) (λs=>s.1) (k+1,t))::K))) (E++(f (k+1,t)).2.1) (G++(f (k+1,t)).2.2))
 (hz: ∀t,(f (0,t)).1->False:=by intro _ h;first |(cases h.1;done) |(cases h;done)):aK W n ((Code.loop c).wp P (den P Q0 K)) env HL:=
 Sb (λs=>(f s).1) (λs=>E++(f s).2.1) (λs=>G++(f s).2.2) (λs=>s.1) s0 Ww hi (B5 (wY hE) (KA hs)) hh (λ⟨k,t⟩ h=>by
  cases k with
  |zero=>exact(hz t h).elim
  |succ k=>exact round k t h)
theorem lu (ks js:List Nat) (hE:nE ks env=some E) (hG:nH js HL=some G)
 (round:aK W n (c.wp P (den P Q0 (.mid (Round W n (λ_:Unit=>True) (λ_=>E) (λ_=>G.flatten) (λ_=>0) ())::K))) E G):aK W n ((Code.loop c).wp P (den P Q0 K)) env HL:=
 Sb (λ_:Unit=>True) (λ_=>E) (λ_=>G) (λ_=>0) () js trivial (wY hE) (IJ hG) (λ_ _=>round)
theorem mq (e:X.bind g=some z) (ks js:List Nat) (f:β->σ->Prop×Env×List Hp) (hE:nE ks env=some E) (hG:nH js HL=some G)
 (h1: ∀v,X=some v->g v=some z->aK W n (x.wp P (den P Q0 (.mid (ED W n (λs=>(f v s).1) (λs=>E++(f v s).2.1) (λs=>G++(f v s).2.2))::K))) env HL)
 (h2: ∀v s,(f v s).1->g v=some z->aK W n (y.wp P (den P Q0 K)) (E++(f v s).2.1) (G++(f v s).2.2)):aK W n ((Code.seq x y).wp P (den P Q0 K)) env HL:=by
 obtain⟨v,e1,e2⟩:=fY e;exact abh _ _ _ (h1 v e1 e2) (λs hs=>h2 v s hs e2)
theorem mn {x:Code} {K:List Fr} {σ β γ:Type} {X:Option β} {g:β->Option γ} {z:γ} (e:X.bind g=some z) (ks js:List Nat) (f:β->σ->Prop×Env×List Hp) (hE:nE ks env=some E) (hG:nH js HL=some G)
 (h1: ∀v,X=some v->g v=some z->aK W n (x.wp P (den P Q0 (.mid (ED W n (λs=>(f v s).1) (λs=>E++(f v s).2.1) (λs=>G++(f v s).2.2))::K))) env HL)
 (h2: ∀v s,(f v s).1->g v=some z->aK W n (den P Q0 K .normal) (E++(f v s).2.1) (G++(f v s).2.2)):aK W n (x.wp P (den P Q0 K)) env HL:=by
 obtain⟨v,e1,e2⟩:=fY e;exact aaR _ _ _ (h1 v e1 e2) (λs hs=>h2 v s hs e2)
end
end
section
def xy:Nat->List Value->List Value->List Value
 |_,[],cs=>cs
 |0,v::vs,_::cs=>v::xy 0 vs cs
 |k+1,vs,c::cs=>c::xy k vs cs
 |_,_,[]=>[]
theorem YM: ∀(vs cs:List Value),vs.length<=cs.length->xy 0 vs cs=vs++cs.drop vs.length
 |[],cs,_=>by cases cs<;>simp[xy]
 |v::vs,[],h=>by simp at h
 |v::vs,c::cs,h=>by simp only[xy,YM vs cs (by simpa using h),List.length_cons,List.drop_succ_cons,List.cons_append]
theorem YN: ∀(k:Nat) (vs cs:List Value),k+vs.length<=cs.length->gx cs k vs=xy k vs cs
 |0,vs,cs,h=>by rw[YM vs cs U];simp[gx]
 |k+1,vs,[],h=>by simp at h
 |k+1,[],c::cs,h=>by simp[gx,xy]
 |k+1,v::vs,c::cs,h=>by
  have:=YN k (v::vs) cs (by simp at h⊢;omega)
  simp only[gx] at this⊢;simp only[xy,<-this,List.take_succ_cons,List.cons_append];rw[show k+1+(v::vs).length=(k+(v::vs).length)+1 from by omega,List.drop_succ_cons]
def Jj (T:Ty P) (ops:Array Oper) (env:Env) (i:Nat):Option (Nat×Nat×List Value):=
 match tJ ops env i with
 |none=>none
 |some o=>match o.op with
  | .store t x y=>match ev env x,ev env y,T.inf t with
   |some (.pointer (some ⟨b,off,none⟩)),some v,some (sz,_,_)=>bif Nat.beq (bN v).length sz&&(bN v).all Value.oneCell' then some (b,off,bN v) else none
   |_,_,_=>none
  |_=>none
section
theorem akl (h:Jj T ops env i=some (b,off,vs)):
 ∃o t x y v sz by' z,tJ ops env i=some o/\o.op= .store t x y/\ev env x=some (.pointer (some ⟨b,off,none⟩))/\ev env y=some v/\T.inf t=some (sz,by',z)/\(bN v).length=sz/\(bN v).all Value.oneCell'=true/\bN v=vs:=by
 unfold Jj at h;split at h
 ·cases h
 ·rename_i o ho;split at h
  ·rename_i t x y aV;split at h
   ·rename_i b' DP v sz by' z hx hy hi
    cases hc:(Nat.beq (bN v).length sz&&(bN v).all Value.oneCell') with
    |false=>rw[hc] at h;cases h
    |true=>
     rw[hc] at h;simp only[cond_true,Option.some.injEq,Prod.mk.injEq] at h;obtain⟨rfl,rfl,rfl⟩:=h;simp only[Bool.and_eq_true] at hc;exact⟨o,t,x,y,v,sz,by',z,ho,aV,hx,hy,hi,Nat.eq_of_beq_eq_true hc.1,hc.2,rfl⟩
   ·cases h
  ·cases h
theorem st (T:Ty P) (j:Nat) (h1:Jj T ops env i=some (b,off,vs)) (hj:idx j HL=some ((b,.cells arr E (0,0))::Hr)) (hb:Nat.ble (off+vs.length) arr.size=true)
 (h:aK W n K env (HL.set j ((b,.cells (xy off vs arr.toList).toArray E (0,0))::Hr))):aK W n (wpOp P ops Q i K) env HL:=by
 obtain⟨o,t,x,y,v,sz,by',z,a1,a2,a3,a4,a5,a6,a7,rfl⟩:=akl h1
 have jR:=Nat.le_of_ble_eq_true hb;exact abj T j _ a1 a2 a3 a4 a5 hj (by rw[a6];simp) a7 (by rw[<-a6];exact hb) (YN _ _ _ (by simpa using jR)) h
theorem sc (T:Ty P) (j:Nat) (h1:Jj T ops env i=some (b,off,vs)) (hj:idx j HL=some ((b,.cells arr E (0,0))::Hr)) (hb:Nat.ble (off+vs.length) arr.size=true)
 (h:aK W n (wpOps P ops Q rest) env (HL.set j ((b,.cells (xy off vs arr.toList).toArray E (0,0))::Hr))):aK W n (wpOps P ops Q (i::rest)) env HL:=ba (st T j h1 hj hb h)
def Qi (T:Ty P) (n:Nat) (ops:Array Oper) (env:Env) (i:Nat):Option (Nat×Nat×List Value):=
 match slot n ops env i with
 |none=>none
 |some (o,d)=>match o.op with
  | .alloc t=>match T.inf t with
   |some (_,_,z)=>some (d,t,bN z)
   |none=>none
  | .box t x=>match ev env x with
   |some v=>some (d,t,bN v)
   |none=>none
  |_=>none
theorem nw (T:Ty P) (h1:Qi T n ops env i=some (d,t,cs)) (h: ∀b,aK W n K ((d,.pointer (some ⟨b,0,none⟩))::env) (HL++[[(b,Obj.cells cs.toArray t (0,0))]])):aK W n (wpOp P ops Q i K) env HL:=by
 unfold Qi at h1;split at h1
 ·cases h1
 ·rename_i o d' hs;split at h1
  ·rename_i t' aV;split at h1
   ·rename_i sz by' z hi
    simp only[Option.some.injEq,Prod.mk.injEq] at h1;obtain⟨rfl,rfl,rfl⟩:=h1;exact aaP T _ hs aV hi rfl h
   ·cases h1
  ·rename_i t' x aV;split at h1
   ·rename_i v hx;simp only[Option.some.injEq,Prod.mk.injEq] at h1;obtain⟨rfl,rfl,rfl⟩:=h1;exact R9 T _ hs aV hx rfl h
   ·cases h1
  ·cases h1
theorem nc (T:Ty P) (h1:Qi T n ops env i=some (d,t,cs)) (h: ∀b,aK W n (wpOps P ops Q rest) ((d,.pointer (some ⟨b,0,none⟩))::env) (HL++[[(b,Obj.cells cs.toArray t (0,0))]])):aK W n (wpOps P ops Q (i::rest)) env HL:=ba (nw T h1 h)
def cut:Nat->Nat->List Value->List Value
 |_,0,_=>[]
 |0,k+1,c::cs=>c::cut 0 k cs
 |o+1,k+1,_::cs=>cut o (k+1) cs
 |_,_+1,[]=>[]
theorem NW: ∀(o k:Nat) (cs:List Value) (j:Nat) (v:Value),(cut o k cs)[j]? =some v->cs[o+j]? =some v
 |_,0,_,_,_,h=>by simp[cut] at h
 |0,k+1,c::cs,0,v,h=>by simpa[cut] using h
 |0,k+1,c::cs,j+1,v,h=>by
  have:=NW 0 k cs j v (by simpa[cut] using h)
  simpa using this
 |o+1,k+1,c::cs,j,v,h=>by
  have:=NW o (k+1) cs j v (by simpa[cut] using h)
  rw[show o+1+j=o+j+1 from by omega];simpa using this
 |0,_+1,[],_,_,h=>by simp[cut] at h
 |_+1,_+1,[],_,_,h=>by simp[cut] at h
theorem agn {j b:Nat} {ar:Array Value} {E:TypeId} {fr:Nat×Nat} {Hr:Hp} {off k:Nat} (hj:idx j HL=some ((b,.cells ar E fr)::Hr)):
 ∃arr E fr,(b,Obj.cells arr E fr)∈HL.flatten/\ ∀j v,(cut off k ar.toList)[j]? =some v->arr[off+j]? =some v:=
 ⟨ar,E,fr,iv (by rw[<-idx_eq];exact hj) (List.mem_cons_self ..),λj v h=>by simpa using NW _ _ _ _ _ h⟩
theorem gA (T:Ty P) (j:Nat) (aV:o.op= .load t x) (hx:ev env x=some (.pointer (some ⟨b,off,none⟩)))
 (hu:T.bW t=some td) (ha:oz td=true) (hi:T.inf t=some (sz,by',z)) (hj:idx j HL=some ((b,.cells arr E fr)::Hr)) (hl:Nat.beq (cut off sz arr.toList).length sz=true):ic W P n env HL.flatten o (.agg (cut off sz arr.toList).toArray):=
 gp T aV hx hu ha hi (Nat.eq_of_beq_eq_true hl) (agn hj)
def PU (T:Ty P) (n:Nat) (ops:Array Oper) (env:Env) (i:Nat):Option (Nat×Nat×Nat×Nat):=
 match slot n ops env i with
 |none=>none
 |some (o,d)=>match o.op with
  | .load t x=>match ev env x,T.bW t,T.inf t with
   |some (.pointer (some ⟨b,off,none⟩)),some td,some (sz,_,_)=>bif oz td then some (d,b,off,sz) else none
   |_,_,_=>none
  |_=>none
theorem la (T:Ty P) (j:Nat) (h1:PU T n ops env i=some (d,b,off,sz)) (hj:idx j HL=some ((b,.cells arr E fr)::Hr)) (hl:Nat.beq (cut off sz arr.toList).length sz=true)
 (h:aK W n (wpOps P ops Q rest) ((d,.agg (cut off sz arr.toList).toArray)::env) HL):aK W n (wpOps P ops Q (i::rest)) env HL:=by
 unfold PU at h1;split at h1
 ·cases h1
 ·rename_i o d' hs;split at h1
  ·rename_i t x aV;split at h1
   ·rename_i b' DP td sz' by' z hx hu hi
    cases ha:oz td with
    |false=>rw[ha] at h1;cases h1
    |true=>
     rw[ha] at h1;simp only[cond_true,Option.some.injEq,Prod.mk.injEq] at h1;obtain⟨rfl,rfl,rfl,rfl⟩:=h1;exact bz hs (gA T j aV hx hu ha hi hj hl) h
   ·cases h1
  ·cases h1
def tmps (env:Env):List ResultVar->Option (List Value)
 |[]=>some []
 | .tmp t::rs=>match lk t env,tmps env rs with
  |some v,some vs=>some (v::vs)
  |_,_=>none
 |_::_=>none
theorem Y4: ∀{rs:List ResultVar} {vs:List Value},tmps env rs=some vs->ou T env H rs vs
 |[],_,h=>by simp only[tmps,Option.some.injEq] at h;subst h;exact .nil
 | .tmp t::rs,vs,h=>by
  unfold tmps at h;split at h
  ·rename_i v vs' hv hr;simp only[Option.some.injEq] at h;subst h;exact .tmp hv (Y4 hr)
  ·cases h
 | .cell _ _::_,_,h=>by cases h
theorem pv {fn:Func} {R:Ending->World->Prop} (T:Ty P) (hr:(tmps env fn.results.toList).map AA=some v) (h: ∀w,bn W w HL.flatten->R (.returned v) w):aK W n (bodyPost P fn R .ret) env HL:=by
 cases ht:tmps env fn.results.toList with
 |none=>rw[ht] at hr;cases hr
 |some vs=>
  rw[ht] at hr;simp only[Option.map_some,Option.some.injEq] at hr;subst hr;exact GP (T:=T) rfl (Y4 ht) h
theorem p1 (T:Ty P) {fn:Func} {R:Value->List Hp->Prop} {A:List Hp} {F:Hp} {v:Value} {g:List Hp} (hr:(tmps env fn.results.toList).map AA=some v) (js:List Nat) (h:R v g) (hg:pick js HL=(g++A)++[F]):
 aK W n (bodyPost P fn (λe w'=> ∃b:{qp:Value×List Hp // R qp.1 qp.2},e= .returned b.1.1/\bn W w' ((b.1.2++A)++[F]).flatten) .ret) env HL:=
 pv T hr (λ_ o=>⟨⟨(v,g),h⟩,rfl,DT js hg o⟩)
theorem p0 (T:Ty P) (hr:(tmps env fn.results.toList).map AA=some v) (js:List Nat) (hg:pick js HL=G):
 aK W n (bodyPost P fn (λe w'=> ∃_:Unit,e= .returned v/\bn W w' G.flatten) .ret) env HL:=
 pv T hr (λ_ o=>⟨(),rfl,DT js hg o⟩)
end
abbrev CR (P:Program) (f:FuncId) (as:List Value) (Hs A:List Hp) (F:Hp) (R:Value->List Hp->Prop):Prop:=
 hZ P f as (Hs++[F]) (λqp:{qp:Value×List Hp // R qp.1 qp.2}=>qp.1.1) (λqp=>(qp.1.2++A)++[F])
abbrev CU (P:Program) (f:FuncId) (as:List Value) (Hs:List Hp) (F:Hp) (v:Value):Prop:=
 hZ P f as (Hs++[F]) (λ_:Unit=>v) (λ_=>Hs++[F])
abbrev pp (b:Nat):Value:= .pointer (some ⟨b,0,none⟩)
abbrev ii (x:Int):Value:= .int .i64 x
abbrev uu (x:Int):Value:= .int .u64 x
abbrev bb (x:Bool):Value:= .bool x
abbrev ll {α:Type} (a:Option Addr) (l:List α) (n:Nat):Value:= .slice a l.length n
abbrev nl:Value:= .slice none 0 0
abbrev cl (b t:Nat) (l:List Value):Hp:=[(b,Obj.cells l.toArray t (0,0))]
end
section
section
variable {fuel : Nat}
theorem so (js:List Nat) (h:pick js HL=H0:=by rfl):pP W late listed HL H0:=akx js h
theorem sz (h:HL=H0:=by rfl):pP W late listed HL H0:= .inr λ_ o=>by subst h;exact o
theorem sl (h:rV late listed=false:=by kernel_rfl):pP W late listed HL H0:= .inl h
theorem rg (late js:List Nat) {id:Nat} (hm:P.follows .mixedOrders=true) (jS:PF Q)
 (h:pz ops (EI ops)=true->PF Q->aK W n (gK P ops Q (SO W (pick js HL)) late ops.size (Array.replicate ops.size false)) env HL) (hg:pz ops (EI ops)=true:=by kernel_rfl):
 aK W n ((Code.region id ops true).wp P Q) env HL:=Sg _ late _ hm hg jS h
theorem rz (late:List Nat) {id:Nat} (hm:P.follows .mixedOrders=true) (jS:PF Q)
 (h:pz ops (EI ops)=true->PF Q->aK W n (gK P ops Q (SO W HL) late ops.size (Array.replicate ops.size false)) env HL) (hg:pz ops (EI ops)=true:=by kernel_rfl):
 aK W n ((Code.region id ops true).wp P Q) env HL:=Sg _ late _ hm hg jS h
theorem ha (T:Ty P) (fu:Nat) (l:List Nat) {env gF:Env} {m:Nat} {listed:Array Bool} (hS: ∀{listed},pP W late listed HL H0) (hg:pz ops A=true) (jS:PF Q) (hr:sa T n ops l env=some gF)
 (h:aK W n (gK P ops Q (SO W H0) late fu (l.foldl (λa i=>a.setIfInBounds i true) listed)) gF HL) (hm:m=fu+l.length:=by rfl) (hb:takes ops A late listed l=true:=by kernel_rfl):aK W n (gK P ops Q (SO W H0) late m listed) env HL:=
 hs T fu l hm hg jS hb (λ_=>hS) hr h
theorem hb (T:Ty P) (i:Nat) (hS:pP W late listed HL H0) (hg:pz ops A=true) (jS:PF Q) (hs:AM T n ops env i=some e)
 (h:aK W n (gK P ops Q (SO W H0) late fuel (listed.setIfInBounds i true)) (e::env) HL) (hb:B8 ops A late listed i=true:=by kernel_rfl):aK W n (gK P ops Q (SO W H0) late (fuel+1) listed) env HL:=Sn T i hg jS hb hS hs h
theorem av (i:Nat) (hS:pP W late listed HL H0) (hg:pz ops A=true) (jS:PF Q) (hs:slot n ops env i=some (o,d)) (hv:ic W P n env H0.flatten o v)
 (h:aK W n (gK P ops Q (SO W H0) late fuel (listed.setIfInBounds i true)) ((d,v)::env) HL) (hb:B8 ops A late listed i=true:=by kernel_rfl) (hl:(late.all λj=>(A.getD j []).contains i)=true:=by rfl):
 aK W n (gK P ops Q (SO W H0) late (fuel+1) listed) env HL:=abz i hg jS hb hS hl hs hv h
theorem an (hS:pP W late listed HL H0) (h:aK W n (gK P ops Q (SO W H0) late fuel listed) env HL):aK W n (sM W P ops Q H0 late fuel listed) env HL:=abv hS h
theorem ao (i:Nat) (h:aK W n (wpOp P ops Q i (sM W P ops Q H0 late fuel (listed.setIfInBounds i true))) env HL) (hr:Region.ready .any ops listed=[i]:=by kernel_rfl):
 aK W n (gK P ops Q (SO W H0) late (fuel+1) listed) env HL:=abw i hr h
theorem gV (i j:Nat) (h1:aK W n (wpOp P ops Q i (sM W P ops Q H0 late fuel (listed.setIfInBounds i true))) env HL)
 (h2:aK W n (wpOp P ops Q j (sM W P ops Q H0 late fuel (listed.setIfInBounds j true))) env HL) (hr:Region.ready .any ops listed=[i,j]:=by kernel_rfl):
 aK W n (gK P ops Q (SO W H0) late (fuel+1) listed) env HL:=aby i j hr h1 h2
theorem R7 (i j m:Nat) (h1:aK W n (wpOp P ops Q i (sM W P ops Q H0 late fuel (listed.setIfInBounds i true))) env HL)
 (h2:aK W n (wpOp P ops Q j (sM W P ops Q H0 late fuel (listed.setIfInBounds j true))) env HL)
 (h3:aK W n (wpOp P ops Q m (sM W P ops Q H0 late fuel (listed.setIfInBounds m true))) env HL) (hr:Region.ready .any ops listed=[i,j,m]:=by kernel_rfl):
 aK W n (gK P ops Q (SO W H0) late (fuel+1) listed) env HL:=abx i j m hr h1 h2 h3
theorem ae (h:aK W n (Q .normal) env HL) (hr:Region.ready .any ops listed=[]:=by kernel_rfl):aK W n (gK P ops Q (SO W H0) late fuel listed) env HL:=abu hr h
end
end
section
section
theorem ga (T:Ty P) (l1:List Nat) (s:Nat) (ks:List Nat) (d:Nat) (hs:lk s env=some (.bool c))
 (h1:sa T n ops l1 ((s,.bool true)::env)=some e1) (h2:sa T n ops l1 ((s,.bool false)::env)=some e2) (k1:lk d e1=some (.bool x)) (k2:lk d e2=some (.bool false))
 (hE:nE ks e1=some E) (Hf:nE ks e2=some E) (h:At W n (wpOps P ops Q l2) (E++[(d,.bool (c&&x))]) H):At W n (wpOps P ops Q (l1++l2)) env H:=
 Sa T l1 (E++[(d,.bool (c&&x))]) hs h1 h2 (λhc=>B5 (B:=[(d,.bool (c&&x))]) (wY hE) ⟨by rw[k1,hc,Bool.true_and],trivial⟩) (λhc=>B5 (B:=[(d,.bool (c&&x))]) (wY Hf) ⟨by rw[k2,hc,Bool.false_and],trivial⟩) h
theorem go (T:Ty P) (l1:List Nat) (s:Nat) (ks:List Nat) (d:Nat) (hs:lk s env=some (.bool c))
 (h1:sa T n ops l1 ((s,.bool true)::env)=some e1) (h2:sa T n ops l1 ((s,.bool false)::env)=some e2) (k1:lk d e1=some (.bool true)) (k2:lk d e2=some (.bool x))
 (hE:nE ks e1=some E) (Hf:nE ks e2=some E) (h:At W n (wpOps P ops Q l2) (E++[(d,.bool (c||x))]) H):At W n (wpOps P ops Q (l1++l2)) env H:=
 Sa T l1 (E++[(d,.bool (c||x))]) hs h1 h2 (λhc=>B5 (B:=[(d,.bool (c||x))]) (wY hE) ⟨by rw[k1,hc,Bool.true_or],trivial⟩) (λhc=>B5 (B:=[(d,.bool (c||x))]) (wY Hf) ⟨by rw[k2,hc,Bool.false_or],trivial⟩) h
end
section
theorem rO {α:Type} {k:Fl α} {xs:List α} {a:Option Addr} {F:Hp} (h:aU k xs a F) (j:Nat) (hj:idx j HL=some F:=by rfl):aU k xs a HL.flatten:=ajf h hj
theorem oO {α:Type} {k:Fl α} {E:Nat} {xs:List α} {a:Option Addr} {n:Nat} {F:Hp} (h:ak k E xs a n F) (j:Nat) (hj:idx j HL=some F:=by rfl):aU k xs a HL.flatten:=Xx h hj
end
section
def Wv (T:Ty P) (n:Nat) (ops:Array Oper) (env:Env) (i:Nat):Option (Nat×Option Addr×Nat×Int×Nat):=
 match slot n ops env i with
 |none=>none
 |some (o,d)=>match o.op with
  | .indexAddr t x y=>match ev env x,ev env y,T.bW t with
   |some (.slice a m _),some (.int _ j),some (.slice E)=>match T.inf E with
    |some (sz,_,_)=>some (d,a,m,j,sz)
    |none=>none
   |_,_,_=>none
  |_=>none
theorem ix (T:Ty P) {d m sz b off:Nat} {a:Option Addr} {j:Int} (h1:Wv T n ops env i=some (d,a,m,j,sz)) (ha:a=some ⟨b,off,none⟩) (hc:0<=j/\j<(m:Int))
 (h:aK W n (wpOps P ops Q rest) ((d,.pointer (some ⟨b,off+j.toNat*sz,none⟩))::env) HL):aK W n (wpOps P ops Q (i::rest)) env HL:=by
 unfold Wv at h1;split at h1
 ·cases h1
 ·rename_i o d' hs;split at h1
  ·rename_i t x y aV;split at h1
   ·rename_i a' m' cp kk j' E hx hy hu;split at h1
    ·rename_i sz' by' z hi
     simp only[Option.some.injEq,Prod.mk.injEq] at h1;obtain⟨rfl,rfl,rfl,rfl,rfl⟩:=h1;exact bz hs (cV T aV hx hy hu hi ha hc.1 hc.2) h
    ·cases h1
   ·cases h1
  ·cases h1
theorem le {α:Type} [Inhabited α] {k:Fl α} (T:Ty P) {d b off:Nat} {v:Value} {xs:List α} {a:Option Addr} {j:Int} (f:Nat) (hr:aU k xs a HL.flatten) (ha:a=some ⟨b,off,none⟩) (hj:0<=j/\j<(xs.length:Int)) (h1:Dz T n ops env i=some (d,b,off+j.toNat*k.size+f)) (hc:idx f (k.enc (rd xs j))=some v)
 (h:aK W n (wpOps P ops Q rest) ((d,v)::env) HL):aK W n (wpOps P ops Q (i::rest)) env HL:=lg T h1 (iu hr ha hj f hc) h
end
section
def WN (T:Ty P) (n:Nat) (ops:Array Oper) (env:Env) (i j:Nat) (HL:List Hp):Option (Nat×Nat×Nat×Value):=
 match Dz T n ops env i,idx j HL with
 |some (d,b,off),some ((b',.cells arr _ _)::_)=>match idx off arr.toList with
  |some v=>some (d,b,b',v)
  |none=>none
 |_,_=>none
theorem lf (T:Ty P) (j:Nat) (h1:WN T n ops env i j HL=some (d,b,b,v)) (h:aK W n (wpOps P ops Q rest) ((d,v)::env) HL):aK W n (wpOps P ops Q (i::rest)) env HL:=by
 unfold WN at h1;split at h1
 ·rename_i d' b' off Ss arr E fr Hr ha hj;split at h1
  ·rename_i v' hv;simp only[Option.some.injEq,Prod.mk.injEq] at h1;obtain⟨rfl,rfl,rfl,rfl⟩:=h1;exact ld T j ha hj hv h
  ·cases h1
 ·cases h1
def WH (T:Ty P) (n:Nat) (ops:Array Oper) (env:Env) (i j:Nat) (HL:List Hp):Option (Nat×Nat×Nat×List Value):=
 match PU T n ops env i,idx j HL with
 |some (d,b,off,sz),some ((b',.cells arr _ _)::_)=>bif Nat.beq (cut off sz arr.toList).length sz then some (d,b,b',cut off sz arr.toList) else none
 |_,_=>none
theorem lm (T:Ty P) (j:Nat) (h1:WH T n ops env i j HL=some (d,b,b,cs)) (h:aK W n (wpOps P ops Q rest) ((d,.agg cs.toArray)::env) HL):aK W n (wpOps P ops Q (i::rest)) env HL:=by
 unfold WH at h1;split at h1
 ·rename_i d' b' off sz Ss arr E fr Hr ha hj
  cases hc:Nat.beq (cut off sz arr.toList).length sz with
  |false=>rw[hc] at h1;cases h1
  |true=>
   rw[hc] at h1;simp only[cond_true,Option.some.injEq,Prod.mk.injEq] at h1;obtain⟨rfl,rfl,rfl,rfl⟩:=h1;exact la T j ha hj hc h
 ·cases h1
def Ji (T:Ty P) (ops:Array Oper) (env:Env) (i j:Nat) (HL:List Hp):Option (Nat×Nat×List Hp):=
 match Jj T ops env i,idx j HL with
 |some (b,off,vs),some ((b',.cells arr E (0,0))::Hr)=>bif Nat.ble (off+vs.length) arr.size then some (b,b',HL.set j ((b',.cells (xy off vs arr.toList).toArray E (0,0))::Hr)) else none
 |_,_=>none
theorem sf (T:Ty P) (j:Nat) (h1:Ji T ops env i j HL=some (b,b,kQ)) (h:aK W n K env kQ):aK W n (wpOp P ops Q i K) env HL:=by
 unfold Ji at h1;split at h1
 ·rename_i b' off vs Ss arr E Hr ha hj
  cases hc:Nat.ble (off+vs.length) arr.size with
  |false=>rw[hc] at h1;cases h1
  |true=>
   rw[hc] at h1;simp only[cond_true,Option.some.injEq,Prod.mk.injEq] at h1;obtain⟨rfl,rfl,rfl⟩:=h1;exact st T j ha hj hc h
 ·cases h1
theorem sg (T:Ty P) (j:Nat) (h1:Ji T ops env i j HL=some (b,b,kQ)) (h:aK W n (wpOps P ops Q rest) env kQ):aK W n (wpOps P ops Q (i::rest)) env HL:=ba (sf T j h1 h)
end
def fH:List Hp->Option (List Hp)
 |[]=>some []
 |A::r=>match fH r with
  |some r'=>some (A::r')
  |none=>none
theorem C0: ∀{l r:List Hp},fH l=some r->l=r
 |[],_,h=>by simpa[fH] using h
 |A::l,r,h=>by
  unfold fH at h;split at h
  ·rename_i r' hr;simp only[Option.some.injEq] at h;subst h;rw[C0 hr]
  ·cases h
theorem fz (h:fH HL=some kQ) (h':aK W n F env kQ):aK W n F env HL:=by rw[C0 h];exact h'
end
section
variable {W : World} {P : Program} {n : Nat} {Q : Exit -> Act -> World -> Prop} {env : Env} {ops : Array Oper} {HL : List Hp} {late : List Nat} {A : List (List Nat)} {H0 : List Hp} {fuel : Nat} {listed : Array Bool}
theorem al (T:Ty P) (i j:Nat) {d b off:Nat} {v:Value} {arr:Array Value} {E:TypeId} {fr:Nat×Nat} {Hr:Hp} (hS:pP W late listed HL H0) (hg:pz ops A=true) (jS:PF Q) (h1:Dz T n ops env i=some (d,b,off)) (hj:idx j H0=some ((b,.cells arr E fr)::Hr)) (hv:idx off arr.toList=some v)
 (h:aK W n (gK P ops Q (SO W H0) late fuel (listed.setIfInBounds i true)) ((d,v)::env) HL) (hb:B8 ops A late listed i=true:=by kernel_rfl) (hl:(late.all λj=>(A.getD j []).contains i)=true:=by rfl):
 aK W n (gK P ops Q (SO W H0) late (fuel+1) listed) env HL:=
 let⟨_,_,_,_,h2,h3,h4,h5,h6⟩:=P0 h1
 av i hS hg jS h2 (cS T h3 h4 h5 h6 (PS (j:=j) hj hv)) h hb hl
def WO (T:Ty P) (n:Nat) (ops:Array Oper) (env:Env) (o:Oper):Option (Nat×Nat×Nat):=
 match want ops env o,o.dst,o.op with
 |some true,some d,.load t x=>match ev env x,T.bW t with
  |some (.pointer (some ⟨b,off,none⟩)),some td=>bif Nat.blt d n&&!oz td then some (d,b,off) else none
  |_,_=>none
 |_,_,_=>none
theorem cB (T:Ty P) (j:Nat) {o:Oper} {d b off:Nat} {v:Value} {arr:Array Value} {E:TypeId} {fr:Nat×Nat} {Hr:Hp} {l:List Oper} {F:Act->Prop} (h1:WO T n ops env o=some (d,b,off)) (hj:idx j HL=some ((b,.cells arr E fr)::Hr)) (hv:idx off arr.toList=some v)
 (h:iT W P n ops HL.flatten l F ((d,v)::env)):iT W P n ops HL.flatten (o::l) F env:=by
 unfold WO at h1;split at h1
 ·rename_i d' t x hw hd aV;split at h1
  ·rename_i b' DP td hx hu
   cases hc:(Nat.blt d' n&&!oz td) with
   |false=>rw[hc] at h1;cases h1
   |true=>
    rw[hc] at h1;simp only[cond_true,Option.some.injEq,Prod.mk.injEq] at h1;obtain⟨rfl,rfl,rfl⟩:=h1;simp only[Bool.and_eq_true,Bool.not_eq_true'] at hc;exact br hw hd hc.1 (cS T aV hx hu hc.2 (PS (j:=j) hj hv)) h
  ·cases h1
 ·cases h1
end
end Go.Hx
