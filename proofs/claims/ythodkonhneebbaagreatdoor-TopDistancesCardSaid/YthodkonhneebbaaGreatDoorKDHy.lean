/- The logic of this claim, further rules: maps, elements that own slices, and more. -/
import Derived.MapKept
import Derived.Maps.RangeRun
import Derived.LaidEql
import Derived.Lib.MakeNoZero
import Derived.Test.YthodkonhneebbaaGreatDoorKDHx
namespace Go.Hx
set_option autoImplicit true
set_option relaxedAutoImplicit true
set_option linter.unusedVariables false
set_option linter.unusedSimpArgs false
set_option linter.unusedSectionVars false
section
variable {W : World}
variable {P : Program}
section model
variable {κ α : Type} [DecidableEq κ]
def dR:List (κ×α)->κ->Option α
 |[],_=>none
 |e::r,x=>if e.1=x then some e.2 else dR r x
def cj (m:List (κ×α)) (x:κ):Bool:=(dR m x).isSome
def aT [Inhabited α] (m:List (κ×α)) (x:κ):α:=(dR m x).getD default
def cO:List (κ×α)->κ->α->List (κ×α)
 |[],x,v=>[(x,v)]
 |e::r,x,v=>if e.1=x then(x,v)::r else e::cO r x v
def fU:List (κ×α)->κ->List (κ×α)
 |[],_=>[]
 |e::r,x=>if e.1=x then r else e::fU r x
def gG:List (κ×α)->κ->Option Nat
 |[],_=>none
 |e::r,x=>if e.1=x then some 0 else(gG r x).map (· +1)
theorem afm {m:List (κ×α)} {x:κ} (h:gG m x=none):dR m x=none:=by
 induction m with
 |nil=>rfl
 |cons e r ih=>
  simp only[gG,dR] at h⊢;split at h
  ·cases h
  ·rename_i hk;rw[if_neg hk];exact ih (by simpa using h)
theorem Kx {m:List (κ×α)} {x:κ} {i:Nat} (h:gG m x=some i): ∃v,dR m x=some v/\m[i]? =some (x,v):=by
 induction m generalizing i with
 |nil=>cases h
 |cons e r ih=>
  simp only[gG,dR] at h⊢;split at h
  ·rename_i hk;simp at h;subst h;exact⟨e.2,by rw[if_pos hk],by simp[<-hk]⟩
  ·rename_i hk
   cases hr:gG r x with
   |none=>simp[hr] at h
   |some j=>
    simp[hr] at h;subst h;obtain⟨v,h1,h2⟩:=ih hr;exact⟨v,by rw[if_neg hk];exact h1,by simpa using h2⟩
end model
structure Ky (P:Program) (t:TypeId) (κ:Type) [DecidableEq κ] where
 enc:κ->Value
 check: ∀(e:Bool) (w:World) (x:κ),(Instr.checkKey e 10000 t (enc x)).run P w= .ok () w
 find: ∀(w:World) (x:κ) (es:List MapEntry) (ks:List κ),es.map (·.key)=ks.map enc->
  (Instr.findKey t (enc x) es).run P w= .ok ((gG (ks.map λk=>(k,())) x).bind λi=>(es[i]?).map λe=>(i,e.val)) w
 stays: ∀(w:World) (x:κ),(Instr.keyThatStays (enc x) (enc x)).run P w= .ok (enc x) w
theorem RJ {q:IntKind} {x:Int}: ∀(es:List MapEntry) (ks:List Int) (j:Nat),es.map (·.key)=ks.map (λk=>Value.int q k)->
 Instr.findNow (.int q) (.int q x) es j=some ((gG (ks.map λk=>(k,())) x).bind λi=>(es[i]?).map λe=>(i+j,e.val))
 |[],[],_,_=>rfl
 |[],_::_,_,h=>by simp at h
 |_::_,[],_,h=>by simp at h
 |e::es,k::ks,j,h=>by
  simp only[List.map_cons,List.cons.injEq] at h;obtain⟨h1,h2⟩:=h;simp only[Instr.findNow,h1,Instr.sameNow,if_true,List.map_cons,gG]
  by_cases hk:k=x
  ·subst hk;simp
  ·have:(x==k)=false:=by simp[Ne.symm hk]
   simp only[this,hk,if_false];rw[RJ es ks (j+1) h2]
   cases hp:gG (ks.map λk=>(k,())) x with
   |none=>simp
   |some i=>
    simp only[Option.map_some,Option.bind_some,List.getElem?_cons_succ];rw[show i+1+j=i+(j+1) by omega]
def Ky.int {P:Program} {t:TypeId} (q:IntKind) (ht:P.underlying t=some (.int q)):Ky P t Int where
 enc:=λx=> .int q x
 check:=λe w x=>MapKept.run_checkKey ht (by simp[MapKept.IsKey]) e 9999
 find:=λw x es ks h=>by
  have:=RJ (x:=x) es ks 0 h;simpa using MapKept.run_findKey (w:=w) ht this
 stays:=λw x=>MapKept.run_keyThatStays (d:= .int q) (by simp[MapKept.IsKey])
section afQ
variable {κ α : Type} [DecidableEq κ] {t : TypeId}
def gX (K:Ky P t κ) (kv:α->Value):List (κ×α)->List Nat->List MapEntry
 |e::r,b::bs=>⟨K.enc e.1,kv e.2,b⟩::gX K kv r bs
 |_,_=>[]
theorem Mq (K:Ky P t κ) (kv:α->Value): ∀(m:List (κ×α)) (bs:List Nat),bs.length=m.length->(gX K kv m bs).map (·.key)=(m.map (·.1)).map K.enc
 |[],[],_=>rfl
 |[],_::_,h=>by simp at h
 |_::_,[],h=>by simp at h
 |e::r,b::bs,h=>by simp[gX,Mq K kv r bs (by simpa using h)]
theorem aaS (K:Ky P t κ) (kv:α->Value) (m:List (κ×α)) (bs:List Nat) (h:bs.length=m.length):(gX K kv m bs).length=m.length:=by
 have:=congrArg List.length (Mq K kv m bs h);simpa using this
theorem Mp (K:Ky P t κ) (kv:α->Value): ∀(m:List (κ×α)) (bs:List Nat) (i:Nat) (e:κ×α),bs.length=m.length->m[i]? =some e-> ∃b,(gX K kv m bs)[i]? =some ⟨K.enc e.1,kv e.2,b⟩/\bs[i]? =some b
 |[],_,_,_,_,h=>by simp at h
 |_::_,[],_,_,h,_=>by simp at h
 |e::r,b::bs,0,e',_,h=>by simp at h;subst h;exact⟨b,rfl,rfl⟩
 |e::r,b::bs,i+1,e',hl,h=>by
  obtain⟨b',h1⟩:=Mp K kv r bs i e' (by simpa using hl) (by simpa using h)
  exact⟨b',by simpa[gX] using h1⟩
theorem afl (m:List (κ×α)) (x:κ):gG ((m.map (·.1)).map λk=>(k,())) x=gG m x:=by
 induction m with
 |nil=>rfl
 |cons e r ih=>simp only[List.map_cons,gG,ih]
theorem OY (K:Ky P t κ) (kv:α->Value) (w:World) (m:List (κ×α)) (bs:List Nat) (x:κ) (h:bs.length=m.length):
 (Instr.findKey t (K.enc x) (gX K kv m bs)).run P w= .ok ((gG m x).bind λi=>(m[i]?).map λe=>(i,kv e.2)) w:=by
 rw[K.find w x _ (m.map (·.1)) (Mq K kv m bs h),afl]
 congr 1
 cases hp:gG m x with
 |none=>rfl
 |some i=>
  obtain⟨v,_,h2⟩:=Kx hp;obtain⟨b,h3,_⟩:=Mp K kv m bs i _ h h2;simp[h2,h3]
theorem Ry (K:Ky P t κ) (kv:α->Value): ∀(m:List (κ×α)) (bs:List Nat) (x:κ) (v:α) (c:Nat),bs.length=m.length->gG m x=none->
 gX K kv m bs++[⟨K.enc x,kv v,c⟩]=gX K kv (cO m x v) (bs++[c])
 |[],[],x,v,c,_,_=>rfl
 |[],_::_,_,_,_,h,_=>by simp at h
 |_::_,[],_,_,_,h,_=>by simp at h
 |e::r,b::bs,x,v,c,h,hp=>by
  simp only[gG] at hp;split at hp
  ·cases hp
  ·rename_i hk;have:=Ry K kv r bs x v c (by simpa using h) (by simpa using hp)
   simp only[gX,List.cons_append,this,cO,hk,if_false]
theorem afn {m:List (κ×α)} {x:κ} {v:α} (h:gG m x=none):(cO m x v).length=m.length+1:=by
 induction m with
 |nil=>rfl
 |cons e r ih=>
  simp only[gG] at h;split at h
  ·cases h
  ·rename_i hk;simp[cO,hk,ih (by simpa using h)]
theorem afo {m:List (κ×α)} {x:κ} {v:α} {i:Nat} (h:gG m x=some i):(cO m x v).length=m.length:=by
 induction m generalizing i with
 |nil=>cases h
 |cons e r ih=>
  simp only[gG] at h;simp only[cO];split at h
  ·rename_i hk;simp[hk]
  ·rename_i hk
   cases hr:gG r x with
   |none=>simp[hr] at h
   |some j=>simp[hk,ih hr]
theorem Rx (K:Ky P t κ) (kv:α->Value): ∀(m:List (κ×α)) (bs:List Nat) (x:κ) (v:α) (i:Nat),bs.length=m.length->gG m x=some i->
 (gX K kv m bs).modify i (λe=>{e with key:=K.enc x,val:=kv v})=gX K kv (cO m x v) bs
 |[],_,_,_,_,_,h=>by cases h
 |_::_,[],_,_,_,h,_=>by simp at h
 |e::r,b::bs,x,v,i,h,hp=>by
  simp only[gG] at hp;split at hp
  ·rename_i hk;simp at hp;subst hp;simp[gX,cO,hk]
  ·rename_i hk
   cases hr:gG r x with
   |none=>simp[hr] at hp
   |some j=>
    simp[hr] at hp;subst hp;have:=Rx K kv r bs x v j (by simpa using h) hr
    simp[gX,cO,hk,this]
theorem Rv (K:Ky P t κ) (kv:α->Value): ∀(m:List (κ×α)) (bs:List Nat) (x:κ) (i:Nat),bs.length=m.length->gG m x=some i->
 (gX K kv m bs).eraseIdx i=gX K kv (fU m x) (bs.eraseIdx i)/\(bs.eraseIdx i).length=(fU m x).length
 |[],_,_,_,_,h=>by cases h
 |_::_,[],_,_,h,_=>by simp at h
 |e::r,b::bs,x,i,h,hp=>by
  simp only[gG] at hp;split at hp
  ·rename_i hk;simp at hp;subst hp;simp[gX,fU,hk];simpa using h
  ·rename_i hk
   cases hr:gG r x with
   |none=>simp[hr] at hp
   |some j=>
    simp[hr] at hp;subst hp;have:=Rv K kv r bs x j (by simpa using h) hr
    simp[gX,fU,hk,this]
theorem UQ {m:List (κ×α)} {x:κ} (h:gG m x=none):fU m x=m:=by
 induction m with
 |nil=>rfl
 |cons e r ih=>
  simp only[gG] at h;split at h
  ·cases h
  ·rename_i hk;simp[fU,hk,ih (by simpa using h)]
def yR (K:Ky P t κ) (kv:α->Value) (m:List (κ×α)) (r:Nat) (H:Hp):Prop:=
 ∃bs c,bs.length=m.length/\(r,Obj.map (gX K kv m bs).toArray c)∈H
def cU (K:Ky P t κ) (kv:α->Value) (m:List (κ×α)) (r:Nat) (H:Hp):Prop:=
 ∃bs c,bs.length=m.length/\(bs.Nodup/\ ∀b∈bs,b<c)/\H=[(r,Obj.map (gX K kv m bs).toArray c)]
theorem cU.r {K:Ky P t κ} {kv:α->Value} {m:List (κ×α)} {r:Nat} {H:Hp} (h:cU K kv m r H):yR K kv m r H:=by
 obtain⟨bs,c,h1,_,rfl⟩:=h;exact⟨bs,c,h1,List.mem_cons_self ..⟩
theorem yR.mono {K:Ky P t κ} {kv:α->Value} {m:List (κ×α)} {r:Nat} {H H':Hp} (h:yR K kv m r H) (hs: ∀c∈H,c∈H'):yR K kv m r H':=by
 obtain⟨bs,c,h1,h2⟩:=h;exact⟨bs,c,h1,hs _ h2⟩
theorem oS {K:Ky P t κ} {kv:α->Value} {HL:List Hp} {j:Nat} {Hj:Hp} {m:List (κ×α)} {r:Nat} (h:cU K kv m r Hj) (hj:idx j HL=some Hj):yR K kv m r HL.flatten:=
 h.r.mono λ_ hc=>gY (by rw[<-idx_eq];exact hj) hc
section rules
variable {T : Ty P} {n : Nat} {Q : Exit -> Act -> World -> Prop} {env : Env} {H : Hp} {HL : List Hp} {ops : Array Oper} {i : Nat} {K : Act -> World -> Prop} {o : Oper}
theorem qi [Inhabited α] (T:Ty P) {mt et:TypeId} (KK:Ky P t κ) (kv:α->Value) {x ix:Operand} {m:List (κ×α)} {r:Nat} {k:κ} {b:Bool} {sz by':Nat}
 (aR:o.op= .lookup mt x ix b) (hx:ev env x=some (.map (some r))) (hk:ev env ix=some (KK.enc k)) (hu:T.bW mt=some (.map t et))
 (hi:T.inf et=some (sz,by',kv default)) (hm:yR KK kv m r H):
 gS W P n env H o (bif b then .tuple #[kv (aT m k),.bool (cj m k)] else kv (aT m k)):=by
 intro t' w s ow;obtain⟨bs,c,hl,hm⟩:=hm;have hb:=ow.lookup hm;unfold execOp;have h1:=OY KK kv w m bs k hl;have h0:(Instr.lookup mt (.map (some r)) (KK.enc k) b).run P w= .ok (bif b then .tuple #[kv (aT m k),.bool (cj m k)] else kv (aT m k)) w:=by
  simp only[Instr.lookup,Sem.run_bind,cV hu,Result.andThen_ok,MapKept.run_getObj_map hb,KK.check,h1]
  cases hp:gG m k with
  |none=>
   have:=afm hp
   cases b<;>simp[aT,cj,this,Bb hi,Result.andThen,h1,hp]
  |some j=>
   obtain⟨v,h2,h3⟩:=Kx hp
   cases b<;>simp[aT,cj,h2,h3,Result.andThen,h1,hp]
 simp only[aR,bE s hx,bE s hk,Sem.run_bind,h0,Result.andThen_ok]
 rfl
theorem MC (T:Ty P) {mt et:TypeId} (KK:Ky P t κ) (kv:α->Value) {x:Operand} {m:List (κ×α)} {r:Nat}
 (aR:o.op= .call ⟨.builtin .len,#[x],#[mt]⟩) (hx:ev env x=some (.map (some r))) (hu:T.bW mt=some (.map t et)) (hm:yR KK kv m r H):
 gS W P n env H o (.int .i64 (m.length:Nat)):=by
 intro t' w s ow;obtain⟨bs,c,hl,hm⟩:=hm;have hb:=ow.lookup hm;obtain⟨cs,hr⟩:=HF (P:=P) (t:=t') w aR;rw[hr];simp only[List.map_toArray,List.map_cons,List.map_nil,bE s hx,builtin,Builtin.len_,Sem.run_bind,List.getElem?_toArray,List.getElem?_cons_zero,Sem.run_pure,Result.andThen_ok,cV hu,MapKept.run_getObj_map hb];simp[goInt,aaS KK kv m bs hl]
theorem KX {w:World} {b:Nat} {es Cb:Array MapEntry} {c c':Nat} {Hr:Hp} (ow:bl W w ((b,.map es c)::Hr)):
 ∃w',(setObj b (.map Cb c')).run P w= .ok () w'/\bl W w' ((b,.map Cb c')::Hr):=by
 have hb:=ow.lookup (List.mem_cons_self ..);refine⟨_,MapKept.run_setObj_map _ hb,?_⟩;exact ow.turn (o':= .map Cb c') (by rfl) rfl rfl rfl
theorem vK (T:Ty P) {d mt et:TypeId} (KK:Ky P t κ) (kv:α->Value) {rv:Option Operand} (hs:slot n ops env i=some (o,d)) (aR:o.op= .makeMap mt rv) (hu:T.bW mt=some (.map t et))
 (hr:match rv with |none=>True |some x=> ∃k j,ev env x=some (.int k j))
 (h: ∀r H',cU KK kv ([]:List (κ×α)) r H'->aH W n K ((d,.map (some r))::env) (HL++[H'])):aH W n (wpOp P ops Q i K) env HL:=by
 obtain⟨ho,hw,hd,hn⟩:=vj hs;refine yX (β:={p:Nat×Hp // cU KK kv ([]:List (κ×α)) p.1 p.2}) (V:=λp=> .map (some p.1.1)) (G:=λp=>(HL++[p.1.2]).flatten) ho hw hd hn (λtt w s ow=>?_) (λp=>h _ _ p.2);refine⟨⟨(w.heap.size,[(w.heap.size,.map #[] 0)]),⟨[],0,rfl,by simp,rfl⟩⟩,w.alloc (.map #[] 0),?_,CY _ ow⟩
 unfold execOp
 cases rv with
 |none=>simp[aR,Instr.makeMap]
 |some x=>
  obtain⟨k,j,hx⟩:=hr;simp[aR,Instr.makeMap,cV hu,bE s hx,asInt,asIntOf]
theorem ah8 (T:Ty P) {mt et:TypeId} (KK:Ky P t κ) (kv:α->Value) {m:List (κ×α)} {r g:Nat} {k:κ} {v:α} {Hj:Hp} {w:World}
 (hu:T.bW mt=some (.map t et)) (hj:idx g HL=some Hj) (so:cU KK kv m r Hj) (ow:bl W w HL.flatten):
 ∃H' w',(Instr.mapUpdate mt (.map (some r)) (KK.enc k) (kv v)).run P w= .ok () w'/\cU KK kv (cO m k v) r H'/\bl W w' (HL.set g H').flatten:=by
 obtain⟨bs,c,hl,⟨hn,hc⟩,rfl⟩:=so;have jm:HL[g]? =some [(r,Obj.map (gX KK kv m bs).toArray c)]:=by rw[<-idx_eq];exact hj
 have CX:=vd jm ow;have hb:=CX.lookup (b:=r) (o:=Obj.map (gX KK kv m bs).toArray c) (by simp)
 have h1:=OY KK kv w m bs k hl
 cases hp:gG m k with
 |none=>
  obtain⟨w',hr,cD⟩:=KX (P:=P) (Cb:=((gX KK kv m bs).toArray.push ⟨KK.enc k,kv v,c⟩)) (c':=c+1) (by simpa using CX)
  refine⟨[(r,.map (gX KK kv (cO m k v) (bs++[c])).toArray (c+1))],w',?_,⟨bs++[c],c+1,by simp[afn hp,hl],⟨?_,?_⟩,rfl⟩,sE jm ?_⟩
  ·simp only[Instr.mapUpdate,Sem.run_bind,cV hu,Result.andThen_ok,MapKept.run_getObj_map hb,KK.check,h1,hp,Option.bind_none,hr]
  ·rw[List.nodup_append];exact⟨hn,by simp,λa ha b hb=>by simp at hb;subst hb;exact Nat.ne_of_lt (hc a ha)⟩
  ·intro b hb;rcases List.mem_append.1 hb with hb |hb
   ·exact Nat.lt_succ_of_lt (hc b hb)
   ·simp at hb;omega
  ·rw[<-Ry KK kv m bs k v c hl hp];simpa using cD
 |some j=>
  obtain⟨v0,h2,h3⟩:=Kx hp;obtain⟨b0,h4,h5⟩:=Mp KK kv m bs j _ hl h3;obtain⟨w',hr,cD⟩:=KX (P:=P) (Cb:=((gX KK kv m bs).toArray.modify j λe=>{e with key:=KK.enc k,val:=kv v})) (c':=c) (by simpa using CX)
  refine⟨[(r,.map (gX KK kv (cO m k v) bs).toArray c)],w',?_,⟨bs,c,by rw[afo hp,hl],⟨hn,hc⟩,rfl⟩,sE jm ?_⟩
  ·simp only[Instr.mapUpdate,Sem.run_bind,cV hu,Result.andThen_ok,MapKept.run_getObj_map hb,KK.check,h1,hp,Option.bind_some,h3,Option.map_some];simp only[List.getElem?_toArray,h4,Option.map_some,Option.getD_some,KK.stays,Result.andThen_ok,hr]
  ·rw[<-Rx KK kv m bs k v j hl hp];simpa using cD
theorem p_ (T:Ty P) {mt et:TypeId} (KK:Ky P t κ) (kv:α->Value) {x ix y:Operand} {m:List (κ×α)} {r g:Nat} {k:κ} {v:α} {Hj:Hp}
 (hs:sL ops env i=some o) (aR:o.op= .mapUpdate mt x ix y) (hx:ev env x=some (.map (some r))) (hk:ev env ix=some (KK.enc k)) (hy:ev env y=some (kv v))
 (hu:T.bW mt=some (.map t et)) (hj:idx g HL=some Hj) (so:cU KK kv m r Hj)
 (h: ∀H',cU KK kv (cO m k v) r H'->aH W n K env (HL.set g H')):aH W n (wpOp P ops Q i K) env HL:=by
 obtain⟨ho,hw,hd⟩:=Bn hs;refine I2 (β:={H':Hp // cU KK kv (cO m k v) r H'}) (G:=λp=>(HL.set g p.1).flatten) ho hw hd (λtt w s ow=>?_) (λp=>h _ p.2);obtain⟨H',w',hr,rf,cD⟩:=ah8 (P:=P) T (v:=v) (k:=k) KK kv hu hj so ow;refine⟨⟨H',rf⟩,w',.inl ?_,cD⟩;unfold execOp;simp only[aR,bE s hx,bE s hk,bE s hy,Sem.run_bind,hr,Result.andThen_ok]
 rfl
theorem aaF (T:Ty P) {mt et t2 ty:TypeId} (KK:Ky P t κ) (kv:α->Value) {m:List (κ×α)} {r g:Nat} {k:κ} {Hj:Hp} {w:World}
 (hu:T.bW mt=some (.map t et)) (hj:idx g HL=some Hj) (so:cU KK kv m r Hj) (ow:bl W w HL.flatten):
 ∃H' w',(Builtin.delete_ #[mt,t2] ty #[.map (some r),KK.enc k]).run P w= .ok (.tuple #[]) w'/\cU KK kv (fU m k) r H'/\bl W w' (HL.set g H').flatten:=by
 obtain⟨bs,c,hl,⟨hn,hc⟩,rfl⟩:=so;have jm:HL[g]? =some [(r,Obj.map (gX KK kv m bs).toArray c)]:=by rw[<-idx_eq];exact hj
 have CX:=vd jm ow;have hb:=CX.lookup (b:=r) (o:=Obj.map (gX KK kv m bs).toArray c) (by simp)
 have h1:=OY KK kv w m bs k hl
 cases hp:gG m k with
 |none=>
  obtain⟨w',hr,cD⟩:=KX (P:=P) (Cb:=(gX KK kv m bs).toArray) (c':=c) (by simpa using CX)
  refine⟨[(r,.map (gX KK kv (fU m k) bs).toArray c)],w',?_,⟨bs,c,by rw[UQ hp,hl],⟨hn,hc⟩,rfl⟩,sE jm ?_⟩
  ·simp[Builtin.delete_,cV hu,MapKept.run_getObj_map hb,KK.check,h1,hp,hr]
  ·rw[UQ hp];simpa using cD
 |some j=>
  obtain⟨v0,h2,h3⟩:=Kx hp;obtain⟨e1,e2⟩:=Rv KK kv m bs k j hl hp;obtain⟨w',hr,cD⟩:=KX (P:=P) (Cb:=((gX KK kv m bs).toArray.eraseIdxIfInBounds j)) (c':=c) (by simpa using CX)
  have this:((gX KK kv m bs).toArray.eraseIdxIfInBounds j)=((gX KK kv m bs).eraseIdx j).toArray:=by apply Array.ext';simp
  rw[this] at hr cD;refine⟨[(r,.map (gX KK kv (fU m k) (bs.eraseIdx j)).toArray c)],w',?_,⟨bs.eraseIdx j,c,e2,⟨hn.sublist (List.eraseIdx_sublist ..),λb hb=>hc b (List.mem_of_mem_eraseIdx hb)⟩,rfl⟩,sE jm ?_⟩
  ·simp[Builtin.delete_,cV hu,MapKept.run_getObj_map hb,KK.check,h1,hp,h3,hr]
  ·rw[<-e1];simpa using cD
theorem DN (T:Ty P) {mt t2 et:TypeId} (KK:Ky P t κ) (kv:α->Value) {x ix:Operand} {m:List (κ×α)} {r g:Nat} {k:κ} {Hj:Hp}
 (ho:ops[i]? =some o) (hw:want ops env o=some true) (hd:o.dst=none) (aR:o.op= .call ⟨.builtin .delete,#[x,ix],#[mt,t2]⟩) (hx:ev env x=some (.map (some r))) (hk:ev env ix=some (KK.enc k))
 (hu:T.bW mt=some (.map t et)) (hj:idx g HL=some Hj) (so:cU KK kv m r Hj)
 (h: ∀H',cU KK kv (fU m k) r H'->aH W n K env (HL.set g H')):aH W n (wpOp P ops Q i K) env HL:=by
 refine I2 (β:={H':Hp // cU KK kv (fU m k) r H'}) (G:=λp=>(HL.set g p.1).flatten) ho hw hd (λtt w s ow=>?_) (λp=>h _ p.2);obtain⟨H',w',hr,rf,cD⟩:=aaF (P:=P) T (t2:=t2) (ty:=o.type) (k:=k) KK kv hu hj so ow;refine⟨⟨H',rf⟩,w',.inr ⟨.tuple #[],?_⟩,cD⟩;obtain⟨cs,hb⟩:=HF (P:=P) (t:=tt) w aR;rw[hb];simp only[List.map_toArray,List.map_cons,List.map_nil,bE s hx,bE s hk,builtin,Sem.run_bind];refine Eq.trans (congrArg (λr=>Result.andThen r _) hr) ?_;simp only[Result.andThen_ok,Sem.run_pure]
end rules
end afQ
end
section
variable {W : World}
variable {P : Program}
def Mr (T:Ty P) (t:TypeId) (a b:Value):Option Bool:=
 match T.bW t,a,b with
 |some (.int _),.int k x,.int k' y=>bif zy k k' then some (x==y) else none
 |some .bool,.bool x,.bool y=>some (x==y)
 |_,_,_=>none
theorem aaU {T:Ty P} {t:TypeId} {a b:Value} {e:Bool} (h:Mr T t a b=some e) (d:Nat) (w:World):(Op.equalIn (d+1) t a b).run P w= .ok e w:=by
 unfold Mr at h;split at h
 ·rename_i hu;rename_i k x k' y
  cases hk:zy k k'<;>simp[hk] at h
  subst h;obtain rfl:=Kg hk;simp only[Op.equalIn,Sem.run_bind,cV hu,Result.andThen_ok,if_true,Sem.run_pure]
 ·rename_i hu;simp at h;subst h;simp only[Op.equalIn,Sem.run_bind,cV hu,Result.andThen_ok,Sem.run_pure]
 ·cases h
def Ca (T:Ty P) (xs ys:List Value):List Field->Option Bool
 |[]=>some true
 |f::r=>match Ew T f.type xs f.offset,Ew T f.type ys f.offset with
  |some a,some b=>match Mr T f.type a b,Ca T xs ys r with
   |some e,some e'=>some (e&&e')
   |_,_=>none
  |_,_=>none
theorem aaT {T : Ty P} {xs ys : Array Value} (d : Nat) (w : World) : ∀ (fs : List Field) (e : Bool), (∀ f ∈ fs, f.name ≠ "_") → Ca T xs.toList ys.toList fs = some e →
 (forIn (m:=Sem) fs (⟨none,()⟩:Option Bool×Unit) λf _=>do
   if f.name ≠ "_" then
    if !(<-Op.equalIn (d+1) f.type (<-part f.type xs f.offset) (<-part f.type ys f.offset)) then pure (ForInStep.done ⟨some false,()⟩) else pure (ForInStep.yield ⟨none,()⟩)
   else pure (ForInStep.yield ⟨none,()⟩)).run P w= .ok (if e then⟨none,()⟩ else⟨some false,()⟩) w:=by
 intro fs
 induction fs with
 |nil=>intro e _ h;simp[Ca] at h;subst h;simp
 |cons f r ih=>
  intro e hn h;simp only[Ca] at h;split at h
  ·rename_i a b h1 h2;split at h
   ·rename_i e1 e2 h3 h4;simp at h;subst h;have hf:=hn f (by simp)
    rw[List.forIn_cons];simp only[hf,ne_eq,not_false_eq_true,if_true,Sem.run_bind,KI h1,KI h2,aaU h3,Result.andThen_ok]
    cases e1
    ·simp
    ·simp only[Bool.not_true,Bool.false_eq_true,if_false,Sem.run_pure,Result.andThen_ok,Bool.true_and];exact ih e2 (λf hf=>hn f (by simp[hf])) h4
   ·cases h
  ·cases h
theorem Qb {T : Ty P} {t : TypeId} {fs : Array Field} {xs ys : Array Value} {e : Bool} (hu : T.bW t = some (.struct fs)) (hs : P.stoodInHeld t = false) (hn : fs.toList.all (fun f => f.name != "_") = true)
 (h:Ca T xs.toList ys.toList fs.toList=some e) (w:World):(Op.equal t (.agg xs) (.agg ys)).run P w= .ok e w:=by
 show(Op.equalIn (9998+1+1) t _ _).run P w=_
 generalize 9998=d
 have Gx : ∀ f ∈ fs.toList, f.name ≠ "_" := fun f hf => by simpa using List.all_eq_true.1 hn f hf
 have:=aaT (P:=P) d w fs.toList e Gx h;rw[Op.equalIn];simp only[Sem.run_bind,cV hu,Result.andThen_ok,run_program,hs,Bool.false_eq_true,if_false];rw[<-Array.forIn_toList];refine Eq.trans (congrArg (λr=>Result.andThen r _) this) ?_
 cases e<;>simp
section rules
variable {T : Ty P} {n : Nat} {env : Env} {H : Hp} {o : Oper}
theorem RY {w:World} {op:BinOp} {t:TypeId} {x y:Operand} {a b:Array Value} (h:P.eqGuardType P.depth t=false):(eqGuard op t x y (.agg a) (.agg b)).run P w= .ok () w:=by
 unfold eqGuard;rw[Sem.run_ite];refine Kh (λ_=>rfl) (λ_=>?_);simp[h]
theorem abb (T:Ty P) {t yt:TypeId} {x y:Operand} {fs:Array Field} {xs ys:Array Value} (e:Bool) (aR:o.op= .binOp .eql t x y yt) (hx:ev env x=some (.agg xs)) (hy:ev env y=some (.agg ys))
 (hu : T.bW t = some (.struct fs)) (hs : P.stoodInHeld t = false ∧ P.eqGuardType P.depth t = false) (hn : fs.toList.all (fun f => f.name != "_") = true) (h : Ca T xs.toList ys.toList fs.toList = some e) :
 gS W P n env H o (.bool e):=by
 intro t1 w s ow;unfold execOp;simp only[aR,bE s hx,bE s hy];simp only[Sem.run_bind,RY hs.2,Result.andThen_ok,binOp,Qb hu hs.1 hn h w,Sem.run_pure]
theorem MB (T:Ty P) {t yt:TypeId} {x y:Operand} {fs:Array Field} {xs ys:Array Value} (e:Bool) (aR:o.op= .binOp .neq t x y yt) (hx:ev env x=some (.agg xs)) (hy:ev env y=some (.agg ys))
 (hu : T.bW t = some (.struct fs)) (hs : P.stoodInHeld t = false ∧ P.eqGuardType P.depth t = false) (hn : fs.toList.all (fun f => f.name != "_") = true) (h : Ca T xs.toList ys.toList fs.toList = some e) :
 gS W P n env H o (.bool (!e)):=by
 intro t1 w s ow;unfold execOp;simp only[aR,bE s hx,bE s hy];simp only[Sem.run_bind,RY hs.2,Result.andThen_ok,binOp,Qb hu hs.1 hn h w,Sem.run_pure]
end rules
end
section
theorem wi {x:Int} (h1: -9223372036854775808<=x) (h2:x<=9223372036854775807):af x=x:=by
 unfold af IntKind.wrap IntKind.signed IntKind.bits;simp;omega
theorem ah_ (x:Int):dQ (bN x):=by
 unfold bN IntKind.wrap IntKind.signed IntKind.bits dQ;simp;omega
theorem cY:fuel=18446744073709551616:=by unfold fuel;rfl
theorem bz {n k:Nat} (h:n<k): ∃q,k=q+1:=⟨k-1,by omega⟩
section lists
variable {α : Type} [Inhabited α]
theorem mh {L:List α} {i c:Int} {v:α} (h0:0<=i) (h1:i<L.length) (c0:0<=c):rd (List.set L i.toNat v) c=if c=i then v else rd L c:=by
 unfold rd
 by_cases hc:c=i
 ·subst hc;rw[if_pos rfl];simp[List.getD,show c.toNat<L.length by omega]
 ·rw[if_neg hc];have:i.toNat≠c.toNat:=U;simp[List.getD,this]
theorem Hu {L:List α} {v:α} {c:Int} (c0:0<=c) (h:c<=L.length):rd (L++[v]) c=if c=L.length then v else rd L c:=by
 unfold rd
 by_cases hc:c=L.length
 ·rw[if_pos hc,hc];simp[List.getD]
 ·rw[if_neg hc];simp[List.getD,List.getElem?_append_left (show c.toNat<L.length by omega)]
theorem vf {L M:List α} {c:Int} (c0:0<=c) (h:c<L.length):rd (L++M) c=rd L c:=by
 unfold rd;simp[List.getD,List.getElem?_append_left (show c.toNat<L.length by omega)]
theorem oa {L M:List α} {c:Int} (h:L.length<=c):rd (L++M) c=rd M (c-L.length):=by
 unfold rd;have h1: ¬c.toNat<L.length:=U;simp[List.getD,List.getElem?_append_right (show L.length<=c.toNat by omega),show(c-(L.length:Int)).toNat=c.toNat-L.length by omega]
theorem wA {n:Nat} {v:α} {c:Int} (c0:0<=c) (h:c<n):rd (List.replicate n v) c=v:=by
 unfold rd;simp[List.getD,show c.toNat<n by omega]
theorem Wd {β:Type} [Inhabited β] {L:List β} {f:β->α} {c:Int} (c0:0<=c) (h:c<L.length):rd (L.map f) c=f (rd L c):=by
 unfold rd;simp[List.getD,show c.toNat<L.length by omega]
theorem Hv {L:List α} {n:Nat} (h:n<L.length):rd L (n:Int)=L[n]:=by simp[rd,h]
theorem Mj {a:List α} {i:Int} (h0:0<=i) (h1:i<a.length):a.drop i.toNat=rd a i::a.drop (i+1).toNat:=by
 have aS:i.toNat<a.length:=U;rw[iP aS,show(i+1).toNat=i.toNat+1 by omega]
 exact List.drop_eq_getElem_cons aS
theorem ah0 {a:List α} {i:Int} (h0:0<=i) (h1:i<a.length):a.take (i+1).toNat=a.take i.toNat++[rd a i]:=by
 have aS:i.toNat<a.length:=U;rw[iP aS,show(i+1).toNat=i.toNat+1 by omega,List.take_add_one,List.getElem?_eq_getElem aS];rfl
theorem fV {a:List α} {i:Int} (h0:0<=i) (h1:i<a.length):rd a i∈a:=by
 have aS:i.toNat<a.length:=U;rw[iP aS];exact List.getElem_mem aS
theorem qq {a:List α} {x:α} (h:x∈a): ∃i:Int,0<=i/\i<a.length/\rd a i=x:=by
 obtain⟨n,hn,rfl⟩:=List.mem_iff_getElem.1 h;exact⟨n,by omega,by omega,Hv hn⟩
theorem yj {a b:List α} (hl:a.length=b.length) (h: ∀i:Int,0<=i->i<a.length->rd a i=rd b i):a=b:=by
 apply List.ext_getElem hl;intro n h1 h2;have:=h n U U;rwa[Hv h1,Hv h2] at this
theorem yi {a:List α} {R:α->α->Prop} (h:a.Pairwise R) {i j:Int} (h0:0<=i) (h1:i<j) (h2:j<a.length):R (rd a i) (rd a j):=by
 have hi:i.toNat<a.length:=U;have hj:j.toNat<a.length:=U;rw[iP hi,iP hj];exact List.pairwise_iff_getElem.1 h _ _ hi hj U
theorem We {a:List α} {R:α->α->Prop} (h: ∀i j:Int,0<=i->i<j->j<a.length->R (rd a i) (rd a j)):a.Pairwise R:=by
 rw[List.pairwise_iff_getElem];intro i j hi hj Gr;have:=h i j U U U;rwa[Hv hi,Hv hj] at this
end lists
section maps
variable {κ α : Type} [DecidableEq κ]
theorem Et (m:List (κ×α)) (x y:κ) (v:α):dR (cO m x v) y=if x=y then some v else dR m y:=by
 induction m with
 |nil=>simp[cO,dR]
 |cons e r ih=>
  simp only[cO,dR]
  by_cases h1:e.1=x
  ·rw[if_pos h1];simp only[dR]
   by_cases h2:x=y
   ·simp[h2]
   ·simp[h2,h1]
  ·rw[if_neg h1];simp only[dR]
   by_cases h2:e.1=y
   ·rw[if_pos h2,if_pos h2,if_neg (λe'=>h1 (h2.trans e'.symm))]
   ·rw[if_neg h2,if_neg h2,ih]
theorem afd {m:List (κ×α)} {x:κ}:dR m x=none↔x∉m.map (·.1):=by
 induction m with
 |nil=>simp[dR]
 |cons e r ih=>
  simp only[dR,List.map_cons,List.mem_cons,not_or]
  by_cases h:e.1=x
  ·rw[if_pos h];simp[h]
  ·rw[if_neg h,ih];exact⟨λq=>⟨λz=>h z.symm,q⟩,λq=>q.2⟩
theorem afc {m:List (κ×α)} (hn:(m.map (·.1)).Nodup) (x y:κ):dR (fU m x) y=if x=y then none else dR m y:=by
 induction m with
 |nil=>simp[fU,dR]
 |cons e r ih=>
  simp only[List.map_cons,List.nodup_cons] at hn;simp only[fU,dR]
  by_cases h1:e.1=x
  ·rw[if_pos h1]
   by_cases h2:x=y
   ·rw[if_pos h2,afd,<-h2,<-h1];exact hn.1
   ·rw[if_neg h2,if_neg (λe'=>h2 (h1.symm.trans e'))]
  ·rw[if_neg h1];simp only[dR]
   by_cases h2:e.1=y
   ·rw[if_pos h2,if_pos h2,if_neg (λe'=>h1 (h2.trans e'.symm))]
   ·rw[if_neg h2,if_neg h2,ih hn.2]
theorem US (m:List (κ×α)) (x y:κ) (v:α):cj (cO m x v) y=(decide (x=y)||cj m y):=by
 unfold cj;rw[Et]
 by_cases h:x=y<;>simp[h]
theorem sB [Inhabited α] (m:List (κ×α)) (x y:κ) (v:α):aT (cO m x v) y=if x=y then v else aT m y:=by
 unfold aT;rw[Et]
 by_cases h:x=y<;>simp[h]
theorem afi {m:List (κ×α)} {x:κ} {v:α}:(cO m x v).map (·.1)=if x∈m.map (·.1) then m.map (·.1) else m.map (·.1)++[x]:=by
 induction m with
 |nil=>simp[cO]
 |cons e r ih=>
  simp only[cO]
  by_cases h:e.1=x
  ·rw[if_pos h];simp[h]
  ·rw[if_neg h];have h': ¬x=e.1:=λq=>h q.symm
   simp only[List.map_cons,ih,List.mem_cons,h',false_or];split<;>simp
theorem Om {m:List (κ×α)} (hn:(m.map (·.1)).Nodup) (x:κ) (v:α):((cO m x v).map (·.1)).Nodup:=by
 rw[afi];split
 ·exact hn
 ·rw[List.nodup_append];exact⟨hn,by simp,λa ha b hb e=>by simp at hb;subst hb;subst e;contradiction⟩
theorem afa {m:List (κ×α)} {x:κ}:(fU m x).Sublist m:=by
 induction m with
 |nil=>simp[fU]
 |cons e r ih=>
  simp only[fU]
  by_cases h:e.1=x
  ·rw[if_pos h];exact List.sublist_cons_self ..
  ·rw[if_neg h];exact ih.cons_cons e
theorem ae' {m:List (κ×α)} (hn:(m.map (·.1)).Nodup) (x:κ):((fU m x).map (·.1)).Nodup:=hn.sublist (afa.map _)
end maps
end
section
variable {W : World}
variable {P : Program}
section rules
variable {T : Ty P} {n : Nat} {env : Env} {H : Hp} {HL : List Hp} {o : Oper}
theorem Jl (T:Ty P) {t e len sz by' s2 b2:Nat} {z z2:Value} {parts:Array (Nat×Operand)} {vs:List (Nat×Value)} {cs:List Value} (aR:o.op= .build t parts)
 (hu:T.bW t=some (.array len e)) (hi:T.inf t=some (s2,b2,z2)) (he:T.inf e=some (sz,by',z)) (hv:(parts.toList.mapM λp=>(ev env p.2).map λv=>(p.1,v))=some vs)
 (hf:vR (λi=>some (i*sz,sz)) (bL z2) vs=some cs):gS W P n env H o (.agg cs.toArray):=by
 intro t' w s ow;unfold execOp;have h1:bL z2=(z2.cells).toList:=(rW z2).symm;rw[h1] at hf;have h2:=My _ _ _ _ hf;have h4:=Mt s hv;have h6:(parts.map λ(x:Nat×Operand)=>(x.1,Act.eval ⟨t',[]⟩ x.2)).toList=vs:=by rw[<-h4];simp
 simp only[aR,Instr.build,Sem.run_bind,Bb hi,Result.andThen_ok,cV hu,jZ he,h6,h2,Sem.run_pure]
theorem RP {α:Type} [Inhabited α] (T:Ty P) (k:Fl α) (xs:List α) {t e len sz by':Nat} {z v:Value} {td:TypeDesc} {x ix:Operand} {kk:IntKind} {j:Int} (aR:o.op= .index t x ix)
 (hx:ev env x=some (.agg (row k xs).toArray)) (xH:ev env ix=some (.int kk j)) (hu:T.bW t=some (.array len e)) (he:T.inf e=some (sz,by',z)) (hue:T.bW e=some td) (ha:nK td=false)
 (hk:k.size=sz) (hl:xs.length=len) (hb:0<=j/\j<(xs.length:Int)) (hv:idx 0 (k.enc (rd xs j))=some v):gS W P n env H o v:=by
 intro t' w s ow;unfold execOp;have hj:j.toNat<xs.length:=U;have hp:=k.pos;have hg:=Da k xs j.toNat 0 hj hp;rw[iP hj,idx_eq] at hv;rw[hv,hk,Nat.add_zero] at hg;have hc:0<=j/\j<(len:Int):=U;have ad3:(part e (row k xs).toArray (j.toNat*sz)).run P w= .ok v w:=by
  refine KI (T:=T) ?_ w;unfold Ew;simp only[hue,he,ha,cond_false,idx_eq];exact hg
 simp only[aR,bE s hx,bE s xH,Instr.index,asIntOf,Sem.run_bind,Sem.run_pure,Result.andThen_ok,cV hu,Sem.run_ite,hc,and_self,if_true,jZ he,ad3]
theorem nU {F:Hp} {j b:Nat} {arr:Array Value} {E:TypeId} {fr:Nat×Nat} {off:Nat} {v:Value} (hm:(b,Obj.cells arr E fr)∈F) (hj:idx j HL=some F) (hv:idx off arr.toList=some v):
 ∃arr E fr,(b,Obj.cells arr E fr)∈HL.flatten/\arr[off]? =some v:=
 ⟨arr,E,fr,gY (by rw[<-idx_eq];exact hj) hm,by rw[idx_eq] at hv;simpa using hv⟩
theorem aef {F:Hp} {j b:Nat} {arr:Array Value} {E:TypeId} {fr:Nat×Nat} {off:Nat} {cs:List Value} (hm:(b,Obj.cells arr E fr)∈F) (hj:idx j HL=some F) (hv:(arr.toList.drop off).take cs.length=cs):
 ∃arr E fr,(b,Obj.cells arr E fr)∈HL.flatten/\ ∀j v,cs[j]? =some v->arr[off+j]? =some v:=
 ⟨arr,E,fr,gY (by rw[<-idx_eq];exact hj) hm,λj v h=>by
   rw[<-hv] at h;have hl:=(List.getElem?_eq_some_iff.1 h).1;rw[List.getElem?_take_of_lt (by simp at hl;omega),List.getElem?_drop] at h
   simpa using h⟩
theorem qo {F:Hp} {j:Nat} {c:Nat×Obj} (hm:c∈F) (hj:idx j HL=some F):c∈HL.flatten:=gY (by rw[<-idx_eq];exact hj) hm
theorem CI {j b:Nat} {ob:Obj} {Hr:Hp} (hj:idx j HL=some ((b,ob)::Hr)):(b,ob)∈HL.flatten:=gY (by rw[<-idx_eq];exact hj) (List.mem_cons_self ..)
end rules
theorem ak.pre {α:Type} {k:Fl α} {E:TypeId} {xs:List α} {a:Option Addr} {cap:Nat} {H:Hp} {hi:Int} (so:ak k E xs a cap H) (h:0<=(0:Int)/\0<=hi/\hi<=(xs.length:Int)):
 ak k E (aB xs 0 hi) (gk a cap (Int.toNat 0) k.size) (cap-Int.toNat 0) H:=by
 have hs:gk a cap (Int.toNat 0) k.size=a:=by
  unfold gk;split
  ·rfl
  ·cases a with
   |none=>rfl
   |some ad=>simp[Addr.add]
 have hx:aB xs 0 hi=xs.take hi.toNat:=by simp[aB]
 rw[hs,hx,show cap-Int.toNat 0=cap by simp]
 rcases so with⟨h1,h2,h3,h4⟩ |⟨b,pre,post,h1,h2,h3,h4⟩
 ·exact .inl ⟨h1,by rw[h2];simp,h3,h4⟩
 ·refine .inr ⟨b,pre,row k (xs.drop hi.toNat)++post,h1,?_,by simp;omega,?_⟩
  ·rw[h2];have:row k xs=row k (xs.take hi.toNat)++row k (xs.drop hi.toNat):=by rw[<-qx,List.take_append_drop]
   rw[this];simp
  ·simp only[List.length_append,lG,List.length_drop,List.length_take];have e:(cap-min hi.toNat xs.length)*k.size<=(xs.length-hi.toNat+(cap-xs.length))*k.size:=Nat.mul_le_mul_right _ U;rw[Nat.add_mul] at e;omega
end
section
variable {W : World}
variable {P : Program}
section
variable {α : Type} {k : Fl α} {n : Nat} {env : Env} {H : Hp} {o : Oper}
theorem ak.Un {E:TypeId} {xs:List α} {a:Option Addr} {cap:Nat} {Hj:Hp} (so:ak k E xs a cap Hj) (hc:xs=[]->a=none):Option.isNone a=List.isEmpty xs:=by
 cases a with
 |none=>
  rcases so with⟨_,h,_,_⟩ |⟨b,pre,post,h,_⟩
  ·subst h;rfl
  ·cases h
 |some ad=>
  cases xs with
  |nil=>cases hc rfl
  |cons x r=>rfl
theorem abc (T:Ty P) {t yt e:TypeId} {x y:Operand} {a:Option Addr} {m cap n' c':Nat} {E:TypeId} {xs:List α} {Hj:Hp} (aR:o.op= .binOp .eql t x y yt) (hx:ev env x=some (.slice a m cap)) (hy:ev env y=some (.slice none n' c'))
 (hu:T.bW t=some (.slice e)) (so:ak k E xs a cap Hj) (hc:xs=[]->a=none):gS W P n env H o (.bool (List.isEmpty xs)):=by
 intro t1 w s ow;unfold execOp;simp only[aR,bE s hx,bE s hy];have h:za T .eql t (.slice a m cap) (.slice none n' c')=some (.bool a.isNone):=by simp[za,hu]
 rw[Sem.run_bind,LZ h w,so.Un hc];rfl
theorem abd (T:Ty P) {t yt e:TypeId} {x y:Operand} {a:Option Addr} {m cap n' c':Nat} {E:TypeId} {xs:List α} {Hj:Hp} (aR:o.op= .binOp .neq t x y yt) (hx:ev env x=some (.slice a m cap)) (hy:ev env y=some (.slice none n' c'))
 (hu:T.bW t=some (.slice e)) (so:ak k E xs a cap Hj) (hc:xs=[]->a=none):gS W P n env H o (.bool (!List.isEmpty xs)):=by
 intro t1 w s ow;unfold execOp;simp only[aR,bE s hx,bE s hy];have h:za T .neq t (.slice a m cap) (.slice none n' c')=some (.bool (!a.isNone)):=by simp[za,hu]
 rw[Sem.run_bind,LZ h w,so.Un hc];rfl
theorem Oy {xs ys:List α} {a:Option Addr} (h:List.isEmpty xs=false∨List.isEmpty ys=false):xs++ys=[]->a=none:=λe=>by
 rw[List.append_eq_nil_iff] at e;rw[e.1,e.2] at h;simp at h
end
end
section
variable {W : World}
variable {P : Program}
section
variable {n : Nat} {env : Env} {H : Hp} {o : Oper}
theorem zk (T:Ty P) {m by' b:Nat} {t E:TypeId} {x ix:Operand} {kk:IntKind} {j:Int} {z:Value} (aR:o.op= .indexAddr t x ix)
 (hx:ev env x=some (.pointer (some ⟨b,0,none⟩))) (xH:ev env ix=some (.int kk j)) (hu:T.bW t=some (.array m E)) (hi:T.inf E=some (1,by',z))
 (hj:0<=j/\j<(m:Int)):gS W P n env H o (.pointer (some ⟨b,j.toNat,none⟩)):=by
 intro t' w s ow;obtain⟨h0,h1⟩:=hj;unfold execOp;simp only[aR,bE s hx,bE s xH,Instr.indexAt,Instr.sureAddr,asIntOf,Sem.run_bind,Sem.run_pure,Result.andThen_ok,cV hu,Sem.run_ite,h0,h1,and_self,if_true,jZ hi]
 congr 3
 unfold Addr.add;split
 ·rename_i h;have:j.toNat=0:=U;simp[this]
 ·simp
end
section
variable {n : Nat} {Q : Exit -> Act -> World -> Prop} {env : Env} {H : Hp}
theorem YI {x:Code} {σ:Type} (I:σ->Prop) (E:σ->Env) (G:σ->List Hp) (h1:At W n (x.wp P (Exit.then (DH W n I E G) Q)) env H)
 (h2: ∀s,I s->aH W n (Q .normal) (E s) (G s)):At W n (x.wp P Q) env H:=by
 refine h1.mono λa w h=>wp_mono h λe a w h=>?_
 cases e with
 |normal=>
  obtain⟨s,hi,t,rfl,sl,o⟩:=h;exact h2 s hi t w sl o
 |_=>exact h
end
theorem mS {α:Type} {xs:List α} {lo hi:Int} {cap:Nat} (h:0<=lo/\lo<=hi/\hi<=(xs.length:Int)) (hc:xs.length<=cap):(aB xs lo hi).length<=cap-lo.toNat:=by
 have:=iQ h;omega
end
section
variable {W : World}
variable {P : Program}
abbrev Hd:=Option Addr×Nat×Nat
def uX (h:Hd):Value:= .slice h.1 h.2.1 h.2.2
section rules
variable {κ α : Type} [DecidableEq κ] {t : TypeId} {k : Fl α} {E : TypeId}
variable {T : Ty P} {n : Nat} {Q : Exit -> Act -> World -> Prop} {env : Env} {H : Hp} {HL : List Hp} {ops : Array Oper} {i : Nat} {K : Act -> World -> Prop} {o : Oper}
theorem F4 (T:Ty P) {mt et:TypeId} (KK:Ky P t κ) {x ix:Operand} {r:Nat} {kx:κ} {v:Hd} {sz by':Nat}
 (aR:o.op= .lookup mt x ix false) (hx:ev env x=some (.map (some r))) (hk:ev env ix=some (KK.enc kx)) (hu:T.bW mt=some (.map t et))
 (hi:T.inf et=some (sz,by',.slice none 0 0)) (hm: ∃hs,yR KK uX hs r H/\aT hs kx=v):
 gS W P n env H o (.slice v.1 v.2.1 v.2.2):=by
 obtain⟨hs,h1,h2⟩:=hm;have:=qi (W:=W) (n:=n) (o:=o) T KK uX (k:=kx) (b:=false) (sz:=sz) (by':=by') aR hx hk hu hi h1
 rw[h2] at this;exact this
end rules
end
section
variable {W : World}
variable {P : Program}
open Go.ChangeMaps (setBlock)
section rules
variable {κ α : Type} [DecidableEq κ] {t : TypeId} {k : Fl α} {E : TypeId}
variable {T : Ty P} {n : Nat} {Q : Exit -> Act -> World -> Prop} {env : Env} {H : Hp} {HL : List Hp} {ops : Array Oper} {i : Nat} {K : Act -> World -> Prop} {o : Oper}
end rules
end
section
variable {W : World}
variable {P : Program}
structure Nk (α β γ:Type) where
 kin:Fl γ
 ein:TypeId
 kh:Fl β
 get:α->List γ
 set:α->List γ->α
 hd:α->Option Addr->Nat->β
 ai1: ∀x l,get (set x l)=l
end
section
variable {P : Program}
def yh (q:IntKind) (x:Int×Int):Value:= .agg #[.int q x.1,.int q x.2]
theorem KP (T:Ty P) {et:TypeId} {q:IntKind} {cs:Array Value} {i:Nat} {v:Value} (hu:T.bW et=some (.int q)) (hv:cs[i]? =some v) (w:World):(part et cs i).run P w= .ok v w:=by
 unfold part;simp[EF hu,nK,hv]
theorem ag2 (T:Ty P) {t et:TypeId} {q:IntKind} {by':Nat} {z:Value} (ht:T.bW t=some (.array 2 et)) (hu:T.bW et=some (.int q)) (hi:T.inf et=some (1,by',z)) (w:World) (x y:Int×Int):
 (Op.equal t (yh q x) (yh q y)).run P w= .ok (decide (x=y)) w:=by
 show(Op.equalIn (9998+1+1) t _ _).run P w=_
 generalize 9998=d;have e0: ∀a b:Int,(Op.equalIn (d+1) et (.int q a) (.int q b)).run P w= .ok (a==b) w:=λa b=>by
  simp only[Op.equalIn,Sem.run_bind,cV hu,Result.andThen_ok,if_true,Sem.run_pure]
 have p0: ∀a b:Int,(part et #[.int q a,.int q b] 0).run P w= .ok (.int q a) w:=λa b=>KP T hu rfl w
 have p1: ∀a b:Int,(part et #[.int q a,.int q b] 1).run P w= .ok (.int q b) w:=λa b=>KP T hu rfl w
 unfold yh;rw[Op.equalIn];simp only[Sem.run_bind,cV ht,Result.andThen_ok,jZ hi];obtain⟨x1,x2⟩:=x;obtain⟨y1,y2⟩:=y
 by_cases h1:x1=y1
 ·by_cases h2:x2=y2
  ·simp[List.range',p0,p1,e0,h1,h2]
  ·simp[List.range',p0,p1,e0,h1,h2]
 ·simp[List.range',p0,p1,e0,h1]
theorem RI (T:Ty P) {t et:TypeId} {q:IntKind} {by':Nat} {z:Value} (ht:T.bW t=some (.array 2 et)) (hu:T.bW et=some (.int q)) (hi:T.inf et=some (1,by',z)) (w:World) (x:Int×Int):
 ∀(es:List MapEntry) (ks:List (Int×Int)) (j:Nat),es.map (·.key)=ks.map (yh q)->
  (Instr.findAsking t (yh q x) es j).run P w= .ok ((gG (ks.map λk=>(k,())) x).bind λi=>(es[i]?).map λe=>(i+j,e.val)) w
 |[],[],_,_=>rfl
 |[],_::_,_,h=>by simp at h
 |_::_,[],_,h=>by simp at h
 |e::es,k::ks,j,h=>by
  simp only[List.map_cons,List.cons.injEq] at h;obtain⟨h1,h2⟩:=h;have:=ag2 T ht hu hi w x k;simp only[Instr.findAsking,h1,Sem.run_bind,this,Result.andThen_ok,List.map_cons,gG]
  by_cases hk:k=x
  ·subst hk;simp
  ·have hk': ¬x=k:=λq=>hk q.symm
   simp only[hk,hk',decide_false,Bool.false_eq_true,if_false];rw[RI T ht hu hi w x es ks (j+1) h2]
   cases hp:gG (ks.map λk=>(k,())) x with
   |none=>simp
   |some i=>
    simp only[Option.map_some,Option.bind_some,List.getElem?_cons_succ];rw[show i+1+j=i+(j+1) by omega]
def Ky.pair (T:Ty P) {t et:TypeId} (q:IntKind) {by':Nat} {z:Value} (ht:T.bW t=some (.array 2 et)) (hu:T.bW et=some (.int q)) (hi:T.inf et=some (1,by',z)) (ht':P.underlying t=some (.array 2 et)) (jD:P.underlying et=some (.int q)):Ky P t (Int×Int) where
 enc:=yh q
 check:=λe w x=>by
  have c0: ∀a:Int,(Instr.checkKey e 9999 et (.int q a)).run P w= .ok () w:=λa=>MapKept.run_checkKey jD (by simp[MapKept.IsKey]) e 9998
  have p0: ∀a b:Int,(part et #[.int q a,.int q b] 0).run P w= .ok (.int q a) w:=λa b=>KP T hu rfl w
  have p1: ∀a b:Int,(part et #[.int q a,.int q b] 1).run P w= .ok (.int q b) w:=λa b=>KP T hu rfl w
  obtain⟨a,b⟩:=x
  show(Instr.checkKey e (9999+1) t (yh q (a,b))).run P w=_
  unfold yh;generalize 9999=d at c0;rw[Instr.checkKey];simp[List.range',cV ht,jZ hi,p0,p1,c0]
 find:=λw x es ks h=>by
  have hf:=RI T ht hu hi w x es ks 0 h;unfold Instr.findKey;simp only[Sem.run_bind,cV ht,Result.andThen_ok]
  cases es with
  |nil=>
   cases ks with
   |nil=>rfl
   |cons _ _=>simp at h
  |cons e es=>
   cases ks with
   |nil=>simp at h
   |cons k ks=>
    simp only[List.map_cons,List.cons.injEq] at h;have:Instr.findNow (.array 2 et) (yh q x) (e::es) 0=none:=by
     simp[Instr.findNow,Instr.sameNow]
    rw[this];simpa using hf
 stays:=λw x=>by
  unfold Instr.keyThatStays yh;simp[Instr.sameBits]
end
section
variable {W : World}
variable {P : Program}
structure Kd (α:Type) where
 size:Nat
 own:α->List Value->Hp->Prop
 oa:α->List Value->Hp->Prop
 len: ∀x cs H,own x cs H->cs.length=size
 plain: ∀x cs H,own x cs H-> ∀v∈cs,v.oneCell'=true
 r: ∀x cs H,own x cs H->oa x cs H
 mono: ∀x cs H H',oa x cs H->(∀c∈H,c∈H')->oa x cs H'
 pos:0<size
structure Rw (n:Nat) where
 val:List Value
 len:val.length=n
 plain: ∀v∈val,v.oneCell'=true
instance (n:Nat):Inhabited (Rw n):=⟨⟨List.replicate n (.bool false),by simp,by intro v h;rw[List.mem_replicate] at h;rw[h.2];rfl⟩⟩
def Fl.raw (n:Nat) (h:0<n):Fl (Rw n):=⟨n,λx=>x.val,λx=>x.len,λx=>x.plain,h⟩
theorem KZ {δ:Type} {l:List δ} {j:Nat} {a:δ} (h:l[j]? =some a):l.set j a=l:=by
 obtain⟨hl,he⟩:=List.getElem?_eq_some_iff.1 h;rw[<-he];exact List.set_getElem_self _
theorem Wc {δ:Type} [Inhabited δ] (y:δ) (l:List δ) (i:Nat):rd (y::l) ((i+1:Nat):Int)=rd l (i:Int):=by
 unfold rd;have h1:((i+1:Nat):Int).toNat=i+1:=U;have h2:((i:Nat):Int).toNat=i:=U;rw[h1,h2];rfl
theorem A8 {HL:List Hp} {j:Nat} {A B:Hp} (h:j<HL.length):(HL.set j (A++B)).flatten.Perm (HL.set j A++[B]).flatten:=by
 have h1:=vS HL j _ (A++B) (List.getElem?_eq_getElem h);have h2:=vS HL j _ A (List.getElem?_eq_getElem h);refine h1.trans ?_;rw[List.flatten_append];simp only[List.flatten_cons,List.flatten_nil,List.append_nil];refine List.Perm.trans ?_ (List.Perm.append_right B h2.symm);rw[List.append_assoc,List.append_assoc];exact List.Perm.append_left A List.perm_append_comm
theorem Ex {HL:List Hp} {j q:Nat} {A B:Hp} (hj:HL[j]? =some A) (hq:HL[q]? =some B) (bI:j≠q):HL.flatten.Perm ((HL.set j (A++B)).set q []).flatten:=by
 have TR:(HL.set j (A++B))[q]? =some B:=by rw[List.getElem?_set_ne bI];exact hq
 have ha:=xu HL j A hj;have hb:(HL.set j (A++B)).flatten.Perm ((A++B)++(HL.eraseIdx j).flatten):=vS HL j _ _ hj;have hc:=xu (HL.set j (A++B)) q B TR;have hd:=vS (HL.set j (A++B)) q B [] TR;have key:(B++HL.flatten).Perm (B++((HL.set j (A++B)).set q []).flatten):=by
  refine List.Perm.trans ?_ (List.Perm.append_left B (by simpa using hd.symm))
  refine List.Perm.trans ?_ hc;refine List.Perm.trans ?_ hb.symm;refine(List.Perm.append_left B ha).trans ?_;rw[<-List.append_assoc];exact List.Perm.append_right _ List.perm_append_comm
 exact(List.perm_append_left_iff B).1 key
theorem Cd {HL:List Hp} {j:Nat} {A B:Hp} (h:A.Perm B):(HL.set j A).flatten.Perm (HL.set j B).flatten:=by
 by_cases hj:j<HL.length
 ·have h1:=vS HL j _ A (List.getElem?_eq_getElem hj);have h2:=vS HL j _ B (List.getElem?_eq_getElem hj);exact h1.trans ((List.Perm.append_right _ h).trans h2.symm)
 ·rw[List.set_eq_of_length_le U,List.set_eq_of_length_le U]
section
variable {n' : Nat} {F : Act -> World -> Prop} {env : Env} {HL : List Hp}
theorem I0 {j:Nat} {A B:Hp} (hj:idx j HL=some (A++B)) (h:aH W n' F env (HL.set j A++[B])):aH W n' F env HL:=by
 rw[idx_eq] at hj;have hl:=(List.getElem?_eq_some_iff.1 hj).1;refine po (λw o=>?_) h;refine o.perm ?_;have e:HL.set j (A++B)=HL:=KZ hj;have:=A8 (HL:=HL) (j:=j) (A:=A) (B:=B) hl;rw[e] at this;exact this
theorem gD (js:List Nat) {As R:List Hp} (hs:qB js HL=(As,R)) (h:aH W n' F env (R++[As.flatten])):aH W n' F env HL:=
 po (λw o=>o.perm ((WC hs).trans (by
  rw[List.flatten_append];simp only[List.flatten_cons,List.flatten_nil,List.append_nil];exact List.perm_append_comm))) h
theorem LQ {R As:List Hp} (h:aH W n' F env (R++As)):aH W n' F env (R++[As.flatten]):=
 po (λw o=>o.perm (by
  rw[List.flatten_append,List.flatten_append];simp only[List.flatten_cons,List.flatten_nil,List.append_nil];exact List.Perm.refl _)) h
end
section
variable {α : Type} [Inhabited α] (kd : Kd α)
def sT:List α->List (Rw kd.size)->Hp->Prop
 |[],cc,R=>cc=[]/\R=[]
 |x::xs,cc,R=> ∃c Hx vM R',kd.own x c.val Hx/\cc=c::vM/\R=Hx++R'/\sT xs vM R'
def gK (E:TypeId) (xs:List α) (a:Option Addr) (cap:Nat) (H:Hp):Prop:=
 ∃cc H0 R,ak (Fl.raw kd.size kd.pos) E cc a cap H0/\sT kd xs cc R/\H=H0++R
def nJ (xs:List α) (a:Option Addr) (H:Hp):Prop:=
 ∃cc,aP (Fl.raw kd.size kd.pos) cc a H/\cc.length=xs.length/\ ∀i,i<xs.length->kd.oa (rd xs (i:Int)) (rd cc (i:Int)).val H
def vF (E:TypeId) (xs:List α) (a:Option Addr) (cap:Nat) (i:Int) (cs:List Value) (H:Hp):Prop:=
 (0<=i/\i<(xs.length:Int))/\ ∃cc H0 R,ak (Fl.raw kd.size kd.pos) E cc a cap H0/\cc.length=xs.length/\(rd cc i).val=cs/\H=H0++R/\
   ∀x' (c':Rw kd.size) Hy,kd.own x' c'.val Hy-> ∃R2,R2.Perm (R++Hy)/\sT kd (xs.set i.toNat x') (cc.set i.toNat c') R2
def yN (a:Option Addr) (o:Nat) (cs:List Value) (H:Hp):Prop:=
 ∃b off arr E fr,a=some ⟨b,off,none⟩/\(b,Obj.cells arr E fr)∈H/\ ∀f v,cs[f]? =some v->arr[off+o+f]? =some v
variable {kd} {E : TypeId}
theorem CE: ∀(xs:List α) (cc:List (Rw kd.size)) (R:Hp),sT kd xs cc R->cc.length=xs.length
 |[],_,_,h=>by rw[h.1];rfl
 |x::xs,_,_,h=>by
  obtain⟨c,Hx,vM,R',_,rfl,_,h4⟩:=h;simp[CE xs vM R' h4]
theorem UI: ∀(xs:List α) (cc:List (Rw kd.size)) (R:Hp) (ys:List α) (dd:List (Rw kd.size)) (S:Hp),sT kd xs cc R->sT kd ys dd S->sT kd (xs++ys) (cc++dd) (R++S)
 |[],_,_,ys,dd,S,h,h2=>by obtain⟨rfl,rfl⟩:=h;exact h2
 |x::xs,_,_,ys,dd,S,h,h2=>by
  obtain⟨c,Hx,vM,R',h1,rfl,rfl,h4⟩:=h;exact⟨c,Hx,vM++dd,R'++S,h1,rfl,by rw[List.append_assoc],UI xs vM R' ys dd S h4 h2⟩
theorem aeX {x:α} {c:Rw kd.size} {Hx:Hp} (h:kd.own x c.val Hx):sT kd [x] [c] Hx:=⟨c,Hx,[],[],h,rfl,by simp,rfl,rfl⟩
theorem Od {x:α} {c:Rw kd.size} (h:kd.own x c.val []): ∀m:Nat,sT kd (List.replicate m x) (List.replicate m c) []
 |0=>⟨rfl,rfl⟩
 |m+1=>⟨c,[],_,[],h,rfl,rfl,Od h m⟩
theorem Kt: ∀(xs:List α) (cc:List (Rw kd.size)) (R:Hp) (i:Nat),sT kd xs cc R->i<xs.length->
 ∃Hx R',kd.own (rd xs (i:Int)) (rd cc (i:Int)).val Hx/\R.Perm (R'++Hx)/\
  ∀x' (c':Rw kd.size) Hy,kd.own x' c'.val Hy-> ∃R2,R2.Perm (R'++Hy)/\sT kd (xs.set i x') (cc.set i c') R2
 |[],_,_,_,_,h=>by simp at h
 |x::xs,_,_,0,h,_=>by
  obtain⟨c,Hx,vM,R',h1,rfl,rfl,h4⟩:=h;exact⟨Hx,R',h1,List.perm_append_comm,λx' c' Hy hy=>⟨Hy++R',List.perm_append_comm,⟨c',Hy,vM,R',hy,rfl,rfl,h4⟩⟩⟩
 |x::xs,_,_,i+1,h,hi=>by
  obtain⟨c,Hx,vM,R',h1,rfl,rfl,h4⟩:=h;obtain⟨H1,R1,e1,e4,e5⟩:=Kt xs vM R' i h4 (by simpa using hi)
  refine⟨H1,Hx++R1,by rw[Wc,Wc];exact e1,by rw[List.append_assoc];exact List.Perm.append_left Hx e4,λx' c' Hy hy=>?_⟩
  obtain⟨R2,p2,l2⟩:=e5 x' c' Hy hy;exact⟨Hx++R2,by rw[List.append_assoc];exact List.Perm.append_left Hx p2,⟨c,Hx,_,R2,h1,rfl,rfl,l2⟩⟩
theorem aeY {xs:List α} {cc:List (Rw kd.size)} {R:Hp} (h:sT kd xs cc R) {i:Nat} (hi:i<xs.length):kd.oa (rd xs (i:Int)) (rd cc (i:Int)).val R:=by
 obtain⟨Hx,R',e1,e2,_⟩:=Kt xs cc R i h hi;exact kd.mono _ _ _ _ (kd.r _ _ _ e1) (λc hc=>e2.mem_iff.2 (List.mem_append_right _ hc))
theorem gK.nil:gK kd E ([]:List α) none 0 []:=⟨[],[],[],ak.nil,⟨rfl,rfl⟩,rfl⟩
theorem gK.b_ {xs:List α} {a:Option Addr} {cap:Nat} {H:Hp} (h:gK kd E xs a cap H):xs.length<=cap:=by
 obtain⟨cc,H0,R,h0,hl,_⟩:=h;rw[<-CE _ _ _ hl];exact h0.b_
theorem gK.r {xs:List α} {a:Option Addr} {cap:Nat} {H:Hp} (h:gK kd E xs a cap H):nJ kd xs a H:=by
 obtain⟨cc,H0,R,h0,hl,rfl⟩:=h;exact⟨cc,h0.r.mono (λc hc=>List.mem_append_left _ hc),CE _ _ _ hl,λi hi=>kd.mono _ _ _ _ (aeY hl hi) (λc hc=>List.mem_append_right _ hc)⟩
theorem nJ.nil {H:Hp}:nJ kd ([]:List α) none H:=⟨[],.inl rfl,rfl,λi hi=>by simp at hi⟩
theorem nJ.mono {xs:List α} {a:Option Addr} {H H':Hp} (h:nJ kd xs a H) (hs: ∀c∈H,c∈H'):nJ kd xs a H':=by
 obtain⟨cc,h1,h2,h3⟩:=h;exact⟨cc,h1.mono hs,h2,λi hi=>kd.mono _ _ _ _ (h3 i hi) hs⟩
theorem nJ.addr {xs:List α} {a:Option Addr} {H:Hp} (h:nJ kd xs a H) {i:Int} (h0:0<=i) (h1:i<xs.length): ∃b off,a=some ⟨b,off,none⟩:=by
 obtain⟨cc,h2,h3,_⟩:=h;exact h2.addr h0 (by rw[h3];exact h1)
theorem nJ.view {xs:List α} {a:Option Addr} {H:Hp} (h:nJ kd xs a H) {j:Int} (hj:0<=j/\j<(xs.length:Int)):
 ∃cs,yN a (j.toNat*kd.size) cs H/\kd.oa (rd xs j) cs H:=by
 obtain⟨cc,h1,h2,h3⟩:=h;obtain⟨b,off,ha⟩:=h1.addr hj.1 (by rw[h2];exact hj.2)
 obtain⟨arr,E,fr,hm,hc⟩:=h1.elem ha hj.1 (by rw[h2];exact hj.2)
 have h4:=h3 j.toNat U;rw[show((j.toNat:Nat):Int)=j by omega] at h4
 exact⟨(rd cc j).val,⟨b,off,arr,E,fr,ha,hm,λf v hv=>hc f v hv⟩,h4⟩
theorem yN.mono {a:Option Addr} {o:Nat} {cs:List Value} {H H':Hp} (h:yN a o cs H) (hs: ∀c∈H,c∈H'):yN a o cs H':=by
 obtain⟨b,off,arr,E,fr,ha,hm,hc⟩:=h;exact⟨b,off,arr,E,fr,ha,hs _ hm,hc⟩
theorem Cv {HL:List Hp} {j b off o:Nat} {Hj:Hp} {a:Option Addr} {cs:List Value} (hj:idx j HL=some Hj) (h:yN a o cs Hj) (ha:a=some ⟨b,off,none⟩) (f:Nat) {v:Value} (hv:idx f cs=some v):
 ∃arr E fr,(b,Obj.cells arr E fr)∈HL.flatten/\arr[off+o+f]? =some v:=by
 obtain⟨b',CT,arr,E,fr,vV,hm,hc⟩:=h;rw[ha] at vV;simp at vV;obtain⟨rfl,rfl⟩:=vV;exact⟨arr,E,fr,gY (by rw[<-idx_eq];exact hj) hm,hc f v (by rw[<-idx_eq];exact hv)⟩
theorem N8 {HL:List Hp} {j b off o:Nat} {Hj:Hp} {a:Option Addr} {cs:List Value} (hj:idx j HL=some Hj) (h:yN a o cs Hj) (ha:a=some ⟨b,off,none⟩) (f:Nat) {vs:List Value}
 (hv:(cs.drop f).take vs.length=vs): ∃arr E fr,(b,Obj.cells arr E fr)∈HL.flatten/\ ∀i v,vs[i]? =some v->arr[off+o+f+i]? =some v:=by
 obtain⟨b',CT,arr,E,fr,vV,hm,hc⟩:=h;rw[ha] at vV;simp at vV;obtain⟨rfl,rfl⟩:=vV;refine⟨arr,E,fr,gY (by rw[<-idx_eq];exact hj) hm,λi v hi=>?_⟩
 rw[<-hv] at hi;have hl:=(List.getElem?_eq_some_iff.1 hi).1;rw[List.getElem?_take_of_lt (by simp at hl;omega),List.getElem?_drop] at hi
 rw[Nat.add_assoc];exact hc (f+i) v hi
theorem vF.cells {xs:List α} {a:Option Addr} {cap:Nat} {i:Int} {cs:List Value} {H:Hp} (h:vF kd E xs a cap i cs H):yN a (i.toNat*kd.size) cs H:=by
 obtain⟨hi,cc,H0,R,h0,hl,rfl,rfl,_⟩:=h;obtain⟨b,off,ha⟩:=h0.r.addr hi.1 (by rw[hl];exact hi.2)
 obtain⟨arr,E',fr,hm,hc⟩:=h0.r.elem ha hi.1 (by rw[hl];exact hi.2)
 exact⟨b,off,arr,E',fr,ha,List.mem_append_left _ hm,λf v hv=>hc f v hv⟩
theorem vF.addr {xs:List α} {a:Option Addr} {cap:Nat} {i:Int} {cs:List Value} {H:Hp} (h:vF kd E xs a cap i cs H): ∃b off,a=some ⟨b,off,none⟩:=by
 obtain⟨b,off,_,_,_,ha,_⟩:=h.cells;exact⟨b,off,ha⟩
theorem vF.b_ {xs:List α} {a:Option Addr} {cap:Nat} {i:Int} {cs:List Value} {H:Hp} (h:vF kd E xs a cap i cs H):xs.length<=cap:=by
 obtain⟨hi,cc,H0,R,h0,hl,rfl,rfl,_⟩:=h;rw[<-hl];exact h0.b_
section
variable {n' : Nat} {F : Act -> World -> Prop} {env : Env} {HL : List Hp} {xs : List α} {a : Option Addr} {cap : Nat}
theorem LN {H:Hp} {j:Nat} {i:Int} (hj:idx j HL=some H) (so:gK kd E xs a cap H) (hi:0<=i/\i<(xs.length:Int))
 (h: ∀cs Hx H',kd.own (rd xs i) cs Hx->vF kd E xs a cap i cs H'->aH W n' F env (HL.set j H'++[Hx])):aH W n' F env HL:=by
 obtain⟨cc,H0,R,h0,hl,rfl⟩:=so;obtain⟨Hx,R',e1,e2,e3⟩:=Kt xs cc R i.toNat hl U;rw[show((i.toNat:Nat):Int)=i by omega] at e1
 refine po (λw o=>?_) (h (rd cc i).val Hx (H0++R') e1 ⟨hi,cc,H0,R',h0,CE _ _ _ hl,rfl,rfl,e3⟩);rw[idx_eq] at hj;have lB:=(List.getElem?_eq_some_iff.1 hj).1;refine o.perm ?_;have e:HL.set j (H0++R)=HL:=KZ hj;have h1:HL.flatten.Perm (HL.set j ((H0++R')++Hx)).flatten:=by
  conv=>lhs;rw[<-e]
  refine Cd ?_;rw[List.append_assoc];exact List.Perm.append_left H0 e2
 exact h1.trans (A8 lB)
theorem LM {H Hx:Hp} {j q:Nat} {i:Int} {cs:List Value} (x':α) (hj:idx j HL=some H) (so:vF kd E xs a cap i cs H) (hq:idx q HL=some Hx) (bI:Nat.beq j q=false) (hx:kd.own x' cs Hx)
 (h: ∀H',gK kd E (xs.set i.toNat x') a cap H'->aH W n' F env ((HL.set j H').set q [])):aH W n' F env HL:=by
 obtain⟨hi,cc,H0,R,h0,hl,h2,rfl,h3⟩:=so;have qZ:j≠q:=λe=>by subst e;simp at bI
 obtain⟨R2,p2,l2⟩:=h3 x' (rd cc i) Hx (by rw[h2];exact hx)
 have ec:cc.set i.toNat (rd cc i)=cc:=by
  rw[iP U];exact List.set_getElem_self _
 rw[ec] at l2;refine po (λw o=>?_) (h (H0++R2) ⟨cc,H0,R2,h0,l2,rfl⟩);rw[idx_eq] at hj hq;refine o.perm ?_;refine(Ex hj hq qZ).trans ?_;have: ∀(L:List Hp) (A:Hp),((L.set j A).set q [])=((L.set q []).set j A):=λL A=>List.set_comm _ _ qZ
 rw[this,this];refine Cd ?_;rw[List.append_assoc];exact List.Perm.append_left H0 p2.symm
end
section rules
variable {n : Nat} {Q : Exit -> Act -> World -> Prop} {env : Env} {HL : List Hp} {ops : Array Oper} {i : Nat} {K : Act -> World -> Prop} {o : Oper}
theorem LO (T:Ty P) {b off t:Nat} {x y:Operand} {v:Value} {sz by' cap:Nat} {z:Value} {Hj:Hp} {xs:List α} {a:Option Addr} {j:Int} {cs:List Value} (g f:Nat) (tq:List Value)
 (ra:sL ops env i=some o) (aR:o.op= .store t x y) (hx:ev env x=some (.pointer (some ⟨b,off+j.toNat*kd.size+f,none⟩)))
 (hy:ev env y=some v) (hi:T.inf t=some (sz,by',z)) (hj:idx g HL=some Hj) (hs:vF kd E xs a cap j cs Hj) (ha:a=some ⟨b,off,none⟩)
 (hl:Nat.beq (bL v).length sz=true) (hf:Nat.ble (f+sz) kd.size=true) (hp:(bL v).all (·.oneCell')=true) (he:gj cs f (bL v)=tq)
 (h: ∀H',vF kd E xs a cap j tq H'->aH W n K env (HL.set g H')):aH W n (wpOp P ops Q i K) env HL:=by
 obtain⟨hb,cc,H0,R,h0,eH,h2,rfl,h3⟩:=hs;have jm:=hj;rw[idx_eq] at hj;have lA:=(List.getElem?_eq_some_iff.1 hj).1;refine I0 jm ?_;have hg:idx g (HL.set g H0++[R])=some H0:=by
  rw[idx_eq,List.getElem?_append_left (by simpa using lA)];exact List.getElem?_set_self lA
 have hlen:cs.length=kd.size:=by rw[<-h2];exact(rd cc j).len
 have hle:=Nat.le_of_ble_eq_true hf;have TJ:=Nat.eq_of_beq_eq_true hl;have Tn:tq.length=kd.size/\ ∀v∈tq,v.oneCell'=true:=by
  subst he;refine⟨by unfold gj;simp;omega,λu hu=>?_⟩
  unfold gj at hu;rcases List.mem_append.1 hu with hu |hu
  ·exact(rd cc j).plain u (by rw[h2];exact List.mem_of_mem_take hu)
  ·rcases List.mem_append.1 hu with hu |hu
   ·exact List.all_eq_true.1 hp u hu
   ·exact(rd cc j).plain u (by rw[h2];exact List.mem_of_mem_drop hu)
 refine jN (k:=Fl.raw kd.size kd.pos) T g f (⟨tq,Tn.1,Tn.2⟩:Rw kd.size) ra aR hx hy hi hg h0 ha ⟨hb.1,by rw[eH];exact hb.2⟩ hl hf ?_ (λH' Bo=>?_)
 ·show tq=gj (rd cc j).val f (bL v)
  rw[h2];exact he.symm
 ·refine po (λw o=>?_) (h (H'++R) ⟨hb,_,H',R,Bo,by simp[eH],?_,rfl,λx' c' Hy hy=>?_⟩)
  ·refine o.perm ?_;have e:(HL.set g H0++[R]).set g H'=HL.set g H'++[R]:=by
    rw[List.set_append_left _ _ (by simpa using lA)];simp
   rw[e];exact(A8 lA).symm
  ·rw[iP (by simp;omega)];simp
  ·obtain⟨R2,p2,l2⟩:=h3 x' c' Hy hy;exact⟨R2,p2,by simpa using l2⟩
theorem FG (T:Ty P) {d g q:Nat} {s x:Operand} {t t' E':TypeId} {xs ys:List α} {a a2:Option Addr} {cap cap2 sz by':Nat} {z:Value} {Hj Hq:Hp}
 (ra:slot n ops env i=some (o,d)) (aR:o.op= .call ⟨.builtin .append,#[s,x],#[t,t']⟩)
 (hs:ev env s=some (.slice a xs.length cap)) (hx:ev env x=some (.slice a2 ys.length cap2)) (hu:T.bW t=some (.slice E)) (jD:T.bW t'=some (.slice E'))
 (hi:T.inf E=some (sz,by',z)) (hk:kd.size=sz) (hz:(bL z).length=sz) (hj:idx g HL=some Hj) (so:gK kd E xs a cap Hj) (hq:idx q HL=some Hq) (bI:Nat.beq g q=false) (sy:gK kd E ys a2 cap2 Hq)
 (hb:xs.length+ys.length<=1099511627776) (jQ:Nat.ble by' 128=true)
 (h: ∀a' qU H',gK kd E (xs++ys) a' qU H'->aH W n K ((d,.slice a' (xs++ys).length qU)::env) ((HL.set g H').set q [])):aH W n (wpOp P ops Q i K) env HL:=by
 obtain⟨cc,H0,R,h0,hl,rfl⟩:=so;obtain⟨dd,G0,S,g0,gl,rfl⟩:=sy;have qZ:g≠q:=λe=>by subst e;simp at bI
 have l1:=CE _ _ _ hl;have l2:=CE _ _ _ gl;have jm:=hj;have NQ:=hq;rw[idx_eq] at hj hq;have lA:=(List.getElem?_eq_some_iff.1 hj).1;have xL:=(List.getElem?_eq_some_iff.1 hq).1;refine I0 jm ?_;have e1:idx g (HL.set g H0++[R])=some H0:=by
  rw[idx_eq,List.getElem?_append_left (by simpa using lA)];exact List.getElem?_set_self lA
 have sr:aP (Fl.raw kd.size kd.pos) dd a2 (HL.set g H0++[R]).flatten:=g0.r.mono (λc hc=>by
  refine gY (j:=q) (Hj:=G0++S) ?_ (List.mem_append_left _ hc);rw[List.getElem?_append_left (by simpa using xL),List.getElem?_set_ne qZ];exact hq)
 refine eF (k:=Fl.raw kd.size kd.pos) T ra aR (by rw[l1];exact hs) (by rw[l2];exact hx) hu jD hi hk hz e1 h0 sr (by rw[l1,l2];exact hb) jQ (λa' qU H' Bo=>?_)
 have hh:=h a' qU (H'++(R++S)) ⟨cc++dd,H',R++S,Bo,UI _ _ _ _ _ _ hl gl,rfl⟩;have e0:(cc++dd).length=(xs++ys).length:=by simp[l1,l2]
 rw[e0];refine po (λw o=>?_) hh;have e:(HL.set g H0++[R]).set g H'=HL.set g H'++[R]:=by
  rw[List.set_append_left _ _ (by simpa using lA)];simp
 rw[e] at o;have o2:bl W w ((HL.set g (H'++R))).flatten:=o.perm (A8 lA).symm;have J6:(HL.set g (H'++R))[q]? =some (G0++S):=by rw[List.getElem?_set_ne qZ];exact hq
 have o3:bl W w ((HL.set g (H'++R)).set q S).flatten:=by
  refine sE J6 ?_;have:=vd J6 o2;rw[List.append_assoc] at this;exact this.right
 have hg4:((HL.set g (H'++R)).set q S)[g]? =some (H'++R):=by rw[List.getElem?_set_ne (Ne.symm qZ)];exact List.getElem?_set_self lA
 have hq4:((HL.set g (H'++R)).set q S)[q]? =some S:=List.getElem?_set_self (by simpa using xL)
 refine o3.perm ((Ex hg4 hq4 qZ).trans ?_);have e5:(((HL.set g (H'++R)).set q S).set g (H'++R++S)).set q []=(HL.set g (H'++(R++S))).set q []:=by
  rw[List.set_comm _ _ (Ne.symm qZ),List.set_set,List.set_set,List.append_assoc]
 rw[e5]
theorem FH (T:Ty P) {d t sz by' q:Nat} {z:Value} {parts:Array (Nat×Operand)} {v:Value} {c:List Value} {Hx:Hp} (x:α)
 (ra:slot n ops env i=some (o,d)) (aR:o.op= .buildSlice t 1 parts) (hu:T.bW t=some (.slice E)) (hi:T.inf E=some (sz,by',z)) (hk:kd.size=sz) (hz:(bL z).length=sz)
 (hn:Nat.ble (1*sz) 16777216=true) (hp:(parts.toList.mapM λp=>(ev env p.2).map λv=>(p.1,v))=some [(0,v)]) (hv:bL v=c)
 (hq:idx q HL=some Hx) (hx:kd.own x c Hx)
 (h: ∀a H',gK kd E [x] a (List.length [x]) H'->aH W n K ((d,.slice a (List.length [x]) (List.length [x]))::env) (HL.set q []++[H'])):aH W n (wpOp P ops Q i K) env HL:=by
 have eH:=kd.len _ _ _ hx;have hcp:=kd.plain _ _ _ hx;rw[idx_eq] at hq;have xL:=(List.getElem?_eq_some_iff.1 hq).1;refine c_ (k:=Fl.raw kd.size kd.pos) T [(⟨c,eH,hcp⟩:Rw kd.size)] ra aR hu hi hz hn hp ?_ rfl (λa H' so=>?_)
 ·subst hv;have e:(Nat.beq (bL v).length sz&&Nat.ble (0*sz+(bL v).length) ((List.range (1*sz)).map λi=>((bL z)[i%sz]?).getD default).length)=true:=by
   rw[eH,hk];simp
  simp only[vR,e,cond_true];simp only[row,List.map_cons,List.map_nil,List.flatten_cons,List.flatten_nil,List.append_nil,Fl.raw];have e2:gj ((List.range (1*sz)).map λi=>((bL z)[i%sz]?).getD default) (0*sz) (bL v)=bL v:=by
   unfold gj;rw[Nat.zero_mul,List.take_zero,List.nil_append,Nat.zero_add,List.drop_of_length_le (by simp;omega),List.append_nil]
  rw[e2]
 ·refine po (λw o=>?_) (h a (H'++Hx) ⟨_,H',Hx,so,aeX hx,rfl⟩);rw[List.flatten_append] at o⊢;simp only[List.flatten_cons,List.flatten_nil,List.append_nil] at o⊢;refine o.perm ?_;have h1:=xu HL q Hx hq;have h2:=vS HL q Hx [] hq;simp only[List.nil_append] at h2;refine(List.Perm.append_right H' h1).trans ?_;refine List.Perm.trans ?_ (List.Perm.append_right _ h2.symm);rw[List.append_assoc];refine List.perm_append_comm.trans ?_;rw[List.append_assoc]
theorem YT (T:Ty P) {d t:Nat} {x y:Operand} {m:Int} {kk tG:IntKind} {sz by':Nat} {z:Value} (x0:α)
 (hs:slot n ops env i=some (o,d)) (aR:o.op= .makeSlice t x y) (hx:ev env x=some (.int kk m)) (hy:ev env y=some (.int tG m))
 (hu:T.bW t=some (.slice E)) (hi:T.inf E=some (sz,by',z)) (hk:kd.size=sz) (hz:kd.own x0 (bL z) []) (h0:0<=m/\m<=1099511627776) (jQ:Nat.ble by' 128=true)
 (h: ∀a cap H',gK kd E (List.replicate m.toNat x0) a cap H'->aH W n K ((d,.slice a (List.replicate m.toNat x0).length cap)::env) (HL++[H'])):aH W n (wpOp P ops Q i K) env HL:=by
 refine xh (k:=Fl.raw kd.size kd.pos) T (⟨bL z,kd.len _ _ _ hz,kd.plain _ _ _ hz⟩:Rw kd.size) hs aR hx hy hu hi hk rfl h0 jQ (λa cap H' so=>?_);have:=h a cap H' ⟨_,H',[],so,Od hz _,by simp⟩
 simpa using this
end rules
end
end
section
variable {W : World}
variable {P : Program}
section
variable {κ α : Type} [DecidableEq κ] {t : TypeId}
def tL (m:List (κ×α)) (x:κ) (v:α):List (κ×α):=if cj m x then cO m x v else m
theorem UT [Inhabited α]: ∀(m:List (κ×α)) (x:κ),tL m x (aT m x)=m
 |[],x=>rfl
 |e::r,x=>by
  have ih:=UT r x;unfold tL cj aT at ih⊢;simp only[dR,cO]
  by_cases hk:e.1=x
  ·subst hk;simp
  ·simp only[hk,if_false];split at ih
   ·rename_i h;simp only[h,if_true,ih]
   ·rename_i h;simp only[h];rfl
variable (S : List α -> Option Addr -> Nat -> Hp -> Prop)
def vz (gone:List κ):List (κ×List α)->List (κ×Hd)->Hp->Prop
 |[],hs,R=>hs=[]/\R=[]
 |e::r,hs,R=> ∃a n c Hx fT R',((e.1∈gone/\Hx=[])∨(e.1∉gone/\S e.2 a c Hx/\n=e.2.length))/\hs=(e.1,(a,n,c))::fT/\R=Hx++R'/\vz gone r fT R'
variable {S}
theorem UJ {gone:List κ} (x:κ): ∀(xs:List (κ×List α)) (hs:List (κ×Hd)) (R:Hp),vz S gone xs hs R-> ∃R2 R3,R.Perm (R2++R3)/\vz S (x::gone) xs hs R2
 |[],_,_,h=>by obtain⟨rfl,rfl⟩:=h;exact⟨[],[],List.Perm.refl _,rfl,rfl⟩
 |e::r,_,_,h=>by
  obtain⟨a,n,c,Hx,fT,R',h1,rfl,rfl,h4⟩:=h;obtain⟨R2,R3,p,l⟩:=UJ x r fT R' h4;rcases h1 with⟨hg,rfl⟩ |⟨hg,GD,rfl⟩
  ·exact⟨R2,R3,p,a,n,c,[],fT,R2,.inl ⟨List.mem_cons_of_mem _ hg,rfl⟩,rfl,rfl,l⟩
  ·by_cases hk:e.1=x
   ·refine⟨R2,Hx++R3,?_,a,_,c,[],fT,R2,.inl ⟨by rw[hk];exact List.mem_cons_self ..,rfl⟩,rfl,rfl,l⟩
    refine(List.Perm.append_left Hx p).trans ?_;rw[<-List.append_assoc,<-List.append_assoc];exact List.Perm.append_right _ List.perm_append_comm
   ·refine⟨Hx++R2,R3,by rw[List.append_assoc];exact List.Perm.append_left Hx p,a,_,c,Hx,fT,R2,.inr ⟨?_,GD,rfl⟩,rfl,rfl,l⟩
    intro hm;rcases List.mem_cons.1 hm with h |h
    ·exact hk h
    ·exact hg h
theorem UK (h0:S [] none 0 []) {gone:List κ}: ∀(xs:List (κ×List α)) (hs:List (κ×Hd)) (R:Hp) (x:κ),x∉gone->vz S gone xs hs R->
 ∃a c Hx R',S (aT xs x) a c Hx/\aT hs x=(a,(aT xs x).length,c)/\R.Perm (R'++Hx)/\
  (∀ys a2 c2 Hy,S ys a2 c2 Hy-> ∃R2,R2.Perm (R'++Hy)/\vz S gone (cO xs x ys) (cO hs x (a2,ys.length,c2)) R2)/\
  (∀ys Hy,ys.length=(aT xs x).length->S ys a c Hy-> ∃R2 R3,(R'++Hy).Perm (R2++R3)/\vz S gone (tL xs x ys) hs R2)/\
  (∃R2 R3,R'.Perm (R2++R3)/\vz S (x::gone) xs hs R2)
 |[],_,_,x,hx,h=>by
  obtain⟨rfl,rfl⟩:=h;refine⟨none,0,[],[],h0,rfl,by simp,λys a2 c2 Hy hy=>⟨Hy,by simp,a2,_,c2,Hy,[],[],.inr ⟨hx,hy,rfl⟩,rfl,by simp,rfl,rfl⟩,λys Hy hl hy=>⟨[],Hy,by simp,?_⟩,[],[],by simp,rfl,rfl⟩
  exact⟨rfl,rfl⟩
 |e::r,hs,R,x,hx,h=>by
  obtain⟨a,n,c,Hx,fT,R',h1,rfl,rfl,h4⟩:=h
  by_cases hk:e.1=x
  ·have hng:e.1∉gone:=by rw[hk];exact hx
   rcases h1 with⟨hg,_⟩ |⟨_,GD,rfl⟩
   ·exact absurd hg hng
   have e1:aT (e::r) x=e.2:=by simp[aT,dR,hk]
   have e2:aT ((e.1,(a,e.2.length,c))::fT) x=(a,e.2.length,c):=by simp[aT,dR,hk]
   refine⟨a,c,Hx,R',by rw[e1];exact GD,by rw[e1,e2],List.perm_append_comm,λys a2 c2 Hy hy=>⟨Hy++R',List.perm_append_comm,?_⟩,λys Hy hl hy=>⟨Hy++R',[],by simpa using List.perm_append_comm,?_⟩,?_⟩
   ·simp only[cO,hk,if_true];exact⟨a2,_,c2,Hy,fT,R',.inr ⟨hx,hy,rfl⟩,rfl,rfl,h4⟩
   ·have:tL (e::r) x ys=(x,ys)::r:=by simp[tL,cj,dR,cO,hk]
    rw[this];rw[e1] at hl;exact⟨a,_,c,Hy,fT,R',.inr ⟨hx,hy,rfl⟩,by rw[hl,hk],rfl,h4⟩
   ·obtain⟨R2,R3,p,l⟩:=UJ x r fT R' h4;exact⟨R2,R3,p,a,_,c,[],fT,R2,.inl ⟨by rw[hk];exact List.mem_cons_self ..,rfl⟩,rfl,rfl,l⟩
  ·obtain⟨a1,c1,H1,R1,q1,q2,q3,q4,q5,q6⟩:=UK h0 r fT R' x hx h4;have e1:aT (e::r) x=aT r x:=by simp[aT,dR,hk]
   have e2:aT ((e.1,(a,n,c))::fT) x=aT fT x:=by simp[aT,dR,hk]
   refine⟨a1,c1,H1,Hx++R1,by rw[e1];exact q1,by rw[e1,e2];exact q2,by rw[List.append_assoc];exact List.Perm.append_left Hx q3,λys a2 c2 Hy hy=>?_,λys Hy hl hy=>?_,?_⟩
   ·obtain⟨R2,p2,l2⟩:=q4 ys a2 c2 Hy hy;refine⟨Hx++R2,by rw[List.append_assoc];exact List.Perm.append_left Hx p2,?_⟩
    simp only[cO,hk,if_false];exact⟨a,n,c,Hx,_,R2,h1,rfl,rfl,l2⟩
   ·rw[e1] at hl;obtain⟨R2,R3,p2,l2⟩:=q5 ys Hy hl hy;refine⟨Hx++R2,R3,by rw[List.append_assoc,List.append_assoc];exact List.Perm.append_left Hx p2,?_⟩
    have:tL (e::r) x ys=e::tL r x ys:=by
     unfold tL cj;simp only[dR,cO,hk,if_false];split<;>rfl
    rw[this];exact⟨a,n,c,Hx,_,R2,h1,rfl,rfl,l2⟩
   ·obtain⟨R2,R3,p2,l2⟩:=q6;rcases h1 with⟨hg,rfl⟩ |⟨hg,GD,rfl⟩
    ·exact⟨R2,R3,p2,a,n,c,[],fT,R2,.inl ⟨List.mem_cons_of_mem _ hg,rfl⟩,rfl,rfl,l2⟩
    ·refine⟨Hx++R2,R3,by rw[List.append_assoc];exact List.Perm.append_left Hx p2,a,_,c,Hx,fT,R2,.inr ⟨?_,GD,rfl⟩,rfl,rfl,l2⟩
     intro hm;rcases List.mem_cons.1 hm with h |h
     ·exact hk h
     ·exact hg h
variable (S) (KK : Ky P t κ)
def xc (gone:List κ) (xs:List (κ×List α)) (r:Nat) (H:Hp):Prop:=
 ∃hs H0 R,cU KK uX hs r H0/\vz S gone xs hs R/\H=H0++R
def DG (gone:List κ) (xs:List (κ×List α)) (x:κ) (r:Nat) (a:Option Addr) (m c:Nat) (H:Hp):Prop:=
 ∃hs H0 R,cU KK uX hs r H0/\aT hs x=(a,m,c)/\H=H0++R/\
  (∀ys a2 c2 Hy,S ys a2 c2 Hy-> ∃R2,R2.Perm (R++Hy)/\vz S gone (cO xs x ys) (cO hs x (a2,ys.length,c2)) R2)/\
  (∀ys Hy,ys.length=m->S ys a c Hy-> ∃R2 R3,(R++Hy).Perm (R2++R3)/\vz S gone (tL xs x ys) hs R2)/\
  (∃R2 R3,R.Perm (R2++R3)/\vz S (x::gone) xs hs R2)
variable {S KK}
variable {n' : Nat} {F : Act -> World -> Prop} {env : Env} {HL : List Hp} {xs : List (κ × List α)} {r : Nat} {gone : List κ}
theorem afe {H:Hp} (h:cU KK uX ([]:List (κ×Hd)) r H):xc S KK [] ([]:List (κ×List α)) r H:=⟨[],H,[],h,⟨rfl,rfl⟩,by simp⟩
theorem FI (h0:S [] none 0 []) {H:Hp} {j:Nat} (x:κ) (hx:x∉gone) (hj:idx j HL=some H) (so:xc S KK gone xs r H)
 (h: ∀a c Hx H',S (aT xs x) a c Hx->DG S KK gone xs x r a (aT xs x).length c H'->aH W n' F env (HL.set j H'++[Hx])):aH W n' F env HL:=by
 obtain⟨hs,H0,R,h1,hl,rfl⟩:=so;obtain⟨a,c,Hx,R',q1,q2,q3,q4,q5,q6⟩:=UK h0 xs hs R x hx hl;refine po (λw o=>?_) (h a c Hx (H0++R') q1 ⟨hs,H0,R',h1,q2,rfl,q4,q5,q6⟩);rw[idx_eq] at hj;have lB:=(List.getElem?_eq_some_iff.1 hj).1;refine o.perm ?_;have e:HL.set j (H0++R)=HL:=KZ hj;have h2:HL.flatten.Perm (HL.set j ((H0++R')++Hx)).flatten:=by
  conv=>lhs;rw[<-e]
  refine Cd ?_;rw[List.append_assoc];exact List.Perm.append_left H0 q3
 exact h2.trans (A8 lB)
theorem GK {H:Hp} {j m c:Nat} {x:κ} {a:Option Addr} (hj:idx j HL=some H) (so:DG S KK gone xs x r a m c H): ∃hs,yR KK uX hs r HL.flatten/\aT hs x=((a,m,c):Hd):=by
 obtain⟨hs,H0,R,h0,h1,rfl,_⟩:=so;exact⟨hs,h0.r.mono (λy hy=>gY (by rw[<-idx_eq];exact hj) (List.mem_append_left _ hy)),h1⟩
theorem Qr {H Hx:Hp} {j q m c:Nat} {x:κ} {a:Option Addr} (ys:List α) (hj:idx j HL=some H) (so:DG S KK gone xs x r a m c H) (hq:idx q HL=some Hx) (bI:Nat.beq j q=false) (hy:S ys a c Hx) (hl:ys.length=m)
 (h: ∀H',xc S KK gone (tL xs x ys) r H'->aH W n' F env ((HL.set j H').set q [])):aH W n' F env HL:=by
 obtain⟨hs,H0,R,h1,h2,rfl,h4,h5,h6⟩:=so;have qZ:j≠q:=λe=>by subst e;simp at bI
 obtain⟨R2,R3,p2,l2⟩:=h5 ys Hx hl hy;refine po (λw o=>?_) (h (H0++R2) ⟨hs,H0,R2,h1,l2,rfl⟩);rw[idx_eq] at hj hq;have lB:=(List.getElem?_eq_some_iff.1 hj).1;have xL:=(List.getElem?_eq_some_iff.1 hq).1;have o2:=o.perm (Ex hj hq qZ);have e: ∀(A:Hp),((HL.set j A).set q [])=((HL.set q []).set j A):=λA=>List.set_comm _ _ qZ
 rw[e] at o2⊢;have p3:((HL.set q []).set j (H0++R++Hx)).flatten.Perm ((HL.set q []).set j ((H0++R2)++R3)).flatten:=Cd (by
  rw[List.append_assoc,List.append_assoc];exact List.Perm.append_left H0 p2)
 have p4:=A8 (HL:=HL.set q []) (j:=j) (A:=H0++R2) (B:=R3) (by simpa using lB)
 have o3:=o2.perm (p3.trans p4);rw[List.flatten_append] at o3;exact o3.left
theorem YZ [Inhabited α] {H Hx:Hp} {j q m c:Nat} {x:κ} {a:Option Addr} (hj:idx j HL=some H) (so:DG S KK gone xs x r a m c H) (hq:idx q HL=some Hx) (bI:Nat.beq j q=false) (hy:S (aT xs x) a c Hx) (hl:(aT xs x).length=m)
 (h: ∀H',xc S KK gone xs r H'->aH W n' F env ((HL.set j H').set q [])):aH W n' F env HL:=
 Qr (aT xs x) hj so hq bI hy hl (λH' Bo=>h H' (by rw[UT] at Bo;exact Bo))
theorem Y0 {H:Hp} {j m c:Nat} {x:κ} {a:Option Addr} (hj:idx j HL=some H) (so:DG S KK gone xs x r a m c H)
 (h: ∀H',xc S KK (x::gone) xs r H'->aH W n' F env (HL.set j H')):aH W n' F env HL:=by
 obtain⟨hs,H0,R,h1,h2,rfl,h4,h5,R2,R3,p2,l2⟩:=so;refine po (λw o=>?_) (h (H0++R2) ⟨hs,H0,R2,h1,l2,rfl⟩);rw[idx_eq] at hj;have lB:=(List.getElem?_eq_some_iff.1 hj).1;have e:HL.set j (H0++R)=HL:=KZ hj;have p3:HL.flatten.Perm (HL.set j ((H0++R2)++R3)).flatten:=by
  conv=>lhs;rw[<-e]
  exact Cd (by rw[List.append_assoc];exact List.Perm.append_left H0 p2)
 have o3:=o.perm (p3.trans (A8 lB));rw[List.flatten_append] at o3;exact o3.left
end
section rules
variable {κ α : Type} [DecidableEq κ] {t : TypeId} {S : List α -> Option Addr -> Nat -> Hp -> Prop}
variable {T : Ty P} {n : Nat} {Q : Exit -> Act -> World -> Prop} {env : Env} {H : Hp} {HL : List Hp} {ops : Array Oper} {i : Nat} {K : Act -> World -> Prop} {o : Oper}
theorem Qq (T:Ty P) {mt et:TypeId} (KK:Ky P t κ) {gone:List κ} {x ix y:Operand} {xs:List (κ×List α)} {r q m0 c0:Nat} {kx:κ} {a0:Option Addr} {ys:List α} {a:Option Addr} {c:Nat} {Hj Hq:Hp} (j:Nat)
 (hs:sL ops env i=some o) (aR:o.op= .mapUpdate mt x ix y) (hx:ev env x=some (.map (some r))) (hk:ev env ix=some (KK.enc kx)) (hy:ev env y=some (.slice a ys.length c))
 (hu:T.bW mt=some (.map t et)) (hj:idx j HL=some Hj) (so:DG S KK gone xs kx r a0 m0 c0 Hj) (bI:Nat.beq j q=false) (hq:idx q HL=some Hq) (sq:S ys a c Hq)
 (h: ∀H',xc S KK gone (cO xs kx ys) r H'->aH W n K env ((HL.set j H').set q [])):aH W n (wpOp P ops Q i K) env HL:=by
 obtain⟨fT,H0,R,h0,_,rfl,h4,_,_⟩:=so;have qZ:j≠q:=λe=>by subst e;simp at bI
 obtain⟨R2,p2,l2⟩:=h4 ys a c Hq sq;have jm:=hj;rw[idx_eq] at hj hq;have lB:=(List.getElem?_eq_some_iff.1 hj).1;have xL:=(List.getElem?_eq_some_iff.1 hq).1;refine I0 jm ?_;have hg:idx j (HL.set j H0++[R])=some H0:=by
  rw[idx_eq,List.getElem?_append_left (by simpa using lB)];exact List.getElem?_set_self lB
 refine p_ T KK uX (v:=((a,ys.length,c):Hd)) (k:=kx) (g:=j) hs aR hx hk hy hu hg h0 (λH' Bo=>?_);refine po (λw o=>?_) (h (H'++R2) ⟨_,H',R2,Bo,l2,rfl⟩);have e1:(HL.set j H0++[R]).set j H'=HL.set j H'++[R]:=by
  rw[List.set_append_left _ _ (by simpa using lB)];simp
 rw[e1] at o;have o2:=o.perm (A8 lB).symm;have J6:(HL.set j (H'++R))[q]? =some Hq:=by rw[List.getElem?_set_ne qZ];exact hq
 have Gs:(HL.set j (H'++R))[j]? =some (H'++R):=List.getElem?_set_self lB;have o3:=o2.perm (Ex Gs J6 qZ);rw[List.set_set] at o3;have e: ∀(A:Hp),((HL.set j A).set q [])=((HL.set q []).set j A):=λA=>List.set_comm _ _ qZ
 rw[e] at o3⊢;exact o3.perm (Cd (by rw[List.append_assoc];exact List.Perm.append_left H' p2.symm))
end rules
end
section
variable {W : World}
variable {P : Program}
inductive Er where
 |nil:Er
 |dM:Nat->Er
 |num:Nat->Int->Er
 |wrap:Nat->List Int->Er->Er
instance :Inhabited Er:=⟨.nil⟩
def Er.isNil:Er->Bool
 | .nil=>true
 |_=>false
def fK (tE:TypeId) (gs:List Nat) (lits:List (Nat×Value)) (el:Nat->Addr) (F:Hp):Prop:=
 (∀g∈gs,∃T fr,(g,Obj.cells #[.iface tE (.pointer (some (el g)))] T fr)∈F)/\(∀g∈gs,∃c T,((el g).block,Obj.cells c T (0,0))∈F)/\(∀a∈gs,∀b∈gs,el a=el b->a=b)/\
   (∀p∈lits,∃T fr,(p.1,Obj.cells #[p.2] T fr)∈F)
theorem fK.mono {tE:TypeId} {gs:List Nat} {lits:List (Nat×Value)} {el:Nat->Addr} {F F':Hp} (h:fK tE gs lits el F) (hs: ∀c∈F,c∈F'):fK tE gs lits el F':=by
 obtain⟨h1,h2,h3,h4⟩:=h;exact⟨λg hg=>let⟨T,fr,hm⟩:=h1 g hg;⟨T,fr,hs _ hm⟩,λg hg=>let⟨c,T,hm⟩:=h2 g hg;⟨c,T,hs _ hm⟩,h3,λp hp=>let⟨T,fr,hm⟩:=h4 p hp;⟨T,fr,hs _ hm⟩⟩
theorem dE {tE:TypeId} {gs:List Nat} {lits:List (Nat×Value)} {el:Nat->Addr} {F:Hp} {HL:List Hp} {j:Nat} (h:fK tE gs lits el F) (hj:idx j HL=some F):fK tE gs lits el HL.flatten:=
 h.mono λ_ hc=>gY (by rw[<-idx_eq];exact hj) hc
section
variable (tE : TypeId) (el : Nat -> Addr)
def lX:Er->Value->Hp->Prop
 | .nil,v,_=>v= .nilIface
 | .dM g,v,_=>v= .iface tE (.pointer (some (el g)))
 | .num t n,v,_=>v= .iface t (.int .i64 n)
 | .wrap t ns e,v,H=> ∃b vo T,v= .iface t (.pointer (some ⟨b,0,none⟩))/\(b,Obj.cells ((ns.map λn=>Value.int .i64 n)++[vo]).toArray T (0,0))∈H/\lX e vo H
def gm:Er->Value->Hp->Prop
 | .nil,v,H=>v= .nilIface/\H=[]
 | .dM g,v,H=>v= .iface tE (.pointer (some (el g)))/\H=[]
 | .num t n,v,H=>v= .iface t (.int .i64 n)/\H=[]
 | .wrap t ns e,v,H=> ∃b vo T Ho,v= .iface t (.pointer (some ⟨b,0,none⟩))/\H=(b,Obj.cells ((ns.map λn=>Value.int .i64 n)++[vo]).toArray T (0,0))::Ho/\gm e vo Ho
variable {tE el}
theorem lX.mono: ∀{e:Er} {v:Value} {H H':Hp},lX tE el e v H->(∀c∈H,c∈H')->lX tE el e v H'
 | .nil,_,_,_,h,_=>h
 | .dM _,_,_,_,h,_=>h
 | .num _ _,_,_,_,h,_=>h
 | .wrap _ _ _,_,_,_,h,hs=>by
  obtain⟨b,vo,T,h1,h2,h3⟩:=h;exact⟨b,vo,T,h1,hs _ h2,lX.mono h3 hs⟩
theorem gm.r: ∀{e:Er} {v:Value} {H:Hp},gm tE el e v H->lX tE el e v H
 | .nil,_,_,h=>h.1
 | .dM _,_,_,h=>h.1
 | .num _ _,_,_,h=>h.1
 | .wrap _ _ _,_,_,h=>by
  obtain⟨b,vo,T,Ho,h1,rfl,h3⟩:=h;exact⟨b,vo,T,h1,List.mem_cons_self ..,lX.mono (gm.r h3) (λc hc=>List.mem_cons_of_mem _ hc)⟩
theorem uL:gm tE el .nil .nilIface []:=⟨rfl,rfl⟩
theorem oI {g:Nat}:gm tE el (.dM g) (.iface tE (.pointer (some (el g)))) []:=⟨rfl,rfl⟩
theorem rY {t:Nat} {n:Int}:gm tE el (.num t n) (.iface t (.int .i64 n)) []:=⟨rfl,rfl⟩
theorem qg {t b:Nat} {ns:List Int} {e:Er} {vo:Value} {T:TypeId} {Ho:Hp} (h:gm tE el e vo Ho):
 gm tE el (.wrap t ns e) (.iface t (.pointer (some ⟨b,0,none⟩))) (List.flatten [[(b,Obj.cells ((ns.map λn=>Value.int .i64 n)++[vo]).toArray T (0,0))],Ho]):=⟨b,vo,T,Ho,rfl,by simp,h⟩
theorem Jd {g:Nat} {H:Hp}:lX tE el (.dM g) (.iface tE (.pointer (some (el g)))) H:=rfl
theorem rZ {e:Er} {v:Value} {H:Hp} {HL:List Hp} {j:Nat} (h:gm tE el e v H) (hj:idx j HL=some H):lX tE el e v HL.flatten:=
 h.r.mono λ_ hc=>gY (by rw[<-idx_eq];exact hj) hc
theorem F1 {e:Er} {v:Value} {H:Hp} {HL:List Hp} {j:Nat} (h:lX tE el e v H) (hj:idx j HL=some H):lX tE el e v HL.flatten:=
 h.mono λ_ hc=>gY (by rw[<-idx_eq];exact hj) hc
theorem Je {e:Er} {v:Value} {H:Hp} (h:lX tE el e v H):(e.isNil=true/\v= .nilIface)∨(e.isNil=false/\ ∃t u,v= .iface t u):=by
 cases e with
 |nil=>exact .inl ⟨rfl,h⟩
 |dM g=>exact .inr ⟨rfl,_,_,h⟩
 |num t n=>exact .inr ⟨rfl,_,_,h⟩
 |wrap t ns e=>
  obtain⟨b,vo,T,h1,_⟩:=h;exact .inr ⟨rfl,_,_,h1⟩
section
variable {n : Nat} {env : Env} {H : Hp} {o : Oper}
theorem Wq {T:Ty P} {ti:TypeId} {ms:Array (String×TypeId)} (hu:T.bW ti=some (.interface ms)) {e:Er} {v:Value} (h:lX tE el e v H) (w:World):
 (Op.equal ti v .nilIface).run P w= .ok e.isNil w:=by
 show(Op.equalIn (9999+1) ti _ _).run P w=_
 generalize 9999=d;rcases Je h with⟨h1,rfl⟩ |⟨h1,t,u,rfl⟩
 ·simp only[Op.equalIn,Sem.run_bind,cV hu,Result.andThen_ok,Sem.run_pure,h1]
 ·simp only[Op.equalIn,Sem.run_bind,cV hu,Result.andThen_ok,Sem.run_pure,h1]
theorem RX {t:TypeId} {op:BinOp} {x:Operand} {v:Value} (w:World):(eqGuard op t x (.const .nilIface) v .nilIface).run P w= .ok () w:=by
 unfold eqGuard;rw[Sem.run_ite];refine Kh (λ_=>rfl) (λ_=>?_)
 cases v<;>simp
theorem QK {t:TypeId} {v:Value} (hv:v= .nilIface∨ ∃a b,v= .iface a b):binOp .eql t v .nilIface=(do pure (.bool (<-Op.equal t v .nilIface)))/\binOp .neq t v .nilIface=(do pure (.bool !(<-Op.equal t v .nilIface))):=by
 rcases hv with rfl |⟨a,b,rfl⟩<;>exact⟨rfl,rfl⟩
theorem Jn (T:Ty P) {t yt:TypeId} {x:Operand} {ms:Array (String×TypeId)} {e:Er} {v:Value} (aR:o.op= .binOp .eql t x (.const .nilIface) yt) (hx:ev env x=some v)
 (hu:T.bW t=some (.interface ms)) (h:lX tE el e v H):gS W P n env H o (.bool e.isNil):=by
 intro t' w s ow;unfold execOp;have hv:v= .nilIface∨ ∃a b,v= .iface a b:=by
  rcases Je h with⟨_,h1⟩ |⟨_,a,b,h1⟩
  ·exact .inl h1
  ·exact .inr ⟨a,b,h1⟩
 simp only[aR,bE s hx,bE (x:= .const .nilIface) s rfl];rw[(QK hv).1];simp only[Sem.run_bind,RX,Result.andThen_ok,Wq hu h,Sem.run_pure]
theorem DY (T:Ty P) {t yt:TypeId} {x:Operand} {ms:Array (String×TypeId)} {e:Er} {v:Value} (aR:o.op= .binOp .neq t x (.const .nilIface) yt) (hx:ev env x=some v)
 (hu:T.bW t=some (.interface ms)) (h:lX tE el e v H):gS W P n env H o (.bool (!e.isNil)):=by
 intro t' w s ow;unfold execOp;have hv:v= .nilIface∨ ∃a b,v= .iface a b:=by
  rcases Je h with⟨_,h1⟩ |⟨_,a,b,h1⟩
  ·exact .inl h1
  ·exact .inr ⟨a,b,h1⟩
 simp only[aR,bE s hx,bE (x:= .const .nilIface) s rfl];rw[(QK hv).2];simp only[Sem.run_bind,RX,Result.andThen_ok,Wq hu h,Sem.run_pure]
def afH:TypeDesc->Bool
 | .interface _=>false
 |_=>true
theorem iq (T:Ty P) {t:TypeId} {x:Operand} {v:Value} {d:TypeDesc} (aR:o.op= .makeInterface t x) (hx:ev env x=some v) (hu:T.bW t=some d) (hd:afH d=true):gS W P n env H o (.iface t v):=by
 intro t' w s ow;unfold execOp;have:(Instr.makeInterface t v).run P w= .ok (.iface t v) w:=by
  unfold Instr.makeInterface;simp only[Sem.run_bind,cV hu,Result.andThen_ok]
  cases d<;>first |rfl |cases hd
 simp only[aR,bE s hx,Sem.run_bind,this,Result.andThen_ok]
 rfl
end
theorem su {F:Hp} {HL:List Hp} {gs:List Nat} {lits:List (Nat×Value)} {j:Nat} (hj:idx j HL=some F) (hG:fK tE gs lits el F) {g:Nat} (hg:g∈gs):
 ∃arr E fr,(g,Obj.cells arr E fr)∈HL.flatten/\arr[0]? =some (Value.iface tE (.pointer (some (el g)))):=by
 obtain⟨T,fr,hm⟩:=hG.1 g hg;exact⟨_,T,fr,gY (by rw[<-idx_eq];exact hj) hm,rfl⟩
end
def Er.DM (t:Nat):Er->Option (Option Int)
 | .nil=>some none
 | .num u n=>if u=t then some (some n) else none
 | .wrap _ _ (.num u n)=>if u=t then some (some n) else none
 |_=>none
def Er.FD (t:Nat):Er->Option (Option (Int×Int×Er))
 | .nil=>some none
 | .wrap u [a,b] e=>if u=t then some (some (a,b,e)) else none
 |_=>none
theorem Yv {tE:TypeId} {el:Nat->Addr} {t:Nat} {e:Er} {v:Value} {H:Hp} (h:e.FD t=some none) (so:gm tE el e v H):v= .nilIface/\H=[]:=by
 unfold Er.FD at h;split at h
 ·exact so
 ·split at h<;>cases h
 ·cases h
theorem Yw {tE:TypeId} {el:Nat->Addr} {t:Nat} {e of:Er} {v:Value} {H:Hp} {a b:Int} (h:e.FD t=some (some (a,b,of))) (so:gm tE el e v H):
 ∃q vo T Ho,v= .iface t (.pointer (some ⟨q,0,none⟩))/\H=[(q,Obj.cells #[.int .i64 a,.int .i64 b,vo] T (0,0))]++Ho/\gm tE el of vo Ho:=by
 unfold Er.FD at h;split at h
 ·cases h
 ·split at h
  ·rename_i u x y e' hu;subst hu;simp only[Option.some.injEq,Prod.mk.injEq] at h;obtain⟨rfl,rfl,rfl⟩:=h;obtain⟨q,vo,T,Ho,h1,h2,h3⟩:=so;exact⟨q,vo,T,Ho,h1,by rw[h2];rfl,h3⟩
  ·cases h
 ·cases h
section
variable {α : Type} (k : Fl α)
def dD (xs:List α) (a:Option Addr) (n:Nat) (l:List α) (a':Option Addr) (n':Nat):Prop:=
 l=[]∨ ∃lo hi:Int,(0<=lo/\lo<=hi/\hi<=(xs.length:Int))/\l=aB xs lo hi/\a'=gk a n lo.toNat k.size/\n'=n-lo.toNat
variable {k}
theorem dD.nil {xs:List α} {a a':Option Addr} {n n':Nat}:dD k xs a n [] a' n':= .inl rfl
theorem Qa (a:Addr):a.add 0=a:=by unfold Addr.add;simp
theorem dD.self {xs:List α} {a:Option Addr} {n:Nat}:dD k xs a n xs a n:=by
 refine .inr ⟨0,xs.length,by omega,by simp[aB],?_,by simp⟩
 unfold gk
 cases a<;>simp[Qa]
theorem dD.r {xs l:List α} {a a':Option Addr} {n n':Nat} {H:Hp} (h:dD k xs a n l a' n') (sr:aP k xs a H) (hc:xs.length<=n):aP k l a' H:=by
 rcases h with rfl |⟨lo,hi,h1,rfl,rfl,_⟩
 ·exact .inl rfl
 ·exact nq sr h1 hc
theorem dD.cap {xs l:List α} {a a':Option Addr} {n n':Nat} (h:dD k xs a n l a' n') (hc:xs.length<=n):l=[]∨l.length<=n':=by
 rcases h with rfl |⟨lo,hi,h1,rfl,_,rfl⟩
 ·exact .inl rfl
 ·exact .inr (mS h1 hc)
theorem sub_sub {xs:List α} {lo hi zC qY:Int} (h1:0<=lo/\lo<=hi/\hi<=(xs.length:Int)) (h2:0<=zC/\zC<=qY/\qY<=((aB xs lo hi).length:Int)):
 aB (aB xs lo hi) zC qY=aB xs (lo+zC) (lo+qY):=by
 have hl:=iQ h1;unfold aB at hl⊢;rw[List.drop_take,List.take_take,List.drop_drop];have e1:lo.toNat+zC.toNat=(lo+zC).toNat:=U;have e2:min (qY.toNat-zC.toNat) (hi.toNat-lo.toNat-zC.toNat)=(lo+qY).toNat-(lo+zC).toNat:=by
  rw[iQ h1] at h2;omega
 rw[e1,e2]
theorem dD.sub {xs l:List α} {a a':Option Addr} {n n':Nat} {lo hi:Int} (h:dD k xs a n l a' n') (hc:xs.length<=n) (h2:0<=lo/\lo<=hi/\hi<=(l.length:Int)):
 dD k xs a n (aB l lo hi) (gk a' n' lo.toNat k.size) (n'-lo.toNat):=by
 rcases h with rfl |⟨zB,wc,h1,rfl,rfl,rfl⟩
 ·exact .inl (by simp[aB])
 ·by_cases he:lo=hi
  ·left;subst he;simp[aB]
  ·right
   have hl:=iQ h1;refine⟨zB+lo,zB+hi,by omega,sub_sub h1 h2,?_,by omega⟩
   unfold gk;have n1: ¬n=zB.toNat:=U;have n2: ¬n-zB.toNat=lo.toNat:=U;have n3: ¬n=(zB+lo).toNat:=U;rw[if_neg n1,if_neg n2,if_neg n3]
   cases a with
   |none=>rfl
   |some x=>
    simp only[Option.map_some,Option.some.injEq];have:(zB+lo).toNat=zB.toNat+lo.toNat:=U;rw[this,Nat.add_mul];unfold Addr.add
    by_cases z1:zB.toNat*k.size=0
    ·simp[z1]
    ·by_cases z2:lo.toNat*k.size=0
     ·simp[z1,z2]
     ·have: ¬(zB.toNat*k.size+lo.toNat*k.size=0):=U;simp only[z1,z2,this,if_false]
      congr 1
      omega
theorem oH {HL:List Hp} {xs l:List α} {a a':Option Addr} {n n':Nat} (h:dD k xs a n l a' n') (sr:aP k xs a HL.flatten) (hc:xs.length<=n):aP k l a' HL.flatten:=h.r sr hc
variable (k)
def Ir (E:TypeId) (xs:List α) (a:Option Addr) (n:Nat) (l:List α) (a':Option Addr) (n':Nat) (H:Hp):Prop:=
 (dD k xs a n l a' n'/\l.length<=n'/\H=[])∨ak k E l a' n' H
variable {k}
theorem ZK {E:TypeId} {HL:List Hp} {xs l:List α} {a a':Option Addr} {n n' j:Nat} {H:Hp} (h:Ir k E xs a n l a' n' H) (hj:idx j HL=some H) (sr:aP k xs a HL.flatten) (hc:xs.length<=n):aP k l a' HL.flatten:=by
 rcases h with⟨h,_,_⟩ |h
 ·exact h.r sr hc
 ·exact Vp h hj
theorem Ir.b_ {E:TypeId} {xs l:List α} {a a':Option Addr} {n n':Nat} {H:Hp} (h:Ir k E xs a n l a' n' H):l.length<=n':=by
 rcases h with⟨_,h,_⟩ |h
 ·exact h
 ·exact h.b_
end
section
open Classical
noncomputable def FC {α β:Type} (p:α->Prop) (f:α->Option β):Option β:=if h: ∃r,∀x,p x->f x=some r then some (Classical.choose h) else none
theorem Yj {α β:Type} {p:α->Prop} {f:α->Option β} {r:β} {x:α} (h:FC p f=some r) (hx:p x):f x=some r:=by
 unfold FC at h;split at h
 ·rename_i hh;have:=Classical.choose_spec hh x hx;rw[Option.some.inj h] at this;exact this
 ·cases h
theorem Yk {α β:Type} {p:α->Prop} {f:α->Option β} {r:β} {x:α} (hx:p x) (h: ∀x,p x->f x=some r):FC p f=some r:=by
 unfold FC;have hh: ∃r,∀x,p x->f x=some r:=⟨r,h⟩;rw[dif_pos hh];have:=Classical.choose_spec hh x hx;rw[h x hx] at this;exact this.symm
end
def KD (n:Int) (xs:List Int):Prop:=xs.length=n.toNat/\ ∀x∈xs,dQ x
theorem afO (n:Int):KD n (List.replicate n.toNat 0):=⟨by simp,λx hx=>by rw[List.mem_replicate] at hx;rw[hx.2];exact⟨by omega,by omega⟩⟩
def yf:Nat->Nat->List Int
 |0,_=>[]
 |n+1,t=>Int.ofNat (t%256)::yf n (t/256)
theorem U_: ∀n t,(yf n t).length=n
 |0,_=>rfl
 |n+1,t=>by simp[yf,U_ n]
theorem U9: ∀n t,∀x∈yf n t,dQ x
 |0,_,x,h=>by simp[yf] at h
 |n+1,t,x,h=>by
  simp only[yf,List.mem_cons] at h;rcases h with rfl |h
  ·have:=Nat.mod_lt t (show 256>0 by omega)
   refine⟨Int.natCast_nonneg _,?_⟩
   show((t%256:Nat):Int)<=255
   omega
  ·exact U9 n _ x h
theorem Ri: ∀(n t:Nat) (acc:Array Value),(Extern.BytealgMakeNoZero.digits n t acc).toList=acc.toList++(yf n t).map λx=>Value.int .u8 x
 |0,_,acc=>by simp[Extern.BytealgMakeNoZero.digits,yf]
 |n+1,t,acc=>by
  rw[Extern.BytealgMakeNoZero.digits,Ri n];simp[yf]
structure P0 (P:Program) (f:FuncId) (t:TypeId):Prop where
 h: ∃ps,∀(args:Array Value) (w:World),(callFunc f args).run P w=((Extern.BytealgMakeNoZero.makeNoZero ps #[t] args).run P w).andThen λv w'=> .ok (.value v) w'
section
variable {n : Nat} {Q : Exit -> Act -> World -> Prop} {env : Env} {HL : List Hp} {ops : Array Oper} {i : Nat} {K : Act -> World -> Prop} {o : Oper}
theorem Y3 (T:Ty P) {d t E:Nat} {c x:Operand} {types:Array TypeId} {f:FuncId} {m:Int}
 (hs:slot n ops env i=some (o,d)) (aR:o.op= .call ⟨.value c,#[x],types⟩) (hc:ev env c=some (.func (.func f) #[] #[])) (hx:ev env x=some (.int .i64 m)) (hf:P0 P f t) (ht:T.bW t=some (.slice E)) (h0:0<=m/\m<=1099511627776)
 (h: ∀xs a cap H',KD m xs->ak (Fl.int .u8) E xs a cap H'->aH W n K ((d,.slice a xs.length cap)::env) (HL++[H'])):aH W n (wpOp P ops Q i K) env HL:=by
 obtain⟨ho,hw,hd,hn⟩:=vj hs;refine yX (β:={p:List Int×Option Addr×Nat×Hp // KD m p.1/\ak (Fl.int .u8) E p.1 p.2.1 p.2.2.1 p.2.2.2}) (V:=λp=> .slice p.1.2.1 p.1.1.length p.1.2.2.1) (G:=λp=>(HL++[p.1.2.2.2]).flatten)
  ho hw hd hn (λt' w s ow=>?_) (λp=>h _ _ _ _ p.2.1 p.2.2)
 obtain⟨ps,NO⟩:=hf.h
 let cap:=grownCap w m.toNat 0 E
 let by' := (Question.extern "internal/bytealg.MakeNoZero.bytes" 0).cut (w.tape (w.drawn + 1) (.extern "internal/bytealg.MakeNoZero.bytes" 0))
 let ds:=yf cap by'
 have Gm:m.toNat<=cap:=grownCap_ge w m.toNat 0 E;have Ed:ds.length=cap:=U_ _ _;have adN:(Extern.BytealgMakeNoZero.digits cap by' #[])=(row (Fl.int .u8) ds).toArray:=by
  apply Array.ext';rw[Ri,Wm];simp[ds]
 have nT:(Extern.BytealgMakeNoZero.makeNoZero ps #[t] #[.int .i64 m]).run P w= .ok (.slice (some ⟨w.heap.size,0,none⟩) m.toNat cap) (w.drew.drew.alloc (.cells (row (Fl.int .u8) ds).toArray E)):=by
  have adQ:Extern.BytealgMakeNoZero.makeNoZero ps #[t] #[.int .i64 m]=
   (do
     let .slice elem ← underlying t | stuck "bytealg.MakeNoZero: slice type expected"
     if m < 0 || m > 2 ^ 48 then runtimePanic (.error "makeslice: len out of range")
     let cap<-choose (.appendCap m.toNat 0 elem)
     askRoom cap
     let bytes ← choose (.extern "internal/bytealg.MakeNoZero.bytes" 0)
     let a<-newRow elem (Extern.BytealgMakeNoZero.digits cap bytes #[])
     pure (.slice (some a) m.toNat cap)):=rfl
  rw[adQ];have h1: ¬m<0:=U;have h2: ¬(281474976710656:Int)<m:=U;rw[<-adN];simp[cV ht,h1,h2,Question.forced,newRow,Lib.size_digits,grownCap,cap,by']
 refine⟨⟨(ds.take m.toNat,some ⟨w.heap.size,0,none⟩,cap,[(w.heap.size,.cells (row (Fl.int .u8) ds).toArray E)]),⟨by simp;omega,λx hx=>U9 _ _ x (List.mem_of_mem_take hx)⟩,.inr ⟨w.heap.size,[],row (Fl.int .u8) (ds.drop m.toNat),rfl,?_,by simp;omega,?_⟩⟩,w.drew.drew.alloc (.cells (row (Fl.int .u8) ds).toArray E),?_,?_⟩
 ·rw[List.nil_append,<-qx,List.take_append_drop]
 ·rw[lG,List.length_drop,List.length_take]
  show(cap-min m.toNat ds.length)*_<=(ds.length-m.toNat)*_
  exact Nat.mul_le_mul_right _ U
 ·have hl:(ds.take m.toNat).length=m.toNat:=by simp;omega
  unfold execOp;simp only[aR,resolve,bE s hc,bE s hx,Deferred.ofValue,Sem.run_bind,Sem.run_pure,Result.andThen_ok,invoke,List.map_toArray,List.map_cons,List.map_nil];rw[show(#[]:Array Value)++ #[Value.int .i64 m]++ #[]= #[Value.int .i64 m] from rfl,NO,nT]
  simp only[Result.andThen_ok,hl]
 ·exact CY _ (show bl W w.drew.drew HL.flatten from ow.drew.drew)
end
theorem ak.trim {α:Type} {k:Fl α} {E:TypeId} {xs:List α} {a:Option Addr} {cap c:Nat} {H:Hp} (so:ak k E xs a cap H) (h1:xs.length<=c) (h2:c<=cap):ak k E xs a c H:=by
 rcases so with⟨h3,h4,h5,h6⟩ |⟨b,pre,post,h3,h4,h5,h6⟩
 ·exact .inl ⟨h3,h4,by omega,h6⟩
 ·refine .inr ⟨b,pre,post,h3,h4,h1,Nat.le_trans (Nat.mul_le_mul_right _ U) h6⟩
section
variable {n : Nat} {env : Env} {o : Oper}
theorem abh {α:Type} (T:Ty P) {H:Hp} {t E sz by' cap:Nat} {z:Value} {x hi mx:Operand} {a:Option Addr} {xs:List α} {h:Int} {kk tG:IntKind} (aR:o.op= .slice t x none (some hi) (some mx)) (hx:ev env x=some (.slice a xs.length cap))
 (hu:T.bW t=some (.slice E)) (eY:T.inf E=some (sz,by',z)) (wb:ev env hi=some (.int kk h)) (hmx:ev env mx=some (.int tG h)) (hb:h=(xs.length:Int)) (hc:xs.length<=cap):
 gS W P n env H o (.slice a xs.length xs.length):=by
 subst hb;intro t' w s ow;have wj:xs.length-0=xs.length:=U;have e1:(Instr.sliceBounds true xs.length cap none (some (Act.eval ⟨t',[]⟩ hi)) (some (Act.eval ⟨t',[]⟩ mx))).run P w= .ok (0,xs.length,xs.length) w:=by
  unfold Instr.sliceBounds;simp only[bE s wb,bE s hmx,Sem.run_bind,run_sliceBound (kk:=tG) U (show((xs.length:Int))<=(cap:Int) by omega),run_sliceBound (kk:=kk) U (show((xs.length:Int))<=((Int.toNat (xs.length:Int):Nat):Int) by omega),Result.andThen_ok,Sem.run_pure]
  simp
 have e2:(Instr.slice t (.slice a xs.length cap) none (some (Act.eval ⟨t',[]⟩ hi)) (some (Act.eval ⟨t',[]⟩ mx))).run P w= .ok (.slice a xs.length xs.length) w:=by
  unfold Instr.slice;simp only[Sem.run_bind,cV hu,Result.andThen_ok];simp only[Sem.run_bind,e1,Result.andThen_ok,jZ eY,Sem.run_pure]
  congr 2
  cases a with
  |none=>simp
  |some a=>simp[Qa]
 unfold execOp;simp only[aR,bE s hx,Option.map_none,Option.map_some];unfold Instr.sliceAt;simp only[Sem.run_bind,cV hu,Result.andThen_ok];rw[e2];rfl
end
theorem aaV {tE:TypeId} {el:Nat->Addr} {e:Er} {v:Value} {H:Hp} (h:lX tE el e v H):bL v=[v]:=by
 rcases Je h with⟨_,rfl⟩ |⟨_,t,u,rfl⟩<;>rfl
theorem RD {tE:TypeId} {el:Nat->Addr} {e:Er} {v:Value} {H:Hp} (h:gm tE el e v H):bL v=[v]:=aaV h.r
def Jf (place:Nat->Option (Nat×Nat)) (cells:List Value):List (Nat×List Value)->Option (List Value)
 |[]=>some cells
 |(i,v)::rest=>
  match place i with
  |none=>none
  |some (off,size)=>
   bif Nat.beq v.length size&&Nat.ble (off+v.length) cells.length then Jf place (gj cells off v) rest else none
theorem RH (place:Nat->Option (Nat×Nat)): ∀(vs:List (Nat×Value)) (cells:List Value),vR place cells vs=Jf place cells (vs.map λp=>(p.1,bL p.2))
 |[],_=>rfl
 |(i,v)::rest,cells=>by
  simp only[vR,List.map_cons,Jf]
  cases place i with
  |none=>rfl
  |some os=>simp only[RH place rest]
section
variable {n : Nat} {env : Env} {H : Hp} {o : Oper}
theorem RQ (T:Ty P) {t sz by':Nat} {z:Value} {fs:Array Field} {parts:Array (Nat×Operand)} {pl:List (Nat×Nat)} {vs:List (Nat×Value)} {cs:List Value} (ws:List (Nat×List Value)) (aR:o.op= .build t parts)
 (hu:T.bW t=some (.struct fs)) (hi:T.inf t=some (sz,by',z)) (q_:Ez T fs.toList=some pl) (N1:(parts.toList.mapM λp=>(ev env p.2).map λv=>(p.1,v))=some vs)
 (hws:(vs.map λp=>(p.1,bL p.2))=ws) (hf:Jf (λi=>idx i pl) (bL z) ws=some cs):gS W P n env H o (.agg cs.toArray):=by
 intro t' w s ow;refine KL (T:=T) s ?_ w;unfold C2;rw[aR];simp only[hu,hi,q_,N1,RH,hws,hf]
end
end
section
variable {W : World}
variable {P : Program}
section
variable {α : Type} [Inhabited α] (kd : Kd α)
def BO (E:TypeId) (xs:List α) (a:Option Addr) (cap:Nat) (H Hl:Hp):Prop:=
 ∃cc H0 R,ak (Fl.raw kd.size kd.pos) E cc a cap H0/\cc.length=xs.length/\H=H0++R/\ ∀i:Nat,i<xs.length->kd.oa (rd xs (i:Int)) (rd cc (i:Int)).val (R++Hl)
def DI (E:TypeId) (xs:List α) (a:Option Addr) (cap:Nat) (i:Int) (cs:List Value) (H Hl:Hp):Prop:=
 (0<=i/\i<(xs.length:Int))/\ ∃cc H0 R,ak (Fl.raw kd.size kd.pos) E cc a cap H0/\cc.length=xs.length/\(rd cc i).val=cs/\H=H0++R/\
   ∀j:Nat,j<xs.length->(j:Int)≠i->kd.oa (rd xs (j:Int)) (rd cc (j:Int)).val (R++Hl)
variable {kd} {E : TypeId}
theorem BO.b_ {xs:List α} {a:Option Addr} {cap:Nat} {H Hl:Hp} (h:BO kd E xs a cap H Hl):xs.length<=cap:=by
 obtain⟨cc,H0,R,h0,hl,_⟩:=h;rw[<-hl];exact h0.b_
theorem BO.addr {xs:List α} {a:Option Addr} {cap:Nat} {H Hl:Hp} (h:BO kd E xs a cap H Hl) {i:Int} (h0:0<=i) (h1:i<xs.length): ∃b off,a=some ⟨b,off,none⟩:=by
 obtain⟨cc,H0,R,h2,h3,_⟩:=h;exact h2.r.addr h0 (by rw[h3];exact h1)
theorem BO.pre {xs:List α} {a:Option Addr} {cap:Nat} {H Hl:Hp} {hi:Int} (so:BO kd E xs a cap H Hl) (h:0<=(0:Int)/\0<=hi/\hi<=(xs.length:Int)):
 BO kd E (aB xs 0 hi) (gk a cap (Int.toNat 0) kd.size) (cap-Int.toNat 0) H Hl:=by
 obtain⟨cc,H0,R,h0,hl,rfl,hr⟩:=so;have hx: ∀{β:Type} [Inhabited β] (l:List β) (i:Nat),(i:Int)<hi->rd (aB l 0 hi) (i:Int)=rd l (i:Int):=λl i eY=>by
  unfold rd aB;simp only[Int.toNat_zero,List.drop_zero,Nat.sub_zero];rw[List.getD_eq_getElem?_getD,List.getD_eq_getElem?_getD,List.getElem?_take_of_lt U]
 have hlen:(aB xs 0 hi).length=hi.toNat:=by rw[iQ h];omega
 refine⟨aB cc 0 hi,H0,R,h0.pre (by rw[hl];exact h),?_,rfl,λi eY=>?_⟩
 ·rw[iQ (by rw[hl];exact h),iQ h]
 ·rw[hlen] at eY;rw[hx xs i U,hx cc i U];exact hr i U
theorem DI.cells {xs:List α} {a:Option Addr} {cap:Nat} {i:Int} {cs:List Value} {H Hl:Hp} (h:DI kd E xs a cap i cs H Hl):yN a (i.toNat*kd.size) cs H:=by
 obtain⟨hi,cc,H0,R,h0,hl,rfl,rfl,_⟩:=h;obtain⟨b,off,ha⟩:=h0.r.addr hi.1 (by rw[hl];exact hi.2)
 obtain⟨arr,E',fr,hm,hc⟩:=h0.r.elem ha hi.1 (by rw[hl];exact hi.2)
 exact⟨b,off,arr,E',fr,ha,List.mem_append_left _ hm,λf v hv=>hc f v hv⟩
theorem DI.addr {xs:List α} {a:Option Addr} {cap:Nat} {i:Int} {cs:List Value} {H Hl:Hp} (h:DI kd E xs a cap i cs H Hl): ∃b off,a=some ⟨b,off,none⟩:=by
 obtain⟨b,off,_,_,_,ha,_⟩:=h.cells;exact⟨b,off,ha⟩
theorem DI.b_ {xs:List α} {a:Option Addr} {cap:Nat} {i:Int} {cs:List Value} {H Hl:Hp} (h:DI kd E xs a cap i cs H Hl):xs.length<=cap:=by
 obtain⟨hi,cc,H0,R,h0,hl,rfl,rfl,_⟩:=h;rw[<-hl];exact h0.b_
section rules
variable {n : Nat} {Q : Exit -> Act -> World -> Prop} {env : Env} {HL : List Hp} {ops : Array Oper} {i : Nat} {K : Act -> World -> Prop} {o : Oper}
end rules
end
end
section
variable {W : World}
variable {P : Program}
def Fl.pair (k:IntKind):Fl (Int×Int):=⟨2,λx=>[.int k x.1,.int k x.2],λ_=>rfl,λ_ v h=>by
 simp only[List.mem_cons,List.not_mem_nil,or_false] at h;rcases h with rfl |rfl<;>rfl,by decide⟩
section
variable {n : Nat} {env : Env} {H : Hp} {o : Oper}
theorem RR {t yt:TypeId} {x y:Operand} {k yk:IntKind} {a b:Int} (aR:o.op= .binOp .shl t x y yt) (hx:ev env x=some (.int k a)) (hy:ev env y=some (.int yk b)) (hb:0<=b):
 gS W P n env H o (.int k (k.wrap (a*2^(min b.toNat k.bits)))):=by
 intro t' w s ow;unfold execOp;simp only[aR,bE s hx,bE s hy];have: ¬b<0:=U;simp[eqGuard,binOp,Op.shift,this]
theorem RS (T:Ty P) {t:TypeId} {x ix:Operand} {s:ByteArray} {kk:IntKind} {j:Int} (xs:List Int) (aR:o.op= .index t x ix) (hx:ev env x=some (.string s)) (xH:ev env ix=some (.int kk j))
 (hu:T.bW t=some .string) (hs:s.data.toList.map (λb=>(b.toNat:Int))=xs) (hj:0<=j/\j<(xs.length:Int)):gS W P n env H o (.int .u8 (rd xs j)):=by
 intro t' w st ow;obtain⟨h0,h1⟩:=hj;unfold execOp;have hl:j.toNat<s.data.toList.length:=by
  have:xs.length=s.data.toList.length:=by rw[<-hs];simp
  omega
 have hg:s[j.toNat]? =some (s.data.toList[j.toNat]'hl):=by
  have jS:j.toNat<s.size:=by have q:=hl;rw[Array.length_toList] at q;exact q
  rw[getElem?_pos s j.toNat jS]
  rfl
 have hr:rd xs j=((s.data.toList[j.toNat]'hl).toNat:Int):=by
  rw[iP (by rw[<-hs];simpa using hl)]
  simp only[<-hs,List.getElem_map]
 simp only[aR,bE st hx,bE st xH,Instr.index,asIntOf,Sem.run_bind,Sem.run_pure,Result.andThen_ok,cV hu,h0,if_true,hg];rw[hr]
end
section
variable {HL : List Hp}
theorem Uj {j b:Nat} {arr:Array Value} {E:TypeId} {fr:Nat×Nat} {Hr:Hp} {kk:IntKind} {xs:List Int} {i:Int} (hj:idx j HL=some ((b,.cells arr E fr)::Hr)) (ha:arr.toList=xs.map λx=>Value.int kk x) (hi:0<=i/\i<(xs.length:Int)):
 ∃arr E fr,(b,Obj.cells arr E fr)∈HL.flatten/\arr[i.toNat]? =some (Value.int kk (rd xs i)):=by
 refine⟨arr,E,fr,gY (by rw[<-idx_eq];exact hj) (List.mem_cons_self ..),?_⟩
 have h2:arr[i.toNat]? =arr.toList[i.toNat]? :=by simp
 rw[h2,ha,List.getElem?_map,iP U,List.getElem?_eq_getElem U]
 rfl
end
section
variable {n : Nat} {Q : Exit -> Act -> World -> Prop} {env : Env} {HL : List Hp} {ops : Array Oper} {i : Nat} {K : Act -> World -> Prop} {o : Oper}
theorem Zb (T:Ty P) {b t:Nat} {x y:Operand} {arr:Array Value} {E:TypeId} {kk:IntKind} {xs:List Int} {jx v:Int} {by':Nat} {z:Value} {Hr:Hp} (j:Nat) (cs:List Value)
 (hs:sL ops env i=some o) (aR:o.op= .store t x y) (hx:ev env x=some (.pointer (some ⟨b,jx.toNat,none⟩)))
 (hy:ev env y=some (.int kk v)) (hi:T.inf t=some (1,by',z)) (hj:idx j HL=some ((b,.cells arr E (0,0))::Hr)) (ha:arr.toList=xs.map λx=>Value.int kk x) (hb:0<=jx/\jx<(xs.length:Int))
 (jR:((List.range xs.length).map λq:Nat=>Value.int kk (rd (List.set xs jx.toNat v) (q:Int)))=cs)
 (h:aH W n K env (HL.set j ((b,.cells cs.toArray E (0,0))::Hr))):aH W n (wpOp P ops Q i K) env HL:=by
 let⟨ho,hw,hd⟩:=Bn hs
 have jS:arr.size=xs.length:=by rw[<-Array.length_toList,ha];simp
 refine DO T ho hw hd aR hx hy hi (by rw[<-idx_eq];exact hj) rfl (λc hc=>?_) U ?_ h
 ·simp only[bL,List.mem_singleton] at hc;subst hc;rfl
 ·rw[<-jR,ha];unfold gj;apply List.ext_getElem
  ·simp[bL];omega
  ·intro q h1 h2;have hq:q<xs.length:=by simpa using h2
   simp only[List.getElem_map,List.getElem_range];have e1:rd (List.set xs jx.toNat v) (q:Int)=if jx.toNat=q then v else xs[q]:=by
    rw[iP (by simpa using hq)]
    simp only[Int.toNat_natCast];rw[List.getElem_set]
   rw[e1]
   by_cases aS:q<jx.toNat
   ·rw[List.getElem_append_left (by simp;omega),List.getElem_take,List.getElem_map,if_neg U]
   ·by_cases heq:q=jx.toNat
    ·rw[List.getElem_append_right (by simp;omega),if_pos heq.symm,List.getElem_append_left (by simp[bL];omega)]
     simp[bL,heq]
    ·rw[List.getElem_append_right (by simp;omega),List.getElem_append_right (by simp[bL];omega),if_neg U,List.getElem_drop,List.getElem_map]
     congr 2
     simp[bL];omega
end
end
section
variable {W : World}
variable {P : Program}
def BE (b o:Nat) (cs:List Value) (F:Hp):Prop:= ∃arr E fr,(b,Obj.cells arr E fr)∈F/\ ∀(i:Nat) (v:Value),cs[i]? =some v->arr[o+i]? =some v
section
variable {HL : List Hp} {F : Hp} {j b o : Nat} {cs : List Value}
theorem BE.mono {F':Hp} (h:BE b o cs F) (hs: ∀c∈F,c∈F'):BE b o cs F':=by
 obtain⟨arr,E,fr,hm,hc⟩:=h;exact⟨arr,E,fr,hs _ hm,hc⟩
theorem Qy {a:Option Addr} {off p:Nat} (h:yN a p cs F) (ha:a=some ⟨b,off,none⟩) (hj:idx j HL=some F):BE b (off+p) cs HL.flatten:=by
 obtain⟨b',CT,arr,E,fr,vV,hm,hc⟩:=h;rw[ha] at vV;simp at vV;obtain⟨rfl,rfl⟩:=vV;exact⟨arr,E,fr,gY (by rw[<-idx_eq];exact hj) hm,hc⟩
theorem N6 (h:BE b o cs F) (hj:idx j HL=some F) (f:Nat) {v:Value} (hv:idx f cs=some v): ∃arr E fr,(b,Obj.cells arr E fr)∈HL.flatten/\arr[o+f]? =some v:=by
 obtain⟨arr,E,fr,hm,hc⟩:=h;exact⟨arr,E,fr,gY (by rw[<-idx_eq];exact hj) hm,hc f v (by rw[<-idx_eq];exact hv)⟩
theorem aed {α:Type} [Inhabited α] {k:Fl α} {H:Hp} {xs:List α} {a:Option Addr} (h:aP k xs a H) {off:Nat} (ha:a=some ⟨b,off,none⟩) {i:Int} (hi:0<=i/\i<(xs.length:Int)) (f:Nat) {vs:List Value}
 (hv:((k.enc (rd xs i)).drop f).take vs.length=vs): ∃arr E fr,(b,Obj.cells arr E fr)∈H/\ ∀q v,vs[q]? =some v->arr[off+i.toNat*k.size+f+q]? =some v:=by
 obtain⟨arr,E,fr,hm,hc⟩:=iu h ha hi rfl;refine⟨arr,E,fr,hm,λq v hq=>?_⟩
 rw[<-hv] at hq;have hl:=(List.getElem?_eq_some_iff.1 hq).1;rw[List.getElem?_take_of_lt (by simp at hl;omega),List.getElem?_drop] at hq
 rw[Nat.add_assoc];exact hc (f+q) v hq
end
def XX (r:Option Int) (a:Option Addr) (len sz:Nat) (u:Value):Prop:=match r with
 |none=>u= .pointer none
 |some i=>(0<=i/\i<(len:Int))/\ ∃b off,a=some ⟨b,off,none⟩/\u= .pointer (some ⟨b,off+i.toNat*sz+0,none⟩)
section
variable {n : Nat} {env : Env} {H : Hp} {o : Oper}
theorem ag5 (T:Ty P) {t e b o1 o2 sz by':Nat} {z:Value} (hu:T.bW t=some (.pointer e)) (hi:T.inf e=some (sz,by',z)) (jS:Nat.beq sz 0=false) (w:World):
 (Op.equal t (.pointer (some ⟨b,o1,none⟩)) (.pointer (some ⟨b,o2,none⟩))).run P w= .ok (o1==o2) w:=by
 show(Op.equalIn (9999+1) t _ _).run P w=_
 generalize 9999=d;have bI:sz≠0:=by intro q;subst q;simp at jS
 simp only[Op.equalIn,Sem.run_bind,cV hu,Result.andThen_ok,jZ hi,Sem.run_ite,bI,if_true,sameAddr,beq_self_eq_true,Sem.run_pure,ne_eq,not_false_eq_true]
 congr 1
 by_cases h:o1=o2
 ·subst h;simp
 ·have:(⟨b,o1,none⟩:Addr)≠⟨b,o2,none⟩:=λq=>h (by injection q)
  rw[beq_eq_false_iff_ne.mpr this,beq_eq_false_iff_ne.mpr h]
theorem Vt {t:TypeId} {op:BinOp} {x y:Operand} {a b:Option Addr} (w:World):(eqGuard op t x y (.pointer a) (.pointer b)).run P w= .ok () w:=by
 unfold eqGuard;rw[Sem.run_ite];refine Kh (λ_=>rfl) (λ_=>?_);simp
theorem abf (T:Ty P) {t yt e b1 b2 o1 o2 sz by':Nat} {x y:Operand} {a:Option Addr} {i j:Int} {z:Value} (aR:o.op= .binOp .neq t x y yt) (hx:ev env x=some (.pointer (some ⟨b1,o1+i.toNat*sz+0,none⟩)))
 (hy:ev env y=some (.pointer (some ⟨b2,o2+j.toNat*sz+0,none⟩))) (hu:T.bW t=some (.pointer e)) (hi:T.inf e=some (sz,by',z)) (jS:Nat.beq sz 0=false) (h1:a=some ⟨b1,o1,none⟩) (h2:a=some ⟨b2,o2,none⟩)
 (hi0:0<=i) (hj0:0<=j):gS W P n env H o (.bool (!(i==j))):=by
 intro t' w s ow;rw[h1] at h2;simp at h2;obtain⟨rfl,rfl⟩:=h2;unfold execOp;simp only[aR,bE s hx,bE s hy,binOp,Sem.run_bind,Vt,Result.andThen_ok,ag5 T hu hi jS,Sem.run_pure]
 congr 3
 have bI:0<sz:=by
  rcases Nat.eq_zero_or_pos sz with q |q
  ·subst q;simp at jS
  ·exact q
 by_cases h:i=j
 ·subst h;simp
 ·have h3:i.toNat≠j.toNat:=U;have h4:i.toNat*sz≠j.toNat*sz:=λq=>h3 (Nat.eq_of_mul_eq_mul_right bI q);have h5: ¬(o1+i.toNat*sz+0=o1+j.toNat*sz+0):=U;simp only[beq_eq_false_iff_ne.mpr h];simp only[beq_eq_false_iff_ne.mpr h5]
end
section
variable {n : Nat} {env : Env} {H : Hp} {o : Oper}
theorem ag4 (T:Ty P) {t e:Nat} {a:Addr} (hu:T.bW t=some (.pointer e)) (w:World):(Op.equal t (.pointer none) (.pointer (some a))).run P w= .ok false w/\(Op.equal t (.pointer (some a)) (.pointer none)).run P w= .ok false w:=by
 constructor
 ·show(Op.equalIn (9999+1) t _ _).run P w=_
  generalize 9999=d;simp only[Op.equalIn,Sem.run_bind,cV hu,Result.andThen_ok,Sem.run_pure]
  rfl
 ·show(Op.equalIn (9999+1) t _ _).run P w=_
  generalize 9999=d;simp only[Op.equalIn,Sem.run_bind,cV hu,Result.andThen_ok,Sem.run_pure]
theorem abe (T:Ty P) {t yt e:Nat} {x y:Operand} {a:Addr} (aR:o.op= .binOp .neq t x y yt) (hx:ev env x=some (.pointer none)) (hy:ev env y=some (.pointer (some a))) (hu:T.bW t=some (.pointer e)):gS W P n env H o (.bool true):=by
 intro t' w s ow;unfold execOp;simp only[aR,bE s hx,bE s hy,binOp,Sem.run_bind,Vt,Result.andThen_ok,(ag4 T hu w).1,Sem.run_pure]
 rfl
end
end
section
variable {W : World}
variable {P : Program}
section rules
variable {α : Type} {k : Fl α}
variable {T : Ty P} {n : Nat} {Q : Exit -> Act -> World -> Prop} {env : Env} {HL : List Hp} {ops : Array Oper} {i : Nat} {K : Act -> World -> Prop} {o : Oper}
variable {α : Type} {k : Fl α}
theorem YY (T:Ty P) {d:Nat} {t E:TypeId} {x y:Operand} {l m:Int} {kk tG:IntKind} {sz by':Nat} {z:Value} (x0:α)
 (ho:ops[i]? =some o) (hw:want ops env o=some true) (hd:o.dst=some d) (hn:d<n) (aR:o.op= .makeSlice t x y) (hx:ev env x=some (.int kk l)) (hy:ev env y=some (.int tG m))
 (hu:T.bW t=some (.slice E)) (hi:T.inf E=some (sz,by',z)) (hk:k.size=sz) (hz:bL z=k.enc x0) (l0:0<=l) (l1:l<=m) (h0:0<=m) (hm:m<=4611686018427387904) (hb:by'*m<=281474976710656)
 (h: ∀a cap H',ak k E (List.replicate l.toNat x0) a cap H'->aH W n K ((d,.slice a (List.replicate l.toNat x0).length cap)::env) (HL++[H'])):
 aH W n (wpOp P ops Q i K) env HL:=by
 refine yX (β:={p:Option Addr×Nat×Hp // ak k E (List.replicate l.toNat x0) p.1 p.2.1 p.2.2}) (V:=λp=> .slice p.1.1 (List.replicate l.toNat x0).length p.1.2.1) (G:=λp=>(HL++[p.1.2.2]).flatten)
  ho hw hd hn (λt' w s ow=>?_) (λp=>h _ _ _ p.2)
 obtain⟨inf,mM,jS,jQ,A1⟩:=T.mM E sz by' z hi
 have wm:z.cells.toList=k.enc x0:=by rw[rW,hz]
 have xM: ∀c:Nat,(Array.range (c*sz)).map (λi=>z.cells[i%z.cells.size]!)=(row k (List.replicate c x0)).toArray:=by
  intro c;have jS:z.cells.size=sz:=by have:=k.len x0;rw[<-wm] at this;simpa[hk] using this
  have hp:0<sz:=hk▸k.pos;apply Array.ext
  ·simp[lG,hk]
  ·intro j h1 h2;simp at h1;simp only[Array.getElem_map,Array.getElem_range,List.getElem_toArray];have hq:j/sz<c:=by rw[Nat.div_lt_iff_lt_mul hp];exact h1
   have hr:j%sz<sz:=Nat.mod_lt _ hp;have hg:=Da k (List.replicate c x0) (j/sz) (j%sz) (by simpa using hq) (by rw[hk];exact hr)
   rw[hk,Nat.div_add_mod' j sz] at hg;simp only[List.getElem_replicate] at hg;rw[jS];have h3:z.cells[j%sz]? =(k.enc x0)[j%sz]? :=by rw[<-wm];simp
   rw[<-h3] at hg;rw[List.getElem?_eq_getElem (by simpa using h2)] at hg
   rw[getElem!_pos z.cells (j%sz) (by rw[jS];exact hr)]
   rw[Array.getElem?_eq_getElem (by rw[jS];exact hr)] at hg
   exact(Option.some.inj hg).symm
 have GG:IntKind.i64.wrap m=m:=by unfold IntKind.wrap IntKind.signed IntKind.bits;simp;omega
 have Uc:IntKind.i64.wrap l=l:=by unfold IntKind.wrap IntKind.signed IntKind.bits;simp;omega
 have hl4: ¬l<0:=U;have hl5: ¬l>m:=U;refine⟨⟨(some ⟨w.heap.size,0,none⟩,m.toNat,[(w.heap.size,.cells (row k (List.replicate m.toNat x0)).toArray E (0,0))]),.inr ⟨w.heap.size,[],row k (List.replicate (m.toNat-l.toNat) x0),rfl,by rw[List.nil_append,<-qx,List.replicate_append_replicate,show l.toNat+(m.toNat-l.toNat)=m.toNat by omega],by simp;omega,by rw[lG];simp⟩⟩,
  w.alloc (.cells (row k (List.replicate m.toNat x0)).toArray E),?_,CY _ ow⟩
 unfold execOp;have h4: ¬m<0:=U;have h5: ¬(281474976710656<(by':Int)*m):=U
 by_cases hc:m.toNat*sz=0
 ·have hz0:m.toNat=0:=by
   rcases Nat.mul_eq_zero.1 hc with h |h
   ·exact h
   ·have:=k.pos;omega
  have:m=0:=U;have xI:l=0:=U;subst this;subst xI;simp[aR,bE s hx,bE s hy,Instr.makeSlice,cV hu,asInt,asIntOf,typeInfo,mM,jQ,GG,Uc,jZ hi,newRow,Ba];have e:(Array.range 0).map (λ_=>(default:Value))= #[]:=by apply Array.ext';simp
  rw[e]
 ·simp[aR,bE s hx,bE s hy,Instr.makeSlice,cV hu,asInt,asIntOf,typeInfo,mM,jQ,GG,Uc,hl4,hl5,h4,h5,jZ hi,hc,Bb hi,newRow,xM]
theorem Y2 (T:Ty P) {t E:TypeId} {x y:Operand} {l m:Int} {kk tG:IntKind} {sz by' d:Nat} {z:Value} (x0:α)
 (hs:slot n ops env i=some (o,d)) (aR:o.op= .makeSlice t x y) (hx:ev env x=some (.int kk l)) (hy:ev env y=some (.int tG m))
 (hu:T.bW t=some (.slice E)) (hi:T.inf E=some (sz,by',z)) (hk:k.size=sz) (hz:bL z=k.enc x0) (h0:0<=l/\l<=m/\m<=1099511627776) (jQ:Nat.ble by' 128=true)
 (h: ∀a cap H',ak k E (List.replicate l.toNat x0) a cap H'->aH W n K ((d,.slice a (List.replicate l.toNat x0).length cap)::env) (HL++[H'])):aH W n (wpOp P ops Q i K) env HL:=
 let⟨ho,hw,hd,hn⟩:=vj hs
 YY T x0 ho hw hd hn aR hx hy hu hi hk hz h0.1 h0.2.1 U U (by
  have h1:=Nat.le_of_ble_eq_true jQ;have h2:(by':Int)*m<=128*1099511627776:=by
   have h3:(by':Int)<=128:=U
   exact Int.mul_le_mul h3 h0.2.2 U U
  omega) h
end rules
section
variable {HL : List Hp}
theorem aee {j b:Nat} {pre post:List Value} {v:Value} {E:TypeId} {fr:Nat×Nat} {Hr:Hp} (hj:idx j HL=some ((b,.cells (pre++v::post).toArray E fr)::Hr)):
 ∃arr E fr,(b,Obj.cells arr E fr)∈HL.flatten/\arr[pre.length]? =some v:=
 ⟨_,E,fr,gY (by rw[<-idx_eq];exact hj) (List.mem_cons_self ..),by simp⟩
end
section
variable {n : Nat} {Q : Exit -> Act -> World -> Prop} {env : Env} {HL : List Hp} {ops : Array Oper} {i : Nat} {K : Act -> World -> Prop} {o : Oper}
theorem Zd (T:Ty P) {b t:Nat} {x y:Operand} {E:TypeId} {kk:IntKind} {v:Int} {v0:Value} {pre post:List Value} {by':Nat} {z:Value} {Hr:Hp} (j:Nat)
 (hs:sL ops env i=some o) (aR:o.op= .store t x y) (hx:ev env x=some (.pointer (some ⟨b,pre.length,none⟩)))
 (hy:ev env y=some (.int kk v)) (hi:T.inf t=some (1,by',z)) (hj:idx j HL=some ((b,.cells (pre++v0::post).toArray E (0,0))::Hr))
 (h:aH W n K env (HL.set j ((b,.cells (pre++Value.int kk v::post).toArray E (0,0))::Hr))):aH W n (wpOp P ops Q i K) env HL:=by
 let⟨ho,hw,hd⟩:=Bn hs
 refine DO T ho hw hd aR hx hy hi (by rw[<-idx_eq];exact hj) rfl (λc hc=>?_) (by simp) ?_ h
 ·simp only[bL,List.mem_singleton] at hc;subst hc;rfl
 ·unfold gj;simp[bL]
end
end
section
variable {W : World}
variable {P : Program}
section
variable {HL : List Hp}
theorem Cu {j b:Nat} {pre mid post:List Value} {E:TypeId} {fr:Nat×Nat} {Hr:Hp} (hj:idx j HL=some ((b,.cells (pre++(mid++post)).toArray E fr)::Hr)) (f:Nat) {v:Value} (hv:idx f mid=some v):
 ∃arr E fr,(b,Obj.cells arr E fr)∈HL.flatten/\arr[pre.length+f]? =some v:=by
 refine⟨_,E,fr,gY (by rw[<-idx_eq];exact hj) (List.mem_cons_self ..),?_⟩
 rw[idx_eq] at hv;have hl:=(List.getElem?_eq_some_iff.1 hv).1;rw[List.getElem?_toArray,List.getElem?_append_right U,show pre.length+f-pre.length=f by omega,List.getElem?_append_left hl]
 exact hv
end
section
variable {n : Nat} {Q : Exit -> Act -> World -> Prop} {env : Env} {HL : List Hp} {ops : Array Oper} {i : Nat} {K : Act -> World -> Prop} {o : Oper}
theorem I1 (T:Ty P) {b t:Nat} {x y:Operand} {E:TypeId} {v:Value} {pre mid post:List Value} {sz by':Nat} {z:Value} {Hr:Hp} (j f:Nat) (cs:List Value)
 (hs:sL ops env i=some o) (aR:o.op= .store t x y) (hx:ev env x=some (.pointer (some ⟨b,pre.length+f,none⟩)))
 (hy:ev env y=some v) (hi:T.inf t=some (sz,by',z)) (hj:idx j HL=some ((b,.cells (pre++(mid++post)).toArray E (0,0))::Hr)) (hl:Nat.beq (bL v).length sz=true) (hf:(bL v).all Value.oneCell'=true)
 (hb:Nat.ble (f+sz) mid.length=true) (jR:gj mid f (bL v)=cs)
 (h:aH W n K env (HL.set j ((b,.cells (pre++(cs++post)).toArray E (0,0))::Hr))):aH W n (wpOp P ops Q i K) env HL:=by
 let⟨ho,hw,hd⟩:=Bn hs
 have h1:=Nat.eq_of_beq_eq_true hl;have h2:=Nat.le_of_ble_eq_true hb;refine DO T ho hw hd aR hx hy hi (by rw[<-idx_eq];exact hj) h1 (λc hc=>List.all_eq_true.1 hf c hc) (by simp;omega) ?_ h
 subst jR;unfold gj;have e1:List.take (pre.length+f) (pre++(mid++post))=pre++List.take f mid:=by
  rw[List.take_append,List.take_of_length_le U,show pre.length+f-pre.length=f by omega,List.take_append_of_le_length U]
 have e2:List.drop (pre.length+f+(bL v).length) (pre++(mid++post))=List.drop (f+(bL v).length) mid++post:=by
  rw[List.drop_append,List.drop_of_length_le U,show pre.length+f+(bL v).length-pre.length=f+(bL v).length by omega,List.drop_append_of_le_length U]
  simp
 simp only[e1,e2,List.append_assoc]
end
section
variable {α : Type} [Inhabited α] (kd : Kd α)
def yL (pre:List Value) (xs:List α) (b:Nat) (T:TypeId) (H:Hp):Prop:=
 ∃cc R,sT kd xs cc R/\H=(b,Obj.cells (pre++(cc.map λc=>c.val).flatten).toArray T (0,0))::R
def w6 (pre:List Value) (xs:List α) (b:Nat) (T:TypeId) (i:Int) (p q:List Value) (R:Hp):Prop:=
 (0<=i/\i<(xs.length:Int))/\p.length=pre.length+i.toNat*kd.size/\(∃p0,p=pre++p0)/\
   ∀x' tq IC,kd.own x' tq IC-> ∃R2,R2.Perm (R++IC)/\yL kd pre (xs.set i.toNat x') b T ((b,Obj.cells (p++(tq++q)).toArray T (0,0))::R2)
variable {kd}
theorem RM: ∀(cc:List (Rw kd.size)) (i:Nat) (h:i<cc.length),∃p q:List Value,p.length=i*kd.size/\(cc.map λc=>c.val).flatten=p++((cc[i]).val++q)/\ ∀c':Rw kd.size,((cc.set i c').map λc=>c.val).flatten=p++(c'.val++q)
 |c::cc,0,_=>⟨[],(cc.map λc=>c.val).flatten,by simp,by simp,λc'=>by simp⟩
 |c::cc,i+1,h=>by
  obtain⟨p,q,h1,h2,h3⟩:=RM cc i (by simpa using h)
  refine⟨c.val++p,q,by rw[List.length_append,c.len,h1,Nat.succ_mul];omega,?_,λc'=>?_⟩
  ·simp only[List.map_cons,List.flatten_cons,List.getElem_cons_succ,h2,List.append_assoc]
  ·simp only[List.set_cons_succ,List.map_cons,List.flatten_cons,h3 c',List.append_assoc]
section
variable {n' : Nat} {F : Act -> World -> Prop} {env : Env} {HL : List Hp} {pre : List Value} {xs : List α} {b : Nat} {T : TypeId}
theorem LK {H:Hp} {j:Nat} {i:Int} (hj:idx j HL=some H) (so:yL kd pre xs b T H) (hi:0<=i/\i<(xs.length:Int))
 (h: ∀p q cs R Hx,kd.own (rd xs i) cs Hx->w6 kd pre xs b T i p q R->aH W n' F env (HL.set j [(b,Obj.cells (p++(cs++q)).toArray T (0,0))]++[R,Hx])):aH W n' F env HL:=by
 obtain⟨cc,R,hl,rfl⟩:=so;have hlen:=CE _ _ _ hl;obtain⟨Hx,R',e1,e2,e3⟩:=Kt xs cc R i.toNat hl U;obtain⟨p,q,h1,h2,h3⟩:=RM cc i.toNat U;rw[show((i.toNat:Nat):Int)=i by omega] at e1
 have ec:(rd cc i)=cc[i.toNat]'(by omega):=iP U
 rw[ec] at e1;refine po (λw o=>?_) (h (pre++p) q (cc[i.toNat]'(by omega)).val R' Hx e1 ⟨hi,by rw[List.length_append,h1],⟨p,rfl⟩,λx' tq IC sm=>?_⟩)
 ·rw[idx_eq] at hj;have lA:=(List.getElem?_eq_some_iff.1 hj).1;have a1:=xu HL j _ hj;have a2:=vS HL j _ [(b,Obj.cells ((pre++p)++((cc[i.toNat]'(by omega)).val++q)).toArray T (0,0))] hj
  refine o.perm (a1.trans ?_);rw[List.flatten_append];refine List.Perm.trans ?_ (List.Perm.append_right _ a2.symm);rw[h2,<-List.append_assoc pre p];simp only[List.flatten_cons,List.flatten_nil,List.append_nil,List.cons_append,List.nil_append];refine List.Perm.cons _ ?_;exact(List.Perm.append_right _ e2).trans List.perm_append_comm
 ·obtain⟨R2,p2,l2⟩:=e3 x' ⟨tq,kd.len _ _ _ sm,kd.plain _ _ _ sm⟩ IC sm;exact⟨R2,p2,_,R2,l2,by rw[h3,List.append_assoc]⟩
theorem FE {R Hx:Hp} {j q1 q2:Nat} {i:Int} {p q cs:List Value} (x':α) (hj:idx j HL=some [(b,Obj.cells (p++(cs++q)).toArray T (0,0))]) (so:w6 kd pre xs b T i p q R)
 (h1:idx q1 HL=some R) (h2:idx q2 HL=some Hx) (n1:Nat.beq j q1=false) (n2:Nat.beq j q2=false) (n3:Nat.beq q1 q2=false) (hx:kd.own x' cs Hx)
 (h: ∀H',yL kd pre (xs.set i.toNat x') b T H'->aH W n' F env (((HL.set j H').set q1 []).set q2 [])):aH W n' F env HL:=by
 obtain⟨hi,_,_,hc⟩:=so;obtain⟨R2,p2,l2⟩:=hc x' cs Hx hx;have KB:j≠q1:=λe=>by subst e;simp at n1
 have Ov:j≠q2:=λe=>by subst e;simp at n2
 have ne3:q1≠q2:=λe=>by subst e;simp at n3
 refine po (λw o=>?_) (h _ l2);rw[idx_eq] at hj h1 h2;have lA:=(List.getElem?_eq_some_iff.1 hj).1;have s1:=Ex hj h1 KB;have Gs:((HL.set j ([(b,Obj.cells (p++(cs++q)).toArray T (0,0))]++R)).set q1 [])[j]? =some ([(b,Obj.cells (p++(cs++q)).toArray T (0,0))]++R):=by
  rw[List.getElem?_set_ne (Ne.symm KB)];exact List.getElem?_set_self lA
 have h22:((HL.set j ([(b,Obj.cells (p++(cs++q)).toArray T (0,0))]++R)).set q1 [])[q2]? =some Hx:=by
  rw[List.getElem?_set_ne ne3,List.getElem?_set_ne Ov];exact h2
 have s2:=Ex Gs h22 Ov;refine o.perm (s1.trans (s2.trans ?_));have e:((((HL.set j ([(b,Obj.cells (p++(cs++q)).toArray T (0,0))]++R)).set q1 []).set j (([(b,Obj.cells (p++(cs++q)).toArray T (0,0))]++R)++Hx)).set q2 [])=((HL.set j ((b,Obj.cells (p++(cs++q)).toArray T (0,0))::(R++Hx))).set q1 []).set q2 []:=by
  rw[List.set_comm _ _ (Ne.symm KB),List.set_set];simp
 rw[e];have f1: ∀A:Hp,((HL.set j A).set q1 []).set q2 []=((HL.set q1 []).set q2 []).set j A:=λA=>by
  rw[List.set_comm _ _ KB,List.set_comm _ _ Ov]
 rw[f1,f1];exact Cd (List.Perm.cons _ p2.symm)
end
end
section
variable {α : Type} [Inhabited α] {kd : Kd α} {HL : List Hp}
theorem A3 {j b f:Nat} {pre:List Value} {xs:List α} {T:TypeId} {H:Hp} {v:Value} (hj:idx j HL=some H) (so:yL kd pre xs b T H) (hv:idx f pre=some v): ∃arr E fr,(b,Obj.cells arr E fr)∈HL.flatten/\arr[f]? =some v:=by
 obtain⟨cc,R,hl,rfl⟩:=so;refine⟨_,T,(0,0),gY (by rw[<-idx_eq];exact hj) (List.mem_cons_self ..),?_⟩
 rw[idx_eq] at hv;have h1:=(List.getElem?_eq_some_iff.1 hv).1;rw[List.getElem?_toArray,List.getElem?_append_left h1];exact hv
section
variable {n : Nat} {Q : Exit -> Act -> World -> Prop} {env : Env} {ops : Array Oper} {i : Nat} {K : Act -> World -> Prop} {o : Oper}
theorem IX (T:Ty P) {b t:Nat} {x y:Operand} {E:TypeId} {v:Value} {pre:List Value} {xs:List α} {sz by' f:Nat} {z:Value} {H:Hp} (j:Nat) (cs:List Value)
 (hs:sL ops env i=some o) (aR:o.op= .store t x y) (hx:ev env x=some (.pointer (some ⟨b,f,none⟩)))
 (hy:ev env y=some v) (hi:T.inf t=some (sz,by',z)) (hj:idx j HL=some H) (so:yL kd pre xs b E H) (hl:Nat.beq (bL v).length sz=true) (hf:(bL v).all Value.oneCell'=true)
 (hb:Nat.ble (f+sz) pre.length=true) (jR:gj pre f (bL v)=cs)
 (h: ∀H',yL kd cs xs b E H'->aH W n K env (HL.set j H')):aH W n (wpOp P ops Q i K) env HL:=by
 obtain⟨cc,R,si,rfl⟩:=so
 let⟨ho,hw,hd⟩:=Bn hs
 have h1:=Nat.eq_of_beq_eq_true hl;have h2:=Nat.le_of_ble_eq_true hb;refine DO T ho hw hd aR hx hy hi (by rw[<-idx_eq];exact hj) h1 (λc hc=>List.all_eq_true.1 hf c hc) (by simp;omega) ?_ (h _ ⟨cc,R,si,rfl⟩)
 subst jR;unfold gj;have e1:List.take f (pre++(cc.map λc=>c.val).flatten)=List.take f pre:=List.take_append_of_le_length U;have e2:List.drop (f+(bL v).length) (pre++(cc.map λc=>c.val).flatten)=List.drop (f+(bL v).length) pre++(cc.map λc=>c.val).flatten:=List.drop_append_of_le_length U;simp only[e1,e2,List.append_assoc]
end
end
end
section
variable {W : World}
variable {P : Program}
section
variable {α : Type} {k : Fl α}
theorem aiM {z:Value} {sz:Nat} {x0:α} (hk:k.size=sz) (hz:bL z=k.enc x0) (c:Nat):(Builtin.zeroCells z.cells c).toList=row k (List.replicate c x0):=by
 have wm:z.cells.toList=k.enc x0:=by rw[rW,hz]
 have jS:z.cells.size=sz:=by have:=k.len x0;rw[<-wm] at this;simpa[hk] using this
 have hp:0<sz:=hk▸k.pos;unfold Builtin.zeroCells;rw[jS];apply List.ext_getElem
 ·simp[lG,hk]
 ·intro j h1 h2;simp at h1;simp only[Array.getElem_toList,Array.getElem_map,Array.getElem_range];have hq:j/sz<c:=by rw[Nat.div_lt_iff_lt_mul hp];exact h1
  have hr:j%sz<sz:=Nat.mod_lt _ hp;have hg:=Da k (List.replicate c x0) (j/sz) (j%sz) (by simpa using hq) (by rw[hk];exact hr)
  rw[hk,Nat.div_add_mod' j sz] at hg;simp only[List.getElem_replicate] at hg;have h3:z.cells[j%sz]? =(k.enc x0)[j%sz]? :=by rw[<-wm];simp
  rw[<-h3] at hg;rw[List.getElem?_eq_getElem (by simpa using h2)] at hg
  rw[getElem!_pos z.cells (j%sz) (by rw[jS];exact hr)]
  rw[Array.getElem?_eq_getElem (by rw[jS];exact hr)] at hg
  exact(Option.some.inj hg).symm
theorem aas (T:Ty P) {t ty E:TypeId} {xs:List α} {a da:Option Addr} {g cap dc dl lo sz by':Nat} {z:Value} {Hj:Hp} {w:World} {HL:List Hp} (x0:α)
 (hu:T.bW t=some (.slice E)) (hi:T.inf E=some (sz,by',z)) (hk:k.size=sz) (hz:bL z=k.enc x0)
 (hj:HL[g]? =some Hj) (so:ak k E xs a cap Hj) (v_:(da=a/\lo=0)∨da=gk a cap lo sz) (hl:lo+dl<=xs.length) (ow:bl W w HL.flatten):
 ∃H' w',(Builtin.clear_ #[t] ty #[.slice da dl dc]).run P w= .ok (.tuple #[]) w'/\
  ak k E (cx xs lo dl (List.replicate dl x0)) a cap H'/\bl W w' (HL.set g H').flatten:=by
 have nT: ∀(r:Option Addr) (w':World),r=da->(match r with |some ad=>(storeCells ad (row k (List.replicate dl x0))).run P w= .ok () w' |none=>w'=w)->
  (Builtin.clear_ #[t] ty #[.slice da dl dc]).run P w= .ok (.tuple #[]) w':=by
  intro r w' hr h;subst hr
  cases r with
  |none=>subst h;simp[Builtin.clear_,cV hu]
  |some ad=>
   cases dl with
   |zero=>
    have h:(storeCells ad (row k (List.replicate 0 x0))).run P w= .ok () w':=h;simp[Ba,storeCells] at h;subst h;simp[Builtin.clear_,cV hu]
   |succ m=>
    have N5:=aiM (k:=k) hk hz (m+1);have h:(storeCells ad (row k (List.replicate (m+1) x0))).run P w= .ok () w':=h;simp[Builtin.clear_,cV hu,Bb hi,N5,h]
 have ad_:(List.replicate dl x0).length=dl:=by simp
 rcases so with⟨rfl,rfl,rfl,rfl⟩ |⟨b,pre,post,rfl,rfl,h3,h4⟩
 ·have hz:lo=0/\dl=0:=by simp at hl;omega
  obtain⟨rfl,rfl⟩:=hz;have Ns:da=none:=by
   rcases v_ with⟨h,_⟩ |h
   ·exact h
   ·simpa[gk] using h
  refine⟨[],w,nT none w Ns.symm rfl,.inl ⟨rfl,by simp[cx],rfl,rfl⟩,sE hj (by simpa using vd hj ow)⟩
 ·have xN:=lG k xs;have zx:=lG k (List.replicate dl x0);rw[ad_] at zx
  by_cases h0:dl=0
  ·subst h0;have hc:cx xs lo 0 (List.replicate 0 x0)=xs:=by simp[cx]
   have bI: ∃ad,da=some ad:=by
    rcases v_ with⟨h,_⟩ |h
    ·exact⟨_,h⟩
    ·unfold gk at h;split at h
     ·exact⟨_,h⟩
     ·exact⟨_,h⟩
   obtain⟨ad,MR⟩:=bI;refine⟨_,w,nT (some ad) w MR.symm ?_,by rw[hc];exact .inr ⟨b,pre,post,rfl,rfl,h3,h4⟩,sE hj (vd hj ow)⟩
   simp[Ba,storeCells]
  ·have Nr:da=some ⟨b,pre.length+lo*sz,none⟩:=by
    rcases v_ with⟨h,h'⟩ |h
    ·rw[h,h'];simp
    ·have bI:cap≠lo:=U;rw[h];simp only[gk,bI,if_false,Option.map_some,Addr.add];split
     ·rename_i h0;simp[h0]
     ·rfl
   have me:lo*sz+dl*sz<=xs.length*sz:=by rw[<-Nat.add_mul];exact Nat.mul_le_mul_right _ U
   obtain⟨w',hr,cD⟩:=HG T b E (row k (List.replicate dl x0)) w (pre++(row k xs++post)).toArray (pre.length+lo*sz) 0 (by simpa using vd hj ow)
    (by simp[xN,zx,hk];omega) (OU k _)
   refine⟨[(b,Obj.cells (pre++(row k (cx xs lo dl (List.replicate dl x0))++post)).toArray E (0,0))],w',nT (some _) w' Nr.symm hr,?_,?_⟩
   ·have eH:=AK (xs:=xs) (ys:=List.replicate dl x0) (lo:=lo) (n:=dl) hl U;exact .inr ⟨b,pre,post,rfl,rfl,by rw[eH];exact h3,by rw[eH];exact h4⟩
   ·refine sE hj ?_;rw[Nat.add_zero,HS _ _ _ (by simp[xN,zx,hk];omega)] at cD
    have e:gj (pre++(row k xs++post)) (pre.length+lo*sz) (row k (List.replicate dl x0))=pre++(row k (cx xs lo dl (List.replicate dl x0))++post):=by
     have Ct:row k xs=row k (xs.take lo)++row k (xs.drop lo):=by rw[<-qx,List.take_append_drop]
     have wk:row k (xs.drop lo)=row k ((xs.drop lo).take dl)++row k (xs.drop (lo+dl)):=by
      rw[<-qx,<-List.drop_drop,List.take_append_drop]
     have uY:(row k (xs.take lo)).length=lo*sz:=by rw[lG,hk];congr 1;simp;omega
     have uZ:(row k ((xs.drop lo).take dl)).length=dl*sz:=by rw[lG,hk];congr 1;simp;omega
     have NX:(List.replicate dl x0).take dl=List.replicate dl x0:=List.take_of_length_le U;unfold gj;rw[show pre.length+lo*sz=(pre++row k (xs.take lo)).length by simp[uY]]
     rw[show pre++(row k xs++post)=(pre++row k (xs.take lo))++(row k (xs.drop lo)++post) by rw[Ct];simp]
     rw[List.take_left',List.drop_length_add_append,wk]
     ·rw[show(row k (List.replicate dl x0)).length=(row k ((xs.drop lo).take dl)).length by rw[zx,uZ,hk]]
      rw[show row k ((xs.drop lo).take dl)++row k (xs.drop (lo+dl))++post=row k ((xs.drop lo).take dl)++(row k (xs.drop (lo+dl))++post) by simp]
      rw[List.drop_left']
      ·simp[cx,qx,NX]
      ·rfl
     ·rfl
    simpa[e] using cD
theorem L9 {xs:List α} {lo dl:Nat} {x0:α} (h:lo+dl<=xs.length):(cx xs lo dl (List.replicate dl x0)).length=xs.length:=AK h (by simp)
section rules
variable {T : Ty P} {n : Nat} {Q : Exit -> Act -> World -> Prop} {env : Env} {HL : List Hp} {ops : Array Oper} {i : Nat} {K : Act -> World -> Prop} {o : Oper}
theorem YR (T:Ty P) {g lo:Nat} {s:Operand} {t E:TypeId} {xs:List α} {a da:Option Addr} {cap dc dl sz by':Nat} {z:Value} {Hj:Hp} (x0:α)
 (ra:sL ops env i=some o) (aR:o.op= .call ⟨.builtin .clear,#[s],#[t]⟩)
 (hs:ev env s=some (.slice da dl dc)) (hu:T.bW t=some (.slice E)) (hi:T.inf E=some (sz,by',z)) (hk:k.size=sz) (hz:bL z=k.enc x0)
 (hj:idx g HL=some Hj) (so:ak k E xs a cap Hj) (v_:(da=a/\lo=0)∨da=gk a cap lo sz) (hl:lo+dl<=xs.length)
 (h: ∀H',ak k E (cx xs lo dl (List.replicate dl x0)) a cap H'->aH W n K env (HL.set g H')):aH W n (wpOp P ops Q i K) env HL:=by
 obtain⟨ho,hw,hd⟩:=Bn ra;refine I2 (β:={H':Hp // ak k E (cx xs lo dl (List.replicate dl x0)) a cap H'}) (G:=λp=>(HL.set g p.1).flatten)
  ho hw hd (λtt w sl ow=>?_) (λp=>h _ p.2)
 obtain⟨H',w',hr,rf,cD⟩:=aas (P:=P) T (ty:=o.type) (dc:=dc) x0 hu hi hk hz (by rw[<-idx_eq];exact hj) so v_ hl ow
 refine⟨⟨H',rf⟩,w',.inr ⟨.tuple #[],?_⟩,cD⟩;obtain⟨cs,hb⟩:=HF (P:=P) (t:=tt) w aR;rw[hb];simp only[List.map_toArray,List.map_cons,List.map_nil,bE sl hs,builtin,Sem.run_bind];refine Eq.trans (congrArg (λr=>Result.andThen r _) hr) ?_;simp only[Result.andThen_ok,Sem.run_pure]
end rules
end
end
section
variable {W : World}
variable {P : Program}
section
variable {n' : Nat} {F : Act -> World -> Prop} {env : Env} {HL : List Hp}
theorem bX {As:List Hp} (j:Nat) (hj:idx j HL=some As.flatten) (h:aH W n' F env (HL.eraseIdx j++As)):aH W n' F env HL:=by
 rw[idx_eq] at hj;refine po (λw o=>o.perm ?_) h;rw[List.flatten_append];exact(xu HL j _ hj).trans List.perm_append_comm
theorem dz (js:List Nat) {As R:List Hp} {H:Hp} (hs:qB js HL=(As,R)) (hH:H=As.flatten) (h:aH W n' F env (R++[H])):aH W n' F env HL:=
 gD js hs (by rw[<-hH];exact h)
end
theorem aaf {f:FuncId} {as:List Value} {A B:List Hp} {β:Type} {V:β->Value} {G G':β->List Hp} (e:A.flatten=B.flatten) (eg: ∀b,(G b).flatten=(G' b).flatten) (c:gR P f as A V G):gR P f as B V G':=by
 show yM P f _ B.flatten _ (λb=>(G' b).flatten)
 rw[<-e,show(λb=>(G' b).flatten)=(λb=>(G b).flatten) from funext λb=>(eg b).symm];exact c
theorem aae {f:FuncId} {as:List Value} {A B:List Hp} {v:Value} (e:A.flatten=B.flatten) (c:gR P f as A (λ_:Unit=>v) (λ_=>A)):gR P f as B (λ_:Unit=>v) (λ_=>B):=by
 show yM P f _ B.flatten _ (λ_=>B.flatten)
 rw[<-e];exact c
section
variable {α : Type} [Inhabited α] {kd : Kd α} {HL : List Hp} {n : Nat} {env : Env} {H : Hp} {o : Oper}
theorem w6.at {pre:List Value} {xs:List α} {b:Nat} {T:TypeId} {i:Int} {p q:List Value} {R:Hp} (h:w6 kd pre xs b T i p q R):p.length=pre.length+i.toNat*kd.size:=h.2.1
theorem Eo {j b f:Nat} {pre p q cs:List Value} {xs:List α} {T T':TypeId} {i:Int} {fr:Nat×Nat} {R Hr:Hp} {v:Value} (hj:idx j HL=some ((b,Obj.cells (p++(cs++q)).toArray T' fr)::Hr)) (so:w6 kd pre xs b T i p q R) (hv:idx f pre=some v):
 ∃arr E fr,(b,Obj.cells arr E fr)∈HL.flatten/\arr[f]? =some v:=by
 obtain⟨_,_,⟨p0,rfl⟩,_⟩:=so;refine⟨_,T',fr,gY (by rw[<-idx_eq];exact hj) (List.mem_cons_self ..),?_⟩
 rw[idx_eq] at hv;have h1:=(List.getElem?_eq_some_iff.1 hv).1;rw[List.getElem?_toArray,List.append_assoc,List.getElem?_append_left h1];exact hv
theorem Jm (T:Ty P) {m by' b off sz:Nat} {t E:TypeId} {x ix:Operand} {kk:IntKind} {j:Int} {z:Value} {p:List Value} (aR:o.op= .indexAddr t x ix)
 (hx:ev env x=some (.pointer (some ⟨b,off,none⟩))) (xH:ev env ix=some (.int kk j)) (hu:T.bW t=some (.array m E)) (hi:T.inf E=some (sz,by',z))
 (hj:0<=j/\j<(m:Int)) (hp:p.length=off+j.toNat*sz):gS W P n env H o (.pointer (some ⟨b,p.length+0,none⟩)):=by
 intro t' w s ow;obtain⟨h0,h1⟩:=hj;unfold execOp;simp only[aR,bE s hx,bE s xH,Instr.indexAt,Instr.sureAddr,asIntOf,Sem.run_bind,Sem.run_pure,Result.andThen_ok,cV hu,Sem.run_ite,h0,h1,and_self,if_true,jZ hi]
 congr 3
 unfold Addr.add;rw[hp];split
 ·rename_i h;simp[h]
 ·simp
end
section
variable {α : Type} [Inhabited α] {kd : Kd α} {n' : Nat} {F : Act -> World -> Prop} {env : Env} {HL : List Hp} {pre : List Value} {xs : List α} {b : Nat} {T : TypeId}
theorem ahu {xs:List α} {i:Int} (h:0<=i/\i<(xs.length:Int)):xs.set i.toNat (rd xs i)=xs:=by
 have h1:i.toNat<xs.length:=U;have h2:rd xs ((i.toNat:Nat):Int)=xs[i.toNat]'h1:=iP h1;rw[show((i.toNat:Nat):Int)=i by omega] at h2
 rw[h2];exact List.set_getElem_self h1
theorem KY {β:Type} {ys:List β} {i m:Nat} {y:β} (h:ys.length=m):(ys.set i y).length=m:=by rw[List.length_set];exact h
theorem YL {R Hx:Hp} {j q1 q2:Nat} {i:Int} {p q cs:List Value} (hj:idx j HL=some [(b,Obj.cells (p++(cs++q)).toArray T (0,0))]) (so:w6 kd pre xs b T i p q R)
 (h1:idx q1 HL=some R) (h2:idx q2 HL=some Hx) (n1:Nat.beq j q1=false) (n2:Nat.beq j q2=false) (n3:Nat.beq q1 q2=false) (hx:kd.own (rd xs i) cs Hx)
 (h: ∀H',yL kd pre xs b T H'->aH W n' F env (((HL.set j H').set q1 []).set q2 [])):aH W n' F env HL:=
 FE (rd xs i) hj so h1 h2 n1 n2 n3 hx (λH' hb=>h H' (by rw[ahu so.1] at hb;exact hb))
end
section
variable {α : Type} [Inhabited α] {kd : Kd α} {HL : List Hp} {n : Nat} {Q : Exit -> Act -> World -> Prop} {env : Env} {ops : Array Oper} {i : Nat} {K : Act -> World -> Prop} {o : Oper}
theorem YK (T:Ty P) {t d:Nat} {x:Operand} {v:Value} (pre:List Value) (m:Nat) (x0:α) (c0:List Value) (hs:slot n ops env i=some (o,d)) (aR:o.op= .box t x) (hx:ev env x=some v) (hz:bL v=pre++(List.replicate m c0).flatten)
 (wj:kd.own x0 c0 []) (h: ∀b H',yL kd pre (List.replicate m x0) b t H'->aH W n K ((d,.pointer (some ⟨b,0,none⟩))::env) (HL++[H'])):aH W n (wpOp P ops Q i K) env HL:=by
 refine Ql T _ hs aR hx hz (λb=>h b _ ⟨List.replicate m ⟨c0,kd.len _ _ _ wj,kd.plain _ _ _ wj⟩,[],Od wj m,?_⟩);have e:((List.replicate m (⟨c0,kd.len _ _ _ wj,kd.plain _ _ _ wj⟩:Rw kd.size)).map λc=>c.val)=List.replicate m c0:=by simp
 rw[e]
end
section
variable {α : Type} {k : Fl α}
theorem dD.trans {xs l m:List α} {a a' P9:Option Addr} {n n' UU:Nat} (h:dD k xs a n l a' n') (hc:xs.length<=n) (h2:dD k l a' n' m P9 UU):dD k xs a n m P9 UU:=by
 rcases h2 with rfl |⟨lo,hi,h1,rfl,rfl,rfl⟩
 ·exact .inl rfl
 ·exact h.sub hc h1
end
end
end Go.Hx
