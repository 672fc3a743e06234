/- The logic of this claim, further rules: maps, elements that own slices, and more. -/
import Derived.MapKept
import Derived.Maps.RangeRun
import Derived.LaidEql
import Derived.Lib.MakeNoZero
import Derived.Test.YthodkonhneebbaaGreatDoorKYHx
namespace Go.Hx
set_option autoImplicit true
set_option relaxedAutoImplicit true
set_option linter.unusedVariables false
set_option linter.unusedSimpArgs false
set_option linter.unusedSectionVars false
section
section model
variable [DecidableEq κ]
def cN:List (κ×α)->κ->Option α
 |[],_=>none
 |e::r,x=>if e.1=x then some e.2 else cN r x
def bt (m:List (κ×α)) (x:κ):Bool:=(cN m x).isSome
def aP [Inhabited α] (m:List (κ×α)) (x:κ):α:=(cN m x).getD default
def cF:List (κ×α)->κ->α->List (κ×α)
 |[],x,v=>[(x,v)]
 |e::r,x,v=>if e.1=x then(x,v)::r else e::cF r x v
def eF:List (κ×α)->κ->List (κ×α)
 |[],_=>[]
 |e::r,x=>if e.1=x then r else e::eF r x
def gP:List (κ×α)->κ->Option Nat
 |[],_=>none
 |e::r,x=>if e.1=x then some 0 else(gP r x).map (· +1)
theorem ahD {m:List (κ×α)} {x:κ} (h:gP m x=none):cN m x=none:=by
 induction m with
 |nil=>rfl
 |cons e r ih=>
  simp only[gP,cN] at h⊢;split at h
  ·cases h
  ·rename_i hk;rw[if_neg hk];exact ih (by simpa using h)
theorem L0 {m:List (κ×α)} {x:κ} {i:Nat} (h:gP m x=some i): ∃v,cN m x=some v/\m[i]? =some (x,v):=by
 induction m generalizing i with
 |nil=>cases h
 |cons e r ih=>
  simp only[gP,cN] at h⊢;split at h
  ·rename_i hk;simp at h;subst h;exact⟨e.2,by rw[if_pos hk],by simp[<-hk]⟩
  ·rename_i hk
   cases hr:gP r x with
   |none=>simp[hr] at h
   |some j=>
    simp[hr] at h;subst h;obtain⟨v,h1,h2⟩:=ih hr;exact⟨v,by rw[if_neg hk];exact h1,by simpa using h2⟩
end model
structure Ky (P:Program) (t:TypeId) (κ:Type) [DecidableEq κ] where
 enc:κ->Value
 check: ∀(e:Bool) (w:World) (x:κ),(Instr.checkKey e 10000 t (enc x)).run P w= .ok () w
 find: ∀(w:World) (x:κ) (es:List MapEntry) (ks:List κ),es.map (·.key)=ks.map enc->
  (Instr.findKey t (enc x) es).run P w= .ok ((gP (ks.map λk=>(k,())) x).bind λi=>(es[i]?).map λe=>(i,e.val)) w
 stays: ∀(w:World) (x:κ),(Instr.keyThatStays (enc x) (enc x)).run P w= .ok (enc x) w
theorem Tz: ∀(es:List MapEntry) (ks:List Int) (j:Nat),es.map (·.key)=ks.map (λk=>Value.int q k)->
 Instr.findNow (.int q) (.int q x) es j=some ((gP (ks.map λk=>(k,())) x).bind λi=>(es[i]?).map λe=>(i+j,e.val))
 |[],[],_,_=>rfl
 |[],_::_,_,h=>by simp at h
 |_::_,[],_,h=>by simp at h
 |e::es,k::ks,j,h=>by
  simp only[List.map_cons,List.cons.injEq] at h;obtain⟨h1,h2⟩:=h;simp only[Instr.findNow,h1,Instr.sameNow,if_true,List.map_cons,gP]
  by_cases hk:k=x
  ·subst hk;simp
  ·have:(x==k)=false:=by simp[Ne.symm hk]
   simp only[this,hk,if_false];rw[Tz es ks (j+1) h2]
   cases hp:gP (ks.map λk=>(k,())) x with
   |none=>simp
   |some i=>
    simp only[Option.map_some,Option.bind_some,List.getElem?_cons_succ];rw[show i+1+j=i+(j+1) by omega]
def Ky.int {P:Program} {t:TypeId} (q:IntKind) (ht:P.underlying t=some (.int q)):Ky P t Int where
 enc:=λx=> .int q x
 check:=λe w x=>MapKept.run_checkKey ht (by simp[MapKept.IsKey]) e 9999
 find:=λw x es ks h=>by
  have:=Tz (x:=x) es ks 0 h;simpa using MapKept.run_findKey (w:=w) ht this
 stays:=λw x=>MapKept.run_keyThatStays (d:= .int q) (by simp[MapKept.IsKey])
section ah7
variable [DecidableEq κ]
def ik (K:Ky P t κ) (kv:α->Value):List (κ×α)->List Nat->List MapEntry
 |e::r,b::bs=>⟨K.enc e.1,kv e.2,b⟩::ik K kv r bs
 |_,_=>[]
theorem N6 (K:Ky P t κ) (kv:α->Value): ∀(m:List (κ×α)) (bs:List Nat),bs.length=m.length->(ik K kv m bs).map (·.key)=(m.map (·.1)).map K.enc
 |[],[],_=>rfl
 |[],_::_,h=>by simp at h
 |_::_,[],h=>by simp at h
 |e::r,b::bs,h=>by simp[ik,N6 K kv r bs (by simpa using h)]
theorem ac3 (K:Ky P t κ) (kv:α->Value) (m:List (κ×α)) (bs:List Nat) (h:bs.length=m.length):(ik K kv m bs).length=m.length:=by
 have:=congrArg List.length (N6 K kv m bs h);simpa using this
theorem N5 (K:Ky P t κ) (kv:α->Value): ∀(m:List (κ×α)) (bs:List Nat) (i:Nat) (e:κ×α),bs.length=m.length->m[i]? =some e-> ∃b,(ik K kv m bs)[i]? =some ⟨K.enc e.1,kv e.2,b⟩/\bs[i]? =some b
 |[],_,_,_,_,h=>by simp at h
 |_::_,[],_,_,h,_=>by simp at h
 |e::r,b::bs,0,e',_,h=>by simp at h;subst h;exact⟨b,rfl,rfl⟩
 |e::r,b::bs,i+1,e',hl,h=>by
  obtain⟨b',h1⟩:=N5 K kv r bs i e' (by simpa using hl) (by simpa using h)
  exact⟨b',by simpa[ik] using h1⟩
theorem ahC (m:List (κ×α)) (x:κ):gP ((m.map (·.1)).map λk=>(k,())) x=gP m x:=by
 induction m with
 |nil=>rfl
 |cons e r ih=>simp only[List.map_cons,gP,ih]
theorem QM (K:Ky P t κ) (kv:α->Value) (w:World) (m:List (κ×α)) (bs:List Nat) (x:κ) (h:bs.length=m.length):
 (Instr.findKey t (K.enc x) (ik K kv m bs)).run P w= .ok ((gP m x).bind λi=>(m[i]?).map λe=>(i,kv e.2)) w:=by
 rw[K.find w x _ (m.map (·.1)) (N6 K kv m bs h),ahC]
 congr 1
 cases hp:gP m x with
 |none=>rfl
 |some i=>
  obtain⟨v,_,h2⟩:=L0 hp;obtain⟨b,h3,_⟩:=N5 K kv m bs i _ h h2;simp[h2,h3]
theorem Tn (K:Ky P t κ) (kv:α->Value): ∀(m:List (κ×α)) (bs:List Nat) (x:κ) (v:α) (c:Nat),bs.length=m.length->gP m x=none->
 ik K kv m bs++[⟨K.enc x,kv v,c⟩]=ik K kv (cF m x v) (bs++[c])
 |[],[],x,v,c,_,_=>rfl
 |[],_::_,_,_,_,h,_=>by simp at h
 |_::_,[],_,_,_,h,_=>by simp at h
 |e::r,b::bs,x,v,c,h,hp=>by
  simp only[gP] at hp;split at hp
  ·cases hp
  ·rename_i hk;have:=Tn K kv r bs x v c (by simpa using h) (by simpa using hp)
   simp only[ik,List.cons_append,this,cF,hk,if_false]
theorem ahE {m:List (κ×α)} {x:κ} {v:α} (h:gP m x=none):(cF m x v).length=m.length+1:=by
 induction m with
 |nil=>rfl
 |cons e r ih=>
  simp only[gP] at h;split at h
  ·cases h
  ·rename_i hk;simp[cF,hk,ih (by simpa using h)]
theorem ahF {m:List (κ×α)} {x:κ} {v:α} {i:Nat} (h:gP m x=some i):(cF m x v).length=m.length:=by
 induction m generalizing i with
 |nil=>cases h
 |cons e r ih=>
  simp only[gP] at h;simp only[cF];split at h
  ·rename_i hk;simp[hk]
  ·rename_i hk
   cases hr:gP r x with
   |none=>simp[hr] at h
   |some j=>simp[hk,ih hr]
theorem Tm (K:Ky P t κ) (kv:α->Value): ∀(m:List (κ×α)) (bs:List Nat) (x:κ) (v:α) (i:Nat),bs.length=m.length->gP m x=some i->
 (ik K kv m bs).modify i (λe=>{e with key:=K.enc x,val:=kv v})=ik K kv (cF m x v) bs
 |[],_,_,_,_,_,h=>by cases h
 |_::_,[],_,_,_,h,_=>by simp at h
 |e::r,b::bs,x,v,i,h,hp=>by
  simp only[gP] at hp;split at hp
  ·rename_i hk;simp at hp;subst hp;simp[ik,cF,hk]
  ·rename_i hk
   cases hr:gP r x with
   |none=>simp[hr] at hp
   |some j=>
    simp[hr] at hp;subst hp;have:=Tm K kv r bs x v j (by simpa using h) hr
    simp[ik,cF,hk,this]
theorem Tl (K:Ky P t κ) (kv:α->Value): ∀(m:List (κ×α)) (bs:List Nat) (x:κ) (i:Nat),bs.length=m.length->gP m x=some i->
 (ik K kv m bs).eraseIdx i=ik K kv (eF m x) (bs.eraseIdx i)/\(bs.eraseIdx i).length=(eF m x).length
 |[],_,_,_,_,h=>by cases h
 |_::_,[],_,_,h,_=>by simp at h
 |e::r,b::bs,x,i,h,hp=>by
  simp only[gP] at hp;split at hp
  ·rename_i hk;simp at hp;subst hp;simp[ik,eF,hk];simpa using h
  ·rename_i hk
   cases hr:gP r x with
   |none=>simp[hr] at hp
   |some j=>
    simp[hr] at hp;subst hp;have:=Tl K kv r bs x j (by simpa using h) hr
    simp[ik,eF,hk,this]
theorem WZ {m:List (κ×α)} {x:κ} (h:gP m x=none):eF m x=m:=by
 induction m with
 |nil=>rfl
 |cons e r ih=>
  simp only[gP] at h;split at h
  ·cases h
  ·rename_i hk;simp[eF,hk,ih (by simpa using h)]
def zu (K:Ky P t κ) (kv:α->Value) (m:List (κ×α)) (r:Nat) (H:Hp):Prop:=
 ∃bs c,bs.length=m.length/\(r,Obj.map (ik K kv m bs).toArray c)∈H
def de (K:Ky P t κ) (kv:α->Value) (m:List (κ×α)) (r:Nat) (H:Hp):Prop:=
 ∃bs c,bs.length=m.length/\(bs.Nodup/\ ∀b∈bs,b<c)/\H=[(r,Obj.map (ik K kv m bs).toArray c)]
theorem de.r {K:Ky P t κ} {kv:α->Value} {m:List (κ×α)} {r:Nat} {H:Hp} (h:de K kv m r H):zu K kv m r H:=by
 obtain⟨bs,c,h1,_,rfl⟩:=h;exact⟨bs,c,h1,List.mem_cons_self ..⟩
theorem zu.mono {K:Ky P t κ} {kv:α->Value} {m:List (κ×α)} {r:Nat} {H H':Hp} (h:zu K kv m r H) (hs: ∀c∈H,c∈H'):zu K kv m r H':=by
 obtain⟨bs,c,h1,h2⟩:=h;exact⟨bs,c,h1,hs _ h2⟩
theorem pF {K:Ky P t κ} {kv:α->Value} {HL:List Hp} {j:Nat} {Hj:Hp} {m:List (κ×α)} {r:Nat} (h:de K kv m r Hj) (hj:idx j HL=some Hj):zu K kv m r HL.flatten:=
 h.r.mono λ_ hc=>iv (by rw[<-idx_eq];exact hj) hc
section rules
theorem qN [Inhabited α] (T:Ty P) {mt et:TypeId} (KK:Ky P t κ) (kv:α->Value) {x ix:Operand} {m:List (κ×α)} {r:Nat} {k:κ} {b:Bool} {sz by':Nat}
 (aV:o.op= .lookup mt x ix b) (hx:ev env x=some (.map (some r))) (hk:ev env ix=some (KK.enc k)) (hu:T.bW mt=some (.map t et))
 (hi:T.inf et=some (sz,by',kv default)) (hm:zu KK kv m r H):
 ic W P n env H o (bif b then .tuple #[kv (aP m k),.bool (bt m k)] else kv (aP m k)):=by
 intro t' w s ow;obtain⟨bs,c,hl,hm⟩:=hm;have hb:=ow.lookup hm;unfold execOp;have h1:=QM KK kv w m bs k hl;have h0:(Instr.lookup mt (.map (some r)) (KK.enc k) b).run P w= .ok (bif b then .tuple #[kv (aP m k),.bool (bt m k)] else kv (aP m k)) w:=by
  simp only[Instr.lookup,Sem.run_bind,df hu,Result.andThen_ok,MapKept.run_getObj_map hb,KK.check,h1]
  cases hp:gP m k with
  |none=>
   have:=ahD hp
   cases b<;>simp[aP,bt,this,BQ hi,Result.andThen,h1,hp]
  |some j=>
   obtain⟨v,h2,h3⟩:=L0 hp
   cases b<;>simp[aP,bt,h2,h3,Result.andThen,h1,hp]
 simp only[aV,bF s hx,bF s hk,Sem.run_bind,h0,Result.andThen_ok]
 rfl
theorem Of (T:Ty P) {mt et:TypeId} (KK:Ky P t κ) (kv:α->Value) {x:Operand} {m:List (κ×α)} {r:Nat}
 (aV:o.op= .call ⟨.builtin .len,#[x],#[mt]⟩) (hx:ev env x=some (.map (some r))) (hu:T.bW mt=some (.map t et)) (hm:zu KK kv m r H):
 ic W P n env H o (.int .i64 (m.length:Nat)):=by
 intro t' w s ow;obtain⟨bs,c,hl,hm⟩:=hm;have hb:=ow.lookup hm;obtain⟨cs,hr⟩:=I7 (P:=P) (t:=t') w aV;rw[hr];simp only[List.map_toArray,List.map_cons,List.map_nil,bF s hx,builtin,Builtin.len_,Sem.run_bind,List.getElem?_toArray,List.getElem?_cons_zero,Sem.run_pure,Result.andThen_ok,df hu,MapKept.run_getObj_map hb];simp[goInt,ac3 KK kv m bs hl]
theorem Mo (ow:bn W w ((b,.map es c)::Hr)):
 ∃w',(setObj b (.map EU c')).run P w= .ok () w'/\bn W w' ((b,.map EU c')::Hr):=by
 have hb:=ow.lookup (List.mem_cons_self ..);refine⟨_,MapKept.run_setObj_map _ hb,?_⟩;exact ow.turn (o':= .map EU c') (by rfl) rfl rfl rfl
theorem wo (T:Ty P) {d mt et:TypeId} (KK:Ky P t κ) (kv:α->Value) {rv:Option Operand} (hs:slot n ops env i=some (o,d)) (aV:o.op= .makeMap mt rv) (hu:T.bW mt=some (.map t et))
 (hr:match rv with |none=>True |some x=> ∃k j,ev env x=some (.int k j))
 (h: ∀r H',de KK kv ([]:List (κ×α)) r H'->aK W n K ((d,.map (some r))::env) (HL++[H'])):aK W n (wpOp P ops Q i K) env HL:=by
 obtain⟨ho,hw,hd,hn⟩:=vK hs;refine zC (β:={p:Nat×Hp // de KK kv ([]:List (κ×α)) p.1 p.2}) (V:=λp=> .map (some p.1.1)) (G:=λp=>(HL++[p.1.2]).flatten) ho hw hd hn (λtt w s ow=>?_) (λp=>h _ _ p.2);refine⟨⟨(w.heap.size,[(w.heap.size,.map #[] 0)]),⟨[],0,rfl,by simp,rfl⟩⟩,w.alloc (.map #[] 0),?_,DS _ ow⟩
 unfold execOp
 cases rv with
 |none=>simp[aV,Instr.makeMap]
 |some x=>
  obtain⟨k,j,hx⟩:=hr;simp[aV,Instr.makeMap,df hu,bF s hx,asInt,asIntOf]
theorem akQ (T:Ty P) {mt et:TypeId} (KK:Ky P t κ) (kv:α->Value) {m:List (κ×α)} {r g:Nat} {k:κ} {v:α} {Hj:Hp} {w:World}
 (hu:T.bW mt=some (.map t et)) (hj:idx g HL=some Hj) (so:de KK kv m r Hj) (ow:bn W w HL.flatten):
 ∃H' w',(Instr.mapUpdate mt (.map (some r)) (KK.enc k) (kv v)).run P w= .ok () w'/\de KK kv (cF m k v) r H'/\bn W w' (HL.set g H').flatten:=by
 obtain⟨bs,c,hl,⟨hn,hc⟩,rfl⟩:=so;have i_:HL[g]? =some [(r,Obj.map (ik KK kv m bs).toArray c)]:=by rw[<-idx_eq];exact hj
 have DR:=vC i_ ow;have hb:=DR.lookup (b:=r) (o:=Obj.map (ik KK kv m bs).toArray c) (by simp)
 have h1:=QM KK kv w m bs k hl
 cases hp:gP m k with
 |none=>
  obtain⟨w',hr,cH⟩:=Mo (P:=P) (EU:=((ik KK kv m bs).toArray.push ⟨KK.enc k,kv v,c⟩)) (c':=c+1) (by simpa using DR)
  refine⟨[(r,.map (ik KK kv (cF m k v) (bs++[c])).toArray (c+1))],w',?_,⟨bs++[c],c+1,by simp[ahE hp,hl],⟨?_,?_⟩,rfl⟩,tu i_ ?_⟩
  ·simp only[Instr.mapUpdate,Sem.run_bind,df hu,Result.andThen_ok,MapKept.run_getObj_map hb,KK.check,h1,hp,Option.bind_none,hr]
  ·rw[List.nodup_append];exact⟨hn,by simp,λa ha b hb=>by simp at hb;subst hb;exact Nat.ne_of_lt (hc a ha)⟩
  ·intro b hb;rcases List.mem_append.1 hb with hb |hb
   ·exact Nat.lt_succ_of_lt (hc b hb)
   ·simp at hb;omega
  ·rw[<-Tn KK kv m bs k v c hl hp];simpa using cH
 |some j=>
  obtain⟨v0,h2,h3⟩:=L0 hp;obtain⟨b0,h4,h5⟩:=N5 KK kv m bs j _ hl h3;obtain⟨w',hr,cH⟩:=Mo (P:=P) (EU:=((ik KK kv m bs).toArray.modify j λe=>{e with key:=KK.enc k,val:=kv v})) (c':=c) (by simpa using DR)
  refine⟨[(r,.map (ik KK kv (cF m k v) bs).toArray c)],w',?_,⟨bs,c,by rw[ahF hp,hl],⟨hn,hc⟩,rfl⟩,tu i_ ?_⟩
  ·simp only[Instr.mapUpdate,Sem.run_bind,df hu,Result.andThen_ok,MapKept.run_getObj_map hb,KK.check,h1,hp,Option.bind_some,h3,Option.map_some];simp only[List.getElem?_toArray,h4,Option.map_some,Option.getD_some,KK.stays,Result.andThen_ok,hr]
  ·rw[<-Tm KK kv m bs k v j hl hp];simpa using cH
theorem qG (T:Ty P) {mt et:TypeId} (KK:Ky P t κ) (kv:α->Value) {x ix y:Operand} {m:List (κ×α)} {r g:Nat} {k:κ} {v:α} {Hj:Hp}
 (hs:tJ ops env i=some o) (aV:o.op= .mapUpdate mt x ix y) (hx:ev env x=some (.map (some r))) (hk:ev env ix=some (KK.enc k)) (hy:ev env y=some (kv v))
 (hu:T.bW mt=some (.map t et)) (hj:idx g HL=some Hj) (so:de KK kv m r Hj)
 (h: ∀H',de KK kv (cF m k v) r H'->aK W n K env (HL.set g H')):aK W n (wpOp P ops Q i K) env HL:=by
 obtain⟨ho,hw,hd⟩:=B3 hs;refine Ke (β:={H':Hp // de KK kv (cF m k v) r H'}) (G:=λp=>(HL.set g p.1).flatten) ho hw hd (λtt w s ow=>?_) (λp=>h _ p.2);obtain⟨H',w',hr,rT,cH⟩:=akQ (P:=P) T (v:=v) (k:=k) KK kv hu hj so ow;refine⟨⟨H',rT⟩,w',.inl ?_,cH⟩;unfold execOp;simp only[aV,bF s hx,bF s hk,bF s hy,Sem.run_bind,hr,Result.andThen_ok]
 rfl
theorem acI (T:Ty P) {mt et t2 ty:TypeId} (KK:Ky P t κ) (kv:α->Value) {m:List (κ×α)} {r g:Nat} {k:κ} {Hj:Hp} {w:World}
 (hu:T.bW mt=some (.map t et)) (hj:idx g HL=some Hj) (so:de KK kv m r Hj) (ow:bn W w HL.flatten):
 ∃H' w',(Builtin.delete_ #[mt,t2] ty #[.map (some r),KK.enc k]).run P w= .ok (.tuple #[]) w'/\de KK kv (eF m k) r H'/\bn W w' (HL.set g H').flatten:=by
 obtain⟨bs,c,hl,⟨hn,hc⟩,rfl⟩:=so;have i_:HL[g]? =some [(r,Obj.map (ik KK kv m bs).toArray c)]:=by rw[<-idx_eq];exact hj
 have DR:=vC i_ ow;have hb:=DR.lookup (b:=r) (o:=Obj.map (ik KK kv m bs).toArray c) (by simp)
 have h1:=QM KK kv w m bs k hl
 cases hp:gP m k with
 |none=>
  obtain⟨w',hr,cH⟩:=Mo (P:=P) (EU:=(ik KK kv m bs).toArray) (c':=c) (by simpa using DR)
  refine⟨[(r,.map (ik KK kv (eF m k) bs).toArray c)],w',?_,⟨bs,c,by rw[WZ hp,hl],⟨hn,hc⟩,rfl⟩,tu i_ ?_⟩
  ·simp[Builtin.delete_,df hu,MapKept.run_getObj_map hb,KK.check,h1,hp,hr]
  ·rw[WZ hp];simpa using cH
 |some j=>
  obtain⟨v0,h2,h3⟩:=L0 hp;obtain⟨e1,e2⟩:=Tl KK kv m bs k j hl hp;obtain⟨w',hr,cH⟩:=Mo (P:=P) (EU:=((ik KK kv m bs).toArray.eraseIdxIfInBounds j)) (c':=c) (by simpa using DR)
  have this:((ik KK kv m bs).toArray.eraseIdxIfInBounds j)=((ik KK kv m bs).eraseIdx j).toArray:=by apply Array.ext';simp
  rw[this] at hr cH;refine⟨[(r,.map (ik KK kv (eF m k) (bs.eraseIdx j)).toArray c)],w',?_,⟨bs.eraseIdx j,c,e2,⟨hn.sublist (List.eraseIdx_sublist ..),λb hb=>hc b (List.mem_of_mem_eraseIdx hb)⟩,rfl⟩,tu i_ ?_⟩
  ·simp[Builtin.delete_,df hu,MapKept.run_getObj_map hb,KK.check,h1,hp,h3,hr]
  ·rw[<-e1];simpa using cH
theorem EK (T:Ty P) {mt t2 et:TypeId} (KK:Ky P t κ) (kv:α->Value) {x ix:Operand} {m:List (κ×α)} {r g:Nat} {k:κ} {Hj:Hp}
 (ho:ops[i]? =some o) (hw:want ops env o=some true) (hd:o.dst=none) (aV:o.op= .call ⟨.builtin .delete,#[x,ix],#[mt,t2]⟩) (hx:ev env x=some (.map (some r))) (hk:ev env ix=some (KK.enc k))
 (hu:T.bW mt=some (.map t et)) (hj:idx g HL=some Hj) (so:de KK kv m r Hj)
 (h: ∀H',de KK kv (eF m k) r H'->aK W n K env (HL.set g H')):aK W n (wpOp P ops Q i K) env HL:=by
 refine Ke (β:={H':Hp // de KK kv (eF m k) r H'}) (G:=λp=>(HL.set g p.1).flatten) ho hw hd (λtt w s ow=>?_) (λp=>h _ p.2);obtain⟨H',w',hr,rT,cH⟩:=acI (P:=P) T (t2:=t2) (ty:=o.type) (k:=k) KK kv hu hj so ow;refine⟨⟨H',rT⟩,w',.inr ⟨.tuple #[],?_⟩,cH⟩;obtain⟨cs,hb⟩:=I7 (P:=P) (t:=tt) w aV;rw[hb];simp only[List.map_toArray,List.map_cons,List.map_nil,bF s hx,bF s hk,builtin,Sem.run_bind];refine Eq.trans (congrArg (λr=>Result.andThen r _) hr) ?_;simp only[Result.andThen_ok,Sem.run_pure]
end rules
end ah7
end
section
def N7 (T:Ty P) (t:TypeId) (a b:Value):Option Bool:=
 match T.bW t,a,b with
 |some (.int _),.int k x,.int k' y=>bif Ah k k' then some (x==y) else none
 |some .bool,.bool x,.bool y=>some (x==y)
 |_,_,_=>none
theorem ac5 {T:Ty P} {t:TypeId} {a b:Value} {e:Bool} (h:N7 T t a b=some e) (d:Nat) (w:World):(Op.equalIn (d+1) t a b).run P w= .ok e w:=by
 unfold N7 at h;split at h
 ·rename_i hu;rename_i k x k' y
  cases hk:Ah k k'<;>simp[hk] at h
  subst h;obtain rfl:=LC hk;simp only[Op.equalIn,Sem.run_bind,df hu,Result.andThen_ok,if_true,Sem.run_pure]
 ·rename_i hu;simp at h;subst h;simp only[Op.equalIn,Sem.run_bind,df hu,Result.andThen_ok,Sem.run_pure]
 ·cases h
def CZ (T:Ty P) (xs ys:List Value):List Field->Option Bool
 |[]=>some true
 |f::r=>match FD T f.type xs f.offset,FD T f.type ys f.offset with
  |some a,some b=>match N7 T f.type a b,CZ T xs ys r with
   |some e,some e'=>some (e&&e')
   |_,_=>none
  |_,_=>none
theorem ac4 {T : Ty P} {xs ys : Array Value} (d : Nat) (w : World) : ∀ (fs : List Field) (e : Bool), (∀ f ∈ fs, f.name ≠ "_") → CZ T xs.toList ys.toList fs = some e →
 (forIn (m:=Sem) fs (⟨none,()⟩:Option Bool×Unit) λf _=>do
   if f.name ≠ "_" then
    if !(<-Op.equalIn (d+1) f.type (<-part f.type xs f.offset) (<-part f.type ys f.offset)) then pure (ForInStep.done ⟨some false,()⟩) else pure (ForInStep.yield ⟨none,()⟩)
   else pure (ForInStep.yield ⟨none,()⟩)).run P w= .ok (if e then⟨none,()⟩ else⟨some false,()⟩) w:=by
 intro fs
 induction fs with
 |nil=>intro e _ h;simp[CZ] at h;subst h;simp
 |cons f r ih=>
  intro e hn h;simp only[CZ] at h;split at h
  ·rename_i a b h1 h2;split at h
   ·rename_i e1 e2 h3 h4;simp at h;subst h;have hf:=hn f (by simp)
    rw[List.forIn_cons];simp only[hf,ne_eq,not_false_eq_true,if_true,Sem.run_bind,Mb h1,Mb h2,ac5 h3,Result.andThen_ok]
    cases e1
    ·simp
    ·simp only[Bool.not_true,Bool.false_eq_true,if_false,Sem.run_pure,Result.andThen_ok,Bool.true_and];exact ih e2 (λf hf=>hn f (by simp[hf])) h4
   ·cases h
  ·cases h
theorem RV {T : Ty P} {t : TypeId} {fs : Array Field} {xs ys : Array Value} {e : Bool} (hu : T.bW t = some (.struct fs)) (hs : P.stoodInHeld t = false) (hn : fs.toList.all (fun f => f.name != "_") = true)
 (h:CZ T xs.toList ys.toList fs.toList=some e) (w:World):(Op.equal t (.agg xs) (.agg ys)).run P w= .ok e w:=by
 show(Op.equalIn (9998+1+1) t _ _).run P w=_
 generalize 9998=d
 have HR : ∀ f ∈ fs.toList, f.name ≠ "_" := fun f hf => by simpa using List.all_eq_true.1 hn f hf
 have:=ac4 (P:=P) d w fs.toList e HR h;rw[Op.equalIn];simp only[Sem.run_bind,df hu,Result.andThen_ok,run_program,hs,Bool.false_eq_true,if_false];rw[<-Array.forIn_toList];refine Eq.trans (congrArg (λr=>Result.andThen r _) this) ?_
 cases e<;>simp
section rules
theorem Ub {t:TypeId} (h:P.eqGuardType P.depth t=false):(eqGuard op t x y (.agg a) (.agg b)).run P w= .ok () w:=by
 unfold eqGuard;rw[Sem.run_ite];refine LD (λ_=>rfl) (λ_=>?_);simp[h]
theorem ads (T:Ty P) (e:Bool) (aV:o.op= .binOp .eql t x y yt) (hx:ev env x=some (.agg xs)) (hy:ev env y=some (.agg ys))
 (hu : T.bW t = some (.struct fs)) (hs : P.stoodInHeld t = false ∧ P.eqGuardType P.depth t = false) (hn : fs.toList.all (fun f => f.name != "_") = true) (h : CZ T xs.toList ys.toList fs.toList = some e) :
 ic W P n env H o (.bool e):=by
 intro t1 w s ow;unfold execOp;simp only[aV,bF s hx,bF s hy];simp only[Sem.run_bind,Ub hs.2,Result.andThen_ok,binOp,RV hu hs.1 hn h w,Sem.run_pure]
theorem Oe (T:Ty P) (e:Bool) (aV:o.op= .binOp .neq t x y yt) (hx:ev env x=some (.agg xs)) (hy:ev env y=some (.agg ys))
 (hu : T.bW t = some (.struct fs)) (hs : P.stoodInHeld t = false ∧ P.eqGuardType P.depth t = false) (hn : fs.toList.all (fun f => f.name != "_") = true) (h : CZ T xs.toList ys.toList fs.toList = some e) :
 ic W P n env H o (.bool (!e)):=by
 intro t1 w s ow;unfold execOp;simp only[aV,bF s hx,bF s hy];simp only[Sem.run_bind,Ub hs.2,Result.andThen_ok,binOp,RV hu hs.1 hn h w,Sem.run_pure]
end rules
end
section
theorem wi (h1: -9223372036854775808<=x) (h2:x<=9223372036854775807):af x=x:=by
 unfold af IntKind.wrap IntKind.signed IntKind.bits;simp;omega
theorem akS (h1:0<=x) (h2:x<=4294967295):Js x=x:=by
 unfold Js IntKind.wrap IntKind.signed IntKind.bits;simp;omega
theorem akT (x:Int):dZ (bP x):=by
 unfold bP IntKind.wrap IntKind.signed IntKind.bits dZ;simp;omega
theorem cI:fuel=18446744073709551616:=by unfold fuel;rfl
theorem bl (h:n<k): ∃q,k=q+1:=⟨k-1,by omega⟩
section lists
variable [Inhabited α]
theorem lR {L:List α} {i c:Int} {v:α} (h0:0<=i) (h1:i<L.length) (c0:0<=c):rd (List.set L i.toNat v) c=if c=i then v else rd L c:=by
 unfold rd
 by_cases hc:c=i
 ·subst hc;rw[if_pos rfl];simp[List.getD,show c.toNat<L.length by omega]
 ·rw[if_neg hc];have:i.toNat≠c.toNat:=U;simp[List.getD,this]
theorem QB {L:List α} {v:α} {c:Int} (c0:0<=c) (h:c<=L.length):rd (L++[v]) c=if c=L.length then v else rd L c:=by
 unfold rd
 by_cases hc:c=L.length
 ·rw[if_pos hc,hc];simp[List.getD]
 ·rw[if_neg hc];simp[List.getD,List.getElem?_append_left (show c.toNat<L.length by omega)]
theorem vG {L M:List α} {c:Int} (c0:0<=c) (h:c<L.length):rd (L++M) c=rd L c:=by
 unfold rd;simp[List.getD,List.getElem?_append_left (show c.toNat<L.length by omega)]
theorem nt {L M:List α} {c:Int} (h:L.length<=c):rd (L++M) c=rd M (c-L.length):=by
 unfold rd;have h1: ¬c.toNat<L.length:=U;simp[List.getD,List.getElem?_append_right (show L.length<=c.toNat by omega),show(c-(L.length:Int)).toNat=c.toNat-L.length by omega]
theorem uC {n:Nat} {v:α} {c:Int} (c0:0<=c) (h:c<n):rd (List.replicate n v) c=v:=by
 unfold rd;simp[List.getD,show c.toNat<n by omega]
theorem Ax {β:Type} [Inhabited β] {L:List β} {f:β->α} {c:Int} (c0:0<=c) (h:c<L.length):rd (L.map f) c=f (rd L c):=by
 unfold rd;simp[List.getD,show c.toNat<L.length by omega]
theorem FL {L:List α} {n:Nat} (h:n<L.length):rd L (n:Int)=L[n]:=by simp[rd,h]
theorem CV {a:List α} {i:Int} (h0:0<=i) (h1:i<a.length):a.drop i.toNat=rd a i::a.drop (i+1).toNat:=by
 have aS:i.toNat<a.length:=U;rw[jc aS,show(i+1).toNat=i.toNat+1 by omega]
 exact List.drop_eq_getElem_cons aS
theorem Jn {a:List α} {i:Int} (h0:0<=i) (h1:i<a.length):a.take (i+1).toNat=a.take i.toNat++[rd a i]:=by
 have aS:i.toNat<a.length:=U;rw[jc aS,show(i+1).toNat=i.toNat+1 by omega,List.take_add_one,List.getElem?_eq_getElem aS];rfl
theorem dR {a:List α} {i:Int} (h0:0<=i) (h1:i<a.length):rd a i∈a:=by
 have aS:i.toNat<a.length:=U;rw[jc aS];exact List.getElem_mem aS
theorem ka {a:List α} {x:α} (h:x∈a): ∃i:Int,0<=i/\i<a.length/\rd a i=x:=by
 obtain⟨n,hn,rfl⟩:=List.mem_iff_getElem.1 h;exact⟨n,by omega,by omega,FL hn⟩
theorem xe {a b:List α} (hl:a.length=b.length) (h: ∀i:Int,0<=i->i<a.length->rd a i=rd b i):a=b:=by
 apply List.ext_getElem hl;intro n h1 h2;have:=h n U U;rwa[FL h1,FL h2] at this
theorem vD {a:List α} {R:α->α->Prop} (h:a.Pairwise R) {i j:Int} (h0:0<=i) (h1:i<j) (h2:j<a.length):R (rd a i) (rd a j):=by
 have hi:i.toNat<a.length:=U;have hj:j.toNat<a.length:=U;rw[jc hi,jc hj];exact List.pairwise_iff_getElem.1 h _ _ hi hj U
theorem QC {a:List α} {R:α->α->Prop} (h: ∀i j:Int,0<=i->i<j->j<a.length->R (rd a i) (rd a j)):a.Pairwise R:=by
 rw[List.pairwise_iff_getElem];intro i j hi hj tj;have:=h i j U U U;rwa[FL hi,FL hj] at this
end lists
section maps
variable [DecidableEq κ]
theorem BG (m:List (κ×α)) (x y:κ) (v:α):cN (cF m x v) y=if x=y then some v else cN m y:=by
 induction m with
 |nil=>simp[cF,cN]
 |cons e r ih=>
  simp only[cF,cN]
  by_cases h1:e.1=x
  ·rw[if_pos h1];simp only[cN]
   by_cases h2:x=y
   ·simp[h2]
   ·simp[h2,h1]
  ·rw[if_neg h1];simp only[cN]
   by_cases h2:e.1=y
   ·rw[if_pos h2,if_pos h2,if_neg (λe'=>h1 (h2.trans e'.symm))]
   ·rw[if_neg h2,if_neg h2,ih]
theorem ahr {m:List (κ×α)} {x:κ}:cN m x=none↔x∉m.map (·.1):=by
 induction m with
 |nil=>simp[cN]
 |cons e r ih=>
  simp only[cN,List.map_cons,List.mem_cons,not_or]
  by_cases h:e.1=x
  ·rw[if_pos h];simp[h]
  ·rw[if_neg h,ih];exact⟨λq=>⟨λz=>h z.symm,q⟩,λq=>q.2⟩
theorem LW {m:List (κ×α)} (hn:(m.map (·.1)).Nodup) (x y:κ):cN (eF m x) y=if x=y then none else cN m y:=by
 induction m with
 |nil=>simp[eF,cN]
 |cons e r ih=>
  simp only[List.map_cons,List.nodup_cons] at hn;simp only[eF,cN]
  by_cases h1:e.1=x
  ·rw[if_pos h1]
   by_cases h2:x=y
   ·rw[if_pos h2,ahr,<-h2,<-h1];exact hn.1
   ·rw[if_neg h2,if_neg (λe'=>h2 (h1.symm.trans e'))]
  ·rw[if_neg h1];simp only[cN]
   by_cases h2:e.1=y
   ·rw[if_pos h2,if_pos h2,if_neg (λe'=>h1 (h2.trans e'.symm))]
   ·rw[if_neg h2,if_neg h2,ih hn.2]
theorem Fy (m:List (κ×α)) (x y:κ) (v:α):bt (cF m x v) y=(decide (x=y)||bt m y):=by
 unfold bt;rw[BG]
 by_cases h:x=y<;>simp[h]
theorem aht {m:List (κ×α)} (hn:(m.map (·.1)).Nodup) (x y:κ):bt (eF m x) y=(!decide (x=y)&&bt m y):=by
 unfold bt;rw[LW hn]
 by_cases h:x=y<;>simp[h]
theorem rX [Inhabited α] (m:List (κ×α)) (x y:κ) (v:α):aP (cF m x v) y=if x=y then v else aP m y:=by
 unfold aP;rw[BG]
 by_cases h:x=y<;>simp[h]
theorem W3 [Inhabited α] {m:List (κ×α)} (hn:(m.map (·.1)).Nodup) (x y:κ):aP (eF m x) y=if x=y then default else aP m y:=by
 unfold aP;rw[LW hn]
 by_cases h:x=y<;>simp[h]
theorem ahH [Inhabited α] {m:List (κ×α)} {x:κ} {v:α} (h:cN m x=some v):aP m x=v:=by simp[aP,h]
theorem IF {m:List (κ×α)} {x:κ} {v:α} (h:cN m x=some v):bt m x=true:=by simp[bt,h]
theorem ahx {m:List (κ×α)} {x:κ} {v:α}:(cF m x v).map (·.1)=if x∈m.map (·.1) then m.map (·.1) else m.map (·.1)++[x]:=by
 induction m with
 |nil=>simp[cF]
 |cons e r ih=>
  simp only[cF]
  by_cases h:e.1=x
  ·rw[if_pos h];simp[h]
  ·rw[if_neg h];have h': ¬x=e.1:=λq=>h q.symm
   simp only[List.map_cons,ih,List.mem_cons,h',false_or];split<;>simp
theorem DG {m:List (κ×α)} (hn:(m.map (·.1)).Nodup) (x:κ) (v:α):((cF m x v).map (·.1)).Nodup:=by
 rw[ahx];split
 ·exact hn
 ·rw[List.nodup_append];exact⟨hn,by simp,λa ha b hb e=>by simp at hb;subst hb;subst e;contradiction⟩
theorem ahp {m:List (κ×α)} {x:κ}:(eF m x).Sublist m:=by
 induction m with
 |nil=>simp[eF]
 |cons e r ih=>
  simp only[eF]
  by_cases h:e.1=x
  ·rw[if_pos h];exact List.sublist_cons_self ..
  ·rw[if_neg h];exact ih.cons_cons e
theorem LV {m:List (κ×α)} (hn:(m.map (·.1)).Nodup) (x:κ):((eF m x).map (·.1)).Nodup:=hn.sublist (ahp.map _)
theorem W2 {m:List (κ×α)} {x:κ} {v:α}:(cF m x v).length=if bt m x=true then m.length else m.length+1:=by
 induction m with
 |nil=>simp[cF,bt,cN]
 |cons e r ih=>
  simp only[cF]
  by_cases h:e.1=x
  ·rw[if_pos h];simp[bt,cN,h]
  ·rw[if_neg h];have:bt (e::r) x=bt r x:=by simp[bt,cN,h]
   rw[this];simp only[List.length_cons,ih];split<;>rfl
theorem aho {m:List (κ×α)} {x:κ}:(eF m x).length=if bt m x=true then m.length-1 else m.length:=by
 induction m with
 |nil=>simp[eF,bt,cN]
 |cons e r ih=>
  simp only[eF]
  by_cases h:e.1=x
  ·rw[if_pos h];simp[bt,cN,h]
  ·rw[if_neg h];have h2:bt (e::r) x=bt r x:=by simp[bt,cN,h]
   rw[h2];simp only[List.length_cons,ih];split
   ·rename_i hh;have:r≠[]:=by intro e';subst e';simp[bt,cN] at hh
    have:0<r.length:=List.length_pos_iff.2 this;omega
   ·rfl
end maps
end
section
section rules
variable {HL : List Hp}
theorem KD (T:Ty P) (aV:o.op= .build t parts)
 (hu:T.bW t=some (.array len e)) (hi:T.inf t=some (s2,b2,z2)) (he:T.inf e=some (sz,by',z)) (hv:(parts.toList.mapM λp=>(ev env p.2).map λv=>(p.1,v))=some vs)
 (hf:wC (λi=>some (i*sz,sz)) (bN z2) vs=some cs):ic W P n env H o (.agg cs.toArray):=by
 intro t' w s ow;unfold execOp;have h1:bN z2=(z2.cells).toList:=(sT z2).symm;rw[h1] at hf;have h2:=Oc _ _ _ _ hf;have h4:=N9 s hv;have h6:(parts.map λ(x:Nat×Operand)=>(x.1,Act.eval ⟨t',[]⟩ x.2)).toList=vs:=by rw[<-h4];simp
 simp only[aV,Instr.build,Sem.run_bind,BQ hi,Result.andThen_ok,df hu,kq he,h6,h2,Sem.run_pure]
theorem TM [Inhabited α] (T:Ty P) (k:Fl α) (xs:List α) (aV:o.op= .index t x ix)
 (hx:ev env x=some (.agg (row k xs).toArray)) (zZ:ev env ix=some (.int kk j)) (hu:T.bW t=some (.array len e)) (he:T.inf e=some (sz,by',z)) (hue:T.bW e=some td) (ha:oz td=false)
 (hk:k.size=sz) (hl:xs.length=len) (hb:0<=j/\j<(xs.length:Int)) (hv:idx 0 (k.enc (rd xs j))=some v):ic W P n env H o v:=by
 intro t' w s ow;unfold execOp;have hj:j.toNat<xs.length:=U;have hp:=k.pos;have hg:=D6 k xs j.toNat 0 hj hp;rw[jc hj,idx_eq] at hv;rw[hv,hk,Nat.add_zero] at hg;have hc:0<=j/\j<(len:Int):=U;have agc:(part e (row k xs).toArray (j.toNat*sz)).run P w= .ok v w:=by
  refine Mb (T:=T) ?_ w;unfold FD;simp only[hue,he,ha,cond_false,idx_eq];exact hg
 simp only[aV,bF s hx,bF s zZ,Instr.index,asIntOf,Sem.run_bind,Sem.run_pure,Result.andThen_ok,df hu,Sem.run_ite,hc,and_self,if_true,kq he,agc]
theorem oP (hm:(b,Obj.cells arr E fr)∈F) (hj:idx j HL=some F) (hv:idx off arr.toList=some v):
 ∃arr E fr,(b,Obj.cells arr E fr)∈HL.flatten/\arr[off]? =some v:=
 ⟨arr,E,fr,iv (by rw[<-idx_eq];exact hj) hm,by rw[idx_eq] at hv;simpa using hv⟩
theorem agr (hm:(b,Obj.cells arr E fr)∈F) (hj:idx j HL=some F) (hv:(arr.toList.drop off).take cs.length=cs):
 ∃arr E fr,(b,Obj.cells arr E fr)∈HL.flatten/\ ∀j v,cs[j]? =some v->arr[off+j]? =some v:=
 ⟨arr,E,fr,iv (by rw[<-idx_eq];exact hj) hm,λj v h=>by
   rw[<-hv] at h;have hl:=(List.getElem?_eq_some_iff.1 h).1;rw[List.getElem?_take_of_lt (by simp at hl;omega),List.getElem?_drop] at h
   simpa using h⟩
theorem qT (hm:c∈F) (hj:idx j HL=some F):c∈HL.flatten:=iv (by rw[<-idx_eq];exact hj) hm
theorem DE (hj:idx j HL=some ((b,ob)::Hr)):(b,ob)∈HL.flatten:=iv (by rw[<-idx_eq];exact hj) (List.mem_cons_self ..)
end rules
theorem ak.pre (so:ak k E xs a cap H) (h:0<=(0:Int)/\0<=hi/\hi<=(xs.length:Int)):
 ak k E (aB xs 0 hi) (gy a cap (Int.toNat 0) k.size) (cap-Int.toNat 0) H:=by
 have hs:gy a cap (Int.toNat 0) k.size=a:=by
  unfold gy;split
  ·rfl
  ·cases a with
   |none=>rfl
   |some ad=>simp[Addr.add]
 have hx:aB xs 0 hi=xs.take hi.toNat:=by simp[aB]
 rw[hs,hx,show cap-Int.toNat 0=cap by simp]
 rcases so with⟨h1,h2,h3,h4⟩ |⟨b,pre,post,h1,h2,h3,h4⟩
 ·exact .inl ⟨h1,by rw[h2];simp,h3,h4⟩
 ·refine .inr ⟨b,pre,row k (xs.drop hi.toNat)++post,h1,?_,by simp;omega,?_⟩
  ·rw[h2];have:row k xs=row k (xs.take hi.toNat)++row k (xs.drop hi.toNat):=by rw[<-qY,List.take_append_drop]
   rw[this];simp
  ·simp only[List.length_append,lU,List.length_drop,List.length_take];have e:(cap-min hi.toNat xs.length)*k.size<=(xs.length-hi.toNat+(cap-xs.length))*k.size:=Nat.mul_le_mul_right _ U;rw[Nat.add_mul] at e;omega
end
section
section
variable {k : Fl α}
theorem ak.Wu (so:ak k E xs a cap Hj) (hc:xs=[]->a=none):Option.isNone a=List.isEmpty xs:=by
 cases a with
 |none=>
  rcases so with⟨_,h,_,_⟩ |⟨b,pre,post,h,_⟩
  ·subst h;rfl
  ·cases h
 |some ad=>
  cases xs with
  |nil=>cases hc rfl
  |cons x r=>rfl
theorem adt (T:Ty P) (aV:o.op= .binOp .eql t x y yt) (hx:ev env x=some (.slice a m cap)) (hy:ev env y=some (.slice none n' c'))
 (hu:T.bW t=some (.slice e)) (so:ak k E xs a cap Hj) (hc:xs=[]->a=none):ic W P n env H o (.bool (List.isEmpty xs)):=by
 intro t1 w s ow;unfold execOp;simp only[aV,bF s hx,bF s hy];have h:zH T .eql t (.slice a m cap) (.slice none n' c')=some (.bool a.isNone):=by simp[zH,hu]
 rw[Sem.run_bind,NB h w,so.Wu hc];rfl
theorem adu (T:Ty P) (aV:o.op= .binOp .neq t x y yt) (hx:ev env x=some (.slice a m cap)) (hy:ev env y=some (.slice none n' c'))
 (hu:T.bW t=some (.slice e)) (so:ak k E xs a cap Hj) (hc:xs=[]->a=none):ic W P n env H o (.bool (!List.isEmpty xs)):=by
 intro t1 w s ow;unfold execOp;simp only[aV,bF s hx,bF s hy];have h:zH T .neq t (.slice a m cap) (.slice none n' c')=some (.bool (!a.isNone)):=by simp[zH,hu]
 rw[Sem.run_bind,NB h w,so.Wu hc];rfl
theorem Qf (h:List.isEmpty xs=false∨List.isEmpty ys=false):xs++ys=[]->a=none:=λe=>by
 rw[List.append_eq_nil_iff] at e;rw[e.1,e.2] at h;simp at h
end
end
section
variable {W : World}
variable {P : Program}
section
theorem zQ (T:Ty P) (aV:o.op= .indexAddr t x ix)
 (hx:ev env x=some (.pointer (some ⟨b,0,none⟩))) (zZ:ev env ix=some (.int kk j)) (hu:T.bW t=some (.array m E)) (hi:T.inf E=some (1,by',z))
 (hj:0<=j/\j<(m:Int)):ic W P n env H o (.pointer (some ⟨b,j.toNat,none⟩)):=by
 intro t' w s ow;obtain⟨h0,h1⟩:=hj;unfold execOp;simp only[aV,bF s hx,bF s zZ,Instr.indexAt,Instr.sureAddr,asIntOf,Sem.run_bind,Sem.run_pure,Result.andThen_ok,df hu,Sem.run_ite,h0,h1,and_self,if_true,kq hi]
 congr 3
 unfold Addr.add;split
 ·rename_i h;have:j.toNat=0:=U;simp[this]
 ·simp
end
section
theorem aaR {x:Code} {σ:Type} (I:σ->Prop) (E:σ->Env) (G:σ->List Hp) (h1:At W n (x.wp P (Exit.then (ED W n I E G) Q)) env H)
 (h2: ∀s,I s->aK W n (Q .normal) (E s) (G s)):At W n (x.wp P Q) env H:=by
 refine h1.mono λa w h=>wp_mono h λe a w h=>?_
 cases e with
 |normal=>
  obtain⟨s,hi,t,rfl,sl,o⟩:=h;exact h2 s hi t w sl o
 |_=>exact h
end
theorem nC (h:0<=lo/\lo<=hi/\hi<=(xs.length:Int)) (hc:xs.length<=cap):(aB xs lo hi).length<=cap-lo.toNat:=by
 have:=je h;omega
end
section
variable {W : World}
variable {P : Program}
abbrev Hd:=Option Addr×Nat×Nat
def vt (h:Hd):Value:= .slice h.1 h.2.1 h.2.2
section rules
variable {κ α : Type} [DecidableEq κ] {t : TypeId} {k : Fl α} {E : TypeId}
variable {T : Ty P} {n : Nat} {Q : Exit -> Act -> World -> Prop} {env : Env} {HL : List Hp} {ops : Array Oper} {i : Nat} {K : Act -> World -> Prop} {o : Oper}
theorem G_ (T:Ty P) {mt et:TypeId} (KK:Ky P t κ) {x ix:Operand} {r:Nat} {kx:κ} {v:Hd} {sz by':Nat}
 (aV:o.op= .lookup mt x ix false) (hx:ev env x=some (.map (some r))) (hk:ev env ix=some (KK.enc kx)) (hu:T.bW mt=some (.map t et))
 (hi:T.inf et=some (sz,by',.slice none 0 0)) (hm: ∃hs,zu KK vt hs r H/\aP hs kx=v):
 ic W P n env H o (.slice v.1 v.2.1 v.2.2):=by
 obtain⟨hs,h1,h2⟩:=hm;have:=qN (W:=W) (n:=n) (o:=o) T KK vt (k:=kx) (b:=false) (sz:=sz) (by':=by') aV hx hk hu hi h1
 rw[h2] at this;exact this
end rules
end
section
variable {W : World}
variable {P : Program}
open Go.ChangeMaps (setBlock)
section rules
variable {κ α : Type} [DecidableEq κ] {t : TypeId} {k : Fl α} {E : TypeId}
variable {T : Ty P} {n : Nat} {Q : Exit -> Act -> World -> Prop} {env : Env} {HL : List Hp} {ops : Array Oper} {i : Nat} {K : Act -> World -> Prop} {o : Oper}
end rules
end
section
structure Nk (α β γ:Type) where
 kin:Fl γ
 ein:TypeId
 kh:Fl β
 get:α->List γ
 set:α->List γ->α
 hd:α->Option Addr->Nat->β
 alq: ∀x l,get (set x l)=l
end
section
def yP (q:IntKind) (x:Int×Int):Value:= .agg #[.int q x.1,.int q x.2]
theorem Mi (T:Ty P) (hu:T.bW et=some (.int q)) (hv:cs[i]? =some v) (w:World):(part et cs i).run P w= .ok v w:=by
 unfold part;simp[FO hu,oz,hv]
theorem ajq (T:Ty P) (ht:T.bW t=some (.array 2 et)) (hu:T.bW et=some (.int q)) (hi:T.inf et=some (1,by',z)) (w:World) (x y:Int×Int):
 (Op.equal t (yP q x) (yP q y)).run P w= .ok (decide (x=y)) w:=by
 show(Op.equalIn (9998+1+1) t _ _).run P w=_
 generalize 9998=d;have e0: ∀a b:Int,(Op.equalIn (d+1) et (.int q a) (.int q b)).run P w= .ok (a==b) w:=λa b=>by
  simp only[Op.equalIn,Sem.run_bind,df hu,Result.andThen_ok,if_true,Sem.run_pure]
 have p0: ∀a b:Int,(part et #[.int q a,.int q b] 0).run P w= .ok (.int q a) w:=λa b=>Mi T hu rfl w
 have p1: ∀a b:Int,(part et #[.int q a,.int q b] 1).run P w= .ok (.int q b) w:=λa b=>Mi T hu rfl w
 unfold yP;rw[Op.equalIn];simp only[Sem.run_bind,df ht,Result.andThen_ok,kq hi];obtain⟨x1,x2⟩:=x;obtain⟨y1,y2⟩:=y
 by_cases h1:x1=y1
 ·by_cases h2:x2=y2
  ·simp[List.range',p0,p1,e0,h1,h2]
  ·simp[List.range',p0,p1,e0,h1,h2]
 ·simp[List.range',p0,p1,e0,h1]
theorem Tx (T:Ty P) (ht:T.bW t=some (.array 2 et)) (hu:T.bW et=some (.int q)) (hi:T.inf et=some (1,by',z)) (w:World) (x:Int×Int):
 ∀(es:List MapEntry) (ks:List (Int×Int)) (j:Nat),es.map (·.key)=ks.map (yP q)->
  (Instr.findAsking t (yP q x) es j).run P w= .ok ((gP (ks.map λk=>(k,())) x).bind λi=>(es[i]?).map λe=>(i+j,e.val)) w
 |[],[],_,_=>rfl
 |[],_::_,_,h=>by simp at h
 |_::_,[],_,h=>by simp at h
 |e::es,k::ks,j,h=>by
  simp only[List.map_cons,List.cons.injEq] at h;obtain⟨h1,h2⟩:=h;have:=ajq T ht hu hi w x k;simp only[Instr.findAsking,h1,Sem.run_bind,this,Result.andThen_ok,List.map_cons,gP]
  by_cases hk:k=x
  ·subst hk;simp
  ·have hk': ¬x=k:=λq=>hk q.symm
   simp only[hk,hk',decide_false,Bool.false_eq_true,if_false];rw[Tx T ht hu hi w x es ks (j+1) h2]
   cases hp:gP (ks.map λk=>(k,())) x with
   |none=>simp
   |some i=>
    simp only[Option.map_some,Option.bind_some,List.getElem?_cons_succ];rw[show i+1+j=i+(j+1) by omega]
def Ky.pair (T:Ty P) {t et:TypeId} (q:IntKind) {by':Nat} {z:Value} (ht:T.bW t=some (.array 2 et)) (hu:T.bW et=some (.int q)) (hi:T.inf et=some (1,by',z)) (ht':P.underlying t=some (.array 2 et)) (kJ:P.underlying et=some (.int q)):Ky P t (Int×Int) where
 enc:=yP q
 check:=λe w x=>by
  have c0: ∀a:Int,(Instr.checkKey e 9999 et (.int q a)).run P w= .ok () w:=λa=>MapKept.run_checkKey kJ (by simp[MapKept.IsKey]) e 9998
  have p0: ∀a b:Int,(part et #[.int q a,.int q b] 0).run P w= .ok (.int q a) w:=λa b=>Mi T hu rfl w
  have p1: ∀a b:Int,(part et #[.int q a,.int q b] 1).run P w= .ok (.int q b) w:=λa b=>Mi T hu rfl w
  obtain⟨a,b⟩:=x
  show(Instr.checkKey e (9999+1) t (yP q (a,b))).run P w=_
  unfold yP;generalize 9999=d at c0;rw[Instr.checkKey];simp[List.range',df ht,kq hi,p0,p1,c0]
 find:=λw x es ks h=>by
  have hf:=Tx T ht hu hi w x es ks 0 h;unfold Instr.findKey;simp only[Sem.run_bind,df ht,Result.andThen_ok]
  cases es with
  |nil=>
   cases ks with
   |nil=>rfl
   |cons _ _=>simp at h
  |cons e es=>
   cases ks with
   |nil=>simp at h
   |cons k ks=>
    simp only[List.map_cons,List.cons.injEq] at h;have:Instr.findNow (.array 2 et) (yP q x) (e::es) 0=none:=by
     simp[Instr.findNow,Instr.sameNow]
    rw[this];simpa using hf
 stays:=λw x=>by
  unfold Instr.keyThatStays yP;simp[Instr.sameBits]
end
section
structure Kd (α:Type) where
 size:Nat
 own:α->List Value->Hp->Prop
 nt:α->List Value->Hp->Prop
 len: ∀x cs H,own x cs H->cs.length=size
 plain: ∀x cs H,own x cs H-> ∀v∈cs,v.oneCell'=true
 r: ∀x cs H,own x cs H->nt x cs H
 mono: ∀x cs H H',nt x cs H->(∀c∈H,c∈H')->nt x cs H'
 pos:0<size
structure Rw (n:Nat) where
 val:List Value
 len:val.length=n
 plain: ∀v∈val,v.oneCell'=true
instance (n:Nat):Inhabited (Rw n):=⟨⟨List.replicate n (.bool false),by simp,by intro v h;rw[List.mem_replicate] at h;rw[h.2];rfl⟩⟩
def Fl.raw (n:Nat) (h:0<n):Fl (Rw n):=⟨n,λx=>x.val,λx=>x.len,λx=>x.plain,h⟩
theorem Mq {δ:Type} {l:List δ} {j:Nat} {a:δ} (h:l[j]? =some a):l.set j a=l:=by
 obtain⟨hl,he⟩:=List.getElem?_eq_some_iff.1 h;rw[<-he];exact List.set_getElem_self _
theorem QA [Inhabited δ] (y:δ) (l:List δ) (i:Nat):rd (y::l) ((i+1:Nat):Int)=rd l (i:Int):=by
 unfold rd;have h1:((i+1:Nat):Int).toNat=i+1:=U;have h2:((i:Nat):Int).toNat=i:=U;rw[h1,h2];rfl
theorem BJ {HL:List Hp} {j:Nat} {A B:Hp} (h:j<HL.length):(HL.set j (A++B)).flatten.Perm (HL.set j A++[B]).flatten:=by
 have h1:=wD HL j _ (A++B) (List.getElem?_eq_getElem h);have h2:=wD HL j _ A (List.getElem?_eq_getElem h);refine h1.trans ?_;rw[List.flatten_append];simp only[List.flatten_cons,List.flatten_nil,List.append_nil];refine List.Perm.trans ?_ (List.Perm.append_right B h2.symm);rw[List.append_assoc,List.append_assoc];exact List.Perm.append_left A List.perm_append_comm
theorem FE {HL:List Hp} {j q:Nat} {A B:Hp} (hj:HL[j]? =some A) (hq:HL[q]? =some B) (bD:j≠q):HL.flatten.Perm ((HL.set j (A++B)).set q []).flatten:=by
 have Lq:(HL.set j (A++B))[q]? =some B:=by rw[List.getElem?_set_ne bD];exact hq
 have ha:=yc HL j A hj;have hb:(HL.set j (A++B)).flatten.Perm ((A++B)++(HL.eraseIdx j).flatten):=wD HL j _ _ hj;have hc:=yc (HL.set j (A++B)) q B Lq;have hd:=wD (HL.set j (A++B)) q B [] Lq;have key:(B++HL.flatten).Perm (B++((HL.set j (A++B)).set q []).flatten):=by
  refine List.Perm.trans ?_ (List.Perm.append_left B (by simpa using hd.symm))
  refine List.Perm.trans ?_ hc;refine List.Perm.trans ?_ hb.symm;refine(List.Perm.append_left B ha).trans ?_;rw[<-List.append_assoc];exact List.Perm.append_right _ List.perm_append_comm
 exact(List.perm_append_left_iff B).1 key
theorem C1 {HL:List Hp} {j:Nat} {A B:Hp} (h:A.Perm B):(HL.set j A).flatten.Perm (HL.set j B).flatten:=by
 by_cases hj:j<HL.length
 ·have h1:=wD HL j _ A (List.getElem?_eq_getElem hj);have h2:=wD HL j _ B (List.getElem?_eq_getElem hj);exact h1.trans ((List.Perm.append_right _ h).trans h2.symm)
 ·rw[List.set_eq_of_length_le U,List.set_eq_of_length_le U]
section
theorem Kb {j:Nat} {A B:Hp} (hj:idx j HL=some (A++B)) (h:aK W n' F env (HL.set j A++[B])):aK W n' F env HL:=by
 rw[idx_eq] at hj;have hl:=(List.getElem?_eq_some_iff.1 hj).1;refine pR (λw o=>?_) h;refine o.perm ?_;have e:HL.set j (A++B)=HL:=Mq hj;have:=BJ (HL:=HL) (j:=j) (A:=A) (B:=B) hl;rw[e] at this;exact this
theorem gM (js:List Nat) (hs:rf js HL=(As,R)) (h:aK W n' F env (R++[As.flatten])):aK W n' F env HL:=
 pR (λw o=>o.perm ((YC hs).trans (by
  rw[List.flatten_append];simp only[List.flatten_cons,List.flatten_nil,List.append_nil];exact List.perm_append_comm))) h
theorem Nt (h:aK W n' F env (R++As)):aK W n' F env (R++[As.flatten]):=
 pR (λw o=>o.perm (by
  rw[List.flatten_append,List.flatten_append];simp only[List.flatten_cons,List.flatten_nil,List.append_nil];exact List.Perm.refl _)) h
end
section
variable [Inhabited α] (kd : Kd α)
def tU:List α->List (Rw kd.size)->Hp->Prop
 |[],cc,R=>cc=[]/\R=[]
 |x::xs,cc,R=> ∃c Hx wv R',kd.own x c.val Hx/\cc=c::wv/\R=Hx++R'/\tU xs wv R'
def gT (E:TypeId) (xs:List α) (a:Option Addr) (cap:Nat) (H:Hp):Prop:=
 ∃cc H0 R,ak (Fl.raw kd.size kd.pos) E cc a cap H0/\tU kd xs cc R/\H=H0++R
def ov (xs:List α) (a:Option Addr) (H:Hp):Prop:=
 ∃cc,aU (Fl.raw kd.size kd.pos) cc a H/\cc.length=xs.length/\ ∀i,i<xs.length->kd.nt (rd xs (i:Int)) (rd cc (i:Int)).val H
def wg (E:TypeId) (xs:List α) (a:Option Addr) (cap:Nat) (i:Int) (cs:List Value) (H:Hp):Prop:=
 (0<=i/\i<(xs.length:Int))/\ ∃cc H0 R,ak (Fl.raw kd.size kd.pos) E cc a cap H0/\cc.length=xs.length/\(rd cc i).val=cs/\H=H0++R/\
   ∀x' (c':Rw kd.size) Hy,kd.own x' c'.val Hy-> ∃R2,R2.Perm (R++Hy)/\tU kd (xs.set i.toNat x') (cc.set i.toNat c') R2
def zo (a:Option Addr) (o:Nat) (cs:List Value) (H:Hp):Prop:=
 ∃b off arr E fr,a=some ⟨b,off,none⟩/\(b,Obj.cells arr E fr)∈H/\ ∀f v,cs[f]? =some v->arr[off+o+f]? =some v
variable {kd}
theorem DA: ∀(xs:List α) (cc:List (Rw kd.size)) (R:Hp),tU kd xs cc R->cc.length=xs.length
 |[],_,_,h=>by rw[h.1];rfl
 |x::xs,_,_,h=>by
  obtain⟨c,Hx,wv,R',_,rfl,_,h4⟩:=h;simp[DA xs wv R' h4]
theorem WQ: ∀(xs:List α) (cc:List (Rw kd.size)) (R:Hp) (ys:List α) (dd:List (Rw kd.size)) (S:Hp),tU kd xs cc R->tU kd ys dd S->tU kd (xs++ys) (cc++dd) (R++S)
 |[],_,_,ys,dd,S,h,h2=>by obtain⟨rfl,rfl⟩:=h;exact h2
 |x::xs,_,_,ys,dd,S,h,h2=>by
  obtain⟨c,Hx,wv,R',h1,rfl,rfl,h4⟩:=h;exact⟨c,Hx,wv++dd,R'++S,h1,rfl,by rw[List.append_assoc],WQ xs wv R' ys dd S h4 h2⟩
theorem ag9 (h:kd.own x c.val Hx):tU kd [x] [c] Hx:=⟨c,Hx,[],[],h,rfl,by simp,rfl,rfl⟩
theorem P1 (h:kd.own x c.val []): ∀m:Nat,tU kd (List.replicate m x) (List.replicate m c) []
 |0=>⟨rfl,rfl⟩
 |m+1=>⟨c,[],_,[],h,rfl,rfl,P1 h m⟩
theorem LO: ∀(xs:List α) (cc:List (Rw kd.size)) (R:Hp) (i:Nat),tU kd xs cc R->i<xs.length->
 ∃Hx R',kd.own (rd xs (i:Int)) (rd cc (i:Int)).val Hx/\R.Perm (R'++Hx)/\
  ∀x' (c':Rw kd.size) Hy,kd.own x' c'.val Hy-> ∃R2,R2.Perm (R'++Hy)/\tU kd (xs.set i x') (cc.set i c') R2
 |[],_,_,_,_,h=>by simp at h
 |x::xs,_,_,0,h,_=>by
  obtain⟨c,Hx,wv,R',h1,rfl,rfl,h4⟩:=h;exact⟨Hx,R',h1,List.perm_append_comm,λx' c' Hy hy=>⟨Hy++R',List.perm_append_comm,⟨c',Hy,wv,R',hy,rfl,rfl,h4⟩⟩⟩
 |x::xs,_,_,i+1,h,hi=>by
  obtain⟨c,Hx,wv,R',h1,rfl,rfl,h4⟩:=h;obtain⟨H1,R1,e1,e4,e5⟩:=LO xs wv R' i h4 (by simpa using hi)
  refine⟨H1,Hx++R1,by rw[QA,QA];exact e1,by rw[List.append_assoc];exact List.Perm.append_left Hx e4,λx' c' Hy hy=>?_⟩
  obtain⟨R2,p2,l2⟩:=e5 x' c' Hy hy;exact⟨Hx++R2,by rw[List.append_assoc];exact List.Perm.append_left Hx p2,⟨c,Hx,_,R2,h1,rfl,rfl,l2⟩⟩
theorem ag_ (h:tU kd xs cc R) (hi:i<xs.length):kd.nt (rd xs (i:Int)) (rd cc (i:Int)).val R:=by
 obtain⟨Hx,R',e1,e2,_⟩:=LO xs cc R i h hi;exact kd.mono _ _ _ _ (kd.r _ _ _ e1) (λc hc=>e2.mem_iff.2 (List.mem_append_right _ hc))
theorem gT.nil:gT kd E ([]:List α) none 0 []:=⟨[],[],[],ak.nil,⟨rfl,rfl⟩,rfl⟩
theorem gT.ck (h:gT kd E xs a cap H):xs.length<=cap:=by
 obtain⟨cc,H0,R,h0,hl,_⟩:=h;rw[<-DA _ _ _ hl];exact h0.ck
theorem gT.r (h:gT kd E xs a cap H):ov kd xs a H:=by
 obtain⟨cc,H0,R,h0,hl,rfl⟩:=h;exact⟨cc,h0.r.mono (λc hc=>List.mem_append_left _ hc),DA _ _ _ hl,λi hi=>kd.mono _ _ _ _ (ag_ hl hi) (λc hc=>List.mem_append_right _ hc)⟩
theorem ov.nil:ov kd ([]:List α) none H:=⟨[],.inl rfl,rfl,λi hi=>by simp at hi⟩
theorem ov.mono (h:ov kd xs a H) (hs: ∀c∈H,c∈H'):ov kd xs a H':=by
 obtain⟨cc,h1,h2,h3⟩:=h;exact⟨cc,h1.mono hs,h2,λi hi=>kd.mono _ _ _ _ (h3 i hi) hs⟩
theorem ov.addr {xs:List α} {a:Option Addr} {H:Hp} (h:ov kd xs a H) {i:Int} (h0:0<=i) (h1:i<xs.length): ∃b off,a=some ⟨b,off,none⟩:=by
 obtain⟨cc,h2,h3,_⟩:=h;exact h2.addr h0 (by rw[h3];exact h1)
theorem ov.view (h:ov kd xs a H) (hj:0<=j/\j<(xs.length:Int)):
 ∃cs,zo a (j.toNat*kd.size) cs H/\kd.nt (rd xs j) cs H:=by
 obtain⟨cc,h1,h2,h3⟩:=h;obtain⟨b,off,ha⟩:=h1.addr hj.1 (by rw[h2];exact hj.2)
 obtain⟨arr,E,fr,hm,hc⟩:=h1.elem ha hj.1 (by rw[h2];exact hj.2)
 have h4:=h3 j.toNat U;rw[show((j.toNat:Nat):Int)=j by omega] at h4
 exact⟨(rd cc j).val,⟨b,off,arr,E,fr,ha,hm,λf v hv=>hc f v hv⟩,h4⟩
theorem zo.mono (h:zo a o cs H) (hs: ∀c∈H,c∈H'):zo a o cs H':=by
 obtain⟨b,off,arr,E,fr,ha,hm,hc⟩:=h;exact⟨b,off,arr,E,fr,ha,hs _ hm,hc⟩
theorem Ds (hj:idx j HL=some Hj) (h:zo a o cs Hj) (ha:a=some ⟨b,off,none⟩) (f:Nat) (hv:idx f cs=some v):
 ∃arr E fr,(b,Obj.cells arr E fr)∈HL.flatten/\arr[off+o+f]? =some v:=by
 obtain⟨b',DP,arr,E,fr,wG,hm,hc⟩:=h;rw[ha] at wG;simp at wG;obtain⟨rfl,rfl⟩:=wG;exact⟨arr,E,fr,iv (by rw[<-idx_eq];exact hj) hm,hc f v (by rw[<-idx_eq];exact hv)⟩
theorem PT (hj:idx j HL=some Hj) (h:zo a o cs Hj) (ha:a=some ⟨b,off,none⟩) (f:Nat)
 (hv:(cs.drop f).take vs.length=vs): ∃arr E fr,(b,Obj.cells arr E fr)∈HL.flatten/\ ∀i v,vs[i]? =some v->arr[off+o+f+i]? =some v:=by
 obtain⟨b',DP,arr,E,fr,wG,hm,hc⟩:=h;rw[ha] at wG;simp at wG;obtain⟨rfl,rfl⟩:=wG;refine⟨arr,E,fr,iv (by rw[<-idx_eq];exact hj) hm,λi v hi=>?_⟩
 rw[<-hv] at hi;have hl:=(List.getElem?_eq_some_iff.1 hi).1;rw[List.getElem?_take_of_lt (by simp at hl;omega),List.getElem?_drop] at hi
 rw[Nat.add_assoc];exact hc (f+i) v hi
theorem wg.cells (h:wg kd E xs a cap i cs H):zo a (i.toNat*kd.size) cs H:=by
 obtain⟨hi,cc,H0,R,h0,hl,rfl,rfl,_⟩:=h;obtain⟨b,off,ha⟩:=h0.r.addr hi.1 (by rw[hl];exact hi.2)
 obtain⟨arr,E',fr,hm,hc⟩:=h0.r.elem ha hi.1 (by rw[hl];exact hi.2)
 exact⟨b,off,arr,E',fr,ha,List.mem_append_left _ hm,λf v hv=>hc f v hv⟩
theorem wg.addr (h:wg kd E xs a cap i cs H): ∃b off,a=some ⟨b,off,none⟩:=by
 obtain⟨b,off,_,_,_,ha,_⟩:=h.cells;exact⟨b,off,ha⟩
theorem wg.ck (h:wg kd E xs a cap i cs H):xs.length<=cap:=by
 obtain⟨hi,cc,H0,R,h0,hl,rfl,rfl,_⟩:=h;rw[<-hl];exact h0.ck
section
theorem Nq {H:Hp} {j:Nat} {i:Int} (hj:idx j HL=some H) (so:gT kd E xs a cap H) (hi:0<=i/\i<(xs.length:Int))
 (h: ∀cs Hx H',kd.own (rd xs i) cs Hx->wg kd E xs a cap i cs H'->aK W n' F env (HL.set j H'++[Hx])):aK W n' F env HL:=by
 obtain⟨cc,H0,R,h0,hl,rfl⟩:=so;obtain⟨Hx,R',e1,e2,e3⟩:=LO xs cc R i.toNat hl U;rw[show((i.toNat:Nat):Int)=i by omega] at e1
 refine pR (λw o=>?_) (h (rd cc i).val Hx (H0++R') e1 ⟨hi,cc,H0,R',h0,DA _ _ _ hl,rfl,rfl,e3⟩);rw[idx_eq] at hj;have lM:=(List.getElem?_eq_some_iff.1 hj).1;refine o.perm ?_;have e:HL.set j (H0++R)=HL:=Mq hj;have h1:HL.flatten.Perm (HL.set j ((H0++R')++Hx)).flatten:=by
  conv=>lhs;rw[<-e]
  refine C1 ?_;rw[List.append_assoc];exact List.Perm.append_left H0 e2
 exact h1.trans (BJ lM)
theorem Np {H Hx:Hp} {j q:Nat} {i:Int} {cs:List Value} (x':α) (hj:idx j HL=some H) (so:wg kd E xs a cap i cs H) (hq:idx q HL=some Hx) (bD:Nat.beq j q=false) (hx:kd.own x' cs Hx)
 (h: ∀H',gT kd E (xs.set i.toNat x') a cap H'->aK W n' F env ((HL.set j H').set q [])):aK W n' F env HL:=by
 obtain⟨hi,cc,H0,R,h0,hl,h2,rfl,h3⟩:=so;have rR:j≠q:=λe=>by subst e;simp at bD
 obtain⟨R2,p2,l2⟩:=h3 x' (rd cc i) Hx (by rw[h2];exact hx)
 have ec:cc.set i.toNat (rd cc i)=cc:=by
  rw[jc U];exact List.set_getElem_self _
 rw[ec] at l2;refine pR (λw o=>?_) (h (H0++R2) ⟨cc,H0,R2,h0,l2,rfl⟩);rw[idx_eq] at hj hq;refine o.perm ?_;refine(FE hj hq rR).trans ?_;have: ∀(L:List Hp) (A:Hp),((L.set j A).set q [])=((L.set q []).set j A):=λL A=>List.set_comm _ _ rR
 rw[this,this];refine C1 ?_;rw[List.append_assoc];exact List.Perm.append_left H0 p2.symm
end
section rules
theorem Nr (T:Ty P) {b off t:Nat} {x y:Operand} {v:Value} {sz by' cap:Nat} {z:Value} {Hj:Hp} {xs:List α} {a:Option Addr} {j:Int} {cs:List Value} (g f:Nat) (ug:List Value)
 (rS:tJ ops env i=some o) (aV:o.op= .store t x y) (hx:ev env x=some (.pointer (some ⟨b,off+j.toNat*kd.size+f,none⟩)))
 (hy:ev env y=some v) (hi:T.inf t=some (sz,by',z)) (hj:idx g HL=some Hj) (hs:wg kd E xs a cap j cs Hj) (ha:a=some ⟨b,off,none⟩)
 (hl:Nat.beq (bN v).length sz=true) (hf:Nat.ble (f+sz) kd.size=true) (hp:(bN v).all (·.oneCell')=true) (he:gx cs f (bN v)=ug)
 (h: ∀H',wg kd E xs a cap j ug H'->aK W n K env (HL.set g H')):aK W n (wpOp P ops Q i K) env HL:=by
 obtain⟨hb,cc,H0,R,h0,eU,h2,rfl,h3⟩:=hs;have i_:=hj;rw[idx_eq] at hj;have nS:=(List.getElem?_eq_some_iff.1 hj).1;refine Kb i_ ?_;have hg:idx g (HL.set g H0++[R])=some H0:=by
  rw[idx_eq,List.getElem?_append_left (by simpa using nS)];exact List.getElem?_set_self nS
 have hlen:cs.length=kd.size:=by rw[<-h2];exact(rd cc j).len
 have hle:=Nat.le_of_ble_eq_true hf;have VO:=Nat.eq_of_beq_eq_true hl;have Vv:ug.length=kd.size/\ ∀v∈ug,v.oneCell'=true:=by
  subst he;refine⟨by unfold gx;simp;omega,λu hu=>?_⟩
  unfold gx at hu;rcases List.mem_append.1 hu with hu |hu
  ·exact(rd cc j).plain u (by rw[h2];exact List.mem_of_mem_take hu)
  ·rcases List.mem_append.1 hu with hu |hu
   ·exact List.all_eq_true.1 hp u hu
   ·exact(rd cc j).plain u (by rw[h2];exact List.mem_of_mem_drop hu)
 refine lD (k:=Fl.raw kd.size kd.pos) T g f (⟨ug,Vv.1,Vv.2⟩:Rw kd.size) rS aV hx hy hi hg h0 ha ⟨hb.1,by rw[eU];exact hb.2⟩ hl hf ?_ (λH' B4=>?_)
 ·show ug=gx (rd cc j).val f (bN v)
  rw[h2];exact he.symm
 ·refine pR (λw o=>?_) (h (H'++R) ⟨hb,_,H',R,B4,by simp[eU],?_,rfl,λx' c' Hy hy=>?_⟩)
  ·refine o.perm ?_;have e:(HL.set g H0++[R]).set g H'=HL.set g H'++[R]:=by
    rw[List.set_append_left _ _ (by simpa using nS)];simp
   rw[e];exact(BJ nS).symm
  ·rw[jc (by simp;omega)];simp
  ·obtain⟨R2,p2,l2⟩:=h3 x' c' Hy hy;exact⟨R2,p2,by simpa using l2⟩
theorem GM (T:Ty P) {d g q:Nat} {s x:Operand} {t t' E':TypeId} {xs ys:List α} {a a2:Option Addr} {cap cap2 sz by':Nat} {z:Value} {Hj Hq:Hp}
 (rS:slot n ops env i=some (o,d)) (aV:o.op= .call ⟨.builtin .append,#[s,x],#[t,t']⟩)
 (hs:ev env s=some (.slice a xs.length cap)) (hx:ev env x=some (.slice a2 ys.length cap2)) (hu:T.bW t=some (.slice E)) (kJ:T.bW t'=some (.slice E'))
 (hi:T.inf E=some (sz,by',z)) (hk:kd.size=sz) (hz:(bN z).length=sz) (hj:idx g HL=some Hj) (so:gT kd E xs a cap Hj) (hq:idx q HL=some Hq) (bD:Nat.beq g q=false) (sy:gT kd E ys a2 cap2 Hq)
 (hb:xs.length+ys.length<=1099511627776) (iZ:Nat.ble by' 128=true)
 (h: ∀a' rJ H',gT kd E (xs++ys) a' rJ H'->aK W n K ((d,.slice a' (xs++ys).length rJ)::env) ((HL.set g H').set q [])):aK W n (wpOp P ops Q i K) env HL:=by
 obtain⟨cc,H0,R,h0,hl,rfl⟩:=so;obtain⟨dd,G0,S,g0,gl,rfl⟩:=sy;have rR:g≠q:=λe=>by subst e;simp at bD
 have l1:=DA _ _ _ hl;have l2:=DA _ _ _ gl;have i_:=hj;have HU:=hq;rw[idx_eq] at hj hq;have nS:=(List.getElem?_eq_some_iff.1 hj).1;have yv:=(List.getElem?_eq_some_iff.1 hq).1;refine Kb i_ ?_;have e1:idx g (HL.set g H0++[R])=some H0:=by
  rw[idx_eq,List.getElem?_append_left (by simpa using nS)];exact List.getElem?_set_self nS
 have sr:aU (Fl.raw kd.size kd.pos) dd a2 (HL.set g H0++[R]).flatten:=g0.r.mono (λc hc=>by
  refine iv (j:=q) (Hj:=G0++S) ?_ (List.mem_append_left _ hc);rw[List.getElem?_append_left (by simpa using yv),List.getElem?_set_ne rR];exact hq)
 refine eP (k:=Fl.raw kd.size kd.pos) T rS aV (by rw[l1];exact hs) (by rw[l2];exact hx) hu kJ hi hk hz e1 h0 sr (by rw[l1,l2];exact hb) iZ (λa' rJ H' B4=>?_)
 have hh:=h a' rJ (H'++(R++S)) ⟨cc++dd,H',R++S,B4,WQ _ _ _ _ _ _ hl gl,rfl⟩;have e0:(cc++dd).length=(xs++ys).length:=by simp[l1,l2]
 rw[e0];refine pR (λw o=>?_) hh;have e:(HL.set g H0++[R]).set g H'=HL.set g H'++[R]:=by
  rw[List.set_append_left _ _ (by simpa using nS)];simp
 rw[e] at o;have o2:bn W w ((HL.set g (H'++R))).flatten:=o.perm (BJ nS).symm;have Fm:(HL.set g (H'++R))[q]? =some (G0++S):=by rw[List.getElem?_set_ne rR];exact hq
 have o3:bn W w ((HL.set g (H'++R)).set q S).flatten:=by
  refine tu Fm ?_;have:=vC Fm o2;rw[List.append_assoc] at this;exact this.right
 have hg4:((HL.set g (H'++R)).set q S)[g]? =some (H'++R):=by rw[List.getElem?_set_ne (Ne.symm rR)];exact List.getElem?_set_self nS
 have hq4:((HL.set g (H'++R)).set q S)[q]? =some S:=List.getElem?_set_self (by simpa using yv)
 refine o3.perm ((FE hg4 hq4 rR).trans ?_);have e5:(((HL.set g (H'++R)).set q S).set g (H'++R++S)).set q []=(HL.set g (H'++(R++S))).set q []:=by
  rw[List.set_comm _ _ (Ne.symm rR),List.set_set,List.set_set,List.append_assoc]
 rw[e5]
theorem GN (T:Ty P) (x:α)
 (rS:slot n ops env i=some (o,d)) (aV:o.op= .buildSlice t 1 parts) (hu:T.bW t=some (.slice E)) (hi:T.inf E=some (sz,by',z)) (hk:kd.size=sz) (hz:(bN z).length=sz)
 (hn:Nat.ble (1*sz) 16777216=true) (hp:(parts.toList.mapM λp=>(ev env p.2).map λv=>(p.1,v))=some [(0,v)]) (hv:bN v=c)
 (hq:idx q HL=some Hx) (hx:kd.own x c Hx)
 (h: ∀a H',gT kd E [x] a (List.length [x]) H'->aK W n K ((d,.slice a (List.length [x]) (List.length [x]))::env) (HL.set q []++[H'])):aK W n (wpOp P ops Q i K) env HL:=by
 have eU:=kd.len _ _ _ hx;have hcp:=kd.plain _ _ _ hx;rw[idx_eq] at hq;have yv:=(List.getElem?_eq_some_iff.1 hq).1;refine dp (k:=Fl.raw kd.size kd.pos) T [(⟨c,eU,hcp⟩:Rw kd.size)] rS aV hu hi hz hn hp ?_ rfl (λa H' so=>?_)
 ·subst hv;have e:(Nat.beq (bN v).length sz&&Nat.ble (0*sz+(bN v).length) ((List.range (1*sz)).map λi=>((bN z)[i%sz]?).getD default).length)=true:=by
   rw[eU,hk];simp
  simp only[wC,e,cond_true];simp only[row,List.map_cons,List.map_nil,List.flatten_cons,List.flatten_nil,List.append_nil,Fl.raw];have e2:gx ((List.range (1*sz)).map λi=>((bN z)[i%sz]?).getD default) (0*sz) (bN v)=bN v:=by
   unfold gx;rw[Nat.zero_mul,List.take_zero,List.nil_append,Nat.zero_add,List.drop_of_length_le (by simp;omega),List.append_nil]
  rw[e2]
 ·refine pR (λw o=>?_) (h a (H'++Hx) ⟨_,H',Hx,so,ag9 hx,rfl⟩);rw[List.flatten_append] at o⊢;simp only[List.flatten_cons,List.flatten_nil,List.append_nil] at o⊢;refine o.perm ?_;have h1:=yc HL q Hx hq;have h2:=wD HL q Hx [] hq;simp only[List.nil_append] at h2;refine(List.Perm.append_right H' h1).trans ?_;refine List.Perm.trans ?_ (List.Perm.append_right _ h2.symm);rw[List.append_assoc];refine List.perm_append_comm.trans ?_;rw[List.append_assoc]
theorem aa2 (T:Ty P) (x0:α)
 (hs:slot n ops env i=some (o,d)) (aV:o.op= .makeSlice t x y) (hx:ev env x=some (.int kk m)) (hy:ev env y=some (.int BD m))
 (hu:T.bW t=some (.slice E)) (hi:T.inf E=some (sz,by',z)) (hk:kd.size=sz) (hz:kd.own x0 (bN z) []) (h0:0<=m/\m<=1099511627776) (iZ:Nat.ble by' 128=true)
 (h: ∀a cap H',gT kd E (List.replicate m.toNat x0) a cap H'->aK W n K ((d,.slice a (List.replicate m.toNat x0).length cap)::env) (HL++[H'])):aK W n (wpOp P ops Q i K) env HL:=by
 refine zB (k:=Fl.raw kd.size kd.pos) T (⟨bN z,kd.len _ _ _ hz,kd.plain _ _ _ hz⟩:Rw kd.size) hs aV hx hy hu hi hk rfl h0 iZ (λa cap H' so=>?_);have:=h a cap H' ⟨_,H',[],so,P1 hz _,by simp⟩
 simpa using this
end rules
end
end
section
section
variable [DecidableEq κ]
def ux (m:List (κ×α)) (x:κ) (v:α):List (κ×α):=if bt m x then cF m x v else m
theorem W1 [Inhabited α]: ∀(m:List (κ×α)) (x:κ),ux m x (aP m x)=m
 |[],x=>rfl
 |e::r,x=>by
  have ih:=W1 r x;unfold ux bt aP at ih⊢;simp only[cN,cF]
  by_cases hk:e.1=x
  ·subst hk;simp
  ·simp only[hk,if_false];split at ih
   ·rename_i h;simp only[h,if_true,ih]
   ·rename_i h;simp only[h];rfl
variable (S : List α -> Option Addr -> Nat -> Hp -> Prop)
def vX (gone:List κ):List (κ×List α)->List (κ×Hd)->Hp->Prop
 |[],hs,R=>hs=[]/\R=[]
 |e::r,hs,R=> ∃a n c Hx fZ R',((e.1∈gone/\Hx=[])∨(e.1∉gone/\S e.2 a c Hx/\n=e.2.length))/\hs=(e.1,(a,n,c))::fZ/\R=Hx++R'/\vX gone r fZ R'
variable {S}
theorem WR (x:κ): ∀(xs:List (κ×List α)) (hs:List (κ×Hd)) (R:Hp),vX S gone xs hs R-> ∃R2 R3,R.Perm (R2++R3)/\vX S (x::gone) xs hs R2
 |[],_,_,h=>by obtain⟨rfl,rfl⟩:=h;exact⟨[],[],List.Perm.refl _,rfl,rfl⟩
 |e::r,_,_,h=>by
  obtain⟨a,n,c,Hx,fZ,R',h1,rfl,rfl,h4⟩:=h;obtain⟨R2,R3,p,l⟩:=WR x r fZ R' h4;rcases h1 with⟨hg,rfl⟩ |⟨hg,Ia,rfl⟩
  ·exact⟨R2,R3,p,a,n,c,[],fZ,R2,.inl ⟨List.mem_cons_of_mem _ hg,rfl⟩,rfl,rfl,l⟩
  ·by_cases hk:e.1=x
   ·refine⟨R2,Hx++R3,?_,a,_,c,[],fZ,R2,.inl ⟨by rw[hk];exact List.mem_cons_self ..,rfl⟩,rfl,rfl,l⟩
    refine(List.Perm.append_left Hx p).trans ?_;rw[<-List.append_assoc,<-List.append_assoc];exact List.Perm.append_right _ List.perm_append_comm
   ·refine⟨Hx++R2,R3,by rw[List.append_assoc];exact List.Perm.append_left Hx p,a,_,c,Hx,fZ,R2,.inr ⟨?_,Ia,rfl⟩,rfl,rfl,l⟩
    intro hm;rcases List.mem_cons.1 hm with h |h
    ·exact hk h
    ·exact hg h
theorem WS (h0:S [] none 0 []): ∀(xs:List (κ×List α)) (hs:List (κ×Hd)) (R:Hp) (x:κ),x∉gone->vX S gone xs hs R->
 ∃a c Hx R',S (aP xs x) a c Hx/\aP hs x=(a,(aP xs x).length,c)/\R.Perm (R'++Hx)/\
  (∀ys a2 c2 Hy,S ys a2 c2 Hy-> ∃R2,R2.Perm (R'++Hy)/\vX S gone (cF xs x ys) (cF hs x (a2,ys.length,c2)) R2)/\
  (∀ys Hy,ys.length=(aP xs x).length->S ys a c Hy-> ∃R2 R3,(R'++Hy).Perm (R2++R3)/\vX S gone (ux xs x ys) hs R2)/\
  (∃R2 R3,R'.Perm (R2++R3)/\vX S (x::gone) xs hs R2)
 |[],_,_,x,hx,h=>by
  obtain⟨rfl,rfl⟩:=h;refine⟨none,0,[],[],h0,rfl,by simp,λys a2 c2 Hy hy=>⟨Hy,by simp,a2,_,c2,Hy,[],[],.inr ⟨hx,hy,rfl⟩,rfl,by simp,rfl,rfl⟩,λys Hy hl hy=>⟨[],Hy,by simp,?_⟩,[],[],by simp,rfl,rfl⟩
  exact⟨rfl,rfl⟩
 |e::r,hs,R,x,hx,h=>by
  obtain⟨a,n,c,Hx,fZ,R',h1,rfl,rfl,h4⟩:=h
  by_cases hk:e.1=x
  ·have hng:e.1∉gone:=by rw[hk];exact hx
   rcases h1 with⟨hg,_⟩ |⟨_,Ia,rfl⟩
   ·exact absurd hg hng
   have e1:aP (e::r) x=e.2:=by simp[aP,cN,hk]
   have e2:aP ((e.1,(a,e.2.length,c))::fZ) x=(a,e.2.length,c):=by simp[aP,cN,hk]
   refine⟨a,c,Hx,R',by rw[e1];exact Ia,by rw[e1,e2],List.perm_append_comm,λys a2 c2 Hy hy=>⟨Hy++R',List.perm_append_comm,?_⟩,λys Hy hl hy=>⟨Hy++R',[],by simpa using List.perm_append_comm,?_⟩,?_⟩
   ·simp only[cF,hk,if_true];exact⟨a2,_,c2,Hy,fZ,R',.inr ⟨hx,hy,rfl⟩,rfl,rfl,h4⟩
   ·have:ux (e::r) x ys=(x,ys)::r:=by simp[ux,bt,cN,cF,hk]
    rw[this];rw[e1] at hl;exact⟨a,_,c,Hy,fZ,R',.inr ⟨hx,hy,rfl⟩,by rw[hl,hk],rfl,h4⟩
   ·obtain⟨R2,R3,p,l⟩:=WR x r fZ R' h4;exact⟨R2,R3,p,a,_,c,[],fZ,R2,.inl ⟨by rw[hk];exact List.mem_cons_self ..,rfl⟩,rfl,rfl,l⟩
  ·obtain⟨a1,c1,H1,R1,q1,q2,q3,q4,q5,q6⟩:=WS h0 r fZ R' x hx h4;have e1:aP (e::r) x=aP r x:=by simp[aP,cN,hk]
   have e2:aP ((e.1,(a,n,c))::fZ) x=aP fZ x:=by simp[aP,cN,hk]
   refine⟨a1,c1,H1,Hx++R1,by rw[e1];exact q1,by rw[e1,e2];exact q2,by rw[List.append_assoc];exact List.Perm.append_left Hx q3,λys a2 c2 Hy hy=>?_,λys Hy hl hy=>?_,?_⟩
   ·obtain⟨R2,p2,l2⟩:=q4 ys a2 c2 Hy hy;refine⟨Hx++R2,by rw[List.append_assoc];exact List.Perm.append_left Hx p2,?_⟩
    simp only[cF,hk,if_false];exact⟨a,n,c,Hx,_,R2,h1,rfl,rfl,l2⟩
   ·rw[e1] at hl;obtain⟨R2,R3,p2,l2⟩:=q5 ys Hy hl hy;refine⟨Hx++R2,R3,by rw[List.append_assoc,List.append_assoc];exact List.Perm.append_left Hx p2,?_⟩
    have:ux (e::r) x ys=e::ux r x ys:=by
     unfold ux bt;simp only[cN,cF,hk,if_false];split<;>rfl
    rw[this];exact⟨a,n,c,Hx,_,R2,h1,rfl,rfl,l2⟩
   ·obtain⟨R2,R3,p2,l2⟩:=q6;rcases h1 with⟨hg,rfl⟩ |⟨hg,Ia,rfl⟩
    ·exact⟨R2,R3,p2,a,n,c,[],fZ,R2,.inl ⟨List.mem_cons_of_mem _ hg,rfl⟩,rfl,rfl,l2⟩
    ·refine⟨Hx++R2,R3,by rw[List.append_assoc];exact List.Perm.append_left Hx p2,a,_,c,Hx,fZ,R2,.inr ⟨?_,Ia,rfl⟩,rfl,rfl,l2⟩
     intro hm;rcases List.mem_cons.1 hm with h |h
     ·exact hk h
     ·exact hg h
variable (S) (KK : Ky P t κ)
def xN (gone:List κ) (xs:List (κ×List α)) (r:Nat) (H:Hp):Prop:=
 ∃hs H0 R,de KK vt hs r H0/\vX S gone xs hs R/\H=H0++R
def EC (gone:List κ) (xs:List (κ×List α)) (x:κ) (r:Nat) (a:Option Addr) (m c:Nat) (H:Hp):Prop:=
 ∃hs H0 R,de KK vt hs r H0/\aP hs x=(a,m,c)/\H=H0++R/\
  (∀ys a2 c2 Hy,S ys a2 c2 Hy-> ∃R2,R2.Perm (R++Hy)/\vX S gone (cF xs x ys) (cF hs x (a2,ys.length,c2)) R2)/\
  (∀ys Hy,ys.length=m->S ys a c Hy-> ∃R2 R3,(R++Hy).Perm (R2++R3)/\vX S gone (ux xs x ys) hs R2)/\
  (∃R2 R3,R.Perm (R2++R3)/\vX S (x::gone) xs hs R2)
variable {S KK}
theorem ahs (h:de KK vt ([]:List (κ×Hd)) r H):xN S KK [] ([]:List (κ×List α)) r H:=⟨[],H,[],h,⟨rfl,rfl⟩,by simp⟩
theorem GO (h0:S [] none 0 []) {H:Hp} {j:Nat} (x:κ) (hx:x∉gone) (hj:idx j HL=some H) (so:xN S KK gone xs r H)
 (h: ∀a c Hx H',S (aP xs x) a c Hx->EC S KK gone xs x r a (aP xs x).length c H'->aK W n' F env (HL.set j H'++[Hx])):aK W n' F env HL:=by
 obtain⟨hs,H0,R,h1,hl,rfl⟩:=so;obtain⟨a,c,Hx,R',q1,q2,q3,q4,q5,q6⟩:=WS h0 xs hs R x hx hl;refine pR (λw o=>?_) (h a c Hx (H0++R') q1 ⟨hs,H0,R',h1,q2,rfl,q4,q5,q6⟩);rw[idx_eq] at hj;have lM:=(List.getElem?_eq_some_iff.1 hj).1;refine o.perm ?_;have e:HL.set j (H0++R)=HL:=Mq hj;have h2:HL.flatten.Perm (HL.set j ((H0++R')++Hx)).flatten:=by
  conv=>lhs;rw[<-e]
  refine C1 ?_;rw[List.append_assoc];exact List.Perm.append_left H0 q3
 exact h2.trans (BJ lM)
theorem Ij (hj:idx j HL=some H) (so:EC S KK gone xs x r a m c H): ∃hs,zu KK vt hs r HL.flatten/\aP hs x=((a,m,c):Hd):=by
 obtain⟨hs,H0,R,h0,h1,rfl,_⟩:=so;exact⟨hs,h0.r.mono (λy hy=>iv (by rw[<-idx_eq];exact hj) (List.mem_append_left _ hy)),h1⟩
theorem Se {H Hx:Hp} {j q m c:Nat} {x:κ} {a:Option Addr} (ys:List α) (hj:idx j HL=some H) (so:EC S KK gone xs x r a m c H) (hq:idx q HL=some Hx) (bD:Nat.beq j q=false) (hy:S ys a c Hx) (hl:ys.length=m)
 (h: ∀H',xN S KK gone (ux xs x ys) r H'->aK W n' F env ((HL.set j H').set q [])):aK W n' F env HL:=by
 obtain⟨hs,H0,R,h1,h2,rfl,h4,h5,h6⟩:=so;have rR:j≠q:=λe=>by subst e;simp at bD
 obtain⟨R2,R3,p2,l2⟩:=h5 ys Hx hl hy;refine pR (λw o=>?_) (h (H0++R2) ⟨hs,H0,R2,h1,l2,rfl⟩);rw[idx_eq] at hj hq;have lM:=(List.getElem?_eq_some_iff.1 hj).1;have yv:=(List.getElem?_eq_some_iff.1 hq).1;have o2:=o.perm (FE hj hq rR);have e: ∀(A:Hp),((HL.set j A).set q [])=((HL.set q []).set j A):=λA=>List.set_comm _ _ rR
 rw[e] at o2⊢;have p3:((HL.set q []).set j (H0++R++Hx)).flatten.Perm ((HL.set q []).set j ((H0++R2)++R3)).flatten:=C1 (by
  rw[List.append_assoc,List.append_assoc];exact List.Perm.append_left H0 p2)
 have p4:=BJ (HL:=HL.set q []) (j:=j) (A:=H0++R2) (B:=R3) (by simpa using lM)
 have o3:=o2.perm (p3.trans p4);rw[List.flatten_append] at o3;exact o3.left
theorem aa8 [Inhabited α] (hj:idx j HL=some H) (so:EC S KK gone xs x r a m c H) (hq:idx q HL=some Hx) (bD:Nat.beq j q=false) (hy:S (aP xs x) a c Hx) (hl:(aP xs x).length=m)
 (h: ∀H',xN S KK gone xs r H'->aK W n' F env ((HL.set j H').set q [])):aK W n' F env HL:=
 Se (aP xs x) hj so hq bD hy hl (λH' B4=>h H' (by rw[W1] at B4;exact B4))
theorem aa9 {H:Hp} {j m c:Nat} {x:κ} {a:Option Addr} (hj:idx j HL=some H) (so:EC S KK gone xs x r a m c H)
 (h: ∀H',xN S KK (x::gone) xs r H'->aK W n' F env (HL.set j H')):aK W n' F env HL:=by
 obtain⟨hs,H0,R,h1,h2,rfl,h4,h5,R2,R3,p2,l2⟩:=so;refine pR (λw o=>?_) (h (H0++R2) ⟨hs,H0,R2,h1,l2,rfl⟩);rw[idx_eq] at hj;have lM:=(List.getElem?_eq_some_iff.1 hj).1;have e:HL.set j (H0++R)=HL:=Mq hj;have p3:HL.flatten.Perm (HL.set j ((H0++R2)++R3)).flatten:=by
  conv=>lhs;rw[<-e]
  exact C1 (by rw[List.append_assoc];exact List.Perm.append_left H0 p2)
 have o3:=o.perm (p3.trans (BJ lM));rw[List.flatten_append] at o3;exact o3.left
end
section rules
variable [DecidableEq κ]
theorem Sd (T:Ty P) {mt et:TypeId} (KK:Ky P t κ) {gone:List κ} {x ix y:Operand} {xs:List (κ×List α)} {r q m0 c0:Nat} {kx:κ} {a0:Option Addr} {ys:List α} {a:Option Addr} {c:Nat} {Hj Hq:Hp} (j:Nat)
 (hs:tJ ops env i=some o) (aV:o.op= .mapUpdate mt x ix y) (hx:ev env x=some (.map (some r))) (hk:ev env ix=some (KK.enc kx)) (hy:ev env y=some (.slice a ys.length c))
 (hu:T.bW mt=some (.map t et)) (hj:idx j HL=some Hj) (so:EC S KK gone xs kx r a0 m0 c0 Hj) (bD:Nat.beq j q=false) (hq:idx q HL=some Hq) (sq:S ys a c Hq)
 (h: ∀H',xN S KK gone (cF xs kx ys) r H'->aK W n K env ((HL.set j H').set q [])):aK W n (wpOp P ops Q i K) env HL:=by
 obtain⟨fZ,H0,R,h0,_,rfl,h4,_,_⟩:=so;have rR:j≠q:=λe=>by subst e;simp at bD
 obtain⟨R2,p2,l2⟩:=h4 ys a c Hq sq;have i_:=hj;rw[idx_eq] at hj hq;have lM:=(List.getElem?_eq_some_iff.1 hj).1;have yv:=(List.getElem?_eq_some_iff.1 hq).1;refine Kb i_ ?_;have hg:idx j (HL.set j H0++[R])=some H0:=by
  rw[idx_eq,List.getElem?_append_left (by simpa using lM)];exact List.getElem?_set_self lM
 refine qG T KK vt (v:=((a,ys.length,c):Hd)) (k:=kx) (g:=j) hs aV hx hk hy hu hg h0 (λH' B4=>?_);refine pR (λw o=>?_) (h (H'++R2) ⟨_,H',R2,B4,l2,rfl⟩);have e1:(HL.set j H0++[R]).set j H'=HL.set j H'++[R]:=by
  rw[List.set_append_left _ _ (by simpa using lM)];simp
 rw[e1] at o;have o2:=o.perm (BJ lM).symm;have Fm:(HL.set j (H'++R))[q]? =some Hq:=by rw[List.getElem?_set_ne rR];exact hq
 have HN:(HL.set j (H'++R))[j]? =some (H'++R):=List.getElem?_set_self lM;have o3:=o2.perm (FE HN Fm rR);rw[List.set_set] at o3;have e: ∀(A:Hp),((HL.set j A).set q [])=((HL.set q []).set j A):=λA=>List.set_comm _ _ rR
 rw[e] at o3⊢;exact o3.perm (C1 (by rw[List.append_assoc];exact List.Perm.append_left H' p2.symm))
end rules
end
section
inductive Er where
 |nil:Er
 |dW:Nat->Er
 |num:Nat->Int->Er
 |wrap:Nat->List Int->Er->Er
instance :Inhabited Er:=⟨.nil⟩
def Er.isNil:Er->Bool
 | .nil=>true
 |_=>false
def fR (tE:TypeId) (gs:List Nat) (lits:List (Nat×Value)) (el:Nat->Addr) (F:Hp):Prop:=
 (∀g∈gs,∃T fr,(g,Obj.cells #[.iface tE (.pointer (some (el g)))] T fr)∈F)/\(∀g∈gs,∃c T,((el g).block,Obj.cells c T (0,0))∈F)/\(∀a∈gs,∀b∈gs,el a=el b->a=b)/\
   (∀p∈lits,∃T fr,(p.1,Obj.cells #[p.2] T fr)∈F)
theorem fR.mono (h:fR tE gs lits el F) (hs: ∀c∈F,c∈F'):fR tE gs lits el F':=by
 obtain⟨h1,h2,h3,h4⟩:=h;exact⟨λg hg=>let⟨T,fr,hm⟩:=h1 g hg;⟨T,fr,hs _ hm⟩,λg hg=>let⟨c,T,hm⟩:=h2 g hg;⟨c,T,hs _ hm⟩,h3,λp hp=>let⟨T,fr,hm⟩:=h4 p hp;⟨T,fr,hs _ hm⟩⟩
theorem dE (h:fR tE gs lits el F) (hj:idx j HL=some F):fR tE gs lits el HL.flatten:=
 h.mono λ_ hc=>iv (by rw[<-idx_eq];exact hj) hc
section
variable (tE : TypeId) (el : Nat -> Addr)
def ml:Er->Value->Hp->Prop
 | .nil,v,_=>v= .nilIface
 | .dW g,v,_=>v= .iface tE (.pointer (some (el g)))
 | .num t n,v,_=>v= .iface t (.int .i64 n)
 | .wrap t ns e,v,H=> ∃b vo T,v= .iface t (.pointer (some ⟨b,0,none⟩))/\(b,Obj.cells ((ns.map λn=>Value.int .i64 n)++[vo]).toArray T (0,0))∈H/\ml e vo H
def gz:Er->Value->Hp->Prop
 | .nil,v,H=>v= .nilIface/\H=[]
 | .dW g,v,H=>v= .iface tE (.pointer (some (el g)))/\H=[]
 | .num t n,v,H=>v= .iface t (.int .i64 n)/\H=[]
 | .wrap t ns e,v,H=> ∃b vo T Ho,v= .iface t (.pointer (some ⟨b,0,none⟩))/\H=(b,Obj.cells ((ns.map λn=>Value.int .i64 n)++[vo]).toArray T (0,0))::Ho/\gz e vo Ho
variable {tE el}
theorem ml.mono: ∀{e:Er} {v:Value} {H H':Hp},ml tE el e v H->(∀c∈H,c∈H')->ml tE el e v H'
 | .nil,_,_,_,h,_=>h
 | .dW _,_,_,_,h,_=>h
 | .num _ _,_,_,_,h,_=>h
 | .wrap _ _ _,_,_,_,h,hs=>by
  obtain⟨b,vo,T,h1,h2,h3⟩:=h;exact⟨b,vo,T,h1,hs _ h2,ml.mono h3 hs⟩
theorem gz.r: ∀{e:Er} {v:Value} {H:Hp},gz tE el e v H->ml tE el e v H
 | .nil,_,_,h=>h.1
 | .dW _,_,_,h=>h.1
 | .num _ _,_,_,h=>h.1
 | .wrap _ _ _,_,_,h=>by
  obtain⟨b,vo,T,Ho,h1,rfl,h3⟩:=h;exact⟨b,vo,T,h1,List.mem_cons_self ..,ml.mono (gz.r h3) (λc hc=>List.mem_cons_of_mem _ hc)⟩
theorem vf:gz tE el .nil .nilIface []:=⟨rfl,rfl⟩
theorem py:gz tE el (.dW g) (.iface tE (.pointer (some (el g)))) []:=⟨rfl,rfl⟩
theorem sV:gz tE el (.num t n) (.iface t (.int .i64 n)) []:=⟨rfl,rfl⟩
theorem qL (h:gz tE el e vo Ho):
 gz tE el (.wrap t ns e) (.iface t (.pointer (some ⟨b,0,none⟩))) (List.flatten [[(b,Obj.cells ((ns.map λn=>Value.int .i64 n)++[vo]).toArray T (0,0))],Ho]):=⟨b,vo,T,Ho,rfl,by simp,h⟩
theorem Ks:ml tE el (.dW g) (.iface tE (.pointer (some (el g)))) H:=rfl
theorem sW (h:gz tE el e v H) (hj:idx j HL=some H):ml tE el e v HL.flatten:=
 h.r.mono λ_ hc=>iv (by rw[<-idx_eq];exact hj) hc
theorem G8 (h:ml tE el e v H) (hj:idx j HL=some H):ml tE el e v HL.flatten:=
 h.mono λ_ hc=>iv (by rw[<-idx_eq];exact hj) hc
theorem Kt {e:Er} {v:Value} {H:Hp} (h:ml tE el e v H):(e.isNil=true/\v= .nilIface)∨(e.isNil=false/\ ∃t u,v= .iface t u):=by
 cases e with
 |nil=>exact .inl ⟨rfl,h⟩
 |dW g=>exact .inr ⟨rfl,_,_,h⟩
 |num t n=>exact .inr ⟨rfl,_,_,h⟩
 |wrap t ns e=>
  obtain⟨b,vo,T,h1,_⟩:=h;exact .inr ⟨rfl,_,_,h1⟩
section
theorem Yq {T:Ty P} {ti:TypeId} {ms:Array (String×TypeId)} (hu:T.bW ti=some (.interface ms)) {e:Er} {v:Value} (h:ml tE el e v H) (w:World):
 (Op.equal ti v .nilIface).run P w= .ok e.isNil w:=by
 show(Op.equalIn (9999+1) ti _ _).run P w=_
 generalize 9999=d;rcases Kt h with⟨h1,rfl⟩ |⟨h1,t,u,rfl⟩
 ·simp only[Op.equalIn,Sem.run_bind,df hu,Result.andThen_ok,Sem.run_pure,h1]
 ·simp only[Op.equalIn,Sem.run_bind,df hu,Result.andThen_ok,Sem.run_pure,h1]
theorem Ua {t:TypeId} {op:BinOp} {x:Operand} {v:Value} (w:World):(eqGuard op t x (.const .nilIface) v .nilIface).run P w= .ok () w:=by
 unfold eqGuard;rw[Sem.run_ite];refine LD (λ_=>rfl) (λ_=>?_)
 cases v<;>simp
theorem SA {t:TypeId} {v:Value} (hv:v= .nilIface∨ ∃a b,v= .iface a b):binOp .eql t v .nilIface=(do pure (.bool (<-Op.equal t v .nilIface)))/\binOp .neq t v .nilIface=(do pure (.bool !(<-Op.equal t v .nilIface))):=by
 rcases hv with rfl |⟨a,b,rfl⟩<;>exact⟨rfl,rfl⟩
theorem KG (T:Ty P) {t yt:TypeId} {x:Operand} {ms:Array (String×TypeId)} {e:Er} {v:Value} (aV:o.op= .binOp .eql t x (.const .nilIface) yt) (hx:ev env x=some v)
 (hu:T.bW t=some (.interface ms)) (h:ml tE el e v H):ic W P n env H o (.bool e.isNil):=by
 intro t' w s ow;unfold execOp;have hv:v= .nilIface∨ ∃a b,v= .iface a b:=by
  rcases Kt h with⟨_,h1⟩ |⟨_,a,b,h1⟩
  ·exact .inl h1
  ·exact .inr ⟨a,b,h1⟩
 simp only[aV,bF s hx,bF (x:= .const .nilIface) s rfl];rw[(SA hv).1];simp only[Sem.run_bind,Ua,Result.andThen_ok,Yq hu h,Sem.run_pure]
theorem EY (T:Ty P) {t yt:TypeId} {x:Operand} {ms:Array (String×TypeId)} {e:Er} {v:Value} (aV:o.op= .binOp .neq t x (.const .nilIface) yt) (hx:ev env x=some v)
 (hu:T.bW t=some (.interface ms)) (h:ml tE el e v H):ic W P n env H o (.bool (!e.isNil)):=by
 intro t' w s ow;unfold execOp;have hv:v= .nilIface∨ ∃a b,v= .iface a b:=by
  rcases Kt h with⟨_,h1⟩ |⟨_,a,b,h1⟩
  ·exact .inl h1
  ·exact .inr ⟨a,b,h1⟩
 simp only[aV,bF s hx,bF (x:= .const .nilIface) s rfl];rw[(SA hv).2];simp only[Sem.run_bind,Ua,Result.andThen_ok,Yq hu h,Sem.run_pure]
def ahY:TypeDesc->Bool
 | .interface _=>false
 |_=>true
theorem iG (T:Ty P) (aV:o.op= .makeInterface t x) (hx:ev env x=some v) (hu:T.bW t=some d) (hd:ahY d=true):ic W P n env H o (.iface t v):=by
 intro t' w s ow;unfold execOp;have:(Instr.makeInterface t v).run P w= .ok (.iface t v) w:=by
  unfold Instr.makeInterface;simp only[Sem.run_bind,df hu,Result.andThen_ok]
  cases d<;>first |rfl |cases hd
 simp only[aV,bF s hx,Sem.run_bind,this,Result.andThen_ok]
 rfl
end
theorem tm (hj:idx j HL=some F) (hG:fR tE gs lits el F) (hg:g∈gs):
 ∃arr E fr,(g,Obj.cells arr E fr)∈HL.flatten/\arr[0]? =some (Value.iface tE (.pointer (some (el g)))):=by
 obtain⟨T,fr,hm⟩:=hG.1 g hg;exact⟨_,T,fr,iv (by rw[<-idx_eq];exact hj) hm,rfl⟩
end
def Er.EJ (t:Nat):Er->Option (Option Int)
 | .nil=>some none
 | .num u n=>if u=t then some (some n) else none
 | .wrap _ _ (.num u n)=>if u=t then some (some n) else none
 |_=>none
def Er.GJ (t:Nat):Er->Option (Option (Int×Int×Er))
 | .nil=>some none
 | .wrap u [a,b] e=>if u=t then some (some (a,b,e)) else none
 |_=>none
theorem aaE (h:e.GJ t=some none) (so:gz tE el e v H):v= .nilIface/\H=[]:=by
 unfold Er.GJ at h;split at h
 ·exact so
 ·split at h<;>cases h
 ·cases h
theorem aaF (h:e.GJ t=some (some (a,b,of))) (so:gz tE el e v H):
 ∃q vo T Ho,v= .iface t (.pointer (some ⟨q,0,none⟩))/\H=[(q,Obj.cells #[.int .i64 a,.int .i64 b,vo] T (0,0))]++Ho/\gz tE el of vo Ho:=by
 unfold Er.GJ at h;split at h
 ·cases h
 ·split at h
  ·rename_i u x y e' hu;subst hu;simp only[Option.some.injEq,Prod.mk.injEq] at h;obtain⟨rfl,rfl,rfl⟩:=h;obtain⟨q,vo,T,Ho,h1,h2,h3⟩:=so;exact⟨q,vo,T,Ho,h1,by rw[h2];rfl,h3⟩
  ·cases h
 ·cases h
section
variable (k : Fl α)
def dJ (xs:List α) (a:Option Addr) (n:Nat) (l:List α) (a':Option Addr) (n':Nat):Prop:=
 l=[]∨ ∃lo hi:Int,(0<=lo/\lo<=hi/\hi<=(xs.length:Int))/\l=aB xs lo hi/\a'=gy a n lo.toNat k.size/\n'=n-lo.toNat
variable {k}
theorem dJ.nil:dJ k xs a n [] a' n':= .inl rfl
theorem RU (a:Addr):a.add 0=a:=by unfold Addr.add;simp
theorem dJ.self:dJ k xs a n xs a n:=by
 refine .inr ⟨0,xs.length,by omega,by simp[aB],?_,by simp⟩
 unfold gy
 cases a<;>simp[RU]
theorem dJ.r (h:dJ k xs a n l a' n') (sr:aU k xs a H) (hc:xs.length<=n):aU k l a' H:=by
 rcases h with rfl |⟨lo,hi,h1,rfl,rfl,_⟩
 ·exact .inl rfl
 ·exact od sr h1 hc
theorem dJ.cap (h:dJ k xs a n l a' n') (hc:xs.length<=n):l=[]∨l.length<=n':=by
 rcases h with rfl |⟨lo,hi,h1,rfl,_,rfl⟩
 ·exact .inl rfl
 ·exact .inr (nC h1 hc)
theorem sub_sub (h1:0<=lo/\lo<=hi/\hi<=(xs.length:Int)) (h2:0<=BE/\BE<=tg/\tg<=((aB xs lo hi).length:Int)):
 aB (aB xs lo hi) BE tg=aB xs (lo+BE) (lo+tg):=by
 have hl:=je h1;unfold aB at hl⊢;rw[List.drop_take,List.take_take,List.drop_drop];have e1:lo.toNat+BE.toNat=(lo+BE).toNat:=U;have e2:min (tg.toNat-BE.toNat) (hi.toNat-lo.toNat-BE.toNat)=(lo+tg).toNat-(lo+BE).toNat:=by
  rw[je h1] at h2;omega
 rw[e1,e2]
theorem dJ.sub (h:dJ k xs a n l a' n') (hc:xs.length<=n) (h2:0<=lo/\lo<=hi/\hi<=(l.length:Int)):
 dJ k xs a n (aB l lo hi) (gy a' n' lo.toNat k.size) (n'-lo.toNat):=by
 rcases h with rfl |⟨Aj,hi1,h1,rfl,rfl,rfl⟩
 ·exact .inl (by simp[aB])
 ·by_cases he:lo=hi
  ·left;subst he;simp[aB]
  ·right
   have hl:=je h1;refine⟨Aj+lo,Aj+hi,by omega,sub_sub h1 h2,?_,by omega⟩
   unfold gy;have n1: ¬n=Aj.toNat:=U;have n2: ¬n-Aj.toNat=lo.toNat:=U;have n3: ¬n=(Aj+lo).toNat:=U;rw[if_neg n1,if_neg n2,if_neg n3]
   cases a with
   |none=>rfl
   |some x=>
    simp only[Option.map_some,Option.some.injEq];have:(Aj+lo).toNat=Aj.toNat+lo.toNat:=U;rw[this,Nat.add_mul];unfold Addr.add
    by_cases z1:Aj.toNat*k.size=0
    ·simp[z1]
    ·by_cases z2:lo.toNat*k.size=0
     ·simp[z1,z2]
     ·have: ¬(Aj.toNat*k.size+lo.toNat*k.size=0):=U;simp only[z1,z2,this,if_false]
      congr 1
      omega
theorem px {HL:List Hp} {xs l:List α} {a a':Option Addr} {n n':Nat} (h:dJ k xs a n l a' n') (sr:aU k xs a HL.flatten) (hc:xs.length<=n):aU k l a' HL.flatten:=h.r sr hc
variable (k)
def JI (E:TypeId) (xs:List α) (a:Option Addr) (n:Nat) (l:List α) (a':Option Addr) (n':Nat) (H:Hp):Prop:=
 (dJ k xs a n l a' n'/\l.length<=n'/\H=[])∨ak k E l a' n' H
variable {k}
theorem abN (h:JI k E xs a n l a' n' H) (hj:idx j HL=some H) (sr:aU k xs a HL.flatten) (hc:xs.length<=n):aU k l a' HL.flatten:=by
 rcases h with⟨h,_,_⟩ |h
 ·exact h.r sr hc
 ·exact Xx h hj
theorem JI.ck (h:JI k E xs a n l a' n' H):l.length<=n':=by
 rcases h with⟨_,h,_⟩ |h
 ·exact h
 ·exact h.ck
end
section
open Classical
noncomputable def GH {α β:Type} (p:α->Prop) (f:α->Option β):Option β:=if h: ∃r,∀x,p x->f x=some r then some (Classical.choose h) else none
theorem aas (h:GH p f=some r) (hx:p x):f x=some r:=by
 unfold GH at h;split at h
 ·rename_i hh;have:=Classical.choose_spec hh x hx;rw[Option.some.inj h] at this;exact this
 ·cases h
theorem aat (hx:p x) (h: ∀x,p x->f x=some r):GH p f=some r:=by
 unfold GH;have hh: ∃r,∀x,p x->f x=some r:=⟨r,h⟩;rw[dif_pos hh];have:=Classical.choose_spec hh x hx;rw[h x hx] at this;exact this.symm
end
def L8 (n:Int) (xs:List Int):Prop:=xs.length=n.toNat/\ ∀x∈xs,dZ x
theorem ah5 (n:Int):L8 n (List.replicate n.toNat 0):=⟨by simp,λx hx=>by rw[List.mem_replicate] at hx;rw[hx.2];exact⟨by omega,by omega⟩⟩
def yN:Nat->Nat->List Int
 |0,_=>[]
 |n+1,t=>Int.ofNat (t%256)::yN n (t/256)
theorem Xl: ∀n t,(yN n t).length=n
 |0,_=>rfl
 |n+1,t=>by simp[yN,Xl n]
theorem Xk: ∀n t,∀x∈yN n t,dZ x
 |0,_,x,h=>by simp[yN] at h
 |n+1,t,x,h=>by
  simp only[yN,List.mem_cons] at h;rcases h with rfl |h
  ·have:=Nat.mod_lt t (show 256>0 by omega)
   refine⟨Int.natCast_nonneg _,?_⟩
   show((t%256:Nat):Int)<=255
   omega
  ·exact Xk n _ x h
theorem Tb: ∀(n t:Nat) (acc:Array Value),(Extern.BytealgMakeNoZero.digits n t acc).toList=acc.toList++(yN n t).map λx=>Value.int .u8 x
 |0,_,acc=>by simp[Extern.BytealgMakeNoZero.digits,yN]
 |n+1,t,acc=>by
  rw[Extern.BytealgMakeNoZero.digits,Tb n];simp[yN]
structure RD (P:Program) (f:FuncId) (t:TypeId):Prop where
 h: ∃ps,∀(args:Array Value) (w:World),(callFunc f args).run P w=((Extern.BytealgMakeNoZero.makeNoZero ps #[t] args).run P w).andThen λv w'=> .ok (.value v) w'
section
theorem aba (T:Ty P)
 (hs:slot n ops env i=some (o,d)) (aV:o.op= .call ⟨.value c,#[x],types⟩) (hc:ev env c=some (.func (.func f) #[] #[])) (hx:ev env x=some (.int .i64 m)) (hf:RD P f t) (ht:T.bW t=some (.slice E)) (h0:0<=m/\m<=1099511627776)
 (h: ∀xs a cap H',L8 m xs->ak (Fl.int .u8) E xs a cap H'->aK W n K ((d,.slice a xs.length cap)::env) (HL++[H'])):aK W n (wpOp P ops Q i K) env HL:=by
 obtain⟨ho,hw,hd,hn⟩:=vK hs;refine zC (β:={p:List Int×Option Addr×Nat×Hp // L8 m p.1/\ak (Fl.int .u8) E p.1 p.2.1 p.2.2.1 p.2.2.2}) (V:=λp=> .slice p.1.2.1 p.1.1.length p.1.2.2.1) (G:=λp=>(HL++[p.1.2.2.2]).flatten)
  ho hw hd hn (λt' w s ow=>?_) (λp=>h _ _ _ _ p.2.1 p.2.2)
 obtain⟨ps,pC⟩:=hf.h
 let cap:=grownCap w m.toNat 0 E
 let by' := (Question.extern "internal/bytealg.MakeNoZero.bytes" 0).cut (w.tape (w.drawn + 1) (.extern "internal/bytealg.MakeNoZero.bytes" 0))
 let ds:=yN cap by'
 have HE:m.toNat<=cap:=grownCap_ge w m.toNat 0 E;have Da:ds.length=cap:=Xl _ _;have afV:(Extern.BytealgMakeNoZero.digits cap by' #[])=(row (Fl.int .u8) ds).toArray:=by
  apply Array.ext';rw[Tb,Yn];simp[ds]
 have oL:(Extern.BytealgMakeNoZero.makeNoZero ps #[t] #[.int .i64 m]).run P w= .ok (.slice (some ⟨w.heap.size,0,none⟩) m.toNat cap) (w.drew.drew.alloc (.cells (row (Fl.int .u8) ds).toArray E)):=by
  have afX:Extern.BytealgMakeNoZero.makeNoZero ps #[t] #[.int .i64 m]=
   (do
     let .slice elem ← underlying t | stuck "bytealg.MakeNoZero: slice type expected"
     if m < 0 || m > 2 ^ 48 then runtimePanic (.error "makeslice: len out of range")
     let cap<-choose (.appendCap m.toNat 0 elem)
     askRoom cap
     let bytes ← choose (.extern "internal/bytealg.MakeNoZero.bytes" 0)
     let a<-newRow elem (Extern.BytealgMakeNoZero.digits cap bytes #[])
     pure (.slice (some a) m.toNat cap)):=rfl
  rw[afX];have h1: ¬m<0:=U;have h2: ¬(281474976710656:Int)<m:=U;rw[<-afV];simp[df ht,h1,h2,Question.forced,newRow,Lib.size_digits,grownCap,cap,by']
 refine⟨⟨(ds.take m.toNat,some ⟨w.heap.size,0,none⟩,cap,[(w.heap.size,.cells (row (Fl.int .u8) ds).toArray E)]),⟨by simp;omega,λx hx=>Xk _ _ x (List.mem_of_mem_take hx)⟩,.inr ⟨w.heap.size,[],row (Fl.int .u8) (ds.drop m.toNat),rfl,?_,by simp;omega,?_⟩⟩,w.drew.drew.alloc (.cells (row (Fl.int .u8) ds).toArray E),?_,?_⟩
 ·rw[List.nil_append,<-qY,List.take_append_drop]
 ·rw[lU,List.length_drop,List.length_take]
  show(cap-min m.toNat ds.length)*_<=(ds.length-m.toNat)*_
  exact Nat.mul_le_mul_right _ U
 ·have hl:(ds.take m.toNat).length=m.toNat:=by simp;omega
  unfold execOp;simp only[aV,resolve,bF s hc,bF s hx,Deferred.ofValue,Sem.run_bind,Sem.run_pure,Result.andThen_ok,invoke,List.map_toArray,List.map_cons,List.map_nil];rw[show(#[]:Array Value)++ #[Value.int .i64 m]++ #[]= #[Value.int .i64 m] from rfl,pC,oL]
  simp only[Result.andThen_ok,hl]
 ·exact DS _ (show bn W w.drew.drew HL.flatten from ow.drew.drew)
end
theorem ak.trim (so:ak k E xs a cap H) (h1:xs.length<=c) (h2:c<=cap):ak k E xs a c H:=by
 rcases so with⟨h3,h4,h5,h6⟩ |⟨b,pre,post,h3,h4,h5,h6⟩
 ·exact .inl ⟨h3,h4,by omega,h6⟩
 ·refine .inr ⟨b,pre,post,h3,h4,h1,Nat.le_trans (Nat.mul_le_mul_right _ U) h6⟩
section
theorem ady {α:Type} (T:Ty P) {H:Hp} {t E sz by' cap:Nat} {z:Value} {x hi mx:Operand} {a:Option Addr} {xs:List α} {h:Int} {kk BD:IntKind} (aV:o.op= .slice t x none (some hi) (some mx)) (hx:ev env x=some (.slice a xs.length cap))
 (hu:T.bW t=some (.slice E)) (dK:T.inf E=some (sz,by',z)) (wO:ev env hi=some (.int kk h)) (hmx:ev env mx=some (.int BD h)) (hb:h=(xs.length:Int)) (hc:xs.length<=cap):
 ic W P n env H o (.slice a xs.length xs.length):=by
 subst hb;intro t' w s ow;have wV:xs.length-0=xs.length:=U;have e1:(Instr.sliceBounds true xs.length cap none (some (Act.eval ⟨t',[]⟩ hi)) (some (Act.eval ⟨t',[]⟩ mx))).run P w= .ok (0,xs.length,xs.length) w:=by
  unfold Instr.sliceBounds;simp only[bF s wO,bF s hmx,Sem.run_bind,run_sliceBound (kk:=BD) U (show((xs.length:Int))<=(cap:Int) by omega),run_sliceBound (kk:=kk) U (show((xs.length:Int))<=((Int.toNat (xs.length:Int):Nat):Int) by omega),Result.andThen_ok,Sem.run_pure]
  simp
 have e2:(Instr.slice t (.slice a xs.length cap) none (some (Act.eval ⟨t',[]⟩ hi)) (some (Act.eval ⟨t',[]⟩ mx))).run P w= .ok (.slice a xs.length xs.length) w:=by
  unfold Instr.slice;simp only[Sem.run_bind,df hu,Result.andThen_ok];simp only[Sem.run_bind,e1,Result.andThen_ok,kq dK,Sem.run_pure]
  congr 2
  cases a with
  |none=>simp
  |some a=>simp[RU]
 unfold execOp;simp only[aV,bF s hx,Option.map_none,Option.map_some];unfold Instr.sliceAt;simp only[Sem.run_bind,df hu,Result.andThen_ok];rw[e2];rfl
end
theorem ac6 (h:ml tE el e v H):bN v=[v]:=by
 rcases Kt h with⟨_,rfl⟩ |⟨_,t,u,rfl⟩<;>rfl
theorem Tt (h:gz tE el e v H):bN v=[v]:=ac6 h.r
def Kv (place:Nat->Option (Nat×Nat)) (cells:List Value):List (Nat×List Value)->Option (List Value)
 |[]=>some cells
 |(i,v)::rest=>
  match place i with
  |none=>none
  |some (off,size)=>
   bif Nat.beq v.length size&&Nat.ble (off+v.length) cells.length then Kv place (gx cells off v) rest else none
theorem Tw (place:Nat->Option (Nat×Nat)): ∀(vs:List (Nat×Value)) (cells:List Value),wC place cells vs=Kv place cells (vs.map λp=>(p.1,bN p.2))
 |[],_=>rfl
 |(i,v)::rest,cells=>by
  simp only[wC,List.map_cons,Kv]
  cases place i with
  |none=>rfl
  |some os=>simp only[Tw place rest]
section
theorem TN (T:Ty P) (ws:List (Nat×List Value)) (aV:o.op= .build t parts)
 (hu:T.bW t=some (.struct fs)) (hi:T.inf t=some (sz,by',z)) (nT:FG T fs.toList=some pl) (PL:(parts.toList.mapM λp=>(ev env p.2).map λv=>(p.1,v))=some vs)
 (hws:(vs.map λp=>(p.1,bN p.2))=ws) (hf:Kv (λi=>idx i pl) (bN z) ws=some cs):ic W P n env H o (.agg cs.toArray):=by
 intro t' w s ow;refine Me (T:=T) s ?_ w;unfold DW;rw[aV];simp only[hu,hi,nT,PL,Tw,hws,hf]
end
end
section
section
variable [Inhabited α] (kd : Kd α)
def CA (E:TypeId) (xs:List α) (a:Option Addr) (cap:Nat) (H Hl:Hp):Prop:=
 ∃cc H0 R,ak (Fl.raw kd.size kd.pos) E cc a cap H0/\cc.length=xs.length/\H=H0++R/\ ∀i:Nat,i<xs.length->kd.nt (rd xs (i:Int)) (rd cc (i:Int)).val (R++Hl)
def EG (E:TypeId) (xs:List α) (a:Option Addr) (cap:Nat) (i:Int) (cs:List Value) (H Hl:Hp):Prop:=
 (0<=i/\i<(xs.length:Int))/\ ∃cc H0 R,ak (Fl.raw kd.size kd.pos) E cc a cap H0/\cc.length=xs.length/\(rd cc i).val=cs/\H=H0++R/\
   ∀j:Nat,j<xs.length->(j:Int)≠i->kd.nt (rd xs (j:Int)) (rd cc (j:Int)).val (R++Hl)
variable {kd}
theorem CA.ck (h:CA kd E xs a cap H Hl):xs.length<=cap:=by
 obtain⟨cc,H0,R,h0,hl,_⟩:=h;rw[<-hl];exact h0.ck
theorem CA.addr {xs:List α} {a:Option Addr} {cap:Nat} {H Hl:Hp} (h:CA kd E xs a cap H Hl) {i:Int} (h0:0<=i) (h1:i<xs.length): ∃b off,a=some ⟨b,off,none⟩:=by
 obtain⟨cc,H0,R,h2,h3,_⟩:=h;exact h2.r.addr h0 (by rw[h3];exact h1)
theorem CA.pre (so:CA kd E xs a cap H Hl) (h:0<=(0:Int)/\0<=hi/\hi<=(xs.length:Int)):
 CA kd E (aB xs 0 hi) (gy a cap (Int.toNat 0) kd.size) (cap-Int.toNat 0) H Hl:=by
 obtain⟨cc,H0,R,h0,hl,rfl,hr⟩:=so;have hx: ∀{β:Type} [Inhabited β] (l:List β) (i:Nat),(i:Int)<hi->rd (aB l 0 hi) (i:Int)=rd l (i:Int):=λl i dK=>by
  unfold rd aB;simp only[Int.toNat_zero,List.drop_zero,Nat.sub_zero];rw[List.getD_eq_getElem?_getD,List.getD_eq_getElem?_getD,List.getElem?_take_of_lt U]
 have hlen:(aB xs 0 hi).length=hi.toNat:=by rw[je h];omega
 refine⟨aB cc 0 hi,H0,R,h0.pre (by rw[hl];exact h),?_,rfl,λi dK=>?_⟩
 ·rw[je (by rw[hl];exact h),je h]
 ·rw[hlen] at dK;rw[hx xs i U,hx cc i U];exact hr i U
theorem EG.cells (h:EG kd E xs a cap i cs H Hl):zo a (i.toNat*kd.size) cs H:=by
 obtain⟨hi,cc,H0,R,h0,hl,rfl,rfl,_⟩:=h;obtain⟨b,off,ha⟩:=h0.r.addr hi.1 (by rw[hl];exact hi.2)
 obtain⟨arr,E',fr,hm,hc⟩:=h0.r.elem ha hi.1 (by rw[hl];exact hi.2)
 exact⟨b,off,arr,E',fr,ha,List.mem_append_left _ hm,λf v hv=>hc f v hv⟩
theorem EG.addr (h:EG kd E xs a cap i cs H Hl): ∃b off,a=some ⟨b,off,none⟩:=by
 obtain⟨b,off,_,_,_,ha,_⟩:=h.cells;exact⟨b,off,ha⟩
theorem EG.ck (h:EG kd E xs a cap i cs H Hl):xs.length<=cap:=by
 obtain⟨hi,cc,H0,R,h0,hl,rfl,rfl,_⟩:=h;rw[<-hl];exact h0.ck
section rules
end rules
end
end
section
def Fl.pair (k:IntKind):Fl (Int×Int):=⟨2,λx=>[.int k x.1,.int k x.2],λ_=>rfl,λ_ v h=>by
 simp only[List.mem_cons,List.not_mem_nil,or_false] at h;rcases h with rfl |rfl<;>rfl,by decide⟩
section
theorem TO (aV:o.op= .binOp .shl t x y yt) (hx:ev env x=some (.int k a)) (hy:ev env y=some (.int yk b)) (hb:0<=b):
 ic W P n env H o (.int k (k.wrap (a*2^(min b.toNat k.bits)))):=by
 intro t' w s ow;unfold execOp;simp only[aV,bF s hx,bF s hy];have: ¬b<0:=U;simp[eqGuard,binOp,Op.shift,this]
theorem TP (T:Ty P) (xs:List Int) (aV:o.op= .index t x ix) (hx:ev env x=some (.string s)) (zZ:ev env ix=some (.int kk j))
 (hu:T.bW t=some .string) (hs:s.data.toList.map (λb=>(b.toNat:Int))=xs) (hj:0<=j/\j<(xs.length:Int)):ic W P n env H o (.int .u8 (rd xs j)):=by
 intro t' w st ow;obtain⟨h0,h1⟩:=hj;unfold execOp;have hl:j.toNat<s.data.toList.length:=by
  have:xs.length=s.data.toList.length:=by rw[<-hs];simp
  omega
 have hg:s[j.toNat]? =some (s.data.toList[j.toNat]'hl):=by
  have j_:j.toNat<s.size:=by have q:=hl;rw[Array.length_toList] at q;exact q
  rw[getElem?_pos s j.toNat j_]
  rfl
 have hr:rd xs j=((s.data.toList[j.toNat]'hl).toNat:Int):=by
  rw[jc (by rw[<-hs];simpa using hl)]
  simp only[<-hs,List.getElem_map]
 simp only[aV,bF st hx,bF st zZ,Instr.index,asIntOf,Sem.run_bind,Sem.run_pure,Result.andThen_ok,df hu,h0,if_true,hg];rw[hr]
end
section
variable {HL : List Hp}
theorem Wq (hj:idx j HL=some ((b,.cells arr E fr)::Hr)) (ha:arr.toList=xs.map λx=>Value.int kk x) (hi:0<=i/\i<(xs.length:Int)):
 ∃arr E fr,(b,Obj.cells arr E fr)∈HL.flatten/\arr[i.toNat]? =some (Value.int kk (rd xs i)):=by
 refine⟨arr,E,fr,iv (by rw[<-idx_eq];exact hj) (List.mem_cons_self ..),?_⟩
 have h2:arr[i.toNat]? =arr.toList[i.toNat]? :=by simp
 rw[h2,ha,List.getElem?_map,jc U,List.getElem?_eq_getElem U]
 rfl
end
section
theorem abl (T:Ty P) (j:Nat) (cs:List Value)
 (hs:tJ ops env i=some o) (aV:o.op= .store t x y) (hx:ev env x=some (.pointer (some ⟨b,jx.toNat,none⟩)))
 (hy:ev env y=some (.int kk v)) (hi:T.inf t=some (1,by',z)) (hj:idx j HL=some ((b,.cells arr E (0,0))::Hr)) (ha:arr.toList=xs.map λx=>Value.int kk x) (hb:0<=jx/\jx<(xs.length:Int))
 (kH:((List.range xs.length).map λq:Nat=>Value.int kk (rd (List.set xs jx.toNat v) (q:Int)))=cs)
 (h:aK W n K env (HL.set j ((b,.cells cs.toArray E (0,0))::Hr))):aK W n (wpOp P ops Q i K) env HL:=by
 let⟨ho,hw,hd⟩:=B3 hs
 have j_:arr.size=xs.length:=by rw[<-Array.length_toList,ha];simp
 refine EL T ho hw hd aV hx hy hi (by rw[<-idx_eq];exact hj) rfl (λc hc=>?_) U ?_ h
 ·simp only[bN,List.mem_singleton] at hc;subst hc;rfl
 ·rw[<-kH,ha];unfold gx;apply List.ext_getElem
  ·simp[bN];omega
  ·intro q h1 h2;have hq:q<xs.length:=by simpa using h2
   simp only[List.getElem_map,List.getElem_range];have e1:rd (List.set xs jx.toNat v) (q:Int)=if jx.toNat=q then v else xs[q]:=by
    rw[jc (by simpa using hq)]
    simp only[Int.toNat_natCast];rw[List.getElem_set]
   rw[e1]
   by_cases aS:q<jx.toNat
   ·rw[List.getElem_append_left (by simp;omega),List.getElem_take,List.getElem_map,if_neg U]
   ·by_cases heq:q=jx.toNat
    ·rw[List.getElem_append_right (by simp;omega),if_pos heq.symm,List.getElem_append_left (by simp[bN];omega)]
     simp[bN,heq]
    ·rw[List.getElem_append_right (by simp;omega),List.getElem_append_right (by simp[bN];omega),if_neg U,List.getElem_drop,List.getElem_map]
     congr 2
     simp[bN];omega
end
end
section
def Cn (b o:Nat) (cs:List Value) (F:Hp):Prop:= ∃arr E fr,(b,Obj.cells arr E fr)∈F/\ ∀(i:Nat) (v:Value),cs[i]? =some v->arr[o+i]? =some v
section
theorem Cn.mono (h:Cn b o cs F) (hs: ∀c∈F,c∈F'):Cn b o cs F':=by
 obtain⟨arr,E,fr,hm,hc⟩:=h;exact⟨arr,E,fr,hs _ hm,hc⟩
theorem Sl (h:zo a p cs F) (ha:a=some ⟨b,off,none⟩) (hj:idx j HL=some F):Cn b (off+p) cs HL.flatten:=by
 obtain⟨b',DP,arr,E,fr,wG,hm,hc⟩:=h;rw[ha] at wG;simp at wG;obtain⟨rfl,rfl⟩:=wG;exact⟨arr,E,fr,iv (by rw[<-idx_eq];exact hj) hm,hc⟩
theorem PR (h:Cn b o cs F) (hj:idx j HL=some F) (f:Nat) (hv:idx f cs=some v): ∃arr E fr,(b,Obj.cells arr E fr)∈HL.flatten/\arr[o+f]? =some v:=by
 obtain⟨arr,E,fr,hm,hc⟩:=h;exact⟨arr,E,fr,iv (by rw[<-idx_eq];exact hj) hm,hc f v (by rw[<-idx_eq];exact hv)⟩
theorem agp {α:Type} [Inhabited α] {k:Fl α} {H:Hp} {xs:List α} {a:Option Addr} (h:aU k xs a H) {off:Nat} (ha:a=some ⟨b,off,none⟩) {i:Int} (hi:0<=i/\i<(xs.length:Int)) (f:Nat) {vs:List Value}
 (hv:((k.enc (rd xs i)).drop f).take vs.length=vs): ∃arr E fr,(b,Obj.cells arr E fr)∈H/\ ∀q v,vs[q]? =some v->arr[off+i.toNat*k.size+f+q]? =some v:=by
 obtain⟨arr,E,fr,hm,hc⟩:=iI h ha hi rfl;refine⟨arr,E,fr,hm,λq v hq=>?_⟩
 rw[<-hv] at hq;have hl:=(List.getElem?_eq_some_iff.1 hq).1;rw[List.getElem?_take_of_lt (by simp at hl;omega),List.getElem?_drop] at hq
 rw[Nat.add_assoc];exact hc (f+q) v hq
end
def ZU (r:Option Int) (a:Option Addr) (len sz:Nat) (u:Value):Prop:=match r with
 |none=>u= .pointer none
 |some i=>(0<=i/\i<(len:Int))/\ ∃b off,a=some ⟨b,off,none⟩/\u= .pointer (some ⟨b,off+i.toNat*sz+0,none⟩)
section
theorem ajt (T:Ty P) {t e b o1 o2 sz by':Nat} {z:Value} (hu:T.bW t=some (.pointer e)) (hi:T.inf e=some (sz,by',z)) (j_:Nat.beq sz 0=false) (w:World):
 (Op.equal t (.pointer (some ⟨b,o1,none⟩)) (.pointer (some ⟨b,o2,none⟩))).run P w= .ok (o1==o2) w:=by
 show(Op.equalIn (9999+1) t _ _).run P w=_
 generalize 9999=d;have bD:sz≠0:=by intro q;subst q;simp at j_
 simp only[Op.equalIn,Sem.run_bind,df hu,Result.andThen_ok,kq hi,Sem.run_ite,bD,if_true,sameAddr,beq_self_eq_true,Sem.run_pure,ne_eq,not_false_eq_true]
 congr 1
 by_cases h:o1=o2
 ·subst h;simp
 ·have:(⟨b,o1,none⟩:Addr)≠⟨b,o2,none⟩:=λq=>h (by injection q)
  rw[beq_eq_false_iff_ne.mpr this,beq_eq_false_iff_ne.mpr h]
theorem XF {t:TypeId} {op:BinOp} {x y:Operand} {a b:Option Addr} (w:World):(eqGuard op t x y (.pointer a) (.pointer b)).run P w= .ok () w:=by
 unfold eqGuard;rw[Sem.run_ite];refine LD (λ_=>rfl) (λ_=>?_);simp
theorem adw (T:Ty P) {t yt e b1 b2 o1 o2 sz by':Nat} {x y:Operand} {a:Option Addr} {i j:Int} {z:Value} (aV:o.op= .binOp .neq t x y yt) (hx:ev env x=some (.pointer (some ⟨b1,o1+i.toNat*sz+0,none⟩)))
 (hy:ev env y=some (.pointer (some ⟨b2,o2+j.toNat*sz+0,none⟩))) (hu:T.bW t=some (.pointer e)) (hi:T.inf e=some (sz,by',z)) (j_:Nat.beq sz 0=false) (h1:a=some ⟨b1,o1,none⟩) (h2:a=some ⟨b2,o2,none⟩)
 (hi0:0<=i) (hj0:0<=j):ic W P n env H o (.bool (!(i==j))):=by
 intro t' w s ow;rw[h1] at h2;simp at h2;obtain⟨rfl,rfl⟩:=h2;unfold execOp;simp only[aV,bF s hx,bF s hy,binOp,Sem.run_bind,XF,Result.andThen_ok,ajt T hu hi j_,Sem.run_pure]
 congr 3
 have bD:0<sz:=by
  rcases Nat.eq_zero_or_pos sz with q |q
  ·subst q;simp at j_
  ·exact q
 by_cases h:i=j
 ·subst h;simp
 ·have h3:i.toNat≠j.toNat:=U;have h4:i.toNat*sz≠j.toNat*sz:=λq=>h3 (Nat.eq_of_mul_eq_mul_right bD q);have h5: ¬(o1+i.toNat*sz+0=o1+j.toNat*sz+0):=U;simp only[beq_eq_false_iff_ne.mpr h];simp only[beq_eq_false_iff_ne.mpr h5]
end
section
theorem ajs (T:Ty P) (hu:T.bW t=some (.pointer e)) (w:World):(Op.equal t (.pointer none) (.pointer (some a))).run P w= .ok false w/\(Op.equal t (.pointer (some a)) (.pointer none)).run P w= .ok false w:=by
 constructor
 ·show(Op.equalIn (9999+1) t _ _).run P w=_
  generalize 9999=d;simp only[Op.equalIn,Sem.run_bind,df hu,Result.andThen_ok,Sem.run_pure]
  rfl
 ·show(Op.equalIn (9999+1) t _ _).run P w=_
  generalize 9999=d;simp only[Op.equalIn,Sem.run_bind,df hu,Result.andThen_ok,Sem.run_pure]
theorem adv (T:Ty P) (aV:o.op= .binOp .neq t x y yt) (hx:ev env x=some (.pointer none)) (hy:ev env y=some (.pointer (some a))) (hu:T.bW t=some (.pointer e)):ic W P n env H o (.bool true):=by
 intro t' w s ow;unfold execOp;simp only[aV,bF s hx,bF s hy,binOp,Sem.run_bind,XF,Result.andThen_ok,(ajs T hu w).1,Sem.run_pure]
 rfl
end
end
section
section rules
variable {k : Fl α}
variable {k : Fl α}
theorem aa7 (T:Ty P) (x0:α)
 (ho:ops[i]? =some o) (hw:want ops env o=some true) (hd:o.dst=some d) (hn:d<n) (aV:o.op= .makeSlice t x y) (hx:ev env x=some (.int kk l)) (hy:ev env y=some (.int BD m))
 (hu:T.bW t=some (.slice E)) (hi:T.inf E=some (sz,by',z)) (hk:k.size=sz) (hz:bN z=k.enc x0) (l0:0<=l) (l1:l<=m) (h0:0<=m) (hm:m<=4611686018427387904) (hb:by'*m<=281474976710656)
 (h: ∀a cap H',ak k E (List.replicate l.toNat x0) a cap H'->aK W n K ((d,.slice a (List.replicate l.toNat x0).length cap)::env) (HL++[H'])):
 aK W n (wpOp P ops Q i K) env HL:=by
 refine zC (β:={p:Option Addr×Nat×Hp // ak k E (List.replicate l.toNat x0) p.1 p.2.1 p.2.2}) (V:=λp=> .slice p.1.1 (List.replicate l.toNat x0).length p.1.2.1) (G:=λp=>(HL++[p.1.2.2]).flatten)
  ho hw hd hn (λt' w s ow=>?_) (λp=>h _ _ _ p.2)
 obtain⟨inf,nk,j_,iZ,BA⟩:=T.nk E sz by' z hi
 have wW:z.cells.toList=k.enc x0:=by rw[sT,hz]
 have yw: ∀c:Nat,(Array.range (c*sz)).map (λi=>z.cells[i%z.cells.size]!)=(row k (List.replicate c x0)).toArray:=by
  intro c;have j_:z.cells.size=sz:=by have:=k.len x0;rw[<-wW] at this;simpa[hk] using this
  have hp:0<sz:=hk▸k.pos;apply Array.ext
  ·simp[lU,hk]
  ·intro j h1 h2;simp at h1;simp only[Array.getElem_map,Array.getElem_range,List.getElem_toArray];have hq:j/sz<c:=by rw[Nat.div_lt_iff_lt_mul hp];exact h1
   have hr:j%sz<sz:=Nat.mod_lt _ hp;have hg:=D6 k (List.replicate c x0) (j/sz) (j%sz) (by simpa using hq) (by rw[hk];exact hr)
   rw[hk,Nat.div_add_mod' j sz] at hg;simp only[List.getElem_replicate] at hg;rw[j_];have h3:z.cells[j%sz]? =(k.enc x0)[j%sz]? :=by rw[<-wW];simp
   rw[<-h3] at hg;rw[List.getElem?_eq_getElem (by simpa using h2)] at hg
   rw[getElem!_pos z.cells (j%sz) (by rw[j_];exact hr)]
   rw[Array.getElem?_eq_getElem (by rw[j_];exact hr)] at hg
   exact(Option.some.inj hg).symm
 have Ic:IntKind.i64.wrap m=m:=by unfold IntKind.wrap IntKind.signed IntKind.bits;simp;omega
 have Wh:IntKind.i64.wrap l=l:=by unfold IntKind.wrap IntKind.signed IntKind.bits;simp;omega
 have hl4: ¬l<0:=U;have hl5: ¬l>m:=U;refine⟨⟨(some ⟨w.heap.size,0,none⟩,m.toNat,[(w.heap.size,.cells (row k (List.replicate m.toNat x0)).toArray E (0,0))]),.inr ⟨w.heap.size,[],row k (List.replicate (m.toNat-l.toNat) x0),rfl,by rw[List.nil_append,<-qY,List.replicate_append_replicate,show l.toNat+(m.toNat-l.toNat)=m.toNat by omega],by simp;omega,by rw[lU];simp⟩⟩,
  w.alloc (.cells (row k (List.replicate m.toNat x0)).toArray E),?_,DS _ ow⟩
 unfold execOp;have h4: ¬m<0:=U;have h5: ¬(281474976710656<(by':Int)*m):=U
 by_cases hc:m.toNat*sz=0
 ·have hz0:m.toNat=0:=by
   rcases Nat.mul_eq_zero.1 hc with h |h
   ·exact h
   ·have:=k.pos;omega
  have:m=0:=U;have yp:l=0:=U;subst this;subst yp;simp[aV,bF s hx,bF s hy,Instr.makeSlice,df hu,asInt,asIntOf,typeInfo,nk,iZ,Ic,Wh,kq hi,newRow,BP];have e:(Array.range 0).map (λ_=>(default:Value))= #[]:=by apply Array.ext';simp
  rw[e]
 ·simp[aV,bF s hx,bF s hy,Instr.makeSlice,df hu,asInt,asIntOf,typeInfo,nk,iZ,Ic,Wh,hl4,hl5,h4,h5,kq hi,hc,BQ hi,newRow,yw]
theorem aa' (T:Ty P) (x0:α)
 (hs:slot n ops env i=some (o,d)) (aV:o.op= .makeSlice t x y) (hx:ev env x=some (.int kk l)) (hy:ev env y=some (.int BD m))
 (hu:T.bW t=some (.slice E)) (hi:T.inf E=some (sz,by',z)) (hk:k.size=sz) (hz:bN z=k.enc x0) (h0:0<=l/\l<=m/\m<=1099511627776) (iZ:Nat.ble by' 128=true)
 (h: ∀a cap H',ak k E (List.replicate l.toNat x0) a cap H'->aK W n K ((d,.slice a (List.replicate l.toNat x0).length cap)::env) (HL++[H'])):aK W n (wpOp P ops Q i K) env HL:=
 let⟨ho,hw,hd,hn⟩:=vK hs
 aa7 T x0 ho hw hd hn aV hx hy hu hi hk hz h0.1 h0.2.1 U U (by
  have h1:=Nat.le_of_ble_eq_true iZ;have h2:(by':Int)*m<=128*1099511627776:=by
   have h3:(by':Int)<=128:=U
   exact Int.mul_le_mul h3 h0.2.2 U U
  omega) h
end rules
section
variable {HL : List Hp}
theorem agq (hj:idx j HL=some ((b,.cells (pre++v::post).toArray E fr)::Hr)):
 ∃arr E fr,(b,Obj.cells arr E fr)∈HL.flatten/\arr[pre.length]? =some v:=
 ⟨_,E,fr,iv (by rw[<-idx_eq];exact hj) (List.mem_cons_self ..),by simp⟩
end
section
theorem abn (T:Ty P) (j:Nat)
 (hs:tJ ops env i=some o) (aV:o.op= .store t x y) (hx:ev env x=some (.pointer (some ⟨b,pre.length,none⟩)))
 (hy:ev env y=some (.int kk v)) (hi:T.inf t=some (1,by',z)) (hj:idx j HL=some ((b,.cells (pre++v0::post).toArray E (0,0))::Hr))
 (h:aK W n K env (HL.set j ((b,.cells (pre++Value.int kk v::post).toArray E (0,0))::Hr))):aK W n (wpOp P ops Q i K) env HL:=by
 let⟨ho,hw,hd⟩:=B3 hs
 refine EL T ho hw hd aV hx hy hi (by rw[<-idx_eq];exact hj) rfl (λc hc=>?_) (by simp) ?_ h
 ·simp only[bN,List.mem_singleton] at hc;subst hc;rfl
 ·unfold gx;simp[bN]
end
end
section
section
variable {HL : List Hp}
theorem Dr (hj:idx j HL=some ((b,.cells (pre++(mid++post)).toArray E fr)::Hr)) (f:Nat) (hv:idx f mid=some v):
 ∃arr E fr,(b,Obj.cells arr E fr)∈HL.flatten/\arr[pre.length+f]? =some v:=by
 refine⟨_,E,fr,iv (by rw[<-idx_eq];exact hj) (List.mem_cons_self ..),?_⟩
 rw[idx_eq] at hv;have hl:=(List.getElem?_eq_some_iff.1 hv).1;rw[List.getElem?_toArray,List.getElem?_append_right U,show pre.length+f-pre.length=f by omega,List.getElem?_append_left hl]
 exact hv
end
section
theorem Kc (T:Ty P) (j f:Nat) (cs:List Value)
 (hs:tJ ops env i=some o) (aV:o.op= .store t x y) (hx:ev env x=some (.pointer (some ⟨b,pre.length+f,none⟩)))
 (hy:ev env y=some v) (hi:T.inf t=some (sz,by',z)) (hj:idx j HL=some ((b,.cells (pre++(mid++post)).toArray E (0,0))::Hr)) (hl:Nat.beq (bN v).length sz=true) (hf:(bN v).all Value.oneCell'=true)
 (hb:Nat.ble (f+sz) mid.length=true) (kH:gx mid f (bN v)=cs)
 (h:aK W n K env (HL.set j ((b,.cells (pre++(cs++post)).toArray E (0,0))::Hr))):aK W n (wpOp P ops Q i K) env HL:=by
 let⟨ho,hw,hd⟩:=B3 hs
 have h1:=Nat.eq_of_beq_eq_true hl;have h2:=Nat.le_of_ble_eq_true hb;refine EL T ho hw hd aV hx hy hi (by rw[<-idx_eq];exact hj) h1 (λc hc=>List.all_eq_true.1 hf c hc) (by simp;omega) ?_ h
 subst kH;unfold gx;have e1:List.take (pre.length+f) (pre++(mid++post))=pre++List.take f mid:=by
  rw[List.take_append,List.take_of_length_le U,show pre.length+f-pre.length=f by omega,List.take_append_of_le_length U]
 have e2:List.drop (pre.length+f+(bN v).length) (pre++(mid++post))=List.drop (f+(bN v).length) mid++post:=by
  rw[List.drop_append,List.drop_of_length_le U,show pre.length+f+(bN v).length-pre.length=f+(bN v).length by omega,List.drop_append_of_le_length U]
  simp
 simp only[e1,e2,List.append_assoc]
end
section
variable [Inhabited α] (kd : Kd α)
def zm (pre:List Value) (xs:List α) (b:Nat) (T:TypeId) (H:Hp):Prop:=
 ∃cc R,tU kd xs cc R/\H=(b,Obj.cells (pre++(cc.map λc=>c.val).flatten).toArray T (0,0))::R
def xJ (pre:List Value) (xs:List α) (b:Nat) (T:TypeId) (i:Int) (p q:List Value) (R:Hp):Prop:=
 (0<=i/\i<(xs.length:Int))/\p.length=pre.length+i.toNat*kd.size/\(∃p0,p=pre++p0)/\
   ∀x' ug JU,kd.own x' ug JU-> ∃R2,R2.Perm (R++JU)/\zm kd pre (xs.set i.toNat x') b T ((b,Obj.cells (p++(ug++q)).toArray T (0,0))::R2)
variable {kd}
theorem TD: ∀(cc:List (Rw kd.size)) (i:Nat) (h:i<cc.length),∃p q:List Value,p.length=i*kd.size/\(cc.map λc=>c.val).flatten=p++((cc[i]).val++q)/\ ∀c':Rw kd.size,((cc.set i c').map λc=>c.val).flatten=p++(c'.val++q)
 |c::cc,0,_=>⟨[],(cc.map λc=>c.val).flatten,by simp,by simp,λc'=>by simp⟩
 |c::cc,i+1,h=>by
  obtain⟨p,q,h1,h2,h3⟩:=TD cc i (by simpa using h)
  refine⟨c.val++p,q,by rw[List.length_append,c.len,h1,Nat.succ_mul];omega,?_,λc'=>?_⟩
  ·simp only[List.map_cons,List.flatten_cons,List.getElem_cons_succ,h2,List.append_assoc]
  ·simp only[List.set_cons_succ,List.map_cons,List.flatten_cons,h3 c',List.append_assoc]
section
theorem Nl (hj:idx j HL=some H) (so:zm kd pre xs b T H) (hi:0<=i/\i<(xs.length:Int))
 (h: ∀p q cs R Hx,kd.own (rd xs i) cs Hx->xJ kd pre xs b T i p q R->aK W n' F env (HL.set j [(b,Obj.cells (p++(cs++q)).toArray T (0,0))]++[R,Hx])):aK W n' F env HL:=by
 obtain⟨cc,R,hl,rfl⟩:=so;have hlen:=DA _ _ _ hl;obtain⟨Hx,R',e1,e2,e3⟩:=LO xs cc R i.toNat hl U;obtain⟨p,q,h1,h2,h3⟩:=TD cc i.toNat U;rw[show((i.toNat:Nat):Int)=i by omega] at e1
 have ec:(rd cc i)=cc[i.toNat]'(by omega):=jc U
 rw[ec] at e1;refine pR (λw o=>?_) (h (pre++p) q (cc[i.toNat]'(by omega)).val R' Hx e1 ⟨hi,by rw[List.length_append,h1],⟨p,rfl⟩,λx' ug JU qR=>?_⟩)
 ·rw[idx_eq] at hj;have nS:=(List.getElem?_eq_some_iff.1 hj).1;have a1:=yc HL j _ hj;have a2:=wD HL j _ [(b,Obj.cells ((pre++p)++((cc[i.toNat]'(by omega)).val++q)).toArray T (0,0))] hj
  refine o.perm (a1.trans ?_);rw[List.flatten_append];refine List.Perm.trans ?_ (List.Perm.append_right _ a2.symm);rw[h2,<-List.append_assoc pre p];simp only[List.flatten_cons,List.flatten_nil,List.append_nil,List.cons_append,List.nil_append];refine List.Perm.cons _ ?_;exact(List.Perm.append_right _ e2).trans List.perm_append_comm
 ·obtain⟨R2,p2,l2⟩:=e3 x' ⟨ug,kd.len _ _ _ qR,kd.plain _ _ _ qR⟩ JU qR;exact⟨R2,p2,_,R2,l2,by rw[h3,List.append_assoc]⟩
theorem GK (x':α) (hj:idx j HL=some [(b,Obj.cells (p++(cs++q)).toArray T (0,0))]) (so:xJ kd pre xs b T i p q R)
 (h1:idx q1 HL=some R) (h2:idx q2 HL=some Hx) (n1:Nat.beq j q1=false) (n2:Nat.beq j q2=false) (n3:Nat.beq q1 q2=false) (hx:kd.own x' cs Hx)
 (h: ∀H',zm kd pre (xs.set i.toNat x') b T H'->aK W n' F env (((HL.set j H').set q1 []).set q2 [])):aK W n' F env HL:=by
 obtain⟨hi,_,_,hc⟩:=so;obtain⟨R2,p2,l2⟩:=hc x' cs Hx hx;have L4:j≠q1:=λe=>by subst e;simp at n1
 have Qc:j≠q2:=λe=>by subst e;simp at n2
 have ne3:q1≠q2:=λe=>by subst e;simp at n3
 refine pR (λw o=>?_) (h _ l2);rw[idx_eq] at hj h1 h2;have nS:=(List.getElem?_eq_some_iff.1 hj).1;have s1:=FE hj h1 L4;have HN:((HL.set j ([(b,Obj.cells (p++(cs++q)).toArray T (0,0))]++R)).set q1 [])[j]? =some ([(b,Obj.cells (p++(cs++q)).toArray T (0,0))]++R):=by
  rw[List.getElem?_set_ne (Ne.symm L4)];exact List.getElem?_set_self nS
 have h22:((HL.set j ([(b,Obj.cells (p++(cs++q)).toArray T (0,0))]++R)).set q1 [])[q2]? =some Hx:=by
  rw[List.getElem?_set_ne ne3,List.getElem?_set_ne Qc];exact h2
 have s2:=FE HN h22 Qc;refine o.perm (s1.trans (s2.trans ?_));have e:((((HL.set j ([(b,Obj.cells (p++(cs++q)).toArray T (0,0))]++R)).set q1 []).set j (([(b,Obj.cells (p++(cs++q)).toArray T (0,0))]++R)++Hx)).set q2 [])=((HL.set j ((b,Obj.cells (p++(cs++q)).toArray T (0,0))::(R++Hx))).set q1 []).set q2 []:=by
  rw[List.set_comm _ _ (Ne.symm L4),List.set_set];simp
 rw[e];have f1: ∀A:Hp,((HL.set j A).set q1 []).set q2 []=((HL.set q1 []).set q2 []).set j A:=λA=>by
  rw[List.set_comm _ _ L4,List.set_comm _ _ Qc]
 rw[f1,f1];exact C1 (List.Perm.cons _ p2.symm)
end
end
section
variable [Inhabited α] {kd : Kd α}
theorem BB (hj:idx j HL=some H) (so:zm kd pre xs b T H) (hv:idx f pre=some v): ∃arr E fr,(b,Obj.cells arr E fr)∈HL.flatten/\arr[f]? =some v:=by
 obtain⟨cc,R,hl,rfl⟩:=so;refine⟨_,T,(0,0),iv (by rw[<-idx_eq];exact hj) (List.mem_cons_self ..),?_⟩
 rw[idx_eq] at hv;have h1:=(List.getElem?_eq_some_iff.1 hv).1;rw[List.getElem?_toArray,List.getElem?_append_left h1];exact hv
section
theorem J_ (T:Ty P) (j:Nat) (cs:List Value)
 (hs:tJ ops env i=some o) (aV:o.op= .store t x y) (hx:ev env x=some (.pointer (some ⟨b,f,none⟩)))
 (hy:ev env y=some v) (hi:T.inf t=some (sz,by',z)) (hj:idx j HL=some H) (so:zm kd pre xs b E H) (hl:Nat.beq (bN v).length sz=true) (hf:(bN v).all Value.oneCell'=true)
 (hb:Nat.ble (f+sz) pre.length=true) (kH:gx pre f (bN v)=cs)
 (h: ∀H',zm kd cs xs b E H'->aK W n K env (HL.set j H')):aK W n (wpOp P ops Q i K) env HL:=by
 obtain⟨cc,R,tk,rfl⟩:=so
 let⟨ho,hw,hd⟩:=B3 hs
 have h1:=Nat.eq_of_beq_eq_true hl;have h2:=Nat.le_of_ble_eq_true hb;refine EL T ho hw hd aV hx hy hi (by rw[<-idx_eq];exact hj) h1 (λc hc=>List.all_eq_true.1 hf c hc) (by simp;omega) ?_ (h _ ⟨cc,R,tk,rfl⟩)
 subst kH;unfold gx;have e1:List.take f (pre++(cc.map λc=>c.val).flatten)=List.take f pre:=List.take_append_of_le_length U;have e2:List.drop (f+(bN v).length) (pre++(cc.map λc=>c.val).flatten)=List.drop (f+(bN v).length) pre++(cc.map λc=>c.val).flatten:=List.drop_append_of_le_length U;simp only[e1,e2,List.append_assoc]
end
end
end
section
section
variable {k : Fl α}
theorem alc {z:Value} (hk:k.size=sz) (hz:bN z=k.enc x0) (c:Nat):(Builtin.zeroCells z.cells c).toList=row k (List.replicate c x0):=by
 have wW:z.cells.toList=k.enc x0:=by rw[sT,hz]
 have j_:z.cells.size=sz:=by have:=k.len x0;rw[<-wW] at this;simpa[hk] using this
 have hp:0<sz:=hk▸k.pos;unfold Builtin.zeroCells;rw[j_];apply List.ext_getElem
 ·simp[lU,hk]
 ·intro j h1 h2;simp at h1;simp only[Array.getElem_toList,Array.getElem_map,Array.getElem_range];have hq:j/sz<c:=by rw[Nat.div_lt_iff_lt_mul hp];exact h1
  have hr:j%sz<sz:=Nat.mod_lt _ hp;have hg:=D6 k (List.replicate c x0) (j/sz) (j%sz) (by simpa using hq) (by rw[hk];exact hr)
  rw[hk,Nat.div_add_mod' j sz] at hg;simp only[List.getElem_replicate] at hg;have h3:z.cells[j%sz]? =(k.enc x0)[j%sz]? :=by rw[<-wW];simp
  rw[<-h3] at hg;rw[List.getElem?_eq_getElem (by simpa using h2)] at hg
  rw[getElem!_pos z.cells (j%sz) (by rw[j_];exact hr)]
  rw[Array.getElem?_eq_getElem (by rw[j_];exact hr)] at hg
  exact(Option.some.inj hg).symm
theorem acj (T:Ty P) {t ty E:TypeId} {xs:List α} {a da:Option Addr} {g cap dc dl lo sz by':Nat} {z:Value} {Hj:Hp} {w:World} {HL:List Hp} (x0:α)
 (hu:T.bW t=some (.slice E)) (hi:T.inf E=some (sz,by',z)) (hk:k.size=sz) (hz:bN z=k.enc x0)
 (hj:HL[g]? =some Hj) (so:ak k E xs a cap Hj) (wM:(da=a/\lo=0)∨da=gy a cap lo sz) (hl:lo+dl<=xs.length) (ow:bn W w HL.flatten):
 ∃H' w',(Builtin.clear_ #[t] ty #[.slice da dl dc]).run P w= .ok (.tuple #[]) w'/\
  ak k E (cC xs lo dl (List.replicate dl x0)) a cap H'/\bn W w' (HL.set g H').flatten:=by
 have oL: ∀(r:Option Addr) (w':World),r=da->(match r with |some ad=>(storeCells ad (row k (List.replicate dl x0))).run P w= .ok () w' |none=>w'=w)->
  (Builtin.clear_ #[t] ty #[.slice da dl dc]).run P w= .ok (.tuple #[]) w':=by
  intro r w' hr h;subst hr
  cases r with
  |none=>subst h;simp[Builtin.clear_,df hu]
  |some ad=>
   cases dl with
   |zero=>
    have h:(storeCells ad (row k (List.replicate 0 x0))).run P w= .ok () w':=h;simp[BP,storeCells] at h;subst h;simp[Builtin.clear_,df hu]
   |succ m=>
    have PQ:=alc (k:=k) hk hz (m+1);have h:(storeCells ad (row k (List.replicate (m+1) x0))).run P w= .ok () w':=h;simp[Builtin.clear_,df hu,BQ hi,PQ,h]
 have agl:(List.replicate dl x0).length=dl:=by simp
 rcases so with⟨rfl,rfl,rfl,rfl⟩ |⟨b,pre,post,rfl,rfl,h3,h4⟩
 ·have hz:lo=0/\dl=0:=by simp at hl;omega
  obtain⟨rfl,rfl⟩:=hz;have Pc:da=none:=by
   rcases wM with⟨h,_⟩ |h
   ·exact h
   ·simpa[gy] using h
  refine⟨[],w,oL none w Pc.symm rfl,.inl ⟨rfl,by simp[cC],rfl,rfl⟩,tu hj (by simpa using vC hj ow)⟩
 ·have Af:=lU k xs;have Ag:=lU k (List.replicate dl x0);rw[agl] at Ag
  by_cases h0:dl=0
  ·subst h0;have hc:cC xs lo 0 (List.replicate 0 x0)=xs:=by simp[cC]
   have bD: ∃ad,da=some ad:=by
    rcases wM with⟨h,_⟩ |h
    ·exact⟨_,h⟩
    ·unfold gy at h;split at h
     ·exact⟨_,h⟩
     ·exact⟨_,h⟩
   obtain⟨ad,OC⟩:=bD;refine⟨_,w,oL (some ad) w OC.symm ?_,by rw[hc];exact .inr ⟨b,pre,post,rfl,rfl,h3,h4⟩,tu hj (vC hj ow)⟩
   simp[BP,storeCells]
  ·have Pb:da=some ⟨b,pre.length+lo*sz,none⟩:=by
    rcases wM with⟨h,h'⟩ |h
    ·rw[h,h'];simp
    ·have bD:cap≠lo:=U;rw[h];simp only[gy,bD,if_false,Option.map_some,Addr.add];split
     ·rename_i h0;simp[h0]
     ·rfl
   have mF:lo*sz+dl*sz<=xs.length*sz:=by rw[<-Nat.add_mul];exact Nat.mul_le_mul_right _ U
   obtain⟨w',hr,cH⟩:=I8 T b E (row k (List.replicate dl x0)) w (pre++(row k xs++post)).toArray (pre.length+lo*sz) 0 (by simpa using vC hj ow)
    (by simp[Af,Ag,hk];omega) (QI k _)
   refine⟨[(b,Obj.cells (pre++(row k (cC xs lo dl (List.replicate dl x0))++post)).toArray E (0,0))],w',oL (some _) w' Pb.symm hr,?_,?_⟩
   ·have eU:=Bj (xs:=xs) (ys:=List.replicate dl x0) (lo:=lo) (n:=dl) hl U;exact .inr ⟨b,pre,post,rfl,rfl,by rw[eU];exact h3,by rw[eU];exact h4⟩
   ·refine tu hj ?_;rw[Nat.add_zero,Jk _ _ _ (by simp[Af,Ag,hk];omega)] at cH
    have e:gx (pre++(row k xs++post)) (pre.length+lo*sz) (row k (List.replicate dl x0))=pre++(row k (cC xs lo dl (List.replicate dl x0))++post):=by
     have Dn:row k xs=row k (xs.take lo)++row k (xs.drop lo):=by rw[<-qY,List.take_append_drop]
     have Ae:row k (xs.drop lo)=row k ((xs.drop lo).take dl)++row k (xs.drop (lo+dl)):=by
      rw[<-qY,<-List.drop_drop,List.take_append_drop]
     have vu:(row k (xs.take lo)).length=lo*sz:=by rw[lU,hk];congr 1;simp;omega
     have rP:(row k ((xs.drop lo).take dl)).length=dl*sz:=by rw[lU,hk];congr 1;simp;omega
     have PG:(List.replicate dl x0).take dl=List.replicate dl x0:=List.take_of_length_le U;unfold gx;rw[show pre.length+lo*sz=(pre++row k (xs.take lo)).length by simp[vu]]
     rw[show pre++(row k xs++post)=(pre++row k (xs.take lo))++(row k (xs.drop lo)++post) by rw[Dn];simp]
     rw[List.take_left',List.drop_length_add_append,Ae]
     ·rw[show(row k (List.replicate dl x0)).length=(row k ((xs.drop lo).take dl)).length by rw[Ag,rP,hk]]
      rw[show row k ((xs.drop lo).take dl)++row k (xs.drop (lo+dl))++post=row k ((xs.drop lo).take dl)++(row k (xs.drop (lo+dl))++post) by simp]
      rw[List.drop_left']
      ·simp[cC,qY,PG]
      ·rfl
     ·rfl
    simpa[e] using cH
theorem NO (h:lo+dl<=xs.length):(cC xs lo dl (List.replicate dl x0)).length=xs.length:=Bj h (by simp)
section rules
theorem aa0 (T:Ty P) {g lo:Nat} {s:Operand} {t E:TypeId} {xs:List α} {a da:Option Addr} {cap dc dl sz by':Nat} {z:Value} {Hj:Hp} (x0:α)
 (rS:tJ ops env i=some o) (aV:o.op= .call ⟨.builtin .clear,#[s],#[t]⟩)
 (hs:ev env s=some (.slice da dl dc)) (hu:T.bW t=some (.slice E)) (hi:T.inf E=some (sz,by',z)) (hk:k.size=sz) (hz:bN z=k.enc x0)
 (hj:idx g HL=some Hj) (so:ak k E xs a cap Hj) (wM:(da=a/\lo=0)∨da=gy a cap lo sz) (hl:lo+dl<=xs.length)
 (h: ∀H',ak k E (cC xs lo dl (List.replicate dl x0)) a cap H'->aK W n K env (HL.set g H')):aK W n (wpOp P ops Q i K) env HL:=by
 obtain⟨ho,hw,hd⟩:=B3 rS;refine Ke (β:={H':Hp // ak k E (cC xs lo dl (List.replicate dl x0)) a cap H'}) (G:=λp=>(HL.set g p.1).flatten)
  ho hw hd (λtt w sl ow=>?_) (λp=>h _ p.2)
 obtain⟨H',w',hr,rT,cH⟩:=acj (P:=P) T (ty:=o.type) (dc:=dc) x0 hu hi hk hz (by rw[<-idx_eq];exact hj) so wM hl ow
 refine⟨⟨H',rT⟩,w',.inr ⟨.tuple #[],?_⟩,cH⟩;obtain⟨cs,hb⟩:=I7 (P:=P) (t:=tt) w aV;rw[hb];simp only[List.map_toArray,List.map_cons,List.map_nil,bF sl hs,builtin,Sem.run_bind];refine Eq.trans (congrArg (λr=>Result.andThen r _) hr) ?_;simp only[Result.andThen_ok,Sem.run_pure]
end rules
end
end
section
section
theorem bY (j:Nat) (hj:idx j HL=some As.flatten) (h:aK W n' F env (HL.eraseIdx j++As)):aK W n' F env HL:=by
 rw[idx_eq] at hj;refine pR (λw o=>o.perm ?_) h;rw[List.flatten_append];exact(yc HL j _ hj).trans List.perm_append_comm
theorem dH (js:List Nat) (hs:rf js HL=(As,R)) (hH:H=As.flatten) (h:aK W n' F env (R++[H])):aK W n' F env HL:=
 gM js hs (by rw[<-hH];exact h)
end
theorem ab6 (e:A.flatten=B.flatten) (eg: ∀b,(G b).flatten=(G' b).flatten) (c:hZ P f as A V G):hZ P f as B V G':=by
 show zn P f _ B.flatten _ (λb=>(G' b).flatten)
 rw[<-e,show(λb=>(G' b).flatten)=(λb=>(G b).flatten) from funext λb=>(eg b).symm];exact c
theorem ab5 (e:A.flatten=B.flatten) (c:hZ P f as A (λ_:Unit=>v) (λ_=>A)):hZ P f as B (λ_:Unit=>v) (λ_=>B):=by
 show zn P f _ B.flatten _ (λ_=>B.flatten)
 rw[<-e];exact c
section
variable [Inhabited α]
theorem xJ.at (h:xJ kd pre xs b T i p q R):p.length=pre.length+i.toNat*kd.size:=h.2.1
theorem Ft (hj:idx j HL=some ((b,Obj.cells (p++(cs++q)).toArray T' fr)::Hr)) (so:xJ kd pre xs b T i p q R) (hv:idx f pre=some v):
 ∃arr E fr,(b,Obj.cells arr E fr)∈HL.flatten/\arr[f]? =some v:=by
 obtain⟨_,_,⟨p0,rfl⟩,_⟩:=so;refine⟨_,T',fr,iv (by rw[<-idx_eq];exact hj) (List.mem_cons_self ..),?_⟩
 rw[idx_eq] at hv;have h1:=(List.getElem?_eq_some_iff.1 hv).1;rw[List.getElem?_toArray,List.append_assoc,List.getElem?_append_left h1];exact hv
theorem KE (T:Ty P) {m by' b off sz:Nat} {t E:TypeId} {x ix:Operand} {kk:IntKind} {j:Int} {z:Value} {p:List Value} (aV:o.op= .indexAddr t x ix)
 (hx:ev env x=some (.pointer (some ⟨b,off,none⟩))) (zZ:ev env ix=some (.int kk j)) (hu:T.bW t=some (.array m E)) (hi:T.inf E=some (sz,by',z))
 (hj:0<=j/\j<(m:Int)) (hp:p.length=off+j.toNat*sz):ic W P n env H o (.pointer (some ⟨b,p.length+0,none⟩)):=by
 intro t' w s ow;obtain⟨h0,h1⟩:=hj;unfold execOp;simp only[aV,bF s hx,bF s zZ,Instr.indexAt,Instr.sureAddr,asIntOf,Sem.run_bind,Sem.run_pure,Result.andThen_ok,df hu,Sem.run_ite,h0,h1,and_self,if_true,kq hi]
 congr 3
 unfold Addr.add;rw[hp];split
 ·rename_i h;simp[h]
 ·simp
end
section
variable {α : Type} [Inhabited α] {kd : Kd α} {F : Act -> World -> Prop} {HL : List Hp} {xs : List α} {T : TypeId}
theorem ajY (h:0<=i/\i<(xs.length:Int)):xs.set i.toNat (rd xs i)=xs:=by
 have h1:i.toNat<xs.length:=U;have h2:rd xs ((i.toNat:Nat):Int)=xs[i.toNat]'h1:=jc h1;rw[show((i.toNat:Nat):Int)=i by omega] at h2
 rw[h2];exact List.set_getElem_self h1
theorem Mp {β:Type} {ys:List β} {i m:Nat} {y:β} (h:ys.length=m):(ys.set i y).length=m:=by rw[List.length_set];exact h
theorem aaU (hj:idx j HL=some [(b,Obj.cells (p++(cs++q)).toArray T (0,0))]) (so:xJ kd pre xs b T i p q R)
 (h1:idx q1 HL=some R) (h2:idx q2 HL=some Hx) (n1:Nat.beq j q1=false) (n2:Nat.beq j q2=false) (n3:Nat.beq q1 q2=false) (hx:kd.own (rd xs i) cs Hx)
 (h: ∀H',zm kd pre xs b T H'->aK W n' F env (((HL.set j H').set q1 []).set q2 [])):aK W n' F env HL:=
 GK (rd xs i) hj so h1 h2 n1 n2 n3 hx (λH' hb=>h H' (by rw[ajY so.1] at hb;exact hb))
end
section
variable [Inhabited α]
theorem aaT (T:Ty P) (pre:List Value) (m:Nat) (x0:α) (c0:List Value) (hs:slot n ops env i=some (o,d)) (aV:o.op= .box t x) (hx:ev env x=some v) (hz:bN v=pre++(List.replicate m c0).flatten)
 (wV:kd.own x0 c0 []) (h: ∀b H',zm kd pre (List.replicate m x0) b t H'->aK W n K ((d,.pointer (some ⟨b,0,none⟩))::env) (HL++[H'])):aK W n (wpOp P ops Q i K) env HL:=by
 refine R9 T _ hs aV hx hz (λb=>h b _ ⟨List.replicate m ⟨c0,kd.len _ _ _ wV,kd.plain _ _ _ wV⟩,[],P1 wV m,?_⟩);have e:((List.replicate m (⟨c0,kd.len _ _ _ wV,kd.plain _ _ _ wV⟩:Rw kd.size)).map λc=>c.val)=List.replicate m c0:=by simp
 rw[e]
end
section
variable {k : Fl α}
theorem dJ.trans (h:dJ k xs a n l a' n') (hc:xs.length<=n) (h2:dJ k l a' n' m a'' n''):dJ k xs a n m a'' n'':=by
 rcases h2 with rfl |⟨lo,hi,h1,rfl,rfl,rfl⟩
 ·exact .inl rfl
 ·exact h.sub hc h1
end
end
end Go.Hx
