/- The logic of this claim, further rules: maps, elements that own slices, and more. -/
import Derived.MapKept
import Derived.Maps.RangeRun
import Derived.LaidEql
import Derived.Lib.MakeNoZero
import Derived.Test.YthodkonhneebbaaGreatDoorKSHx
namespace Go.Hx
set_option autoImplicit true
set_option relaxedAutoImplicit true
set_option linter.unusedVariables false
set_option linter.unusedSimpArgs false
set_option linter.unusedSectionVars false
section
variable {W : World}
variable {P : Program}
section model
variable {κ α : Type} [DecidableEq κ]
def dW:List (κ×α)->κ->Option α
 |[],_=>none
 |e::r,x=>if e.1=x then some e.2 else dW r x
def ck (m:List (κ×α)) (x:κ):Bool:=(dW m x).isSome
def aT [Inhabited α] (m:List (κ×α)) (x:κ):α:=(dW m x).getD default
def cQ:List (κ×α)->κ->α->List (κ×α)
 |[],x,v=>[(x,v)]
 |e::r,x,v=>if e.1=x then(x,v)::r else e::cQ r x v
def f_:List (κ×α)->κ->List (κ×α)
 |[],_=>[]
 |e::r,x=>if e.1=x then r else e::f_ r x
def gN:List (κ×α)->κ->Option Nat
 |[],_=>none
 |e::r,x=>if e.1=x then some 0 else(gN r x).map (· +1)
theorem afS {m:List (κ×α)} {x:κ} (h:gN m x=none):dW m x=none:=by
 induction m with
 |nil=>rfl
 |cons e r ih=>
  simp only[gN,dW] at h⊢;split at h
  ·cases h
  ·rename_i hk;rw[if_neg hk];exact ih (by simpa using h)
theorem KR {m:List (κ×α)} {x:κ} {i:Nat} (h:gN m x=some i): ∃v,dW m x=some v/\m[i]? =some (x,v):=by
 induction m generalizing i with
 |nil=>cases h
 |cons e r ih=>
  simp only[gN,dW] at h⊢;split at h
  ·rename_i hk;simp at h;subst h;exact⟨e.2,by rw[if_pos hk],by simp[<-hk]⟩
  ·rename_i hk
   cases hr:gN r x with
   |none=>simp[hr] at h
   |some j=>
    simp[hr] at h;subst h;obtain⟨v,h1,h2⟩:=ih hr;exact⟨v,by rw[if_neg hk];exact h1,by simpa using h2⟩
end model
structure Ky (P:Program) (t:TypeId) (κ:Type) [DecidableEq κ] where
 enc:κ->Value
 check: ∀(e:Bool) (w:World) (x:κ),(Instr.checkKey e 10000 t (enc x)).run P w= .ok () w
 find: ∀(w:World) (x:κ) (es:List MapEntry) (ks:List κ),es.map (·.key)=ks.map enc->
  (Instr.findKey t (enc x) es).run P w= .ok ((gN (ks.map λk=>(k,())) x).bind λi=>(es[i]?).map λe=>(i,e.val)) w
 stays: ∀(w:World) (x:κ),(Instr.keyThatStays (enc x) (enc x)).run P w= .ok (enc x) w
theorem R5 {q:IntKind} {x:Int}: ∀(es:List MapEntry) (ks:List Int) (j:Nat),es.map (·.key)=ks.map (λk=>Value.int q k)->
 Instr.findNow (.int q) (.int q x) es j=some ((gN (ks.map λk=>(k,())) x).bind λi=>(es[i]?).map λe=>(i+j,e.val))
 |[],[],_,_=>rfl
 |[],_::_,_,h=>by simp at h
 |_::_,[],_,h=>by simp at h
 |e::es,k::ks,j,h=>by
  simp only[List.map_cons,List.cons.injEq] at h;obtain⟨h1,h2⟩:=h;simp only[Instr.findNow,h1,Instr.sameNow,if_true,List.map_cons,gN]
  by_cases hk:k=x
  ·subst hk;simp
  ·have:(x==k)=false:=by simp[Ne.symm hk]
   simp only[this,hk,if_false];rw[R5 es ks (j+1) h2]
   cases hp:gN (ks.map λk=>(k,())) x with
   |none=>simp
   |some i=>
    simp only[Option.map_some,Option.bind_some,List.getElem?_cons_succ];rw[show i+1+j=i+(j+1) by omega]
def Ky.int {P:Program} {t:TypeId} (q:IntKind) (ht:P.underlying t=some (.int q)):Ky P t Int where
 enc:=λx=> .int q x
 check:=λe w x=>MapKept.run_checkKey ht (by simp[MapKept.IsKey]) e 9999
 find:=λw x es ks h=>by
  have:=R5 (x:=x) es ks 0 h;simpa using MapKept.run_findKey (w:=w) ht this
 stays:=λw x=>MapKept.run_keyThatStays (d:= .int q) (by simp[MapKept.IsKey])
section agp
variable {κ α : Type} [DecidableEq κ] {t : TypeId}
def hU (K:Ky P t κ) (kv:α->Value):List (κ×α)->List Nat->List MapEntry
 |e::r,b::bs=>⟨K.enc e.1,kv e.2,b⟩::hU K kv r bs
 |_,_=>[]
theorem MM (K:Ky P t κ) (kv:α->Value): ∀(m:List (κ×α)) (bs:List Nat),bs.length=m.length->(hU K kv m bs).map (·.key)=(m.map (·.1)).map K.enc
 |[],[],_=>rfl
 |[],_::_,h=>by simp at h
 |_::_,[],h=>by simp at h
 |e::r,b::bs,h=>by simp[hU,MM K kv r bs (by simpa using h)]
theorem abb (K:Ky P t κ) (kv:α->Value) (m:List (κ×α)) (bs:List Nat) (h:bs.length=m.length):(hU K kv m bs).length=m.length:=by
 have:=congrArg List.length (MM K kv m bs h);simpa using this
theorem ML (K:Ky P t κ) (kv:α->Value): ∀(m:List (κ×α)) (bs:List Nat) (i:Nat) (e:κ×α),bs.length=m.length->m[i]? =some e-> ∃b,(hU K kv m bs)[i]? =some ⟨K.enc e.1,kv e.2,b⟩/\bs[i]? =some b
 |[],_,_,_,_,h=>by simp at h
 |_::_,[],_,_,h,_=>by simp at h
 |e::r,b::bs,0,e',_,h=>by simp at h;subst h;exact⟨b,rfl,rfl⟩
 |e::r,b::bs,i+1,e',hl,h=>by
  obtain⟨b',h1⟩:=ML K kv r bs i e' (by simpa using hl) (by simpa using h)
  exact⟨b',by simpa[hU] using h1⟩
theorem afR (m:List (κ×α)) (x:κ):gN ((m.map (·.1)).map λk=>(k,())) x=gN m x:=by
 induction m with
 |nil=>rfl
 |cons e r ih=>simp only[List.map_cons,gN,ih]
theorem Pq (K:Ky P t κ) (kv:α->Value) (w:World) (m:List (κ×α)) (bs:List Nat) (x:κ) (h:bs.length=m.length):
 (Instr.findKey t (K.enc x) (hU K kv m bs)).run P w= .ok ((gN m x).bind λi=>(m[i]?).map λe=>(i,kv e.2)) w:=by
 rw[K.find w x _ (m.map (·.1)) (MM K kv m bs h),afR]
 congr 1
 cases hp:gN m x with
 |none=>rfl
 |some i=>
  obtain⟨v,_,h2⟩:=KR hp;obtain⟨b,h3,_⟩:=ML K kv m bs i _ h h2;simp[h2,h3]
theorem RS (K:Ky P t κ) (kv:α->Value): ∀(m:List (κ×α)) (bs:List Nat) (x:κ) (v:α) (c:Nat),bs.length=m.length->gN m x=none->
 hU K kv m bs++[⟨K.enc x,kv v,c⟩]=hU K kv (cQ m x v) (bs++[c])
 |[],[],x,v,c,_,_=>rfl
 |[],_::_,_,_,_,h,_=>by simp at h
 |_::_,[],_,_,_,h,_=>by simp at h
 |e::r,b::bs,x,v,c,h,hp=>by
  simp only[gN] at hp;split at hp
  ·cases hp
  ·rename_i hk;have:=RS K kv r bs x v c (by simpa using h) (by simpa using hp)
   simp only[hU,List.cons_append,this,cQ,hk,if_false]
theorem afT {m:List (κ×α)} {x:κ} {v:α} (h:gN m x=none):(cQ m x v).length=m.length+1:=by
 induction m with
 |nil=>rfl
 |cons e r ih=>
  simp only[gN] at h;split at h
  ·cases h
  ·rename_i hk;simp[cQ,hk,ih (by simpa using h)]
theorem afU {m:List (κ×α)} {x:κ} {v:α} {i:Nat} (h:gN m x=some i):(cQ m x v).length=m.length:=by
 induction m generalizing i with
 |nil=>cases h
 |cons e r ih=>
  simp only[gN] at h;simp only[cQ];split at h
  ·rename_i hk;simp[hk]
  ·rename_i hk
   cases hr:gN r x with
   |none=>simp[hr] at h
   |some j=>simp[hk,ih hr]
theorem RR (K:Ky P t κ) (kv:α->Value): ∀(m:List (κ×α)) (bs:List Nat) (x:κ) (v:α) (i:Nat),bs.length=m.length->gN m x=some i->
 (hU K kv m bs).modify i (λe=>{e with key:=K.enc x,val:=kv v})=hU K kv (cQ m x v) bs
 |[],_,_,_,_,_,h=>by cases h
 |_::_,[],_,_,_,h,_=>by simp at h
 |e::r,b::bs,x,v,i,h,hp=>by
  simp only[gN] at hp;split at hp
  ·rename_i hk;simp at hp;subst hp;simp[hU,cQ,hk]
  ·rename_i hk
   cases hr:gN r x with
   |none=>simp[hr] at hp
   |some j=>
    simp[hr] at hp;subst hp;have:=RR K kv r bs x v j (by simpa using h) hr
    simp[hU,cQ,hk,this]
theorem RQ (K:Ky P t κ) (kv:α->Value): ∀(m:List (κ×α)) (bs:List Nat) (x:κ) (i:Nat),bs.length=m.length->gN m x=some i->
 (hU K kv m bs).eraseIdx i=hU K kv (f_ m x) (bs.eraseIdx i)/\(bs.eraseIdx i).length=(f_ m x).length
 |[],_,_,_,_,h=>by cases h
 |_::_,[],_,_,h,_=>by simp at h
 |e::r,b::bs,x,i,h,hp=>by
  simp only[gN] at hp;split at hp
  ·rename_i hk;simp at hp;subst hp;simp[hU,f_,hk];simpa using h
  ·rename_i hk
   cases hr:gN r x with
   |none=>simp[hr] at hp
   |some j=>
    simp[hr] at hp;subst hp;have:=RQ K kv r bs x j (by simpa using h) hr
    simp[hU,f_,hk,this]
theorem U_ {m:List (κ×α)} {x:κ} (h:gN m x=none):f_ m x=m:=by
 induction m with
 |nil=>rfl
 |cons e r ih=>
  simp only[gN] at h;split at h
  ·cases h
  ·rename_i hk;simp[f_,hk,ih (by simpa using h)]
def zf (K:Ky P t κ) (kv:α->Value) (m:List (κ×α)) (r:Nat) (H:Hp):Prop:=
 ∃bs c,bs.length=m.length/\(r,Obj.map (hU K kv m bs).toArray c)∈H
def db (K:Ky P t κ) (kv:α->Value) (m:List (κ×α)) (r:Nat) (H:Hp):Prop:=
 ∃bs c,bs.length=m.length/\(bs.Nodup/\ ∀b∈bs,b<c)/\H=[(r,Obj.map (hU K kv m bs).toArray c)]
theorem db.r {K:Ky P t κ} {kv:α->Value} {m:List (κ×α)} {r:Nat} {H:Hp} (h:db K kv m r H):zf K kv m r H:=by
 obtain⟨bs,c,h1,_,rfl⟩:=h;exact⟨bs,c,h1,List.mem_cons_self ..⟩
theorem zf.mono {K:Ky P t κ} {kv:α->Value} {m:List (κ×α)} {r:Nat} {H H':Hp} (h:zf K kv m r H) (hs: ∀c∈H,c∈H'):zf K kv m r H':=by
 obtain⟨bs,c,h1,h2⟩:=h;exact⟨bs,c,h1,hs _ h2⟩
theorem o_ {K:Ky P t κ} {kv:α->Value} {HL:List Hp} {j:Nat} {Hj:Hp} {m:List (κ×α)} {r:Nat} (h:db K kv m r Hj) (hj:idx j HL=some Hj):zf K kv m r HL.flatten:=
 h.r.mono λ_ hc=>ie (by rw[<-idx_eq];exact hj) hc
section rules
variable {T : Ty P} {n : Nat} {Q : Exit -> Act -> World -> Prop} {env : Env} {H : Hp} {HL : List Hp} {ops : Array Oper} {i : Nat} {K : Act -> World -> Prop} {o : Oper}
theorem qu [Inhabited α] (T:Ty P) {mt et:TypeId} (KK:Ky P t κ) (kv:α->Value) {x ix:Operand} {m:List (κ×α)} {r:Nat} {k:κ} {b:Bool} {sz by':Nat}
 (aQ:o.op= .lookup mt x ix b) (hx:ev env x=some (.map (some r))) (hk:ev env ix=some (KK.enc k)) (hu:T.bX mt=some (.map t et))
 (hi:T.inf et=some (sz,by',kv default)) (hm:zf KK kv m r H):
 gQ W P n env H o (bif b then .tuple #[kv (aT m k),.bool (ck m k)] else kv (aT m k)):=by
 intro t' w s ow;obtain⟨bs,c,hl,hm⟩:=hm;have hb:=ow.lookup hm;unfold execOp;have h1:=Pq KK kv w m bs k hl;have h0:(Instr.lookup mt (.map (some r)) (KK.enc k) b).run P w= .ok (bif b then .tuple #[kv (aT m k),.bool (ck m k)] else kv (aT m k)) w:=by
  simp only[Instr.lookup,Sem.run_bind,df hu,Result.andThen_ok,MapKept.run_getObj_map hb,KK.check,h1]
  cases hp:gN m k with
  |none=>
   have:=afS hp
   cases b<;>simp[aT,ck,this,Bp hi,Result.andThen,h1,hp]
  |some j=>
   obtain⟨v,h2,h3⟩:=KR hp
   cases b<;>simp[aT,ck,h2,h3,Result.andThen,h1,hp]
 simp only[aQ,bE s hx,bE s hk,Sem.run_bind,h0,Result.andThen_ok]
 rfl
theorem MY (T:Ty P) {mt et:TypeId} (KK:Ky P t κ) (kv:α->Value) {x:Operand} {m:List (κ×α)} {r:Nat}
 (aQ:o.op= .call ⟨.builtin .len,#[x],#[mt]⟩) (hx:ev env x=some (.map (some r))) (hu:T.bX mt=some (.map t et)) (hm:zf KK kv m r H):
 gQ W P n env H o (.int .i64 (m.length:Nat)):=by
 intro t' w s ow;obtain⟨bs,c,hl,hm⟩:=hm;have hb:=ow.lookup hm;obtain⟨cs,hr⟩:=HS (P:=P) (t:=t') w aQ;rw[hr];simp only[List.map_toArray,List.map_cons,List.map_nil,bE s hx,builtin,Builtin.len_,Sem.run_bind,List.getElem?_toArray,List.getElem?_cons_zero,Sem.run_pure,Result.andThen_ok,df hu,MapKept.run_getObj_map hb];simp[goInt,abb KK kv m bs hl]
theorem Ld {w:World} {b:Nat} {es Cn:Array MapEntry} {c c':Nat} {Hr:Hp} (ow:bn W w ((b,.map es c)::Hr)):
 ∃w',(setObj b (.map Cn c')).run P w= .ok () w'/\bn W w' ((b,.map Cn c')::Hr):=by
 have hb:=ow.lookup (List.mem_cons_self ..);refine⟨_,MapKept.run_setObj_map _ hb,?_⟩;exact ow.turn (o':= .map Cn c') (by rfl) rfl rfl rfl
theorem vW (T:Ty P) {d mt et:TypeId} (KK:Ky P t κ) (kv:α->Value) {rv:Option Operand} (hs:slot n ops env i=some (o,d)) (aQ:o.op= .makeMap mt rv) (hu:T.bX mt=some (.map t et))
 (hr:match rv with |none=>True |some x=> ∃k j,ev env x=some (.int k j))
 (h: ∀r H',db KK kv ([]:List (κ×α)) r H'->aJ W n K ((d,.map (some r))::env) (HL++[H'])):aJ W n (wpOp P ops Q i K) env HL:=by
 obtain⟨ho,hw,hd,hn⟩:=vB hs;refine zk (β:={p:Nat×Hp // db KK kv ([]:List (κ×α)) p.1 p.2}) (V:=λp=> .map (some p.1.1)) (G:=λp=>(HL++[p.1.2]).flatten) ho hw hd hn (λtt w s ow=>?_) (λp=>h _ _ p.2);refine⟨⟨(w.heap.size,[(w.heap.size,.map #[] 0)]),⟨[],0,rfl,by simp,rfl⟩⟩,w.alloc (.map #[] 0),?_,Da _ ow⟩
 unfold execOp
 cases rv with
 |none=>simp[aQ,Instr.makeMap]
 |some x=>
  obtain⟨k,j,hx⟩:=hr;simp[aQ,Instr.makeMap,df hu,bE s hx,asInt,asIntOf]
theorem aiF (T:Ty P) {mt et:TypeId} (KK:Ky P t κ) (kv:α->Value) {m:List (κ×α)} {r g:Nat} {k:κ} {v:α} {Hj:Hp} {w:World}
 (hu:T.bX mt=some (.map t et)) (hj:idx g HL=some Hj) (so:db KK kv m r Hj) (ow:bn W w HL.flatten):
 ∃H' w',(Instr.mapUpdate mt (.map (some r)) (KK.enc k) (kv v)).run P w= .ok () w'/\db KK kv (cQ m k v) r H'/\bn W w' (HL.set g H').flatten:=by
 obtain⟨bs,c,hl,⟨hn,hc⟩,rfl⟩:=so;have jq:HL[g]? =some [(r,Obj.map (hU KK kv m bs).toArray c)]:=by rw[<-idx_eq];exact hj
 have C_:=vu jq ow;have hb:=C_.lookup (b:=r) (o:=Obj.map (hU KK kv m bs).toArray c) (by simp)
 have h1:=Pq KK kv w m bs k hl
 cases hp:gN m k with
 |none=>
  obtain⟨w',hr,cF⟩:=Ld (P:=P) (Cn:=((hU KK kv m bs).toArray.push ⟨KK.enc k,kv v,c⟩)) (c':=c+1) (by simpa using C_)
  refine⟨[(r,.map (hU KK kv (cQ m k v) (bs++[c])).toArray (c+1))],w',?_,⟨bs++[c],c+1,by simp[afT hp,hl],⟨?_,?_⟩,rfl⟩,sT jq ?_⟩
  ·simp only[Instr.mapUpdate,Sem.run_bind,df hu,Result.andThen_ok,MapKept.run_getObj_map hb,KK.check,h1,hp,Option.bind_none,hr]
  ·rw[List.nodup_append];exact⟨hn,by simp,λa ha b hb=>by simp at hb;subst hb;exact Nat.ne_of_lt (hc a ha)⟩
  ·intro b hb;rcases List.mem_append.1 hb with hb |hb
   ·exact Nat.lt_succ_of_lt (hc b hb)
   ·simp at hb;omega
  ·rw[<-RS KK kv m bs k v c hl hp];simpa using cF
 |some j=>
  obtain⟨v0,h2,h3⟩:=KR hp;obtain⟨b0,h4,h5⟩:=ML KK kv m bs j _ hl h3;obtain⟨w',hr,cF⟩:=Ld (P:=P) (Cn:=((hU KK kv m bs).toArray.modify j λe=>{e with key:=KK.enc k,val:=kv v})) (c':=c) (by simpa using C_)
  refine⟨[(r,.map (hU KK kv (cQ m k v) bs).toArray c)],w',?_,⟨bs,c,by rw[afU hp,hl],⟨hn,hc⟩,rfl⟩,sT jq ?_⟩
  ·simp only[Instr.mapUpdate,Sem.run_bind,df hu,Result.andThen_ok,MapKept.run_getObj_map hb,KK.check,h1,hp,Option.bind_some,h3,Option.map_some];simp only[List.getElem?_toArray,h4,Option.map_some,Option.getD_some,KK.stays,Result.andThen_ok,hr]
  ·rw[<-RR KK kv m bs k v j hl hp];simpa using cF
theorem qh (T:Ty P) {mt et:TypeId} (KK:Ky P t κ) (kv:α->Value) {x ix y:Operand} {m:List (κ×α)} {r g:Nat} {k:κ} {v:α} {Hj:Hp}
 (hs:s_ ops env i=some o) (aQ:o.op= .mapUpdate mt x ix y) (hx:ev env x=some (.map (some r))) (hk:ev env ix=some (KK.enc k)) (hy:ev env y=some (kv v))
 (hu:T.bX mt=some (.map t et)) (hj:idx g HL=some Hj) (so:db KK kv m r Hj)
 (h: ∀H',db KK kv (cQ m k v) r H'->aJ W n K env (HL.set g H')):aJ W n (wpOp P ops Q i K) env HL:=by
 obtain⟨ho,hw,hd⟩:=BC hs;refine Je (β:={H':Hp // db KK kv (cQ m k v) r H'}) (G:=λp=>(HL.set g p.1).flatten) ho hw hd (λtt w s ow=>?_) (λp=>h _ p.2);obtain⟨H',w',hr,rA,cF⟩:=aiF (P:=P) T (v:=v) (k:=k) KK kv hu hj so ow;refine⟨⟨H',rA⟩,w',.inl ?_,cF⟩;unfold execOp;simp only[aQ,bE s hx,bE s hk,bE s hy,Sem.run_bind,hr,Result.andThen_ok]
 rfl
theorem aa0 (T:Ty P) {mt et t2 ty:TypeId} (KK:Ky P t κ) (kv:α->Value) {m:List (κ×α)} {r g:Nat} {k:κ} {Hj:Hp} {w:World}
 (hu:T.bX mt=some (.map t et)) (hj:idx g HL=some Hj) (so:db KK kv m r Hj) (ow:bn W w HL.flatten):
 ∃H' w',(Builtin.delete_ #[mt,t2] ty #[.map (some r),KK.enc k]).run P w= .ok (.tuple #[]) w'/\db KK kv (f_ m k) r H'/\bn W w' (HL.set g H').flatten:=by
 obtain⟨bs,c,hl,⟨hn,hc⟩,rfl⟩:=so;have jq:HL[g]? =some [(r,Obj.map (hU KK kv m bs).toArray c)]:=by rw[<-idx_eq];exact hj
 have C_:=vu jq ow;have hb:=C_.lookup (b:=r) (o:=Obj.map (hU KK kv m bs).toArray c) (by simp)
 have h1:=Pq KK kv w m bs k hl
 cases hp:gN m k with
 |none=>
  obtain⟨w',hr,cF⟩:=Ld (P:=P) (Cn:=(hU KK kv m bs).toArray) (c':=c) (by simpa using C_)
  refine⟨[(r,.map (hU KK kv (f_ m k) bs).toArray c)],w',?_,⟨bs,c,by rw[U_ hp,hl],⟨hn,hc⟩,rfl⟩,sT jq ?_⟩
  ·simp[Builtin.delete_,df hu,MapKept.run_getObj_map hb,KK.check,h1,hp,hr]
  ·rw[U_ hp];simpa using cF
 |some j=>
  obtain⟨v0,h2,h3⟩:=KR hp;obtain⟨e1,e2⟩:=RQ KK kv m bs k j hl hp;obtain⟨w',hr,cF⟩:=Ld (P:=P) (Cn:=((hU KK kv m bs).toArray.eraseIdxIfInBounds j)) (c':=c) (by simpa using C_)
  have this:((hU KK kv m bs).toArray.eraseIdxIfInBounds j)=((hU KK kv m bs).eraseIdx j).toArray:=by apply Array.ext';simp
  rw[this] at hr cF;refine⟨[(r,.map (hU KK kv (f_ m k) (bs.eraseIdx j)).toArray c)],w',?_,⟨bs.eraseIdx j,c,e2,⟨hn.sublist (List.eraseIdx_sublist ..),λb hb=>hc b (List.mem_of_mem_eraseIdx hb)⟩,rfl⟩,sT jq ?_⟩
  ·simp[Builtin.delete_,df hu,MapKept.run_getObj_map hb,KK.check,h1,hp,h3,hr]
  ·rw[<-e1];simpa using cF
theorem DZ (T:Ty P) {mt t2 et:TypeId} (KK:Ky P t κ) (kv:α->Value) {x ix:Operand} {m:List (κ×α)} {r g:Nat} {k:κ} {Hj:Hp}
 (ho:ops[i]? =some o) (hw:want ops env o=some true) (hd:o.dst=none) (aQ:o.op= .call ⟨.builtin .delete,#[x,ix],#[mt,t2]⟩) (hx:ev env x=some (.map (some r))) (hk:ev env ix=some (KK.enc k))
 (hu:T.bX mt=some (.map t et)) (hj:idx g HL=some Hj) (so:db KK kv m r Hj)
 (h: ∀H',db KK kv (f_ m k) r H'->aJ W n K env (HL.set g H')):aJ W n (wpOp P ops Q i K) env HL:=by
 refine Je (β:={H':Hp // db KK kv (f_ m k) r H'}) (G:=λp=>(HL.set g p.1).flatten) ho hw hd (λtt w s ow=>?_) (λp=>h _ p.2);obtain⟨H',w',hr,rA,cF⟩:=aa0 (P:=P) T (t2:=t2) (ty:=o.type) (k:=k) KK kv hu hj so ow;refine⟨⟨H',rA⟩,w',.inr ⟨.tuple #[],?_⟩,cF⟩;obtain⟨cs,hb⟩:=HS (P:=P) (t:=tt) w aQ;rw[hb];simp only[List.map_toArray,List.map_cons,List.map_nil,bE s hx,bE s hk,builtin,Sem.run_bind];refine Eq.trans (congrArg (λr=>Result.andThen r _) hr) ?_;simp only[Result.andThen_ok,Sem.run_pure]
end rules
end agp
end
section
variable {W : World}
variable {P : Program}
def MN (T:Ty P) (t:TypeId) (a b:Value):Option Bool:=
 match T.bX t,a,b with
 |some (.int _),.int k x,.int k' y=>bif zM k k' then some (x==y) else none
 |some .bool,.bool x,.bool y=>some (x==y)
 |_,_,_=>none
theorem abd {T:Ty P} {t:TypeId} {a b:Value} {e:Bool} (h:MN T t a b=some e) (d:Nat) (w:World):(Op.equalIn (d+1) t a b).run P w= .ok e w:=by
 unfold MN at h;split at h
 ·rename_i hu;rename_i k x k' y
  cases hk:zM k k'<;>simp[hk] at h
  subst h;obtain rfl:=Kz hk;simp only[Op.equalIn,Sem.run_bind,df hu,Result.andThen_ok,if_true,Sem.run_pure]
 ·rename_i hu;simp at h;subst h;simp only[Op.equalIn,Sem.run_bind,df hu,Result.andThen_ok,Sem.run_pure]
 ·cases h
def Cm (T:Ty P) (xs ys:List Value):List Field->Option Bool
 |[]=>some true
 |f::r=>match EG T f.type xs f.offset,EG T f.type ys f.offset with
  |some a,some b=>match MN T f.type a b,Cm T xs ys r with
   |some e,some e'=>some (e&&e')
   |_,_=>none
  |_,_=>none
theorem abc {T : Ty P} {xs ys : Array Value} (d : Nat) (w : World) : ∀ (fs : List Field) (e : Bool), (∀ f ∈ fs, f.name ≠ "_") → Cm T xs.toList ys.toList fs = some e →
 (forIn (m:=Sem) fs (⟨none,()⟩:Option Bool×Unit) λf _=>do
   if f.name ≠ "_" then
    if !(<-Op.equalIn (d+1) f.type (<-part f.type xs f.offset) (<-part f.type ys f.offset)) then pure (ForInStep.done ⟨some false,()⟩) else pure (ForInStep.yield ⟨none,()⟩)
   else pure (ForInStep.yield ⟨none,()⟩)).run P w= .ok (if e then⟨none,()⟩ else⟨some false,()⟩) w:=by
 intro fs
 induction fs with
 |nil=>intro e _ h;simp[Cm] at h;subst h;simp
 |cons f r ih=>
  intro e hn h;simp only[Cm] at h;split at h
  ·rename_i a b h1 h2;split at h
   ·rename_i e1 e2 h3 h4;simp at h;subst h;have hf:=hn f (by simp)
    rw[List.forIn_cons];simp only[hf,ne_eq,not_false_eq_true,if_true,Sem.run_bind,K1 h1,K1 h2,abd h3,Result.andThen_ok]
    cases e1
    ·simp
    ·simp only[Bool.not_true,Bool.false_eq_true,if_false,Sem.run_pure,Result.andThen_ok,Bool.true_and];exact ih e2 (λf hf=>hn f (by simp[hf])) h4
   ·cases h
  ·cases h
theorem Qu {T : Ty P} {t : TypeId} {fs : Array Field} {xs ys : Array Value} {e : Bool} (hu : T.bX t = some (.struct fs)) (hs : P.stoodInHeld t = false) (hn : fs.toList.all (fun f => f.name != "_") = true)
 (h:Cm T xs.toList ys.toList fs.toList=some e) (w:World):(Op.equal t (.agg xs) (.agg ys)).run P w= .ok e w:=by
 show(Op.equalIn (9998+1+1) t _ _).run P w=_
 generalize 9998=d
 have GL : ∀ f ∈ fs.toList, f.name ≠ "_" := fun f hf => by simpa using List.all_eq_true.1 hn f hf
 have:=abc (P:=P) d w fs.toList e GL h;rw[Op.equalIn];simp only[Sem.run_bind,df hu,Result.andThen_ok,run_program,hs,Bool.false_eq_true,if_false];rw[<-Array.forIn_toList];refine Eq.trans (congrArg (λr=>Result.andThen r _) this) ?_
 cases e<;>simp
section rules
variable {T : Ty P} {n : Nat} {env : Env} {H : Hp} {o : Oper}
theorem Sj {w:World} {op:BinOp} {t:TypeId} {x y:Operand} {a b:Array Value} (h:P.eqGuardType P.depth t=false):(eqGuard op t x y (.agg a) (.agg b)).run P w= .ok () w:=by
 unfold eqGuard;rw[Sem.run_ite];refine KA (λ_=>rfl) (λ_=>?_);simp[h]
theorem abx (T:Ty P) {t yt:TypeId} {x y:Operand} {fs:Array Field} {xs ys:Array Value} (e:Bool) (aQ:o.op= .binOp .eql t x y yt) (hx:ev env x=some (.agg xs)) (hy:ev env y=some (.agg ys))
 (hu : T.bX t = some (.struct fs)) (hs : P.stoodInHeld t = false ∧ P.eqGuardType P.depth t = false) (hn : fs.toList.all (fun f => f.name != "_") = true) (h : Cm T xs.toList ys.toList fs.toList = some e) :
 gQ W P n env H o (.bool e):=by
 intro t1 w s ow;unfold execOp;simp only[aQ,bE s hx,bE s hy];simp only[Sem.run_bind,Sj hs.2,Result.andThen_ok,binOp,Qu hu hs.1 hn h w,Sem.run_pure]
theorem MX (T:Ty P) {t yt:TypeId} {x y:Operand} {fs:Array Field} {xs ys:Array Value} (e:Bool) (aQ:o.op= .binOp .neq t x y yt) (hx:ev env x=some (.agg xs)) (hy:ev env y=some (.agg ys))
 (hu : T.bX t = some (.struct fs)) (hs : P.stoodInHeld t = false ∧ P.eqGuardType P.depth t = false) (hn : fs.toList.all (fun f => f.name != "_") = true) (h : Cm T xs.toList ys.toList fs.toList = some e) :
 gQ W P n env H o (.bool (!e)):=by
 intro t1 w s ow;unfold execOp;simp only[aQ,bE s hx,bE s hy];simp only[Sem.run_bind,Sj hs.2,Result.andThen_ok,binOp,Qu hu hs.1 hn h w,Sem.run_pure]
end rules
end
section
theorem wi {x:Int} (h1: -9223372036854775808<=x) (h2:x<=9223372036854775807):af x=x:=by
 unfold af IntKind.wrap IntKind.signed IntKind.bits;simp;omega
theorem aiH (x:Int):dV (bQ x):=by
 unfold bQ IntKind.wrap IntKind.signed IntKind.bits dV;simp;omega
theorem de:fuel=18446744073709551616:=by unfold fuel;rfl
theorem bw {n k:Nat} (h:n<k): ∃q,k=q+1:=⟨k-1,by omega⟩
section lists
variable {α : Type} [Inhabited α]
theorem mr {L:List α} {i c:Int} {v:α} (h0:0<=i) (h1:i<L.length) (c0:0<=c):rd (List.set L i.toNat v) c=if c=i then v else rd L c:=by
 unfold rd
 by_cases hc:c=i
 ·subst hc;rw[if_pos rfl];simp[List.getD,show c.toNat<L.length by omega]
 ·rw[if_neg hc];have:i.toNat≠c.toNat:=U;simp[List.getD,this]
theorem HI {L:List α} {v:α} {c:Int} (c0:0<=c) (h:c<=L.length):rd (L++[v]) c=if c=L.length then v else rd L c:=by
 unfold rd
 by_cases hc:c=L.length
 ·rw[if_pos hc,hc];simp[List.getD]
 ·rw[if_neg hc];simp[List.getD,List.getElem?_append_left (show c.toNat<L.length by omega)]
theorem vw {L M:List α} {c:Int} (c0:0<=c) (h:c<L.length):rd (L++M) c=rd L c:=by
 unfold rd;simp[List.getD,List.getElem?_append_left (show c.toNat<L.length by omega)]
theorem og {L M:List α} {c:Int} (h:L.length<=c):rd (L++M) c=rd M (c-L.length):=by
 unfold rd;have h1: ¬c.toNat<L.length:=U;simp[List.getD,List.getElem?_append_right (show L.length<=c.toNat by omega),show(c-(L.length:Int)).toNat=c.toNat-L.length by omega]
theorem wM {n:Nat} {v:α} {c:Int} (c0:0<=c) (h:c<n):rd (List.replicate n v) c=v:=by
 unfold rd;simp[List.getD,show c.toNat<n by omega]
theorem Wx {β:Type} [Inhabited β] {L:List β} {f:β->α} {c:Int} (c0:0<=c) (h:c<L.length):rd (L.map f) c=f (rd L c):=by
 unfold rd;simp[List.getD,show c.toNat<L.length by omega]
theorem HJ {L:List α} {n:Nat} (h:n<L.length):rd L (n:Int)=L[n]:=by simp[rd,h]
theorem F8 {a:List α} {i:Int} (h0:0<=i) (h1:i<a.length):a.drop i.toNat=rd a i::a.drop (i+1).toNat:=by
 have aS:i.toNat<a.length:=U;rw[iU aS,show(i+1).toNat=i.toNat+1 by omega]
 exact List.drop_eq_getElem_cons aS
theorem PW {a:List α} {i:Int} (h0:0<=i) (h1:i<a.length):a.take (i+1).toNat=a.take i.toNat++[rd a i]:=by
 have aS:i.toNat<a.length:=U;rw[iU aS,show(i+1).toNat=i.toNat+1 by omega,List.take_add_one,List.getElem?_eq_getElem aS];rfl
theorem fS {a:List α} {i:Int} (h0:0<=i) (h1:i<a.length):rd a i∈a:=by
 have aS:i.toNat<a.length:=U;rw[iU aS];exact List.getElem_mem aS
theorem qD {a:List α} {x:α} (h:x∈a): ∃i:Int,0<=i/\i<a.length/\rd a i=x:=by
 obtain⟨n,hn,rfl⟩:=List.mem_iff_getElem.1 h;exact⟨n,by omega,by omega,HJ hn⟩
theorem yB {a b:List α} (hl:a.length=b.length) (h: ∀i:Int,0<=i->i<a.length->rd a i=rd b i):a=b:=by
 apply List.ext_getElem hl;intro n h1 h2;have:=h n U U;rwa[HJ h1,HJ h2] at this
theorem yA {a:List α} {R:α->α->Prop} (h:a.Pairwise R) {i j:Int} (h0:0<=i) (h1:i<j) (h2:j<a.length):R (rd a i) (rd a j):=by
 have hi:i.toNat<a.length:=U;have hj:j.toNat<a.length:=U;rw[iU hi,iU hj];exact List.pairwise_iff_getElem.1 h _ _ hi hj U
theorem Wy {a:List α} {R:α->α->Prop} (h: ∀i j:Int,0<=i->i<j->j<a.length->R (rd a i) (rd a j)):a.Pairwise R:=by
 rw[List.pairwise_iff_getElem];intro i j hi hj GF;have:=h i j U U U;rwa[HJ hi,HJ hj] at this
end lists
section maps
variable {κ α : Type} [DecidableEq κ]
theorem ED (m:List (κ×α)) (x y:κ) (v:α):dW (cQ m x v) y=if x=y then some v else dW m y:=by
 induction m with
 |nil=>simp[cQ,dW]
 |cons e r ih=>
  simp only[cQ,dW]
  by_cases h1:e.1=x
  ·rw[if_pos h1];simp only[dW]
   by_cases h2:x=y
   ·simp[h2]
   ·simp[h2,h1]
  ·rw[if_neg h1];simp only[dW]
   by_cases h2:e.1=y
   ·rw[if_pos h2,if_pos h2,if_neg (λe'=>h1 (h2.trans e'.symm))]
   ·rw[if_neg h2,if_neg h2,ih]
theorem afJ {m:List (κ×α)} {x:κ}:dW m x=none↔x∉m.map (·.1):=by
 induction m with
 |nil=>simp[dW]
 |cons e r ih=>
  simp only[dW,List.map_cons,List.mem_cons,not_or]
  by_cases h:e.1=x
  ·rw[if_pos h];simp[h]
  ·rw[if_neg h,ih];exact⟨λq=>⟨λz=>h z.symm,q⟩,λq=>q.2⟩
theorem afI {m:List (κ×α)} (hn:(m.map (·.1)).Nodup) (x y:κ):dW (f_ m x) y=if x=y then none else dW m y:=by
 induction m with
 |nil=>simp[f_,dW]
 |cons e r ih=>
  simp only[List.map_cons,List.nodup_cons] at hn;simp only[f_,dW]
  by_cases h1:e.1=x
  ·rw[if_pos h1]
   by_cases h2:x=y
   ·rw[if_pos h2,afJ,<-h2,<-h1];exact hn.1
   ·rw[if_neg h2,if_neg (λe'=>h2 (h1.symm.trans e'))]
  ·rw[if_neg h1];simp only[dW]
   by_cases h2:e.1=y
   ·rw[if_pos h2,if_pos h2,if_neg (λe'=>h1 (h2.trans e'.symm))]
   ·rw[if_neg h2,if_neg h2,ih hn.2]
theorem Va (m:List (κ×α)) (x y:κ) (v:α):ck (cQ m x v) y=(decide (x=y)||ck m y):=by
 unfold ck;rw[ED]
 by_cases h:x=y<;>simp[h]
theorem sP [Inhabited α] (m:List (κ×α)) (x y:κ) (v:α):aT (cQ m x v) y=if x=y then v else aT m y:=by
 unfold aT;rw[ED]
 by_cases h:x=y<;>simp[h]
theorem afO {m:List (κ×α)} {x:κ} {v:α}:(cQ m x v).map (·.1)=if x∈m.map (·.1) then m.map (·.1) else m.map (·.1)++[x]:=by
 induction m with
 |nil=>simp[cQ]
 |cons e r ih=>
  simp only[cQ]
  by_cases h:e.1=x
  ·rw[if_pos h];simp[h]
  ·rw[if_neg h];have h': ¬x=e.1:=λq=>h q.symm
   simp only[List.map_cons,ih,List.mem_cons,h',false_or];split<;>simp
theorem OO {m:List (κ×α)} (hn:(m.map (·.1)).Nodup) (x:κ) (v:α):((cQ m x v).map (·.1)).Nodup:=by
 rw[afO];split
 ·exact hn
 ·rw[List.nodup_append];exact⟨hn,by simp,λa ha b hb e=>by simp at hb;subst hb;subst e;contradiction⟩
theorem afG {m:List (κ×α)} {x:κ}:(f_ m x).Sublist m:=by
 induction m with
 |nil=>simp[f_]
 |cons e r ih=>
  simp only[f_]
  by_cases h:e.1=x
  ·rw[if_pos h];exact List.sublist_cons_self ..
  ·rw[if_neg h];exact ih.cons_cons e
theorem afF {m:List (κ×α)} (hn:(m.map (·.1)).Nodup) (x:κ):((f_ m x).map (·.1)).Nodup:=hn.sublist (afG.map _)
end maps
end
section
variable {W : World}
variable {P : Program}
section rules
variable {T : Ty P} {n : Nat} {env : Env} {H : Hp} {HL : List Hp} {o : Oper}
theorem Gf (T:Ty P) {t e len sz by' s2 b2:Nat} {z z2:Value} {parts:Array (Nat×Operand)} {vs:List (Nat×Value)} {cs:List Value} (aQ:o.op= .build t parts)
 (hu:T.bX t=some (.array len e)) (hi:T.inf t=some (s2,b2,z2)) (he:T.inf e=some (sz,by',z)) (hv:(parts.toList.mapM λp=>(ev env p.2).map λv=>(p.1,v))=some vs)
 (hf:wb (λi=>some (i*sz,sz)) (bO z2) vs=some cs):gQ W P n env H o (.agg cs.toArray):=by
 intro t' w s ow;unfold execOp;have h1:bO z2=(z2.cells).toList:=(su z2).symm;rw[h1] at hf;have h2:=MU _ _ _ _ hf;have h4:=MP s hv;have h6:(parts.map λ(x:Nat×Operand)=>(x.1,Act.eval ⟨t',[]⟩ x.2)).toList=vs:=by rw[<-h4];simp
 simp only[aQ,Instr.build,Sem.run_bind,Bp hi,Result.andThen_ok,df hu,jP he,h6,h2,Sem.run_pure]
theorem Sa {α:Type} [Inhabited α] (T:Ty P) (k:Fl α) (xs:List α) {t e len sz by':Nat} {z v:Value} {td:TypeDesc} {x ix:Operand} {kk:IntKind} {j:Int} (aQ:o.op= .index t x ix)
 (hx:ev env x=some (.agg (row k xs).toArray)) (vi:ev env ix=some (.int kk j)) (hu:T.bX t=some (.array len e)) (he:T.inf e=some (sz,by',z)) (hue:T.bX e=some td) (ha:nR td=false)
 (hk:k.size=sz) (hl:xs.length=len) (hb:0<=j/\j<(xs.length:Int)) (hv:idx 0 (k.enc (rd xs j))=some v):gQ W P n env H o v:=by
 intro t' w s ow;unfold execOp;have hj:j.toNat<xs.length:=U;have hp:=k.pos;have hg:=Dl k xs j.toNat 0 hj hp;rw[iU hj,idx_eq] at hv;rw[hv,hk,Nat.add_zero] at hg;have hc:0<=j/\j<(len:Int):=U;have aeu:(part e (row k xs).toArray (j.toNat*sz)).run P w= .ok v w:=by
  refine K1 (T:=T) ?_ w;unfold EG;simp only[hue,he,ha,cond_false,idx_eq];exact hg
 simp only[aQ,bE s hx,bE s vi,Instr.index,asIntOf,Sem.run_bind,Sem.run_pure,Result.andThen_ok,df hu,Sem.run_ite,hc,and_self,if_true,jP he,aeu]
theorem oa {F:Hp} {j b:Nat} {arr:Array Value} {E:TypeId} {fr:Nat×Nat} {off:Nat} {v:Value} (hm:(b,Obj.cells arr E fr)∈F) (hj:idx j HL=some F) (hv:idx off arr.toList=some v):
 ∃arr E fr,(b,Obj.cells arr E fr)∈HL.flatten/\arr[off]? =some v:=
 ⟨arr,E,fr,ie (by rw[<-idx_eq];exact hj) hm,by rw[idx_eq] at hv;simpa using hv⟩
theorem aeH {F:Hp} {j b:Nat} {arr:Array Value} {E:TypeId} {fr:Nat×Nat} {off:Nat} {cs:List Value} (hm:(b,Obj.cells arr E fr)∈F) (hj:idx j HL=some F) (hv:(arr.toList.drop off).take cs.length=cs):
 ∃arr E fr,(b,Obj.cells arr E fr)∈HL.flatten/\ ∀j v,cs[j]? =some v->arr[off+j]? =some v:=
 ⟨arr,E,fr,ie (by rw[<-idx_eq];exact hj) hm,λj v h=>by
   rw[<-hv] at h;have hl:=(List.getElem?_eq_some_iff.1 h).1;rw[List.getElem?_take_of_lt (by simp at hl;omega),List.getElem?_drop] at h
   simpa using h⟩
theorem qC {F:Hp} {j:Nat} {c:Nat×Obj} (hm:c∈F) (hj:idx j HL=some F):c∈HL.flatten:=ie (by rw[<-idx_eq];exact hj) hm
theorem zU {j b:Nat} {ob:Obj} {Hr:Hp} (hj:idx j HL=some ((b,ob)::Hr)):(b,ob)∈HL.flatten:=ie (by rw[<-idx_eq];exact hj) (List.mem_cons_self ..)
end rules
theorem aj.pre {α:Type} {k:Fl α} {E:TypeId} {xs:List α} {a:Option Addr} {cap:Nat} {H:Hp} {hi:Int} (so:aj k E xs a cap H) (h:0<=(0:Int)/\0<=hi/\hi<=(xs.length:Int)):
 aj k E (aA xs 0 hi) (gp a cap (Int.toNat 0) k.size) (cap-Int.toNat 0) H:=by
 have hs:gp a cap (Int.toNat 0) k.size=a:=by
  unfold gp;split
  ·rfl
  ·cases a with
   |none=>rfl
   |some ad=>simp[Addr.add]
 have hx:aA xs 0 hi=xs.take hi.toNat:=by simp[aA]
 rw[hs,hx,show cap-Int.toNat 0=cap by simp]
 rcases so with⟨h1,h2,h3,h4⟩ |⟨b,pre,post,h1,h2,h3,h4⟩
 ·exact .inl ⟨h1,by rw[h2];simp,h3,h4⟩
 ·refine .inr ⟨b,pre,row k (xs.drop hi.toNat)++post,h1,?_,by simp;omega,?_⟩
  ·rw[h2];have:row k xs=row k (xs.take hi.toNat)++row k (xs.drop hi.toNat):=by rw[<-qI,List.take_append_drop]
   rw[this];simp
  ·simp only[List.length_append,lK,List.length_drop,List.length_take];have e:(cap-min hi.toNat xs.length)*k.size<=(xs.length-hi.toNat+(cap-xs.length))*k.size:=Nat.mul_le_mul_right _ U;rw[Nat.add_mul] at e;omega
end
section
variable {W : World}
variable {P : Program}
section
variable {α : Type} {k : Fl α} {n : Nat} {env : Env} {H : Hp} {o : Oper}
theorem aj.UH {E:TypeId} {xs:List α} {a:Option Addr} {cap:Nat} {Hj:Hp} (so:aj k E xs a cap Hj) (hc:xs=[]->a=none):Option.isNone a=List.isEmpty xs:=by
 cases a with
 |none=>
  rcases so with⟨_,h,_,_⟩ |⟨b,pre,post,h,_⟩
  ·subst h;rfl
  ·cases h
 |some ad=>
  cases xs with
  |nil=>cases hc rfl
  |cons x r=>rfl
theorem aby (T:Ty P) {t yt e:TypeId} {x y:Operand} {a:Option Addr} {m cap n' c':Nat} {E:TypeId} {xs:List α} {Hj:Hp} (aQ:o.op= .binOp .eql t x y yt) (hx:ev env x=some (.slice a m cap)) (hy:ev env y=some (.slice none n' c'))
 (hu:T.bX t=some (.slice e)) (so:aj k E xs a cap Hj) (hc:xs=[]->a=none):gQ W P n env H o (.bool (List.isEmpty xs)):=by
 intro t1 w s ow;unfold execOp;simp only[aQ,bE s hx,bE s hy];have h:zo T .eql t (.slice a m cap) (.slice none n' c')=some (.bool a.isNone):=by simp[zo,hu]
 rw[Sem.run_bind,Mo h w,so.UH hc];rfl
theorem abz (T:Ty P) {t yt e:TypeId} {x y:Operand} {a:Option Addr} {m cap n' c':Nat} {E:TypeId} {xs:List α} {Hj:Hp} (aQ:o.op= .binOp .neq t x y yt) (hx:ev env x=some (.slice a m cap)) (hy:ev env y=some (.slice none n' c'))
 (hu:T.bX t=some (.slice e)) (so:aj k E xs a cap Hj) (hc:xs=[]->a=none):gQ W P n env H o (.bool (!List.isEmpty xs)):=by
 intro t1 w s ow;unfold execOp;simp only[aQ,bE s hx,bE s hy];have h:zo T .neq t (.slice a m cap) (.slice none n' c')=some (.bool (!a.isNone)):=by simp[zo,hu]
 rw[Sem.run_bind,Mo h w,so.UH hc];rfl
theorem OX {xs ys:List α} {a:Option Addr} (h:List.isEmpty xs=false∨List.isEmpty ys=false):xs++ys=[]->a=none:=λe=>by
 rw[List.append_eq_nil_iff] at e;rw[e.1,e.2] at h;simp at h
end
end
section
variable {W : World}
variable {P : Program}
section
variable {n : Nat} {env : Env} {H : Hp} {o : Oper}
theorem zy (T:Ty P) {m by' b:Nat} {t E:TypeId} {x ix:Operand} {kk:IntKind} {j:Int} {z:Value} (aQ:o.op= .indexAddr t x ix)
 (hx:ev env x=some (.pointer (some ⟨b,0,none⟩))) (vi:ev env ix=some (.int kk j)) (hu:T.bX t=some (.array m E)) (hi:T.inf E=some (1,by',z))
 (hj:0<=j/\j<(m:Int)):gQ W P n env H o (.pointer (some ⟨b,j.toNat,none⟩)):=by
 intro t' w s ow;obtain⟨h0,h1⟩:=hj;unfold execOp;simp only[aQ,bE s hx,bE s vi,Instr.indexAt,Instr.sureAddr,asIntOf,Sem.run_bind,Sem.run_pure,Result.andThen_ok,df hu,Sem.run_ite,h0,h1,and_self,if_true,jP hi]
 congr 3
 unfold Addr.add;split
 ·rename_i h;have:j.toNat=0:=U;simp[this]
 ·simp
end
section
variable {n : Nat} {Q : Exit -> Act -> World -> Prop} {env : Env} {H : Hp}
theorem Y4 {x:Code} {σ:Type} (I:σ->Prop) (E:σ->Env) (G:σ->List Hp) (h1:At W n (x.wp P (Exit.then (DS W n I E G) Q)) env H)
 (h2: ∀s,I s->aJ W n (Q .normal) (E s) (G s)):At W n (x.wp P Q) env H:=by
 refine h1.mono λa w h=>wp_mono h λe a w h=>?_
 cases e with
 |normal=>
  obtain⟨s,hi,t,rfl,sl,o⟩:=h;exact h2 s hi t w sl o
 |_=>exact h
end
theorem mW {α:Type} {xs:List α} {lo hi:Int} {cap:Nat} (h:0<=lo/\lo<=hi/\hi<=(xs.length:Int)) (hc:xs.length<=cap):(aA xs lo hi).length<=cap-lo.toNat:=by
 have:=iV h;omega
end
section
variable {W : World}
variable {P : Program}
abbrev Hd:=Option Addr×Nat×Nat
def vh (h:Hd):Value:= .slice h.1 h.2.1 h.2.2
section rules
variable {κ α : Type} [DecidableEq κ] {t : TypeId} {k : Fl α} {E : TypeId}
variable {T : Ty P} {n : Nat} {Q : Exit -> Act -> World -> Prop} {env : Env} {H : Hp} {HL : List Hp} {ops : Array Oper} {i : Nat} {K : Act -> World -> Prop} {o : Oper}
theorem Gh (T:Ty P) {mt et:TypeId} (KK:Ky P t κ) {x ix:Operand} {r:Nat} {kx:κ} {v:Hd} {sz by':Nat}
 (aQ:o.op= .lookup mt x ix false) (hx:ev env x=some (.map (some r))) (hk:ev env ix=some (KK.enc kx)) (hu:T.bX mt=some (.map t et))
 (hi:T.inf et=some (sz,by',.slice none 0 0)) (hm: ∃hs,zf KK vh hs r H/\aT hs kx=v):
 gQ W P n env H o (.slice v.1 v.2.1 v.2.2):=by
 obtain⟨hs,h1,h2⟩:=hm;have:=qu (W:=W) (n:=n) (o:=o) T KK vh (k:=kx) (b:=false) (sz:=sz) (by':=by') aQ hx hk hu hi h1
 rw[h2] at this;exact this
end rules
end
section
variable {W : World}
variable {P : Program}
open Go.ChangeMaps (setBlock)
section rules
variable {κ α : Type} [DecidableEq κ] {t : TypeId} {k : Fl α} {E : TypeId}
variable {T : Ty P} {n : Nat} {Q : Exit -> Act -> World -> Prop} {env : Env} {H : Hp} {HL : List Hp} {ops : Array Oper} {i : Nat} {K : Act -> World -> Prop} {o : Oper}
end rules
end
section
variable {W : World}
variable {P : Program}
structure Nk (α β γ:Type) where
 kin:Fl γ
 ein:TypeId
 kh:Fl β
 get:α->List γ
 set:α->List γ->α
 hd:α->Option Addr->Nat->β
 ajx: ∀x l,get (set x l)=l
end
section
variable {P : Program}
def yz (q:IntKind) (x:Int×Int):Value:= .agg #[.int q x.1,.int q x.2]
theorem K8 (T:Ty P) {et:TypeId} {q:IntKind} {cs:Array Value} {i:Nat} {v:Value} (hu:T.bX et=some (.int q)) (hv:cs[i]? =some v) (w:World):(part et cs i).run P w= .ok v w:=by
 unfold part;simp[ER hu,nR,hv]
theorem ahz (T:Ty P) {t et:TypeId} {q:IntKind} {by':Nat} {z:Value} (ht:T.bX t=some (.array 2 et)) (hu:T.bX et=some (.int q)) (hi:T.inf et=some (1,by',z)) (w:World) (x y:Int×Int):
 (Op.equal t (yz q x) (yz q y)).run P w= .ok (decide (x=y)) w:=by
 show(Op.equalIn (9998+1+1) t _ _).run P w=_
 generalize 9998=d;have e0: ∀a b:Int,(Op.equalIn (d+1) et (.int q a) (.int q b)).run P w= .ok (a==b) w:=λa b=>by
  simp only[Op.equalIn,Sem.run_bind,df hu,Result.andThen_ok,if_true,Sem.run_pure]
 have p0: ∀a b:Int,(part et #[.int q a,.int q b] 0).run P w= .ok (.int q a) w:=λa b=>K8 T hu rfl w
 have p1: ∀a b:Int,(part et #[.int q a,.int q b] 1).run P w= .ok (.int q b) w:=λa b=>K8 T hu rfl w
 unfold yz;rw[Op.equalIn];simp only[Sem.run_bind,df ht,Result.andThen_ok,jP hi];obtain⟨x1,x2⟩:=x;obtain⟨y1,y2⟩:=y
 by_cases h1:x1=y1
 ·by_cases h2:x2=y2
  ·simp[List.range',p0,p1,e0,h1,h2]
  ·simp[List.range',p0,p1,e0,h1,h2]
 ·simp[List.range',p0,p1,e0,h1]
theorem R4 (T:Ty P) {t et:TypeId} {q:IntKind} {by':Nat} {z:Value} (ht:T.bX t=some (.array 2 et)) (hu:T.bX et=some (.int q)) (hi:T.inf et=some (1,by',z)) (w:World) (x:Int×Int):
 ∀(es:List MapEntry) (ks:List (Int×Int)) (j:Nat),es.map (·.key)=ks.map (yz q)->
  (Instr.findAsking t (yz q x) es j).run P w= .ok ((gN (ks.map λk=>(k,())) x).bind λi=>(es[i]?).map λe=>(i+j,e.val)) w
 |[],[],_,_=>rfl
 |[],_::_,_,h=>by simp at h
 |_::_,[],_,h=>by simp at h
 |e::es,k::ks,j,h=>by
  simp only[List.map_cons,List.cons.injEq] at h;obtain⟨h1,h2⟩:=h;have:=ahz T ht hu hi w x k;simp only[Instr.findAsking,h1,Sem.run_bind,this,Result.andThen_ok,List.map_cons,gN]
  by_cases hk:k=x
  ·subst hk;simp
  ·have hk': ¬x=k:=λq=>hk q.symm
   simp only[hk,hk',decide_false,Bool.false_eq_true,if_false];rw[R4 T ht hu hi w x es ks (j+1) h2]
   cases hp:gN (ks.map λk=>(k,())) x with
   |none=>simp
   |some i=>
    simp only[Option.map_some,Option.bind_some,List.getElem?_cons_succ];rw[show i+1+j=i+(j+1) by omega]
def Ky.pair (T:Ty P) {t et:TypeId} (q:IntKind) {by':Nat} {z:Value} (ht:T.bX t=some (.array 2 et)) (hu:T.bX et=some (.int q)) (hi:T.inf et=some (1,by',z)) (ht':P.underlying t=some (.array 2 et)) (jL:P.underlying et=some (.int q)):Ky P t (Int×Int) where
 enc:=yz q
 check:=λe w x=>by
  have c0: ∀a:Int,(Instr.checkKey e 9999 et (.int q a)).run P w= .ok () w:=λa=>MapKept.run_checkKey jL (by simp[MapKept.IsKey]) e 9998
  have p0: ∀a b:Int,(part et #[.int q a,.int q b] 0).run P w= .ok (.int q a) w:=λa b=>K8 T hu rfl w
  have p1: ∀a b:Int,(part et #[.int q a,.int q b] 1).run P w= .ok (.int q b) w:=λa b=>K8 T hu rfl w
  obtain⟨a,b⟩:=x
  show(Instr.checkKey e (9999+1) t (yz q (a,b))).run P w=_
  unfold yz;generalize 9999=d at c0;rw[Instr.checkKey];simp[List.range',df ht,jP hi,p0,p1,c0]
 find:=λw x es ks h=>by
  have hf:=R4 T ht hu hi w x es ks 0 h;unfold Instr.findKey;simp only[Sem.run_bind,df ht,Result.andThen_ok]
  cases es with
  |nil=>
   cases ks with
   |nil=>rfl
   |cons _ _=>simp at h
  |cons e es=>
   cases ks with
   |nil=>simp at h
   |cons k ks=>
    simp only[List.map_cons,List.cons.injEq] at h;have:Instr.findNow (.array 2 et) (yz q x) (e::es) 0=none:=by
     simp[Instr.findNow,Instr.sameNow]
    rw[this];simpa using hf
 stays:=λw x=>by
  unfold Instr.keyThatStays yz;simp[Instr.sameBits]
end
section
variable {W : World}
variable {P : Program}
structure Kd (α:Type) where
 size:Nat
 own:α->List Value->Hp->Prop
 og:α->List Value->Hp->Prop
 len: ∀x cs H,own x cs H->cs.length=size
 plain: ∀x cs H,own x cs H-> ∀v∈cs,v.oneCell'=true
 r: ∀x cs H,own x cs H->og x cs H
 mono: ∀x cs H H',og x cs H->(∀c∈H,c∈H')->og x cs H'
 pos:0<size
structure Rw (n:Nat) where
 val:List Value
 len:val.length=n
 plain: ∀v∈val,v.oneCell'=true
instance (n:Nat):Inhabited (Rw n):=⟨⟨List.replicate n (.bool false),by simp,by intro v h;rw[List.mem_replicate] at h;rw[h.2];rfl⟩⟩
def Fl.raw (n:Nat) (h:0<n):Fl (Rw n):=⟨n,λx=>x.val,λx=>x.len,λx=>x.plain,h⟩
theorem Lf {δ:Type} {l:List δ} {j:Nat} {a:δ} (h:l[j]? =some a):l.set j a=l:=by
 obtain⟨hl,he⟩:=List.getElem?_eq_some_iff.1 h;rw[<-he];exact List.set_getElem_self _
theorem Ww {δ:Type} [Inhabited δ] (y:δ) (l:List δ) (i:Nat):rd (y::l) ((i+1:Nat):Int)=rd l (i:Int):=by
 unfold rd;have h1:((i+1:Nat):Int).toNat=i+1:=U;have h2:((i:Nat):Int).toNat=i:=U;rw[h1,h2];rfl
theorem Bk {HL:List Hp} {j:Nat} {A B:Hp} (h:j<HL.length):(HL.set j (A++B)).flatten.Perm (HL.set j A++[B]).flatten:=by
 have h1:=wc HL j _ (A++B) (List.getElem?_eq_getElem h);have h2:=wc HL j _ A (List.getElem?_eq_getElem h);refine h1.trans ?_;rw[List.flatten_append];simp only[List.flatten_cons,List.flatten_nil,List.append_nil];refine List.Perm.trans ?_ (List.Perm.append_right B h2.symm);rw[List.append_assoc,List.append_assoc];exact List.Perm.append_left A List.perm_append_comm
theorem EH {HL:List Hp} {j q:Nat} {A B:Hp} (hj:HL[j]? =some A) (hq:HL[q]? =some B) (bK:j≠q):HL.flatten.Perm ((HL.set j (A++B)).set q []).flatten:=by
 have Ue:(HL.set j (A++B))[q]? =some B:=by rw[List.getElem?_set_ne bK];exact hq
 have ha:=xI HL j A hj;have hb:(HL.set j (A++B)).flatten.Perm ((A++B)++(HL.eraseIdx j).flatten):=wc HL j _ _ hj;have hc:=xI (HL.set j (A++B)) q B Ue;have hd:=wc (HL.set j (A++B)) q B [] Ue;have key:(B++HL.flatten).Perm (B++((HL.set j (A++B)).set q []).flatten):=by
  refine List.Perm.trans ?_ (List.Perm.append_left B (by simpa using hd.symm))
  refine List.Perm.trans ?_ hc;refine List.Perm.trans ?_ hb.symm;refine(List.Perm.append_left B ha).trans ?_;rw[<-List.append_assoc];exact List.Perm.append_right _ List.perm_append_comm
 exact(List.perm_append_left_iff B).1 key
theorem Cp {HL:List Hp} {j:Nat} {A B:Hp} (h:A.Perm B):(HL.set j A).flatten.Perm (HL.set j B).flatten:=by
 by_cases hj:j<HL.length
 ·have h1:=wc HL j _ A (List.getElem?_eq_getElem hj);have h2:=wc HL j _ B (List.getElem?_eq_getElem hj);exact h1.trans ((List.Perm.append_right _ h).trans h2.symm)
 ·rw[List.set_eq_of_length_le U,List.set_eq_of_length_le U]
section
variable {n' : Nat} {F : Act -> World -> Prop} {env : Env} {HL : List Hp}
theorem Jc {j:Nat} {A B:Hp} (hj:idx j HL=some (A++B)) (h:aJ W n' F env (HL.set j A++[B])):aJ W n' F env HL:=by
 rw[idx_eq] at hj;have hl:=(List.getElem?_eq_some_iff.1 hj).1;refine py (λw o=>?_) h;refine o.perm ?_;have e:HL.set j (A++B)=HL:=Lf hj;have:=Bk (HL:=HL) (j:=j) (A:=A) (B:=B) hl;rw[e] at this;exact this
theorem gL (js:List Nat) {As R:List Hp} (hs:qM js HL=(As,R)) (h:aJ W n' F env (R++[As.flatten])):aJ W n' F env HL:=
 py (λw o=>o.perm ((W1 hs).trans (by
  rw[List.flatten_append];simp only[List.flatten_cons,List.flatten_nil,List.append_nil];exact List.perm_append_comm))) h
theorem Mf {R As:List Hp} (h:aJ W n' F env (R++As)):aJ W n' F env (R++[As.flatten]):=
 py (λw o=>o.perm (by
  rw[List.flatten_append,List.flatten_append];simp only[List.flatten_cons,List.flatten_nil,List.append_nil];exact List.Perm.refl _)) h
end
section
variable {α : Type} [Inhabited α] (kd : Kd α)
def tq:List α->List (Rw kd.size)->Hp->Prop
 |[],cc,R=>cc=[]/\R=[]
 |x::xs,cc,R=> ∃c Hx vY R',kd.own x c.val Hx/\cc=c::vY/\R=Hx++R'/\tq xs vY R'
def gT (E:TypeId) (xs:List α) (a:Option Addr) (cap:Nat) (H:Hp):Prop:=
 ∃cc H0 R,aj (Fl.raw kd.size kd.pos) E cc a cap H0/\tq kd xs cc R/\H=H0++R
def nQ (xs:List α) (a:Option Addr) (H:Hp):Prop:=
 ∃cc,aO (Fl.raw kd.size kd.pos) cc a H/\cc.length=xs.length/\ ∀i,i<xs.length->kd.og (rd xs (i:Int)) (rd cc (i:Int)).val H
def vS (E:TypeId) (xs:List α) (a:Option Addr) (cap:Nat) (i:Int) (cs:List Value) (H:Hp):Prop:=
 (0<=i/\i<(xs.length:Int))/\ ∃cc H0 R,aj (Fl.raw kd.size kd.pos) E cc a cap H0/\cc.length=xs.length/\(rd cc i).val=cs/\H=H0++R/\
   ∀x' (c':Rw kd.size) Hy,kd.own x' c'.val Hy-> ∃R2,R2.Perm (R++Hy)/\tq kd (xs.set i.toNat x') (cc.set i.toNat c') R2
def zb (a:Option Addr) (o:Nat) (cs:List Value) (H:Hp):Prop:=
 ∃b off arr E fr,a=some ⟨b,off,none⟩/\(b,Obj.cells arr E fr)∈H/\ ∀f v,cs[f]? =some v->arr[off+o+f]? =some v
variable {kd} {E : TypeId}
theorem CS: ∀(xs:List α) (cc:List (Rw kd.size)) (R:Hp),tq kd xs cc R->cc.length=xs.length
 |[],_,_,h=>by rw[h.1];rfl
 |x::xs,_,_,h=>by
  obtain⟨c,Hx,vY,R',_,rfl,_,h4⟩:=h;simp[CS xs vY R' h4]
theorem U2: ∀(xs:List α) (cc:List (Rw kd.size)) (R:Hp) (ys:List α) (dd:List (Rw kd.size)) (S:Hp),tq kd xs cc R->tq kd ys dd S->tq kd (xs++ys) (cc++dd) (R++S)
 |[],_,_,ys,dd,S,h,h2=>by obtain⟨rfl,rfl⟩:=h;exact h2
 |x::xs,_,_,ys,dd,S,h,h2=>by
  obtain⟨c,Hx,vY,R',h1,rfl,rfl,h4⟩:=h;exact⟨c,Hx,vY++dd,R'++S,h1,rfl,by rw[List.append_assoc],U2 xs vY R' ys dd S h4 h2⟩
theorem afq {x:α} {c:Rw kd.size} {Hx:Hp} (h:kd.own x c.val Hx):tq kd [x] [c] Hx:=⟨c,Hx,[],[],h,rfl,by simp,rfl,rfl⟩
theorem OG {x:α} {c:Rw kd.size} (h:kd.own x c.val []): ∀m:Nat,tq kd (List.replicate m x) (List.replicate m c) []
 |0=>⟨rfl,rfl⟩
 |m+1=>⟨c,[],_,[],h,rfl,rfl,OG h m⟩
theorem KN: ∀(xs:List α) (cc:List (Rw kd.size)) (R:Hp) (i:Nat),tq kd xs cc R->i<xs.length->
 ∃Hx R',kd.own (rd xs (i:Int)) (rd cc (i:Int)).val Hx/\R.Perm (R'++Hx)/\
  ∀x' (c':Rw kd.size) Hy,kd.own x' c'.val Hy-> ∃R2,R2.Perm (R'++Hy)/\tq kd (xs.set i x') (cc.set i c') R2
 |[],_,_,_,_,h=>by simp at h
 |x::xs,_,_,0,h,_=>by
  obtain⟨c,Hx,vY,R',h1,rfl,rfl,h4⟩:=h;exact⟨Hx,R',h1,List.perm_append_comm,λx' c' Hy hy=>⟨Hy++R',List.perm_append_comm,⟨c',Hy,vY,R',hy,rfl,rfl,h4⟩⟩⟩
 |x::xs,_,_,i+1,h,hi=>by
  obtain⟨c,Hx,vY,R',h1,rfl,rfl,h4⟩:=h;obtain⟨H1,R1,e1,e4,e5⟩:=KN xs vY R' i h4 (by simpa using hi)
  refine⟨H1,Hx++R1,by rw[Ww,Ww];exact e1,by rw[List.append_assoc];exact List.Perm.append_left Hx e4,λx' c' Hy hy=>?_⟩
  obtain⟨R2,p2,l2⟩:=e5 x' c' Hy hy;exact⟨Hx++R2,by rw[List.append_assoc];exact List.Perm.append_left Hx p2,⟨c,Hx,_,R2,h1,rfl,rfl,l2⟩⟩
theorem afr {xs:List α} {cc:List (Rw kd.size)} {R:Hp} (h:tq kd xs cc R) {i:Nat} (hi:i<xs.length):kd.og (rd xs (i:Int)) (rd cc (i:Int)).val R:=by
 obtain⟨Hx,R',e1,e2,_⟩:=KN xs cc R i h hi;exact kd.mono _ _ _ _ (kd.r _ _ _ e1) (λc hc=>e2.mem_iff.2 (List.mem_append_right _ hc))
theorem gT.nil:gT kd E ([]:List α) none 0 []:=⟨[],[],[],aj.nil,⟨rfl,rfl⟩,rfl⟩
theorem gT.bZ {xs:List α} {a:Option Addr} {cap:Nat} {H:Hp} (h:gT kd E xs a cap H):xs.length<=cap:=by
 obtain⟨cc,H0,R,h0,hl,_⟩:=h;rw[<-CS _ _ _ hl];exact h0.bZ
theorem gT.r {xs:List α} {a:Option Addr} {cap:Nat} {H:Hp} (h:gT kd E xs a cap H):nQ kd xs a H:=by
 obtain⟨cc,H0,R,h0,hl,rfl⟩:=h;exact⟨cc,h0.r.mono (λc hc=>List.mem_append_left _ hc),CS _ _ _ hl,λi hi=>kd.mono _ _ _ _ (afr hl hi) (λc hc=>List.mem_append_right _ hc)⟩
theorem nQ.nil {H:Hp}:nQ kd ([]:List α) none H:=⟨[],.inl rfl,rfl,λi hi=>by simp at hi⟩
theorem nQ.mono {xs:List α} {a:Option Addr} {H H':Hp} (h:nQ kd xs a H) (hs: ∀c∈H,c∈H'):nQ kd xs a H':=by
 obtain⟨cc,h1,h2,h3⟩:=h;exact⟨cc,h1.mono hs,h2,λi hi=>kd.mono _ _ _ _ (h3 i hi) hs⟩
theorem nQ.addr {xs:List α} {a:Option Addr} {H:Hp} (h:nQ kd xs a H) {i:Int} (h0:0<=i) (h1:i<xs.length): ∃b off,a=some ⟨b,off,none⟩:=by
 obtain⟨cc,h2,h3,_⟩:=h;exact h2.addr h0 (by rw[h3];exact h1)
theorem nQ.view {xs:List α} {a:Option Addr} {H:Hp} (h:nQ kd xs a H) {j:Int} (hj:0<=j/\j<(xs.length:Int)):
 ∃cs,zb a (j.toNat*kd.size) cs H/\kd.og (rd xs j) cs H:=by
 obtain⟨cc,h1,h2,h3⟩:=h;obtain⟨b,off,ha⟩:=h1.addr hj.1 (by rw[h2];exact hj.2)
 obtain⟨arr,E,fr,hm,hc⟩:=h1.elem ha hj.1 (by rw[h2];exact hj.2)
 have h4:=h3 j.toNat U;rw[show((j.toNat:Nat):Int)=j by omega] at h4
 exact⟨(rd cc j).val,⟨b,off,arr,E,fr,ha,hm,λf v hv=>hc f v hv⟩,h4⟩
theorem zb.mono {a:Option Addr} {o:Nat} {cs:List Value} {H H':Hp} (h:zb a o cs H) (hs: ∀c∈H,c∈H'):zb a o cs H':=by
 obtain⟨b,off,arr,E,fr,ha,hm,hc⟩:=h;exact⟨b,off,arr,E,fr,ha,hs _ hm,hc⟩
theorem CJ {HL:List Hp} {j b off o:Nat} {Hj:Hp} {a:Option Addr} {cs:List Value} (hj:idx j HL=some Hj) (h:zb a o cs Hj) (ha:a=some ⟨b,off,none⟩) (f:Nat) {v:Value} (hv:idx f cs=some v):
 ∃arr E fr,(b,Obj.cells arr E fr)∈HL.flatten/\arr[off+o+f]? =some v:=by
 obtain⟨b',C7,arr,E,fr,wh,hm,hc⟩:=h;rw[ha] at wh;simp at wh;obtain⟨rfl,rfl⟩:=wh;exact⟨arr,E,fr,ie (by rw[<-idx_eq];exact hj) hm,hc f v (by rw[<-idx_eq];exact hv)⟩
theorem Oy {HL:List Hp} {j b off o:Nat} {Hj:Hp} {a:Option Addr} {cs:List Value} (hj:idx j HL=some Hj) (h:zb a o cs Hj) (ha:a=some ⟨b,off,none⟩) (f:Nat) {vs:List Value}
 (hv:(cs.drop f).take vs.length=vs): ∃arr E fr,(b,Obj.cells arr E fr)∈HL.flatten/\ ∀i v,vs[i]? =some v->arr[off+o+f+i]? =some v:=by
 obtain⟨b',C7,arr,E,fr,wh,hm,hc⟩:=h;rw[ha] at wh;simp at wh;obtain⟨rfl,rfl⟩:=wh;refine⟨arr,E,fr,ie (by rw[<-idx_eq];exact hj) hm,λi v hi=>?_⟩
 rw[<-hv] at hi;have hl:=(List.getElem?_eq_some_iff.1 hi).1;rw[List.getElem?_take_of_lt (by simp at hl;omega),List.getElem?_drop] at hi
 rw[Nat.add_assoc];exact hc (f+i) v hi
theorem vS.cells {xs:List α} {a:Option Addr} {cap:Nat} {i:Int} {cs:List Value} {H:Hp} (h:vS kd E xs a cap i cs H):zb a (i.toNat*kd.size) cs H:=by
 obtain⟨hi,cc,H0,R,h0,hl,rfl,rfl,_⟩:=h;obtain⟨b,off,ha⟩:=h0.r.addr hi.1 (by rw[hl];exact hi.2)
 obtain⟨arr,E',fr,hm,hc⟩:=h0.r.elem ha hi.1 (by rw[hl];exact hi.2)
 exact⟨b,off,arr,E',fr,ha,List.mem_append_left _ hm,λf v hv=>hc f v hv⟩
theorem vS.addr {xs:List α} {a:Option Addr} {cap:Nat} {i:Int} {cs:List Value} {H:Hp} (h:vS kd E xs a cap i cs H): ∃b off,a=some ⟨b,off,none⟩:=by
 obtain⟨b,off,_,_,_,ha,_⟩:=h.cells;exact⟨b,off,ha⟩
theorem vS.bZ {xs:List α} {a:Option Addr} {cap:Nat} {i:Int} {cs:List Value} {H:Hp} (h:vS kd E xs a cap i cs H):xs.length<=cap:=by
 obtain⟨hi,cc,H0,R,h0,hl,rfl,rfl,_⟩:=h;rw[<-hl];exact h0.bZ
section
variable {n' : Nat} {F : Act -> World -> Prop} {env : Env} {HL : List Hp} {xs : List α} {a : Option Addr} {cap : Nat}
theorem Mc {H:Hp} {j:Nat} {i:Int} (hj:idx j HL=some H) (so:gT kd E xs a cap H) (hi:0<=i/\i<(xs.length:Int))
 (h: ∀cs Hx H',kd.own (rd xs i) cs Hx->vS kd E xs a cap i cs H'->aJ W n' F env (HL.set j H'++[Hx])):aJ W n' F env HL:=by
 obtain⟨cc,H0,R,h0,hl,rfl⟩:=so;obtain⟨Hx,R',e1,e2,e3⟩:=KN xs cc R i.toNat hl U;rw[show((i.toNat:Nat):Int)=i by omega] at e1
 refine py (λw o=>?_) (h (rd cc i).val Hx (H0++R') e1 ⟨hi,cc,H0,R',h0,CS _ _ _ hl,rfl,rfl,e3⟩);rw[idx_eq] at hj;have lE:=(List.getElem?_eq_some_iff.1 hj).1;refine o.perm ?_;have e:HL.set j (H0++R)=HL:=Lf hj;have h1:HL.flatten.Perm (HL.set j ((H0++R')++Hx)).flatten:=by
  conv=>lhs;rw[<-e]
  refine Cp ?_;rw[List.append_assoc];exact List.Perm.append_left H0 e2
 exact h1.trans (Bk lE)
theorem Mb {H Hx:Hp} {j q:Nat} {i:Int} {cs:List Value} (x':α) (hj:idx j HL=some H) (so:vS kd E xs a cap i cs H) (hq:idx q HL=some Hx) (bK:Nat.beq j q=false) (hx:kd.own x' cs Hx)
 (h: ∀H',gT kd E (xs.set i.toNat x') a cap H'->aJ W n' F env ((HL.set j H').set q [])):aJ W n' F env HL:=by
 obtain⟨hi,cc,H0,R,h0,hl,h2,rfl,h3⟩:=so;have ru:j≠q:=λe=>by subst e;simp at bK
 obtain⟨R2,p2,l2⟩:=h3 x' (rd cc i) Hx (by rw[h2];exact hx)
 have ec:cc.set i.toNat (rd cc i)=cc:=by
  rw[iU U];exact List.set_getElem_self _
 rw[ec] at l2;refine py (λw o=>?_) (h (H0++R2) ⟨cc,H0,R2,h0,l2,rfl⟩);rw[idx_eq] at hj hq;refine o.perm ?_;refine(EH hj hq ru).trans ?_;have: ∀(L:List Hp) (A:Hp),((L.set j A).set q [])=((L.set q []).set j A):=λL A=>List.set_comm _ _ ru
 rw[this,this];refine Cp ?_;rw[List.append_assoc];exact List.Perm.append_left H0 p2.symm
end
section rules
variable {n : Nat} {Q : Exit -> Act -> World -> Prop} {env : Env} {HL : List Hp} {ops : Array Oper} {i : Nat} {K : Act -> World -> Prop} {o : Oper}
theorem Md (T:Ty P) {b off t:Nat} {x y:Operand} {v:Value} {sz by' cap:Nat} {z:Value} {Hj:Hp} {xs:List α} {a:Option Addr} {j:Int} {cs:List Value} (g f:Nat) (tP:List Value)
 (qA:s_ ops env i=some o) (aQ:o.op= .store t x y) (hx:ev env x=some (.pointer (some ⟨b,off+j.toNat*kd.size+f,none⟩)))
 (hy:ev env y=some v) (hi:T.inf t=some (sz,by',z)) (hj:idx g HL=some Hj) (hs:vS kd E xs a cap j cs Hj) (ha:a=some ⟨b,off,none⟩)
 (hl:Nat.beq (bO v).length sz=true) (hf:Nat.ble (f+sz) kd.size=true) (hp:(bO v).all (·.oneCell')=true) (he:gn cs f (bO v)=tP)
 (h: ∀H',vS kd E xs a cap j tP H'->aJ W n K env (HL.set g H')):aJ W n (wpOp P ops Q i K) env HL:=by
 obtain⟨hb,cc,H0,R,h0,eO,h2,rfl,h3⟩:=hs;have jq:=hj;rw[idx_eq] at hj;have lD:=(List.getElem?_eq_some_iff.1 hj).1;refine Jc jq ?_;have hg:idx g (HL.set g H0++[R])=some H0:=by
  rw[idx_eq,List.getElem?_append_left (by simpa using lD)];exact List.getElem?_set_self lD
 have hlen:cs.length=kd.size:=by rw[<-h2];exact(rd cc j).len
 have hle:=Nat.le_of_ble_eq_true hf;have T7:=Nat.eq_of_beq_eq_true hl;have TK:tP.length=kd.size/\ ∀v∈tP,v.oneCell'=true:=by
  subst he;refine⟨by unfold gn;simp;omega,λu hu=>?_⟩
  unfold gn at hu;rcases List.mem_append.1 hu with hu |hu
  ·exact(rd cc j).plain u (by rw[h2];exact List.mem_of_mem_take hu)
  ·rcases List.mem_append.1 hu with hu |hu
   ·exact List.all_eq_true.1 hp u hu
   ·exact(rd cc j).plain u (by rw[h2];exact List.mem_of_mem_drop hu)
 refine jZ (k:=Fl.raw kd.size kd.pos) T g f (⟨tP,TK.1,TK.2⟩:Rw kd.size) qA aQ hx hy hi hg h0 ha ⟨hb.1,by rw[eO];exact hb.2⟩ hl hf ?_ (λH' BD=>?_)
 ·show tP=gn (rd cc j).val f (bO v)
  rw[h2];exact he.symm
 ·refine py (λw o=>?_) (h (H'++R) ⟨hb,_,H',R,BD,by simp[eO],?_,rfl,λx' c' Hy hy=>?_⟩)
  ·refine o.perm ?_;have e:(HL.set g H0++[R]).set g H'=HL.set g H'++[R]:=by
    rw[List.set_append_left _ _ (by simpa using lD)];simp
   rw[e];exact(Bk lD).symm
  ·rw[iU (by simp;omega)];simp
  ·obtain⟨R2,p2,l2⟩:=h3 x' c' Hy hy;exact⟨R2,p2,by simpa using l2⟩
theorem FQ (T:Ty P) {d g q:Nat} {s x:Operand} {t t' E':TypeId} {xs ys:List α} {a a2:Option Addr} {cap cap2 sz by':Nat} {z:Value} {Hj Hq:Hp}
 (qA:slot n ops env i=some (o,d)) (aQ:o.op= .call ⟨.builtin .append,#[s,x],#[t,t']⟩)
 (hs:ev env s=some (.slice a xs.length cap)) (hx:ev env x=some (.slice a2 ys.length cap2)) (hu:T.bX t=some (.slice E)) (jL:T.bX t'=some (.slice E'))
 (hi:T.inf E=some (sz,by',z)) (hk:kd.size=sz) (hz:(bO z).length=sz) (hj:idx g HL=some Hj) (so:gT kd E xs a cap Hj) (hq:idx q HL=some Hq) (bK:Nat.beq g q=false) (sy:gT kd E ys a2 cap2 Hq)
 (hb:xs.length+ys.length<=1099511627776) (j5:Nat.ble by' 128=true)
 (h: ∀a' rl H',gT kd E (xs++ys) a' rl H'->aJ W n K ((d,.slice a' (xs++ys).length rl)::env) ((HL.set g H').set q [])):aJ W n (wpOp P ops Q i K) env HL:=by
 obtain⟨cc,H0,R,h0,hl,rfl⟩:=so;obtain⟨dd,G0,S,g0,gl,rfl⟩:=sy;have ru:g≠q:=λe=>by subst e;simp at bK
 have l1:=CS _ _ _ hl;have l2:=CS _ _ _ gl;have jq:=hj;have Od:=hq;rw[idx_eq] at hj hq;have lD:=(List.getElem?_eq_some_iff.1 hj).1;have xZ:=(List.getElem?_eq_some_iff.1 hq).1;refine Jc jq ?_;have e1:idx g (HL.set g H0++[R])=some H0:=by
  rw[idx_eq,List.getElem?_append_left (by simpa using lD)];exact List.getElem?_set_self lD
 have sr:aO (Fl.raw kd.size kd.pos) dd a2 (HL.set g H0++[R]).flatten:=g0.r.mono (λc hc=>by
  refine ie (j:=q) (Hj:=G0++S) ?_ (List.mem_append_left _ hc);rw[List.getElem?_append_left (by simpa using xZ),List.getElem?_set_ne ru];exact hq)
 refine dQ (k:=Fl.raw kd.size kd.pos) T qA aQ (by rw[l1];exact hs) (by rw[l2];exact hx) hu jL hi hk hz e1 h0 sr (by rw[l1,l2];exact hb) j5 (λa' rl H' BD=>?_)
 have hh:=h a' rl (H'++(R++S)) ⟨cc++dd,H',R++S,BD,U2 _ _ _ _ _ _ hl gl,rfl⟩;have e0:(cc++dd).length=(xs++ys).length:=by simp[l1,l2]
 rw[e0];refine py (λw o=>?_) hh;have e:(HL.set g H0++[R]).set g H'=HL.set g H'++[R]:=by
  rw[List.set_append_left _ _ (by simpa using lD)];simp
 rw[e] at o;have o2:bn W w ((HL.set g (H'++R))).flatten:=o.perm (Bk lD).symm;have Km:(HL.set g (H'++R))[q]? =some (G0++S):=by rw[List.getElem?_set_ne ru];exact hq
 have o3:bn W w ((HL.set g (H'++R)).set q S).flatten:=by
  refine sT Km ?_;have:=vu Km o2;rw[List.append_assoc] at this;exact this.right
 have hg4:((HL.set g (H'++R)).set q S)[g]? =some (H'++R):=by rw[List.getElem?_set_ne (Ne.symm ru)];exact List.getElem?_set_self lD
 have hq4:((HL.set g (H'++R)).set q S)[q]? =some S:=List.getElem?_set_self (by simpa using xZ)
 refine o3.perm ((EH hg4 hq4 ru).trans ?_);have e5:(((HL.set g (H'++R)).set q S).set g (H'++R++S)).set q []=(HL.set g (H'++(R++S))).set q []:=by
  rw[List.set_comm _ _ (Ne.symm ru),List.set_set,List.set_set,List.append_assoc]
 rw[e5]
theorem FR (T:Ty P) {d t sz by' q:Nat} {z:Value} {parts:Array (Nat×Operand)} {v:Value} {c:List Value} {Hx:Hp} (x:α)
 (qA:slot n ops env i=some (o,d)) (aQ:o.op= .buildSlice t 1 parts) (hu:T.bX t=some (.slice E)) (hi:T.inf E=some (sz,by',z)) (hk:kd.size=sz) (hz:(bO z).length=sz)
 (hn:Nat.ble (1*sz) 16777216=true) (hp:(parts.toList.mapM λp=>(ev env p.2).map λv=>(p.1,v))=some [(0,v)]) (hv:bO v=c)
 (hq:idx q HL=some Hx) (hx:kd.own x c Hx)
 (h: ∀a H',gT kd E [x] a (List.length [x]) H'->aJ W n K ((d,.slice a (List.length [x]) (List.length [x]))::env) (HL.set q []++[H'])):aJ W n (wpOp P ops Q i K) env HL:=by
 have eO:=kd.len _ _ _ hx;have hcp:=kd.plain _ _ _ hx;rw[idx_eq] at hq;have xZ:=(List.getElem?_eq_some_iff.1 hq).1;refine cW (k:=Fl.raw kd.size kd.pos) T [(⟨c,eO,hcp⟩:Rw kd.size)] qA aQ hu hi hz hn hp ?_ rfl (λa H' so=>?_)
 ·subst hv;have e:(Nat.beq (bO v).length sz&&Nat.ble (0*sz+(bO v).length) ((List.range (1*sz)).map λi=>((bO z)[i%sz]?).getD default).length)=true:=by
   rw[eO,hk];simp
  simp only[wb,e,cond_true];simp only[row,List.map_cons,List.map_nil,List.flatten_cons,List.flatten_nil,List.append_nil,Fl.raw];have e2:gn ((List.range (1*sz)).map λi=>((bO z)[i%sz]?).getD default) (0*sz) (bO v)=bO v:=by
   unfold gn;rw[Nat.zero_mul,List.take_zero,List.nil_append,Nat.zero_add,List.drop_of_length_le (by simp;omega),List.append_nil]
  rw[e2]
 ·refine py (λw o=>?_) (h a (H'++Hx) ⟨_,H',Hx,so,afq hx,rfl⟩);rw[List.flatten_append] at o⊢;simp only[List.flatten_cons,List.flatten_nil,List.append_nil] at o⊢;refine o.perm ?_;have h1:=xI HL q Hx hq;have h2:=wc HL q Hx [] hq;simp only[List.nil_append] at h2;refine(List.Perm.append_right H' h1).trans ?_;refine List.Perm.trans ?_ (List.Perm.append_right _ h2.symm);rw[List.append_assoc];refine List.perm_append_comm.trans ?_;rw[List.append_assoc]
theorem Zd (T:Ty P) {d t:Nat} {x y:Operand} {m:Int} {kk ua:IntKind} {sz by':Nat} {z:Value} (x0:α)
 (hs:slot n ops env i=some (o,d)) (aQ:o.op= .makeSlice t x y) (hx:ev env x=some (.int kk m)) (hy:ev env y=some (.int ua m))
 (hu:T.bX t=some (.slice E)) (hi:T.inf E=some (sz,by',z)) (hk:kd.size=sz) (hz:kd.own x0 (bO z) []) (h0:0<=m/\m<=1099511627776) (j5:Nat.ble by' 128=true)
 (h: ∀a cap H',gT kd E (List.replicate m.toNat x0) a cap H'->aJ W n K ((d,.slice a (List.replicate m.toNat x0).length cap)::env) (HL++[H'])):aJ W n (wpOp P ops Q i K) env HL:=by
 refine xy (k:=Fl.raw kd.size kd.pos) T (⟨bO z,kd.len _ _ _ hz,kd.plain _ _ _ hz⟩:Rw kd.size) hs aQ hx hy hu hi hk rfl h0 j5 (λa cap H' so=>?_);have:=h a cap H' ⟨_,H',[],so,OG hz _,by simp⟩
 simpa using this
end rules
end
end
section
variable {W : World}
variable {P : Program}
section
variable {κ α : Type} [DecidableEq κ] {t : TypeId}
def ue (m:List (κ×α)) (x:κ) (v:α):List (κ×α):=if ck m x then cQ m x v else m
theorem Vb [Inhabited α]: ∀(m:List (κ×α)) (x:κ),ue m x (aT m x)=m
 |[],x=>rfl
 |e::r,x=>by
  have ih:=Vb r x;unfold ue ck aT at ih⊢;simp only[dW,cQ]
  by_cases hk:e.1=x
  ·subst hk;simp
  ·simp only[hk,if_false];split at ih
   ·rename_i h;simp only[h,if_true,ih]
   ·rename_i h;simp only[h];rfl
variable (S : List α -> Option Addr -> Nat -> Hp -> Prop)
def vL (gone:List κ):List (κ×List α)->List (κ×Hd)->Hp->Prop
 |[],hs,R=>hs=[]/\R=[]
 |e::r,hs,R=> ∃a n c Hx fZ R',((e.1∈gone/\Hx=[])∨(e.1∉gone/\S e.2 a c Hx/\n=e.2.length))/\hs=(e.1,(a,n,c))::fZ/\R=Hx++R'/\vL gone r fZ R'
variable {S}
theorem U3 {gone:List κ} (x:κ): ∀(xs:List (κ×List α)) (hs:List (κ×Hd)) (R:Hp),vL S gone xs hs R-> ∃R2 R3,R.Perm (R2++R3)/\vL S (x::gone) xs hs R2
 |[],_,_,h=>by obtain⟨rfl,rfl⟩:=h;exact⟨[],[],List.Perm.refl _,rfl,rfl⟩
 |e::r,_,_,h=>by
  obtain⟨a,n,c,Hx,fZ,R',h1,rfl,rfl,h4⟩:=h;obtain⟨R2,R3,p,l⟩:=U3 x r fZ R' h4;rcases h1 with⟨hg,rfl⟩ |⟨hg,GR,rfl⟩
  ·exact⟨R2,R3,p,a,n,c,[],fZ,R2,.inl ⟨List.mem_cons_of_mem _ hg,rfl⟩,rfl,rfl,l⟩
  ·by_cases hk:e.1=x
   ·refine⟨R2,Hx++R3,?_,a,_,c,[],fZ,R2,.inl ⟨by rw[hk];exact List.mem_cons_self ..,rfl⟩,rfl,rfl,l⟩
    refine(List.Perm.append_left Hx p).trans ?_;rw[<-List.append_assoc,<-List.append_assoc];exact List.Perm.append_right _ List.perm_append_comm
   ·refine⟨Hx++R2,R3,by rw[List.append_assoc];exact List.Perm.append_left Hx p,a,_,c,Hx,fZ,R2,.inr ⟨?_,GR,rfl⟩,rfl,rfl,l⟩
    intro hm;rcases List.mem_cons.1 hm with h |h
    ·exact hk h
    ·exact hg h
theorem U4 (h0:S [] none 0 []) {gone:List κ}: ∀(xs:List (κ×List α)) (hs:List (κ×Hd)) (R:Hp) (x:κ),x∉gone->vL S gone xs hs R->
 ∃a c Hx R',S (aT xs x) a c Hx/\aT hs x=(a,(aT xs x).length,c)/\R.Perm (R'++Hx)/\
  (∀ys a2 c2 Hy,S ys a2 c2 Hy-> ∃R2,R2.Perm (R'++Hy)/\vL S gone (cQ xs x ys) (cQ hs x (a2,ys.length,c2)) R2)/\
  (∀ys Hy,ys.length=(aT xs x).length->S ys a c Hy-> ∃R2 R3,(R'++Hy).Perm (R2++R3)/\vL S gone (ue xs x ys) hs R2)/\
  (∃R2 R3,R'.Perm (R2++R3)/\vL S (x::gone) xs hs R2)
 |[],_,_,x,hx,h=>by
  obtain⟨rfl,rfl⟩:=h;refine⟨none,0,[],[],h0,rfl,by simp,λys a2 c2 Hy hy=>⟨Hy,by simp,a2,_,c2,Hy,[],[],.inr ⟨hx,hy,rfl⟩,rfl,by simp,rfl,rfl⟩,λys Hy hl hy=>⟨[],Hy,by simp,?_⟩,[],[],by simp,rfl,rfl⟩
  exact⟨rfl,rfl⟩
 |e::r,hs,R,x,hx,h=>by
  obtain⟨a,n,c,Hx,fZ,R',h1,rfl,rfl,h4⟩:=h
  by_cases hk:e.1=x
  ·have hng:e.1∉gone:=by rw[hk];exact hx
   rcases h1 with⟨hg,_⟩ |⟨_,GR,rfl⟩
   ·exact absurd hg hng
   have e1:aT (e::r) x=e.2:=by simp[aT,dW,hk]
   have e2:aT ((e.1,(a,e.2.length,c))::fZ) x=(a,e.2.length,c):=by simp[aT,dW,hk]
   refine⟨a,c,Hx,R',by rw[e1];exact GR,by rw[e1,e2],List.perm_append_comm,λys a2 c2 Hy hy=>⟨Hy++R',List.perm_append_comm,?_⟩,λys Hy hl hy=>⟨Hy++R',[],by simpa using List.perm_append_comm,?_⟩,?_⟩
   ·simp only[cQ,hk,if_true];exact⟨a2,_,c2,Hy,fZ,R',.inr ⟨hx,hy,rfl⟩,rfl,rfl,h4⟩
   ·have:ue (e::r) x ys=(x,ys)::r:=by simp[ue,ck,dW,cQ,hk]
    rw[this];rw[e1] at hl;exact⟨a,_,c,Hy,fZ,R',.inr ⟨hx,hy,rfl⟩,by rw[hl,hk],rfl,h4⟩
   ·obtain⟨R2,R3,p,l⟩:=U3 x r fZ R' h4;exact⟨R2,R3,p,a,_,c,[],fZ,R2,.inl ⟨by rw[hk];exact List.mem_cons_self ..,rfl⟩,rfl,rfl,l⟩
  ·obtain⟨a1,c1,H1,R1,q1,q2,q3,q4,q5,q6⟩:=U4 h0 r fZ R' x hx h4;have e1:aT (e::r) x=aT r x:=by simp[aT,dW,hk]
   have e2:aT ((e.1,(a,n,c))::fZ) x=aT fZ x:=by simp[aT,dW,hk]
   refine⟨a1,c1,H1,Hx++R1,by rw[e1];exact q1,by rw[e1,e2];exact q2,by rw[List.append_assoc];exact List.Perm.append_left Hx q3,λys a2 c2 Hy hy=>?_,λys Hy hl hy=>?_,?_⟩
   ·obtain⟨R2,p2,l2⟩:=q4 ys a2 c2 Hy hy;refine⟨Hx++R2,by rw[List.append_assoc];exact List.Perm.append_left Hx p2,?_⟩
    simp only[cQ,hk,if_false];exact⟨a,n,c,Hx,_,R2,h1,rfl,rfl,l2⟩
   ·rw[e1] at hl;obtain⟨R2,R3,p2,l2⟩:=q5 ys Hy hl hy;refine⟨Hx++R2,R3,by rw[List.append_assoc,List.append_assoc];exact List.Perm.append_left Hx p2,?_⟩
    have:ue (e::r) x ys=e::ue r x ys:=by
     unfold ue ck;simp only[dW,cQ,hk,if_false];split<;>rfl
    rw[this];exact⟨a,n,c,Hx,_,R2,h1,rfl,rfl,l2⟩
   ·obtain⟨R2,R3,p2,l2⟩:=q6;rcases h1 with⟨hg,rfl⟩ |⟨hg,GR,rfl⟩
    ·exact⟨R2,R3,p2,a,n,c,[],fZ,R2,.inl ⟨List.mem_cons_of_mem _ hg,rfl⟩,rfl,rfl,l2⟩
    ·refine⟨Hx++R2,R3,by rw[List.append_assoc];exact List.Perm.append_left Hx p2,a,_,c,Hx,fZ,R2,.inr ⟨?_,GR,rfl⟩,rfl,rfl,l2⟩
     intro hm;rcases List.mem_cons.1 hm with h |h
     ·exact hk h
     ·exact hg h
variable (S) (KK : Ky P t κ)
def xt (gone:List κ) (xs:List (κ×List α)) (r:Nat) (H:Hp):Prop:=
 ∃hs H0 R,db KK vh hs r H0/\vL S gone xs hs R/\H=H0++R
def DR (gone:List κ) (xs:List (κ×List α)) (x:κ) (r:Nat) (a:Option Addr) (m c:Nat) (H:Hp):Prop:=
 ∃hs H0 R,db KK vh hs r H0/\aT hs x=(a,m,c)/\H=H0++R/\
  (∀ys a2 c2 Hy,S ys a2 c2 Hy-> ∃R2,R2.Perm (R++Hy)/\vL S gone (cQ xs x ys) (cQ hs x (a2,ys.length,c2)) R2)/\
  (∀ys Hy,ys.length=m->S ys a c Hy-> ∃R2 R3,(R++Hy).Perm (R2++R3)/\vL S gone (ue xs x ys) hs R2)/\
  (∃R2 R3,R.Perm (R2++R3)/\vL S (x::gone) xs hs R2)
variable {S KK}
variable {n' : Nat} {F : Act -> World -> Prop} {env : Env} {HL : List Hp} {xs : List (κ × List α)} {r : Nat} {gone : List κ}
theorem afK {H:Hp} (h:db KK vh ([]:List (κ×Hd)) r H):xt S KK [] ([]:List (κ×List α)) r H:=⟨[],H,[],h,⟨rfl,rfl⟩,by simp⟩
theorem FT (h0:S [] none 0 []) {H:Hp} {j:Nat} (x:κ) (hx:x∉gone) (hj:idx j HL=some H) (so:xt S KK gone xs r H)
 (h: ∀a c Hx H',S (aT xs x) a c Hx->DR S KK gone xs x r a (aT xs x).length c H'->aJ W n' F env (HL.set j H'++[Hx])):aJ W n' F env HL:=by
 obtain⟨hs,H0,R,h1,hl,rfl⟩:=so;obtain⟨a,c,Hx,R',q1,q2,q3,q4,q5,q6⟩:=U4 h0 xs hs R x hx hl;refine py (λw o=>?_) (h a c Hx (H0++R') q1 ⟨hs,H0,R',h1,q2,rfl,q4,q5,q6⟩);rw[idx_eq] at hj;have lE:=(List.getElem?_eq_some_iff.1 hj).1;refine o.perm ?_;have e:HL.set j (H0++R)=HL:=Lf hj;have h2:HL.flatten.Perm (HL.set j ((H0++R')++Hx)).flatten:=by
  conv=>lhs;rw[<-e]
  refine Cp ?_;rw[List.append_assoc];exact List.Perm.append_left H0 q3
 exact h2.trans (Bk lE)
theorem GY {H:Hp} {j m c:Nat} {x:κ} {a:Option Addr} (hj:idx j HL=some H) (so:DR S KK gone xs x r a m c H): ∃hs,zf KK vh hs r HL.flatten/\aT hs x=((a,m,c):Hd):=by
 obtain⟨hs,H0,R,h0,h1,rfl,_⟩:=so;exact⟨hs,h0.r.mono (λy hy=>ie (by rw[<-idx_eq];exact hj) (List.mem_append_left _ hy)),h1⟩
theorem QK {H Hx:Hp} {j q m c:Nat} {x:κ} {a:Option Addr} (ys:List α) (hj:idx j HL=some H) (so:DR S KK gone xs x r a m c H) (hq:idx q HL=some Hx) (bK:Nat.beq j q=false) (hy:S ys a c Hx) (hl:ys.length=m)
 (h: ∀H',xt S KK gone (ue xs x ys) r H'->aJ W n' F env ((HL.set j H').set q [])):aJ W n' F env HL:=by
 obtain⟨hs,H0,R,h1,h2,rfl,h4,h5,h6⟩:=so;have ru:j≠q:=λe=>by subst e;simp at bK
 obtain⟨R2,R3,p2,l2⟩:=h5 ys Hx hl hy;refine py (λw o=>?_) (h (H0++R2) ⟨hs,H0,R2,h1,l2,rfl⟩);rw[idx_eq] at hj hq;have lE:=(List.getElem?_eq_some_iff.1 hj).1;have xZ:=(List.getElem?_eq_some_iff.1 hq).1;have o2:=o.perm (EH hj hq ru);have e: ∀(A:Hp),((HL.set j A).set q [])=((HL.set q []).set j A):=λA=>List.set_comm _ _ ru
 rw[e] at o2⊢;have p3:((HL.set q []).set j (H0++R++Hx)).flatten.Perm ((HL.set q []).set j ((H0++R2)++R3)).flatten:=Cp (by
  rw[List.append_assoc,List.append_assoc];exact List.Perm.append_left H0 p2)
 have p4:=Bk (HL:=HL.set q []) (j:=j) (A:=H0++R2) (B:=R3) (by simpa using lE)
 have o3:=o2.perm (p3.trans p4);rw[List.flatten_append] at o3;exact o3.left
theorem Zj [Inhabited α] {H Hx:Hp} {j q m c:Nat} {x:κ} {a:Option Addr} (hj:idx j HL=some H) (so:DR S KK gone xs x r a m c H) (hq:idx q HL=some Hx) (bK:Nat.beq j q=false) (hy:S (aT xs x) a c Hx) (hl:(aT xs x).length=m)
 (h: ∀H',xt S KK gone xs r H'->aJ W n' F env ((HL.set j H').set q [])):aJ W n' F env HL:=
 QK (aT xs x) hj so hq bK hy hl (λH' BD=>h H' (by rw[Vb] at BD;exact BD))
theorem Zk {H:Hp} {j m c:Nat} {x:κ} {a:Option Addr} (hj:idx j HL=some H) (so:DR S KK gone xs x r a m c H)
 (h: ∀H',xt S KK (x::gone) xs r H'->aJ W n' F env (HL.set j H')):aJ W n' F env HL:=by
 obtain⟨hs,H0,R,h1,h2,rfl,h4,h5,R2,R3,p2,l2⟩:=so;refine py (λw o=>?_) (h (H0++R2) ⟨hs,H0,R2,h1,l2,rfl⟩);rw[idx_eq] at hj;have lE:=(List.getElem?_eq_some_iff.1 hj).1;have e:HL.set j (H0++R)=HL:=Lf hj;have p3:HL.flatten.Perm (HL.set j ((H0++R2)++R3)).flatten:=by
  conv=>lhs;rw[<-e]
  exact Cp (by rw[List.append_assoc];exact List.Perm.append_left H0 p2)
 have o3:=o.perm (p3.trans (Bk lE));rw[List.flatten_append] at o3;exact o3.left
end
section rules
variable {κ α : Type} [DecidableEq κ] {t : TypeId} {S : List α -> Option Addr -> Nat -> Hp -> Prop}
variable {T : Ty P} {n : Nat} {Q : Exit -> Act -> World -> Prop} {env : Env} {H : Hp} {HL : List Hp} {ops : Array Oper} {i : Nat} {K : Act -> World -> Prop} {o : Oper}
theorem QJ (T:Ty P) {mt et:TypeId} (KK:Ky P t κ) {gone:List κ} {x ix y:Operand} {xs:List (κ×List α)} {r q m0 c0:Nat} {kx:κ} {a0:Option Addr} {ys:List α} {a:Option Addr} {c:Nat} {Hj Hq:Hp} (j:Nat)
 (hs:s_ ops env i=some o) (aQ:o.op= .mapUpdate mt x ix y) (hx:ev env x=some (.map (some r))) (hk:ev env ix=some (KK.enc kx)) (hy:ev env y=some (.slice a ys.length c))
 (hu:T.bX mt=some (.map t et)) (hj:idx j HL=some Hj) (so:DR S KK gone xs kx r a0 m0 c0 Hj) (bK:Nat.beq j q=false) (hq:idx q HL=some Hq) (sq:S ys a c Hq)
 (h: ∀H',xt S KK gone (cQ xs kx ys) r H'->aJ W n K env ((HL.set j H').set q [])):aJ W n (wpOp P ops Q i K) env HL:=by
 obtain⟨fZ,H0,R,h0,_,rfl,h4,_,_⟩:=so;have ru:j≠q:=λe=>by subst e;simp at bK
 obtain⟨R2,p2,l2⟩:=h4 ys a c Hq sq;have jq:=hj;rw[idx_eq] at hj hq;have lE:=(List.getElem?_eq_some_iff.1 hj).1;have xZ:=(List.getElem?_eq_some_iff.1 hq).1;refine Jc jq ?_;have hg:idx j (HL.set j H0++[R])=some H0:=by
  rw[idx_eq,List.getElem?_append_left (by simpa using lE)];exact List.getElem?_set_self lE
 refine qh T KK vh (v:=((a,ys.length,c):Hd)) (k:=kx) (g:=j) hs aQ hx hk hy hu hg h0 (λH' BD=>?_);refine py (λw o=>?_) (h (H'++R2) ⟨_,H',R2,BD,l2,rfl⟩);have e1:(HL.set j H0++[R]).set j H'=HL.set j H'++[R]:=by
  rw[List.set_append_left _ _ (by simpa using lE)];simp
 rw[e1] at o;have o2:=o.perm (Bk lE).symm;have Km:(HL.set j (H'++R))[q]? =some Hq:=by rw[List.getElem?_set_ne ru];exact hq
 have GG:(HL.set j (H'++R))[j]? =some (H'++R):=List.getElem?_set_self lE;have o3:=o2.perm (EH GG Km ru);rw[List.set_set] at o3;have e: ∀(A:Hp),((HL.set j A).set q [])=((HL.set q []).set j A):=λA=>List.set_comm _ _ ru
 rw[e] at o3⊢;exact o3.perm (Cp (by rw[List.append_assoc];exact List.Perm.append_left H' p2.symm))
end rules
end
section
variable {W : World}
variable {P : Program}
inductive Er where
 |nil:Er
 |dR:Nat->Er
 |num:Nat->Int->Er
 |wrap:Nat->List Int->Er->Er
instance :Inhabited Er:=⟨.nil⟩
def Er.isNil:Er->Bool
 | .nil=>true
 |_=>false
def fP (tE:TypeId) (gs:List Nat) (lits:List (Nat×Value)) (el:Nat->Addr) (F:Hp):Prop:=
 (∀g∈gs,∃T fr,(g,Obj.cells #[.iface tE (.pointer (some (el g)))] T fr)∈F)/\(∀g∈gs,∃c T,((el g).block,Obj.cells c T (0,0))∈F)/\(∀a∈gs,∀b∈gs,el a=el b->a=b)/\
   (∀p∈lits,∃T fr,(p.1,Obj.cells #[p.2] T fr)∈F)
theorem fP.mono {tE:TypeId} {gs:List Nat} {lits:List (Nat×Value)} {el:Nat->Addr} {F F':Hp} (h:fP tE gs lits el F) (hs: ∀c∈F,c∈F'):fP tE gs lits el F':=by
 obtain⟨h1,h2,h3,h4⟩:=h;exact⟨λg hg=>let⟨T,fr,hm⟩:=h1 g hg;⟨T,fr,hs _ hm⟩,λg hg=>let⟨c,T,hm⟩:=h2 g hg;⟨c,T,hs _ hm⟩,h3,λp hp=>let⟨T,fr,hm⟩:=h4 p hp;⟨T,fr,hs _ hm⟩⟩
theorem dF {tE:TypeId} {gs:List Nat} {lits:List (Nat×Value)} {el:Nat->Addr} {F:Hp} {HL:List Hp} {j:Nat} (h:fP tE gs lits el F) (hj:idx j HL=some F):fP tE gs lits el HL.flatten:=
 h.mono λ_ hc=>ie (by rw[<-idx_eq];exact hj) hc
section
variable (tE : TypeId) (el : Nat -> Addr)
def l9:Er->Value->Hp->Prop
 | .nil,v,_=>v= .nilIface
 | .dR g,v,_=>v= .iface tE (.pointer (some (el g)))
 | .num t n,v,_=>v= .iface t (.int .i64 n)
 | .wrap t ns e,v,H=> ∃b vo T,v= .iface t (.pointer (some ⟨b,0,none⟩))/\(b,Obj.cells ((ns.map λn=>Value.int .i64 n)++[vo]).toArray T (0,0))∈H/\l9 e vo H
def gr:Er->Value->Hp->Prop
 | .nil,v,H=>v= .nilIface/\H=[]
 | .dR g,v,H=>v= .iface tE (.pointer (some (el g)))/\H=[]
 | .num t n,v,H=>v= .iface t (.int .i64 n)/\H=[]
 | .wrap t ns e,v,H=> ∃b vo T Ho,v= .iface t (.pointer (some ⟨b,0,none⟩))/\H=(b,Obj.cells ((ns.map λn=>Value.int .i64 n)++[vo]).toArray T (0,0))::Ho/\gr e vo Ho
variable {tE el}
theorem l9.mono: ∀{e:Er} {v:Value} {H H':Hp},l9 tE el e v H->(∀c∈H,c∈H')->l9 tE el e v H'
 | .nil,_,_,_,h,_=>h
 | .dR _,_,_,_,h,_=>h
 | .num _ _,_,_,_,h,_=>h
 | .wrap _ _ _,_,_,_,h,hs=>by
  obtain⟨b,vo,T,h1,h2,h3⟩:=h;exact⟨b,vo,T,h1,hs _ h2,l9.mono h3 hs⟩
theorem gr.r: ∀{e:Er} {v:Value} {H:Hp},gr tE el e v H->l9 tE el e v H
 | .nil,_,_,h=>h.1
 | .dR _,_,_,h=>h.1
 | .num _ _,_,_,h=>h.1
 | .wrap _ _ _,_,_,h=>by
  obtain⟨b,vo,T,Ho,h1,rfl,h3⟩:=h;exact⟨b,vo,T,h1,List.mem_cons_self ..,l9.mono (gr.r h3) (λc hc=>List.mem_cons_of_mem _ hc)⟩
theorem u9:gr tE el .nil .nilIface []:=⟨rfl,rfl⟩
theorem oR {g:Nat}:gr tE el (.dR g) (.iface tE (.pointer (some (el g)))) []:=⟨rfl,rfl⟩
theorem sx {t:Nat} {n:Int}:gr tE el (.num t n) (.iface t (.int .i64 n)) []:=⟨rfl,rfl⟩
theorem qo {t b:Nat} {ns:List Int} {e:Er} {vo:Value} {T:TypeId} {Ho:Hp} (h:gr tE el e vo Ho):
 gr tE el (.wrap t ns e) (.iface t (.pointer (some ⟨b,0,none⟩))) (List.flatten [[(b,Obj.cells ((ns.map λn=>Value.int .i64 n)++[vo]).toArray T (0,0))],Ho]):=⟨b,vo,T,Ho,rfl,by simp,h⟩
theorem Js {g:Nat} {H:Hp}:l9 tE el (.dR g) (.iface tE (.pointer (some (el g)))) H:=rfl
theorem sB {e:Er} {v:Value} {H:Hp} {HL:List Hp} {j:Nat} (h:gr tE el e v H) (hj:idx j HL=some H):l9 tE el e v HL.flatten:=
 h.r.mono λ_ hc=>ie (by rw[<-idx_eq];exact hj) hc
theorem Gb {e:Er} {v:Value} {H:Hp} {HL:List Hp} {j:Nat} (h:l9 tE el e v H) (hj:idx j HL=some H):l9 tE el e v HL.flatten:=
 h.mono λ_ hc=>ie (by rw[<-idx_eq];exact hj) hc
theorem Jt {e:Er} {v:Value} {H:Hp} (h:l9 tE el e v H):(e.isNil=true/\v= .nilIface)∨(e.isNil=false/\ ∃t u,v= .iface t u):=by
 cases e with
 |nil=>exact .inl ⟨rfl,h⟩
 |dR g=>exact .inr ⟨rfl,_,_,h⟩
 |num t n=>exact .inr ⟨rfl,_,_,h⟩
 |wrap t ns e=>
  obtain⟨b,vo,T,h1,_⟩:=h;exact .inr ⟨rfl,_,_,h1⟩
section
variable {n : Nat} {env : Env} {H : Hp} {o : Oper}
theorem WO {T:Ty P} {ti:TypeId} {ms:Array (String×TypeId)} (hu:T.bX ti=some (.interface ms)) {e:Er} {v:Value} (h:l9 tE el e v H) (w:World):
 (Op.equal ti v .nilIface).run P w= .ok e.isNil w:=by
 show(Op.equalIn (9999+1) ti _ _).run P w=_
 generalize 9999=d;rcases Jt h with⟨h1,rfl⟩ |⟨h1,t,u,rfl⟩
 ·simp only[Op.equalIn,Sem.run_bind,df hu,Result.andThen_ok,Sem.run_pure,h1]
 ·simp only[Op.equalIn,Sem.run_bind,df hu,Result.andThen_ok,Sem.run_pure,h1]
theorem Si {t:TypeId} {op:BinOp} {x:Operand} {v:Value} (w:World):(eqGuard op t x (.const .nilIface) v .nilIface).run P w= .ok () w:=by
 unfold eqGuard;rw[Sem.run_ite];refine KA (λ_=>rfl) (λ_=>?_)
 cases v<;>simp
theorem Q6 {t:TypeId} {v:Value} (hv:v= .nilIface∨ ∃a b,v= .iface a b):binOp .eql t v .nilIface=(do pure (.bool (<-Op.equal t v .nilIface)))/\binOp .neq t v .nilIface=(do pure (.bool !(<-Op.equal t v .nilIface))):=by
 rcases hv with rfl |⟨a,b,rfl⟩<;>exact⟨rfl,rfl⟩
theorem JB (T:Ty P) {t yt:TypeId} {x:Operand} {ms:Array (String×TypeId)} {e:Er} {v:Value} (aQ:o.op= .binOp .eql t x (.const .nilIface) yt) (hx:ev env x=some v)
 (hu:T.bX t=some (.interface ms)) (h:l9 tE el e v H):gQ W P n env H o (.bool e.isNil):=by
 intro t' w s ow;unfold execOp;have hv:v= .nilIface∨ ∃a b,v= .iface a b:=by
  rcases Jt h with⟨_,h1⟩ |⟨_,a,b,h1⟩
  ·exact .inl h1
  ·exact .inr ⟨a,b,h1⟩
 simp only[aQ,bE s hx,bE (x:= .const .nilIface) s rfl];rw[(Q6 hv).1];simp only[Sem.run_bind,Si,Result.andThen_ok,WO hu h,Sem.run_pure]
theorem Eb (T:Ty P) {t yt:TypeId} {x:Operand} {ms:Array (String×TypeId)} {e:Er} {v:Value} (aQ:o.op= .binOp .neq t x (.const .nilIface) yt) (hx:ev env x=some v)
 (hu:T.bX t=some (.interface ms)) (h:l9 tE el e v H):gQ W P n env H o (.bool (!e.isNil)):=by
 intro t' w s ow;unfold execOp;have hv:v= .nilIface∨ ∃a b,v= .iface a b:=by
  rcases Jt h with⟨_,h1⟩ |⟨_,a,b,h1⟩
  ·exact .inl h1
  ·exact .inr ⟨a,b,h1⟩
 simp only[aQ,bE s hx,bE (x:= .const .nilIface) s rfl];rw[(Q6 hv).2];simp only[Sem.run_bind,Si,Result.andThen_ok,WO hu h,Sem.run_pure]
def agf:TypeDesc->Bool
 | .interface _=>false
 |_=>true
theorem iw (T:Ty P) {t:TypeId} {x:Operand} {v:Value} {d:TypeDesc} (aQ:o.op= .makeInterface t x) (hx:ev env x=some v) (hu:T.bX t=some d) (hd:agf d=true):gQ W P n env H o (.iface t v):=by
 intro t' w s ow;unfold execOp;have:(Instr.makeInterface t v).run P w= .ok (.iface t v) w:=by
  unfold Instr.makeInterface;simp only[Sem.run_bind,df hu,Result.andThen_ok]
  cases d<;>first |rfl |cases hd
 simp only[aQ,bE s hx,Sem.run_bind,this,Result.andThen_ok]
 rfl
end
theorem sK {F:Hp} {HL:List Hp} {gs:List Nat} {lits:List (Nat×Value)} {j:Nat} (hj:idx j HL=some F) (hG:fP tE gs lits el F) {g:Nat} (hg:g∈gs):
 ∃arr E fr,(g,Obj.cells arr E fr)∈HL.flatten/\arr[0]? =some (Value.iface tE (.pointer (some (el g)))):=by
 obtain⟨T,fr,hm⟩:=hG.1 g hg;exact⟨_,T,fr,ie (by rw[<-idx_eq];exact hj) hm,rfl⟩
end
def Er.DY (t:Nat):Er->Option (Option Int)
 | .nil=>some none
 | .num u n=>if u=t then some (some n) else none
 | .wrap _ _ (.num u n)=>if u=t then some (some n) else none
 |_=>none
def Er.FN (t:Nat):Er->Option (Option (Int×Int×Er))
 | .nil=>some none
 | .wrap u [a,b] e=>if u=t then some (some (a,b,e)) else none
 |_=>none
theorem YR {tE:TypeId} {el:Nat->Addr} {t:Nat} {e:Er} {v:Value} {H:Hp} (h:e.FN t=some none) (so:gr tE el e v H):v= .nilIface/\H=[]:=by
 unfold Er.FN at h;split at h
 ·exact so
 ·split at h<;>cases h
 ·cases h
theorem YS {tE:TypeId} {el:Nat->Addr} {t:Nat} {e of:Er} {v:Value} {H:Hp} {a b:Int} (h:e.FN t=some (some (a,b,of))) (so:gr tE el e v H):
 ∃q vo T Ho,v= .iface t (.pointer (some ⟨q,0,none⟩))/\H=[(q,Obj.cells #[.int .i64 a,.int .i64 b,vo] T (0,0))]++Ho/\gr tE el of vo Ho:=by
 unfold Er.FN at h;split at h
 ·cases h
 ·split at h
  ·rename_i u x y e' hu;subst hu;simp only[Option.some.injEq,Prod.mk.injEq] at h;obtain⟨rfl,rfl,rfl⟩:=h;obtain⟨q,vo,T,Ho,h1,h2,h3⟩:=so;exact⟨q,vo,T,Ho,h1,by rw[h2];rfl,h3⟩
  ·cases h
 ·cases h
section
variable {α : Type} (k : Fl α)
def dH (xs:List α) (a:Option Addr) (n:Nat) (l:List α) (a':Option Addr) (n':Nat):Prop:=
 l=[]∨ ∃lo hi:Int,(0<=lo/\lo<=hi/\hi<=(xs.length:Int))/\l=aA xs lo hi/\a'=gp a n lo.toNat k.size/\n'=n-lo.toNat
variable {k}
theorem dH.nil {xs:List α} {a a':Option Addr} {n n':Nat}:dH k xs a n [] a' n':= .inl rfl
theorem Qt (a:Addr):a.add 0=a:=by unfold Addr.add;simp
theorem dH.self {xs:List α} {a:Option Addr} {n:Nat}:dH k xs a n xs a n:=by
 refine .inr ⟨0,xs.length,by omega,by simp[aA],?_,by simp⟩
 unfold gp
 cases a<;>simp[Qt]
theorem dH.r {xs l:List α} {a a':Option Addr} {n n':Nat} {H:Hp} (h:dH k xs a n l a' n') (sr:aO k xs a H) (hc:xs.length<=n):aO k l a' H:=by
 rcases h with rfl |⟨lo,hi,h1,rfl,rfl,_⟩
 ·exact .inl rfl
 ·exact nC sr h1 hc
theorem dH.cap {xs l:List α} {a a':Option Addr} {n n':Nat} (h:dH k xs a n l a' n') (hc:xs.length<=n):l=[]∨l.length<=n':=by
 rcases h with rfl |⟨lo,hi,h1,rfl,_,rfl⟩
 ·exact .inl rfl
 ·exact .inr (mW h1 hc)
theorem sub_sub {xs:List α} {lo hi zP rp:Int} (h1:0<=lo/\lo<=hi/\hi<=(xs.length:Int)) (h2:0<=zP/\zP<=rp/\rp<=((aA xs lo hi).length:Int)):
 aA (aA xs lo hi) zP rp=aA xs (lo+zP) (lo+rp):=by
 have hl:=iV h1;unfold aA at hl⊢;rw[List.drop_take,List.take_take,List.drop_drop];have e1:lo.toNat+zP.toNat=(lo+zP).toNat:=U;have e2:min (rp.toNat-zP.toNat) (hi.toNat-lo.toNat-zP.toNat)=(lo+rp).toNat-(lo+zP).toNat:=by
  rw[iV h1] at h2;omega
 rw[e1,e2]
theorem dH.sub {xs l:List α} {a a':Option Addr} {n n':Nat} {lo hi:Int} (h:dH k xs a n l a' n') (hc:xs.length<=n) (h2:0<=lo/\lo<=hi/\hi<=(l.length:Int)):
 dH k xs a n (aA l lo hi) (gp a' n' lo.toNat k.size) (n'-lo.toNat):=by
 rcases h with rfl |⟨zO,wy,h1,rfl,rfl,rfl⟩
 ·exact .inl (by simp[aA])
 ·by_cases he:lo=hi
  ·left;subst he;simp[aA]
  ·right
   have hl:=iV h1;refine⟨zO+lo,zO+hi,by omega,sub_sub h1 h2,?_,by omega⟩
   unfold gp;have n1: ¬n=zO.toNat:=U;have n2: ¬n-zO.toNat=lo.toNat:=U;have n3: ¬n=(zO+lo).toNat:=U;rw[if_neg n1,if_neg n2,if_neg n3]
   cases a with
   |none=>rfl
   |some x=>
    simp only[Option.map_some,Option.some.injEq];have:(zO+lo).toNat=zO.toNat+lo.toNat:=U;rw[this,Nat.add_mul];unfold Addr.add
    by_cases z1:zO.toNat*k.size=0
    ·simp[z1]
    ·by_cases z2:lo.toNat*k.size=0
     ·simp[z1,z2]
     ·have: ¬(zO.toNat*k.size+lo.toNat*k.size=0):=U;simp only[z1,z2,this,if_false]
      congr 1
      omega
theorem oQ {HL:List Hp} {xs l:List α} {a a':Option Addr} {n n':Nat} (h:dH k xs a n l a' n') (sr:aO k xs a HL.flatten) (hc:xs.length<=n):aO k l a' HL.flatten:=h.r sr hc
variable (k)
def IF (E:TypeId) (xs:List α) (a:Option Addr) (n:Nat) (l:List α) (a':Option Addr) (n':Nat) (H:Hp):Prop:=
 (dH k xs a n l a' n'/\l.length<=n'/\H=[])∨aj k E l a' n' H
variable {k}
theorem aad {E:TypeId} {HL:List Hp} {xs l:List α} {a a':Option Addr} {n n' j:Nat} {H:Hp} (h:IF k E xs a n l a' n' H) (hj:idx j HL=some H) (sr:aO k xs a HL.flatten) (hc:xs.length<=n):aO k l a' HL.flatten:=by
 rcases h with⟨h,_,_⟩ |h
 ·exact h.r sr hc
 ·exact VJ h hj
theorem IF.bZ {E:TypeId} {xs l:List α} {a a':Option Addr} {n n':Nat} {H:Hp} (h:IF k E xs a n l a' n' H):l.length<=n':=by
 rcases h with⟨_,h,_⟩ |h
 ·exact h
 ·exact h.bZ
end
section
open Classical
noncomputable def FM {α β:Type} (p:α->Prop) (f:α->Option β):Option β:=if h: ∃r,∀x,p x->f x=some r then some (Classical.choose h) else none
theorem YF {α β:Type} {p:α->Prop} {f:α->Option β} {r:β} {x:α} (h:FM p f=some r) (hx:p x):f x=some r:=by
 unfold FM at h;split at h
 ·rename_i hh;have:=Classical.choose_spec hh x hx;rw[Option.some.inj h] at this;exact this
 ·cases h
theorem YG {α β:Type} {p:α->Prop} {f:α->Option β} {r:β} {x:α} (hx:p x) (h: ∀x,p x->f x=some r):FM p f=some r:=by
 unfold FM;have hh: ∃r,∀x,p x->f x=some r:=⟨r,h⟩;rw[dif_pos hh];have:=Classical.choose_spec hh x hx;rw[h x hx] at this;exact this.symm
end
def KX (n:Int) (xs:List Int):Prop:=xs.length=n.toNat/\ ∀x∈xs,dV x
theorem agn (n:Int):KX n (List.replicate n.toNat 0):=⟨by simp,λx hx=>by rw[List.mem_replicate] at hx;rw[hx.2];exact⟨by omega,by omega⟩⟩
def yx:Nat->Nat->List Int
 |0,_=>[]
 |n+1,t=>Int.ofNat (t%256)::yx n (t/256)
theorem Vr: ∀n t,(yx n t).length=n
 |0,_=>rfl
 |n+1,t=>by simp[yx,Vr n]
theorem Vq: ∀n t,∀x∈yx n t,dV x
 |0,_,x,h=>by simp[yx] at h
 |n+1,t,x,h=>by
  simp only[yx,List.mem_cons] at h;rcases h with rfl |h
  ·have:=Nat.mod_lt t (show 256>0 by omega)
   refine⟨Int.natCast_nonneg _,?_⟩
   show((t%256:Nat):Int)<=255
   omega
  ·exact Vq n _ x h
theorem RF: ∀(n t:Nat) (acc:Array Value),(Extern.BytealgMakeNoZero.digits n t acc).toList=acc.toList++(yx n t).map λx=>Value.int .u8 x
 |0,_,acc=>by simp[Extern.BytealgMakeNoZero.digits,yx]
 |n+1,t,acc=>by
  rw[Extern.BytealgMakeNoZero.digits,RF n];simp[yx]
structure Qj (P:Program) (f:FuncId) (t:TypeId):Prop where
 h: ∃ps,∀(args:Array Value) (w:World),(callFunc f args).run P w=((Extern.BytealgMakeNoZero.makeNoZero ps #[t] args).run P w).andThen λv w'=> .ok (.value v) w'
section
variable {n : Nat} {Q : Exit -> Act -> World -> Prop} {env : Env} {HL : List Hp} {ops : Array Oper} {i : Nat} {K : Act -> World -> Prop} {o : Oper}
theorem Zn (T:Ty P) {d t E:Nat} {c x:Operand} {types:Array TypeId} {f:FuncId} {m:Int}
 (hs:slot n ops env i=some (o,d)) (aQ:o.op= .call ⟨.value c,#[x],types⟩) (hc:ev env c=some (.func (.func f) #[] #[])) (hx:ev env x=some (.int .i64 m)) (hf:Qj P f t) (ht:T.bX t=some (.slice E)) (h0:0<=m/\m<=1099511627776)
 (h: ∀xs a cap H',KX m xs->aj (Fl.int .u8) E xs a cap H'->aJ W n K ((d,.slice a xs.length cap)::env) (HL++[H'])):aJ W n (wpOp P ops Q i K) env HL:=by
 obtain⟨ho,hw,hd,hn⟩:=vB hs;refine zk (β:={p:List Int×Option Addr×Nat×Hp // KX m p.1/\aj (Fl.int .u8) E p.1 p.2.1 p.2.2.1 p.2.2.2}) (V:=λp=> .slice p.1.2.1 p.1.1.length p.1.2.2.1) (G:=λp=>(HL++[p.1.2.2.2]).flatten)
  ho hw hd hn (λt' w s ow=>?_) (λp=>h _ _ _ _ p.2.1 p.2.2)
 obtain⟨ps,Ob⟩:=hf.h
 let cap:=grownCap w m.toNat 0 E
 let by' := (Question.extern "internal/bytealg.MakeNoZero.bytes" 0).cut (w.tape (w.drawn + 1) (.extern "internal/bytealg.MakeNoZero.bytes" 0))
 let ds:=yx cap by'
 have GB:m.toNat<=cap:=grownCap_ge w m.toNat 0 E;have Em:ds.length=cap:=Vr _ _;have aee:(Extern.BytealgMakeNoZero.digits cap by' #[])=(row (Fl.int .u8) ds).toArray:=by
  apply Array.ext';rw[RF,WL];simp[ds]
 have nZ:(Extern.BytealgMakeNoZero.makeNoZero ps #[t] #[.int .i64 m]).run P w= .ok (.slice (some ⟨w.heap.size,0,none⟩) m.toNat cap) (w.drew.drew.alloc (.cells (row (Fl.int .u8) ds).toArray E)):=by
  have aeh:Extern.BytealgMakeNoZero.makeNoZero ps #[t] #[.int .i64 m]=
   (do
     let .slice elem ← underlying t | stuck "bytealg.MakeNoZero: slice type expected"
     if m < 0 || m > 2 ^ 48 then runtimePanic (.error "makeslice: len out of range")
     let cap<-choose (.appendCap m.toNat 0 elem)
     askRoom cap
     let bytes ← choose (.extern "internal/bytealg.MakeNoZero.bytes" 0)
     let a<-newRow elem (Extern.BytealgMakeNoZero.digits cap bytes #[])
     pure (.slice (some a) m.toNat cap)):=rfl
  rw[aeh];have h1: ¬m<0:=U;have h2: ¬(281474976710656:Int)<m:=U;rw[<-aee];simp[df ht,h1,h2,Question.forced,newRow,Lib.size_digits,grownCap,cap,by']
 refine⟨⟨(ds.take m.toNat,some ⟨w.heap.size,0,none⟩,cap,[(w.heap.size,.cells (row (Fl.int .u8) ds).toArray E)]),⟨by simp;omega,λx hx=>Vq _ _ x (List.mem_of_mem_take hx)⟩,.inr ⟨w.heap.size,[],row (Fl.int .u8) (ds.drop m.toNat),rfl,?_,by simp;omega,?_⟩⟩,w.drew.drew.alloc (.cells (row (Fl.int .u8) ds).toArray E),?_,?_⟩
 ·rw[List.nil_append,<-qI,List.take_append_drop]
 ·rw[lK,List.length_drop,List.length_take]
  show(cap-min m.toNat ds.length)*_<=(ds.length-m.toNat)*_
  exact Nat.mul_le_mul_right _ U
 ·have hl:(ds.take m.toNat).length=m.toNat:=by simp;omega
  unfold execOp;simp only[aQ,resolve,bE s hc,bE s hx,Deferred.ofValue,Sem.run_bind,Sem.run_pure,Result.andThen_ok,invoke,List.map_toArray,List.map_cons,List.map_nil];rw[show(#[]:Array Value)++ #[Value.int .i64 m]++ #[]= #[Value.int .i64 m] from rfl,Ob,nZ]
  simp only[Result.andThen_ok,hl]
 ·exact Da _ (show bn W w.drew.drew HL.flatten from ow.drew.drew)
end
theorem aj.trim {α:Type} {k:Fl α} {E:TypeId} {xs:List α} {a:Option Addr} {cap c:Nat} {H:Hp} (so:aj k E xs a cap H) (h1:xs.length<=c) (h2:c<=cap):aj k E xs a c H:=by
 rcases so with⟨h3,h4,h5,h6⟩ |⟨b,pre,post,h3,h4,h5,h6⟩
 ·exact .inl ⟨h3,h4,by omega,h6⟩
 ·refine .inr ⟨b,pre,post,h3,h4,h1,Nat.le_trans (Nat.mul_le_mul_right _ U) h6⟩
section
variable {n : Nat} {env : Env} {o : Oper}
theorem abD {α:Type} (T:Ty P) {H:Hp} {t E sz by' cap:Nat} {z:Value} {x hi mx:Operand} {a:Option Addr} {xs:List α} {h:Int} {kk ua:IntKind} (aQ:o.op= .slice t x none (some hi) (some mx)) (hx:ev env x=some (.slice a xs.length cap))
 (hu:T.bX t=some (.slice E)) (fa:T.inf E=some (sz,by',z)) (wx:ev env hi=some (.int kk h)) (hmx:ev env mx=some (.int ua h)) (hb:h=(xs.length:Int)) (hc:xs.length<=cap):
 gQ W P n env H o (.slice a xs.length xs.length):=by
 subst hb;intro t' w s ow;have wC:xs.length-0=xs.length:=U;have e1:(Instr.sliceBounds true xs.length cap none (some (Act.eval ⟨t',[]⟩ hi)) (some (Act.eval ⟨t',[]⟩ mx))).run P w= .ok (0,xs.length,xs.length) w:=by
  unfold Instr.sliceBounds;simp only[bE s wx,bE s hmx,Sem.run_bind,run_sliceBound (kk:=ua) U (show((xs.length:Int))<=(cap:Int) by omega),run_sliceBound (kk:=kk) U (show((xs.length:Int))<=((Int.toNat (xs.length:Int):Nat):Int) by omega),Result.andThen_ok,Sem.run_pure]
  simp
 have e2:(Instr.slice t (.slice a xs.length cap) none (some (Act.eval ⟨t',[]⟩ hi)) (some (Act.eval ⟨t',[]⟩ mx))).run P w= .ok (.slice a xs.length xs.length) w:=by
  unfold Instr.slice;simp only[Sem.run_bind,df hu,Result.andThen_ok];simp only[Sem.run_bind,e1,Result.andThen_ok,jP fa,Sem.run_pure]
  congr 2
  cases a with
  |none=>simp
  |some a=>simp[Qt]
 unfold execOp;simp only[aQ,bE s hx,Option.map_none,Option.map_some];unfold Instr.sliceAt;simp only[Sem.run_bind,df hu,Result.andThen_ok];rw[e2];rfl
end
theorem abe {tE:TypeId} {el:Nat->Addr} {e:Er} {v:Value} {H:Hp} (h:l9 tE el e v H):bO v=[v]:=by
 rcases Jt h with⟨_,rfl⟩ |⟨_,t,u,rfl⟩<;>rfl
theorem RW {tE:TypeId} {el:Nat->Addr} {e:Er} {v:Value} {H:Hp} (h:gr tE el e v H):bO v=[v]:=abe h.r
def Ju (place:Nat->Option (Nat×Nat)) (cells:List Value):List (Nat×List Value)->Option (List Value)
 |[]=>some cells
 |(i,v)::rest=>
  match place i with
  |none=>none
  |some (off,size)=>
   bif Nat.beq v.length size&&Nat.ble (off+v.length) cells.length then Ju place (gn cells off v) rest else none
theorem R0 (place:Nat->Option (Nat×Nat)): ∀(vs:List (Nat×Value)) (cells:List Value),wb place cells vs=Ju place cells (vs.map λp=>(p.1,bO p.2))
 |[],_=>rfl
 |(i,v)::rest,cells=>by
  simp only[wb,List.map_cons,Ju]
  cases place i with
  |none=>rfl
  |some os=>simp only[R0 place rest]
section
variable {n : Nat} {env : Env} {H : Hp} {o : Oper}
theorem Sb (T:Ty P) {t sz by':Nat} {z:Value} {fs:Array Field} {parts:Array (Nat×Operand)} {pl:List (Nat×Nat)} {vs:List (Nat×Value)} {cs:List Value} (ws:List (Nat×List Value)) (aQ:o.op= .build t parts)
 (hu:T.bX t=some (.struct fs)) (hi:T.inf t=some (sz,by',z)) (ry:EJ T fs.toList=some pl) (Oo:(parts.toList.mapM λp=>(ev env p.2).map λv=>(p.1,v))=some vs)
 (hws:(vs.map λp=>(p.1,bO p.2))=ws) (hf:Ju (λi=>idx i pl) (bO z) ws=some cs):gQ W P n env H o (.agg cs.toArray):=by
 intro t' w s ow;refine K3 (T:=T) s ?_ w;unfold De;rw[aQ];simp only[hu,hi,ry,Oo,R0,hws,hf]
end
end
section
variable {W : World}
variable {P : Program}
section
variable {α : Type} [Inhabited α] (kd : Kd α)
def B2 (E:TypeId) (xs:List α) (a:Option Addr) (cap:Nat) (H Hl:Hp):Prop:=
 ∃cc H0 R,aj (Fl.raw kd.size kd.pos) E cc a cap H0/\cc.length=xs.length/\H=H0++R/\ ∀i:Nat,i<xs.length->kd.og (rd xs (i:Int)) (rd cc (i:Int)).val (R++Hl)
def DU (E:TypeId) (xs:List α) (a:Option Addr) (cap:Nat) (i:Int) (cs:List Value) (H Hl:Hp):Prop:=
 (0<=i/\i<(xs.length:Int))/\ ∃cc H0 R,aj (Fl.raw kd.size kd.pos) E cc a cap H0/\cc.length=xs.length/\(rd cc i).val=cs/\H=H0++R/\
   ∀j:Nat,j<xs.length->(j:Int)≠i->kd.og (rd xs (j:Int)) (rd cc (j:Int)).val (R++Hl)
variable {kd} {E : TypeId}
theorem B2.bZ {xs:List α} {a:Option Addr} {cap:Nat} {H Hl:Hp} (h:B2 kd E xs a cap H Hl):xs.length<=cap:=by
 obtain⟨cc,H0,R,h0,hl,_⟩:=h;rw[<-hl];exact h0.bZ
theorem B2.addr {xs:List α} {a:Option Addr} {cap:Nat} {H Hl:Hp} (h:B2 kd E xs a cap H Hl) {i:Int} (h0:0<=i) (h1:i<xs.length): ∃b off,a=some ⟨b,off,none⟩:=by
 obtain⟨cc,H0,R,h2,h3,_⟩:=h;exact h2.r.addr h0 (by rw[h3];exact h1)
theorem B2.pre {xs:List α} {a:Option Addr} {cap:Nat} {H Hl:Hp} {hi:Int} (so:B2 kd E xs a cap H Hl) (h:0<=(0:Int)/\0<=hi/\hi<=(xs.length:Int)):
 B2 kd E (aA xs 0 hi) (gp a cap (Int.toNat 0) kd.size) (cap-Int.toNat 0) H Hl:=by
 obtain⟨cc,H0,R,h0,hl,rfl,hr⟩:=so;have hx: ∀{β:Type} [Inhabited β] (l:List β) (i:Nat),(i:Int)<hi->rd (aA l 0 hi) (i:Int)=rd l (i:Int):=λl i fa=>by
  unfold rd aA;simp only[Int.toNat_zero,List.drop_zero,Nat.sub_zero];rw[List.getD_eq_getElem?_getD,List.getD_eq_getElem?_getD,List.getElem?_take_of_lt U]
 have hlen:(aA xs 0 hi).length=hi.toNat:=by rw[iV h];omega
 refine⟨aA cc 0 hi,H0,R,h0.pre (by rw[hl];exact h),?_,rfl,λi fa=>?_⟩
 ·rw[iV (by rw[hl];exact h),iV h]
 ·rw[hlen] at fa;rw[hx xs i U,hx cc i U];exact hr i U
theorem DU.cells {xs:List α} {a:Option Addr} {cap:Nat} {i:Int} {cs:List Value} {H Hl:Hp} (h:DU kd E xs a cap i cs H Hl):zb a (i.toNat*kd.size) cs H:=by
 obtain⟨hi,cc,H0,R,h0,hl,rfl,rfl,_⟩:=h;obtain⟨b,off,ha⟩:=h0.r.addr hi.1 (by rw[hl];exact hi.2)
 obtain⟨arr,E',fr,hm,hc⟩:=h0.r.elem ha hi.1 (by rw[hl];exact hi.2)
 exact⟨b,off,arr,E',fr,ha,List.mem_append_left _ hm,λf v hv=>hc f v hv⟩
theorem DU.addr {xs:List α} {a:Option Addr} {cap:Nat} {i:Int} {cs:List Value} {H Hl:Hp} (h:DU kd E xs a cap i cs H Hl): ∃b off,a=some ⟨b,off,none⟩:=by
 obtain⟨b,off,_,_,_,ha,_⟩:=h.cells;exact⟨b,off,ha⟩
theorem DU.bZ {xs:List α} {a:Option Addr} {cap:Nat} {i:Int} {cs:List Value} {H Hl:Hp} (h:DU kd E xs a cap i cs H Hl):xs.length<=cap:=by
 obtain⟨hi,cc,H0,R,h0,hl,rfl,rfl,_⟩:=h;rw[<-hl];exact h0.bZ
section rules
variable {n : Nat} {Q : Exit -> Act -> World -> Prop} {env : Env} {HL : List Hp} {ops : Array Oper} {i : Nat} {K : Act -> World -> Prop} {o : Oper}
end rules
end
end
section
variable {W : World}
variable {P : Program}
def Fl.pair (k:IntKind):Fl (Int×Int):=⟨2,λx=>[.int k x.1,.int k x.2],λ_=>rfl,λ_ v h=>by
 simp only[List.mem_cons,List.not_mem_nil,or_false] at h;rcases h with rfl |rfl<;>rfl,by decide⟩
section
variable {n : Nat} {env : Env} {H : Hp} {o : Oper}
theorem Sc {t yt:TypeId} {x y:Operand} {k yk:IntKind} {a b:Int} (aQ:o.op= .binOp .shl t x y yt) (hx:ev env x=some (.int k a)) (hy:ev env y=some (.int yk b)) (hb:0<=b):
 gQ W P n env H o (.int k (k.wrap (a*2^(min b.toNat k.bits)))):=by
 intro t' w s ow;unfold execOp;simp only[aQ,bE s hx,bE s hy];have: ¬b<0:=U;simp[eqGuard,binOp,Op.shift,this]
theorem Sd (T:Ty P) {t:TypeId} {x ix:Operand} {s:ByteArray} {kk:IntKind} {j:Int} (xs:List Int) (aQ:o.op= .index t x ix) (hx:ev env x=some (.string s)) (vi:ev env ix=some (.int kk j))
 (hu:T.bX t=some .string) (hs:s.data.toList.map (λb=>(b.toNat:Int))=xs) (hj:0<=j/\j<(xs.length:Int)):gQ W P n env H o (.int .u8 (rd xs j)):=by
 intro t' w st ow;obtain⟨h0,h1⟩:=hj;unfold execOp;have hl:j.toNat<s.data.toList.length:=by
  have:xs.length=s.data.toList.length:=by rw[<-hs];simp
  omega
 have hg:s[j.toNat]? =some (s.data.toList[j.toNat]'hl):=by
  have jr:j.toNat<s.size:=by have q:=hl;rw[Array.length_toList] at q;exact q
  rw[getElem?_pos s j.toNat jr]
  rfl
 have hr:rd xs j=((s.data.toList[j.toNat]'hl).toNat:Int):=by
  rw[iU (by rw[<-hs];simpa using hl)]
  simp only[<-hs,List.getElem_map]
 simp only[aQ,bE st hx,bE st vi,Instr.index,asIntOf,Sem.run_bind,Sem.run_pure,Result.andThen_ok,df hu,h0,if_true,hg];rw[hr]
end
section
variable {HL : List Hp}
theorem UB {j b:Nat} {arr:Array Value} {E:TypeId} {fr:Nat×Nat} {Hr:Hp} {kk:IntKind} {xs:List Int} {i:Int} (hj:idx j HL=some ((b,.cells arr E fr)::Hr)) (ha:arr.toList=xs.map λx=>Value.int kk x) (hi:0<=i/\i<(xs.length:Int)):
 ∃arr E fr,(b,Obj.cells arr E fr)∈HL.flatten/\arr[i.toNat]? =some (Value.int kk (rd xs i)):=by
 refine⟨arr,E,fr,ie (by rw[<-idx_eq];exact hj) (List.mem_cons_self ..),?_⟩
 have h2:arr[i.toNat]? =arr.toList[i.toNat]? :=by simp
 rw[h2,ha,List.getElem?_map,iU U,List.getElem?_eq_getElem U]
 rfl
end
section
variable {n : Nat} {Q : Exit -> Act -> World -> Prop} {env : Env} {HL : List Hp} {ops : Array Oper} {i : Nat} {K : Act -> World -> Prop} {o : Oper}
theorem Zx (T:Ty P) {b t:Nat} {x y:Operand} {arr:Array Value} {E:TypeId} {kk:IntKind} {xs:List Int} {jx v:Int} {by':Nat} {z:Value} {Hr:Hp} (j:Nat) (cs:List Value)
 (hs:s_ ops env i=some o) (aQ:o.op= .store t x y) (hx:ev env x=some (.pointer (some ⟨b,jx.toNat,none⟩)))
 (hy:ev env y=some (.int kk v)) (hi:T.inf t=some (1,by',z)) (hj:idx j HL=some ((b,.cells arr E (0,0))::Hr)) (ha:arr.toList=xs.map λx=>Value.int kk x) (hb:0<=jx/\jx<(xs.length:Int))
 (ku:((List.range xs.length).map λq:Nat=>Value.int kk (rd (List.set xs jx.toNat v) (q:Int)))=cs)
 (h:aJ W n K env (HL.set j ((b,.cells cs.toArray E (0,0))::Hr))):aJ W n (wpOp P ops Q i K) env HL:=by
 let⟨ho,hw,hd⟩:=BC hs
 have jr:arr.size=xs.length:=by rw[<-Array.length_toList,ha];simp
 refine D0 T ho hw hd aQ hx hy hi (by rw[<-idx_eq];exact hj) rfl (λc hc=>?_) U ?_ h
 ·simp only[bO,List.mem_singleton] at hc;subst hc;rfl
 ·rw[<-ku,ha];unfold gn;apply List.ext_getElem
  ·simp[bO];omega
  ·intro q h1 h2;have hq:q<xs.length:=by simpa using h2
   simp only[List.getElem_map,List.getElem_range];have e1:rd (List.set xs jx.toNat v) (q:Int)=if jx.toNat=q then v else xs[q]:=by
    rw[iU (by simpa using hq)]
    simp only[Int.toNat_natCast];rw[List.getElem_set]
   rw[e1]
   by_cases aS:q<jx.toNat
   ·rw[List.getElem_append_left (by simp;omega),List.getElem_take,List.getElem_map,if_neg U]
   ·by_cases heq:q=jx.toNat
    ·rw[List.getElem_append_right (by simp;omega),if_pos heq.symm,List.getElem_append_left (by simp[bO];omega)]
     simp[bO,heq]
    ·rw[List.getElem_append_right (by simp;omega),List.getElem_append_right (by simp[bO];omega),if_neg U,List.getElem_drop,List.getElem_map]
     congr 2
     simp[bO];omega
end
end
section
variable {W : World}
variable {P : Program}
def BR (b o:Nat) (cs:List Value) (F:Hp):Prop:= ∃arr E fr,(b,Obj.cells arr E fr)∈F/\ ∀(i:Nat) (v:Value),cs[i]? =some v->arr[o+i]? =some v
section
variable {HL : List Hp} {F : Hp} {j b o : Nat} {cs : List Value}
theorem BR.mono {F':Hp} (h:BR b o cs F) (hs: ∀c∈F,c∈F'):BR b o cs F':=by
 obtain⟨arr,E,fr,hm,hc⟩:=h;exact⟨arr,E,fr,hs _ hm,hc⟩
theorem QS {a:Option Addr} {off p:Nat} (h:zb a p cs F) (ha:a=some ⟨b,off,none⟩) (hj:idx j HL=some F):BR b (off+p) cs HL.flatten:=by
 obtain⟨b',C7,arr,E,fr,wh,hm,hc⟩:=h;rw[ha] at wh;simp at wh;obtain⟨rfl,rfl⟩:=wh;exact⟨arr,E,fr,ie (by rw[<-idx_eq];exact hj) hm,hc⟩
theorem Ow (h:BR b o cs F) (hj:idx j HL=some F) (f:Nat) {v:Value} (hv:idx f cs=some v): ∃arr E fr,(b,Obj.cells arr E fr)∈HL.flatten/\arr[o+f]? =some v:=by
 obtain⟨arr,E,fr,hm,hc⟩:=h;exact⟨arr,E,fr,ie (by rw[<-idx_eq];exact hj) hm,hc f v (by rw[<-idx_eq];exact hv)⟩
theorem UC {α:Type} [Inhabited α] {k:Fl α} {H:Hp} {xs:List α} {a:Option Addr} (h:aO k xs a H) {off:Nat} (ha:a=some ⟨b,off,none⟩) {i:Int} (hi:0<=i/\i<(xs.length:Int)) (f:Nat) {vs:List Value}
 (hv:((k.enc (rd xs i)).drop f).take vs.length=vs): ∃arr E fr,(b,Obj.cells arr E fr)∈H/\ ∀q v,vs[q]? =some v->arr[off+i.toNat*k.size+f+q]? =some v:=by
 obtain⟨arr,E,fr,hm,hc⟩:=iy h ha hi rfl;refine⟨arr,E,fr,hm,λq v hq=>?_⟩
 rw[<-hv] at hq;have hl:=(List.getElem?_eq_some_iff.1 hq).1;rw[List.getElem?_take_of_lt (by simp at hl;omega),List.getElem?_drop] at hq
 rw[Nat.add_assoc];exact hc (f+q) v hq
end
def Yg (r:Option Int) (a:Option Addr) (len sz:Nat) (u:Value):Prop:=match r with
 |none=>u= .pointer none
 |some i=>(0<=i/\i<(len:Int))/\ ∃b off,a=some ⟨b,off,none⟩/\u= .pointer (some ⟨b,off+i.toNat*sz+0,none⟩)
section
variable {n : Nat} {env : Env} {H : Hp} {o : Oper}
theorem ahC (T:Ty P) {t e b o1 o2 sz by':Nat} {z:Value} (hu:T.bX t=some (.pointer e)) (hi:T.inf e=some (sz,by',z)) (jr:Nat.beq sz 0=false) (w:World):
 (Op.equal t (.pointer (some ⟨b,o1,none⟩)) (.pointer (some ⟨b,o2,none⟩))).run P w= .ok (o1==o2) w:=by
 show(Op.equalIn (9999+1) t _ _).run P w=_
 generalize 9999=d;have bK:sz≠0:=by intro q;subst q;simp at jr
 simp only[Op.equalIn,Sem.run_bind,df hu,Result.andThen_ok,jP hi,Sem.run_ite,bK,if_true,sameAddr,beq_self_eq_true,Sem.run_pure,ne_eq,not_false_eq_true]
 congr 1
 by_cases h:o1=o2
 ·subst h;simp
 ·have:(⟨b,o1,none⟩:Addr)≠⟨b,o2,none⟩:=λq=>h (by injection q)
  rw[beq_eq_false_iff_ne.mpr this,beq_eq_false_iff_ne.mpr h]
theorem VN {t:TypeId} {op:BinOp} {x y:Operand} {a b:Option Addr} (w:World):(eqGuard op t x y (.pointer a) (.pointer b)).run P w= .ok () w:=by
 unfold eqGuard;rw[Sem.run_ite];refine KA (λ_=>rfl) (λ_=>?_);simp
theorem abB (T:Ty P) {t yt e b1 b2 o1 o2 sz by':Nat} {x y:Operand} {a:Option Addr} {i j:Int} {z:Value} (aQ:o.op= .binOp .neq t x y yt) (hx:ev env x=some (.pointer (some ⟨b1,o1+i.toNat*sz+0,none⟩)))
 (hy:ev env y=some (.pointer (some ⟨b2,o2+j.toNat*sz+0,none⟩))) (hu:T.bX t=some (.pointer e)) (hi:T.inf e=some (sz,by',z)) (jr:Nat.beq sz 0=false) (h1:a=some ⟨b1,o1,none⟩) (h2:a=some ⟨b2,o2,none⟩)
 (hi0:0<=i) (hj0:0<=j):gQ W P n env H o (.bool (!(i==j))):=by
 intro t' w s ow;rw[h1] at h2;simp at h2;obtain⟨rfl,rfl⟩:=h2;unfold execOp;simp only[aQ,bE s hx,bE s hy,binOp,Sem.run_bind,VN,Result.andThen_ok,ahC T hu hi jr,Sem.run_pure]
 congr 3
 have bK:0<sz:=by
  rcases Nat.eq_zero_or_pos sz with q |q
  ·subst q;simp at jr
  ·exact q
 by_cases h:i=j
 ·subst h;simp
 ·have h3:i.toNat≠j.toNat:=U;have h4:i.toNat*sz≠j.toNat*sz:=λq=>h3 (Nat.eq_of_mul_eq_mul_right bK q);have h5: ¬(o1+i.toNat*sz+0=o1+j.toNat*sz+0):=U;simp only[beq_eq_false_iff_ne.mpr h];simp only[beq_eq_false_iff_ne.mpr h5]
end
section
variable {n : Nat} {env : Env} {H : Hp} {o : Oper}
theorem ahB (T:Ty P) {t e:Nat} {a:Addr} (hu:T.bX t=some (.pointer e)) (w:World):(Op.equal t (.pointer none) (.pointer (some a))).run P w= .ok false w/\(Op.equal t (.pointer (some a)) (.pointer none)).run P w= .ok false w:=by
 constructor
 ·show(Op.equalIn (9999+1) t _ _).run P w=_
  generalize 9999=d;simp only[Op.equalIn,Sem.run_bind,df hu,Result.andThen_ok,Sem.run_pure]
  rfl
 ·show(Op.equalIn (9999+1) t _ _).run P w=_
  generalize 9999=d;simp only[Op.equalIn,Sem.run_bind,df hu,Result.andThen_ok,Sem.run_pure]
theorem abA (T:Ty P) {t yt e:Nat} {x y:Operand} {a:Addr} (aQ:o.op= .binOp .neq t x y yt) (hx:ev env x=some (.pointer none)) (hy:ev env y=some (.pointer (some a))) (hu:T.bX t=some (.pointer e)):gQ W P n env H o (.bool true):=by
 intro t' w s ow;unfold execOp;simp only[aQ,bE s hx,bE s hy,binOp,Sem.run_bind,VN,Result.andThen_ok,(ahB T hu w).1,Sem.run_pure]
 rfl
end
end
section
variable {W : World}
variable {P : Program}
section rules
variable {α : Type} {k : Fl α}
variable {T : Ty P} {n : Nat} {Q : Exit -> Act -> World -> Prop} {env : Env} {HL : List Hp} {ops : Array Oper} {i : Nat} {K : Act -> World -> Prop} {o : Oper}
variable {α : Type} {k : Fl α}
theorem Zi (T:Ty P) {d:Nat} {t E:TypeId} {x y:Operand} {l m:Int} {kk ua:IntKind} {sz by':Nat} {z:Value} (x0:α)
 (ho:ops[i]? =some o) (hw:want ops env o=some true) (hd:o.dst=some d) (hn:d<n) (aQ:o.op= .makeSlice t x y) (hx:ev env x=some (.int kk l)) (hy:ev env y=some (.int ua m))
 (hu:T.bX t=some (.slice E)) (hi:T.inf E=some (sz,by',z)) (hk:k.size=sz) (hz:bO z=k.enc x0) (l0:0<=l) (l1:l<=m) (h0:0<=m) (hm:m<=4611686018427387904) (hb:by'*m<=281474976710656)
 (h: ∀a cap H',aj k E (List.replicate l.toNat x0) a cap H'->aJ W n K ((d,.slice a (List.replicate l.toNat x0).length cap)::env) (HL++[H'])):
 aJ W n (wpOp P ops Q i K) env HL:=by
 refine zk (β:={p:Option Addr×Nat×Hp // aj k E (List.replicate l.toNat x0) p.1 p.2.1 p.2.2}) (V:=λp=> .slice p.1.1 (List.replicate l.toNat x0).length p.1.2.1) (G:=λp=>(HL++[p.1.2.2]).flatten)
  ho hw hd hn (λt' w s ow=>?_) (λp=>h _ _ _ p.2)
 obtain⟨inf,mQ,jr,j5,Be⟩:=T.mQ E sz by' z hi
 have wE:z.cells.toList=k.enc x0:=by rw[su,hz]
 have x_: ∀c:Nat,(Array.range (c*sz)).map (λi=>z.cells[i%z.cells.size]!)=(row k (List.replicate c x0)).toArray:=by
  intro c;have jr:z.cells.size=sz:=by have:=k.len x0;rw[<-wE] at this;simpa[hk] using this
  have hp:0<sz:=hk▸k.pos;apply Array.ext
  ·simp[lK,hk]
  ·intro j h1 h2;simp at h1;simp only[Array.getElem_map,Array.getElem_range,List.getElem_toArray];have hq:j/sz<c:=by rw[Nat.div_lt_iff_lt_mul hp];exact h1
   have hr:j%sz<sz:=Nat.mod_lt _ hp;have hg:=Dl k (List.replicate c x0) (j/sz) (j%sz) (by simpa using hq) (by rw[hk];exact hr)
   rw[hk,Nat.div_add_mod' j sz] at hg;simp only[List.getElem_replicate] at hg;rw[jr];have h3:z.cells[j%sz]? =(k.enc x0)[j%sz]? :=by rw[<-wE];simp
   rw[<-h3] at hg;rw[List.getElem?_eq_getElem (by simpa using h2)] at hg
   rw[getElem!_pos z.cells (j%sz) (by rw[jr];exact hr)]
   rw[Array.getElem?_eq_getElem (by rw[jr];exact hr)] at hg
   exact(Option.some.inj hg).symm
 have GU:IntKind.i64.wrap m=m:=by unfold IntKind.wrap IntKind.signed IntKind.bits;simp;omega
 have Uv:IntKind.i64.wrap l=l:=by unfold IntKind.wrap IntKind.signed IntKind.bits;simp;omega
 have hl4: ¬l<0:=U;have hl5: ¬l>m:=U;refine⟨⟨(some ⟨w.heap.size,0,none⟩,m.toNat,[(w.heap.size,.cells (row k (List.replicate m.toNat x0)).toArray E (0,0))]),.inr ⟨w.heap.size,[],row k (List.replicate (m.toNat-l.toNat) x0),rfl,by rw[List.nil_append,<-qI,List.replicate_append_replicate,show l.toNat+(m.toNat-l.toNat)=m.toNat by omega],by simp;omega,by rw[lK];simp⟩⟩,
  w.alloc (.cells (row k (List.replicate m.toNat x0)).toArray E),?_,Da _ ow⟩
 unfold execOp;have h4: ¬m<0:=U;have h5: ¬(281474976710656<(by':Int)*m):=U
 by_cases hc:m.toNat*sz=0
 ·have hz0:m.toNat=0:=by
   rcases Nat.mul_eq_zero.1 hc with h |h
   ·exact h
   ·have:=k.pos;omega
  have:m=0:=U;have xW:l=0:=U;subst this;subst xW;simp[aQ,bE s hx,bE s hy,Instr.makeSlice,df hu,asInt,asIntOf,typeInfo,mQ,j5,GU,Uv,jP hi,newRow,Bo];have e:(Array.range 0).map (λ_=>(default:Value))= #[]:=by apply Array.ext';simp
  rw[e]
 ·simp[aQ,bE s hx,bE s hy,Instr.makeSlice,df hu,asInt,asIntOf,typeInfo,mQ,j5,GU,Uv,hl4,hl5,h4,h5,jP hi,hc,Bp hi,newRow,x_]
theorem Zm (T:Ty P) {t E:TypeId} {x y:Operand} {l m:Int} {kk ua:IntKind} {sz by' d:Nat} {z:Value} (x0:α)
 (hs:slot n ops env i=some (o,d)) (aQ:o.op= .makeSlice t x y) (hx:ev env x=some (.int kk l)) (hy:ev env y=some (.int ua m))
 (hu:T.bX t=some (.slice E)) (hi:T.inf E=some (sz,by',z)) (hk:k.size=sz) (hz:bO z=k.enc x0) (h0:0<=l/\l<=m/\m<=1099511627776) (j5:Nat.ble by' 128=true)
 (h: ∀a cap H',aj k E (List.replicate l.toNat x0) a cap H'->aJ W n K ((d,.slice a (List.replicate l.toNat x0).length cap)::env) (HL++[H'])):aJ W n (wpOp P ops Q i K) env HL:=
 let⟨ho,hw,hd,hn⟩:=vB hs
 Zi T x0 ho hw hd hn aQ hx hy hu hi hk hz h0.1 h0.2.1 U U (by
  have h1:=Nat.le_of_ble_eq_true j5;have h2:(by':Int)*m<=128*1099511627776:=by
   have h3:(by':Int)<=128:=U
   exact Int.mul_le_mul h3 h0.2.2 U U
  omega) h
end rules
section
variable {HL : List Hp}
theorem aeG {j b:Nat} {pre post:List Value} {v:Value} {E:TypeId} {fr:Nat×Nat} {Hr:Hp} (hj:idx j HL=some ((b,.cells (pre++v::post).toArray E fr)::Hr)):
 ∃arr E fr,(b,Obj.cells arr E fr)∈HL.flatten/\arr[pre.length]? =some v:=
 ⟨_,E,fr,ie (by rw[<-idx_eq];exact hj) (List.mem_cons_self ..),by simp⟩
end
section
variable {n : Nat} {Q : Exit -> Act -> World -> Prop} {env : Env} {HL : List Hp} {ops : Array Oper} {i : Nat} {K : Act -> World -> Prop} {o : Oper}
theorem Zz (T:Ty P) {b t:Nat} {x y:Operand} {E:TypeId} {kk:IntKind} {v:Int} {v0:Value} {pre post:List Value} {by':Nat} {z:Value} {Hr:Hp} (j:Nat)
 (hs:s_ ops env i=some o) (aQ:o.op= .store t x y) (hx:ev env x=some (.pointer (some ⟨b,pre.length,none⟩)))
 (hy:ev env y=some (.int kk v)) (hi:T.inf t=some (1,by',z)) (hj:idx j HL=some ((b,.cells (pre++v0::post).toArray E (0,0))::Hr))
 (h:aJ W n K env (HL.set j ((b,.cells (pre++Value.int kk v::post).toArray E (0,0))::Hr))):aJ W n (wpOp P ops Q i K) env HL:=by
 let⟨ho,hw,hd⟩:=BC hs
 refine D0 T ho hw hd aQ hx hy hi (by rw[<-idx_eq];exact hj) rfl (λc hc=>?_) (by simp) ?_ h
 ·simp only[bO,List.mem_singleton] at hc;subst hc;rfl
 ·unfold gn;simp[bO]
end
end
section
variable {W : World}
variable {P : Program}
section
variable {HL : List Hp}
theorem CI {j b:Nat} {pre mid post:List Value} {E:TypeId} {fr:Nat×Nat} {Hr:Hp} (hj:idx j HL=some ((b,.cells (pre++(mid++post)).toArray E fr)::Hr)) (f:Nat) {v:Value} (hv:idx f mid=some v):
 ∃arr E fr,(b,Obj.cells arr E fr)∈HL.flatten/\arr[pre.length+f]? =some v:=by
 refine⟨_,E,fr,ie (by rw[<-idx_eq];exact hj) (List.mem_cons_self ..),?_⟩
 rw[idx_eq] at hv;have hl:=(List.getElem?_eq_some_iff.1 hv).1;rw[List.getElem?_toArray,List.getElem?_append_right U,show pre.length+f-pre.length=f by omega,List.getElem?_append_left hl]
 exact hv
end
section
variable {n : Nat} {Q : Exit -> Act -> World -> Prop} {env : Env} {HL : List Hp} {ops : Array Oper} {i : Nat} {K : Act -> World -> Prop} {o : Oper}
theorem Jd (T:Ty P) {b t:Nat} {x y:Operand} {E:TypeId} {v:Value} {pre mid post:List Value} {sz by':Nat} {z:Value} {Hr:Hp} (j f:Nat) (cs:List Value)
 (hs:s_ ops env i=some o) (aQ:o.op= .store t x y) (hx:ev env x=some (.pointer (some ⟨b,pre.length+f,none⟩)))
 (hy:ev env y=some v) (hi:T.inf t=some (sz,by',z)) (hj:idx j HL=some ((b,.cells (pre++(mid++post)).toArray E (0,0))::Hr)) (hl:Nat.beq (bO v).length sz=true) (hf:(bO v).all Value.oneCell'=true)
 (hb:Nat.ble (f+sz) mid.length=true) (ku:gn mid f (bO v)=cs)
 (h:aJ W n K env (HL.set j ((b,.cells (pre++(cs++post)).toArray E (0,0))::Hr))):aJ W n (wpOp P ops Q i K) env HL:=by
 let⟨ho,hw,hd⟩:=BC hs
 have h1:=Nat.eq_of_beq_eq_true hl;have h2:=Nat.le_of_ble_eq_true hb;refine D0 T ho hw hd aQ hx hy hi (by rw[<-idx_eq];exact hj) h1 (λc hc=>List.all_eq_true.1 hf c hc) (by simp;omega) ?_ h
 subst ku;unfold gn;have e1:List.take (pre.length+f) (pre++(mid++post))=pre++List.take f mid:=by
  rw[List.take_append,List.take_of_length_le U,show pre.length+f-pre.length=f by omega,List.take_append_of_le_length U]
 have e2:List.drop (pre.length+f+(bO v).length) (pre++(mid++post))=List.drop (f+(bO v).length) mid++post:=by
  rw[List.drop_append,List.drop_of_length_le U,show pre.length+f+(bO v).length-pre.length=f+(bO v).length by omega,List.drop_append_of_le_length U]
  simp
 simp only[e1,e2,List.append_assoc]
end
section
variable {α : Type} [Inhabited α] (kd : Kd α)
def y_ (pre:List Value) (xs:List α) (b:Nat) (T:TypeId) (H:Hp):Prop:=
 ∃cc R,tq kd xs cc R/\H=(b,Obj.cells (pre++(cc.map λc=>c.val).flatten).toArray T (0,0))::R
def xm (pre:List Value) (xs:List α) (b:Nat) (T:TypeId) (i:Int) (p q:List Value) (R:Hp):Prop:=
 (0<=i/\i<(xs.length:Int))/\p.length=pre.length+i.toNat*kd.size/\(∃p0,p=pre++p0)/\
   ∀x' tP IV,kd.own x' tP IV-> ∃R2,R2.Perm (R++IV)/\y_ kd pre (xs.set i.toNat x') b T ((b,Obj.cells (p++(tP++q)).toArray T (0,0))::R2)
variable {kd}
theorem R8: ∀(cc:List (Rw kd.size)) (i:Nat) (h:i<cc.length),∃p q:List Value,p.length=i*kd.size/\(cc.map λc=>c.val).flatten=p++((cc[i]).val++q)/\ ∀c':Rw kd.size,((cc.set i c').map λc=>c.val).flatten=p++(c'.val++q)
 |c::cc,0,_=>⟨[],(cc.map λc=>c.val).flatten,by simp,by simp,λc'=>by simp⟩
 |c::cc,i+1,h=>by
  obtain⟨p,q,h1,h2,h3⟩:=R8 cc i (by simpa using h)
  refine⟨c.val++p,q,by rw[List.length_append,c.len,h1,Nat.succ_mul];omega,?_,λc'=>?_⟩
  ·simp only[List.map_cons,List.flatten_cons,List.getElem_cons_succ,h2,List.append_assoc]
  ·simp only[List.set_cons_succ,List.map_cons,List.flatten_cons,h3 c',List.append_assoc]
section
variable {n' : Nat} {F : Act -> World -> Prop} {env : Env} {HL : List Hp} {pre : List Value} {xs : List α} {b : Nat} {T : TypeId}
theorem L_ {H:Hp} {j:Nat} {i:Int} (hj:idx j HL=some H) (so:y_ kd pre xs b T H) (hi:0<=i/\i<(xs.length:Int))
 (h: ∀p q cs R Hx,kd.own (rd xs i) cs Hx->xm kd pre xs b T i p q R->aJ W n' F env (HL.set j [(b,Obj.cells (p++(cs++q)).toArray T (0,0))]++[R,Hx])):aJ W n' F env HL:=by
 obtain⟨cc,R,hl,rfl⟩:=so;have hlen:=CS _ _ _ hl;obtain⟨Hx,R',e1,e2,e3⟩:=KN xs cc R i.toNat hl U;obtain⟨p,q,h1,h2,h3⟩:=R8 cc i.toNat U;rw[show((i.toNat:Nat):Int)=i by omega] at e1
 have ec:(rd cc i)=cc[i.toNat]'(by omega):=iU U
 rw[ec] at e1;refine py (λw o=>?_) (h (pre++p) q (cc[i.toNat]'(by omega)).val R' Hx e1 ⟨hi,by rw[List.length_append,h1],⟨p,rfl⟩,λx' tP IV sJ=>?_⟩)
 ·rw[idx_eq] at hj;have lD:=(List.getElem?_eq_some_iff.1 hj).1;have a1:=xI HL j _ hj;have a2:=wc HL j _ [(b,Obj.cells ((pre++p)++((cc[i.toNat]'(by omega)).val++q)).toArray T (0,0))] hj
  refine o.perm (a1.trans ?_);rw[List.flatten_append];refine List.Perm.trans ?_ (List.Perm.append_right _ a2.symm);rw[h2,<-List.append_assoc pre p];simp only[List.flatten_cons,List.flatten_nil,List.append_nil,List.cons_append,List.nil_append];refine List.Perm.cons _ ?_;exact(List.Perm.append_right _ e2).trans List.perm_append_comm
 ·obtain⟨R2,p2,l2⟩:=e3 x' ⟨tP,kd.len _ _ _ sJ,kd.plain _ _ _ sJ⟩ IV sJ;exact⟨R2,p2,_,R2,l2,by rw[h3,List.append_assoc]⟩
theorem FO {R Hx:Hp} {j q1 q2:Nat} {i:Int} {p q cs:List Value} (x':α) (hj:idx j HL=some [(b,Obj.cells (p++(cs++q)).toArray T (0,0))]) (so:xm kd pre xs b T i p q R)
 (h1:idx q1 HL=some R) (h2:idx q2 HL=some Hx) (n1:Nat.beq j q1=false) (n2:Nat.beq j q2=false) (n3:Nat.beq q1 q2=false) (hx:kd.own x' cs Hx)
 (h: ∀H',y_ kd pre (xs.set i.toNat x') b T H'->aJ W n' F env (((HL.set j H').set q1 []).set q2 [])):aJ W n' F env HL:=by
 obtain⟨hi,_,_,hc⟩:=so;obtain⟨R2,p2,l2⟩:=hc x' cs Hx hx;have KV:j≠q1:=λe=>by subst e;simp at n1
 have OU:j≠q2:=λe=>by subst e;simp at n2
 have ne3:q1≠q2:=λe=>by subst e;simp at n3
 refine py (λw o=>?_) (h _ l2);rw[idx_eq] at hj h1 h2;have lD:=(List.getElem?_eq_some_iff.1 hj).1;have s1:=EH hj h1 KV;have GG:((HL.set j ([(b,Obj.cells (p++(cs++q)).toArray T (0,0))]++R)).set q1 [])[j]? =some ([(b,Obj.cells (p++(cs++q)).toArray T (0,0))]++R):=by
  rw[List.getElem?_set_ne (Ne.symm KV)];exact List.getElem?_set_self lD
 have h22:((HL.set j ([(b,Obj.cells (p++(cs++q)).toArray T (0,0))]++R)).set q1 [])[q2]? =some Hx:=by
  rw[List.getElem?_set_ne ne3,List.getElem?_set_ne OU];exact h2
 have s2:=EH GG h22 OU;refine o.perm (s1.trans (s2.trans ?_));have e:((((HL.set j ([(b,Obj.cells (p++(cs++q)).toArray T (0,0))]++R)).set q1 []).set j (([(b,Obj.cells (p++(cs++q)).toArray T (0,0))]++R)++Hx)).set q2 [])=((HL.set j ((b,Obj.cells (p++(cs++q)).toArray T (0,0))::(R++Hx))).set q1 []).set q2 []:=by
  rw[List.set_comm _ _ (Ne.symm KV),List.set_set];simp
 rw[e];have f1: ∀A:Hp,((HL.set j A).set q1 []).set q2 []=((HL.set q1 []).set q2 []).set j A:=λA=>by
  rw[List.set_comm _ _ KV,List.set_comm _ _ OU]
 rw[f1,f1];exact Cp (List.Perm.cons _ p2.symm)
end
end
section
variable {α : Type} [Inhabited α] {kd : Kd α} {HL : List Hp}
theorem Bf {j b f:Nat} {pre:List Value} {xs:List α} {T:TypeId} {H:Hp} {v:Value} (hj:idx j HL=some H) (so:y_ kd pre xs b T H) (hv:idx f pre=some v): ∃arr E fr,(b,Obj.cells arr E fr)∈HL.flatten/\arr[f]? =some v:=by
 obtain⟨cc,R,hl,rfl⟩:=so;refine⟨_,T,(0,0),ie (by rw[<-idx_eq];exact hj) (List.mem_cons_self ..),?_⟩
 rw[idx_eq] at hv;have h1:=(List.getElem?_eq_some_iff.1 hv).1;rw[List.getElem?_toArray,List.getElem?_append_left h1];exact hv
section
variable {n : Nat} {Q : Exit -> Act -> World -> Prop} {env : Env} {ops : Array Oper} {i : Nat} {K : Act -> World -> Prop} {o : Oper}
theorem I' (T:Ty P) {b t:Nat} {x y:Operand} {E:TypeId} {v:Value} {pre:List Value} {xs:List α} {sz by' f:Nat} {z:Value} {H:Hp} (j:Nat) (cs:List Value)
 (hs:s_ ops env i=some o) (aQ:o.op= .store t x y) (hx:ev env x=some (.pointer (some ⟨b,f,none⟩)))
 (hy:ev env y=some v) (hi:T.inf t=some (sz,by',z)) (hj:idx j HL=some H) (so:y_ kd pre xs b E H) (hl:Nat.beq (bO v).length sz=true) (hf:(bO v).all Value.oneCell'=true)
 (hb:Nat.ble (f+sz) pre.length=true) (ku:gn pre f (bO v)=cs)
 (h: ∀H',y_ kd cs xs b E H'->aJ W n K env (HL.set j H')):aJ W n (wpOp P ops Q i K) env HL:=by
 obtain⟨cc,R,sG,rfl⟩:=so
 let⟨ho,hw,hd⟩:=BC hs
 have h1:=Nat.eq_of_beq_eq_true hl;have h2:=Nat.le_of_ble_eq_true hb;refine D0 T ho hw hd aQ hx hy hi (by rw[<-idx_eq];exact hj) h1 (λc hc=>List.all_eq_true.1 hf c hc) (by simp;omega) ?_ (h _ ⟨cc,R,sG,rfl⟩)
 subst ku;unfold gn;have e1:List.take f (pre++(cc.map λc=>c.val).flatten)=List.take f pre:=List.take_append_of_le_length U;have e2:List.drop (f+(bO v).length) (pre++(cc.map λc=>c.val).flatten)=List.drop (f+(bO v).length) pre++(cc.map λc=>c.val).flatten:=List.drop_append_of_le_length U;simp only[e1,e2,List.append_assoc]
end
end
end
section
variable {W : World}
variable {P : Program}
section
variable {α : Type} {k : Fl α}
theorem ajk {z:Value} {sz:Nat} {x0:α} (hk:k.size=sz) (hz:bO z=k.enc x0) (c:Nat):(Builtin.zeroCells z.cells c).toList=row k (List.replicate c x0):=by
 have wE:z.cells.toList=k.enc x0:=by rw[su,hz]
 have jr:z.cells.size=sz:=by have:=k.len x0;rw[<-wE] at this;simpa[hk] using this
 have hp:0<sz:=hk▸k.pos;unfold Builtin.zeroCells;rw[jr];apply List.ext_getElem
 ·simp[lK,hk]
 ·intro j h1 h2;simp at h1;simp only[Array.getElem_toList,Array.getElem_map,Array.getElem_range];have hq:j/sz<c:=by rw[Nat.div_lt_iff_lt_mul hp];exact h1
  have hr:j%sz<sz:=Nat.mod_lt _ hp;have hg:=Dl k (List.replicate c x0) (j/sz) (j%sz) (by simpa using hq) (by rw[hk];exact hr)
  rw[hk,Nat.div_add_mod' j sz] at hg;simp only[List.getElem_replicate] at hg;have h3:z.cells[j%sz]? =(k.enc x0)[j%sz]? :=by rw[<-wE];simp
  rw[<-h3] at hg;rw[List.getElem?_eq_getElem (by simpa using h2)] at hg
  rw[getElem!_pos z.cells (j%sz) (by rw[jr];exact hr)]
  rw[Array.getElem?_eq_getElem (by rw[jr];exact hr)] at hg
  exact(Option.some.inj hg).symm
theorem aaN (T:Ty P) {t ty E:TypeId} {xs:List α} {a da:Option Addr} {g cap dc dl lo sz by':Nat} {z:Value} {Hj:Hp} {w:World} {HL:List Hp} (x0:α)
 (hu:T.bX t=some (.slice E)) (hi:T.inf E=some (sz,by',z)) (hk:k.size=sz) (hz:bO z=k.enc x0)
 (hj:HL[g]? =some Hj) (so:aj k E xs a cap Hj) (wu:(da=a/\lo=0)∨da=gp a cap lo sz) (hl:lo+dl<=xs.length) (ow:bn W w HL.flatten):
 ∃H' w',(Builtin.clear_ #[t] ty #[.slice da dl dc]).run P w= .ok (.tuple #[]) w'/\
  aj k E (cB xs lo dl (List.replicate dl x0)) a cap H'/\bn W w' (HL.set g H').flatten:=by
 have nZ: ∀(r:Option Addr) (w':World),r=da->(match r with |some ad=>(storeCells ad (row k (List.replicate dl x0))).run P w= .ok () w' |none=>w'=w)->
  (Builtin.clear_ #[t] ty #[.slice da dl dc]).run P w= .ok (.tuple #[]) w':=by
  intro r w' hr h;subst hr
  cases r with
  |none=>subst h;simp[Builtin.clear_,df hu]
  |some ad=>
   cases dl with
   |zero=>
    have h:(storeCells ad (row k (List.replicate 0 x0))).run P w= .ok () w':=h;simp[Bo,storeCells] at h;subst h;simp[Builtin.clear_,df hu]
   |succ m=>
    have Ov:=ajk (k:=k) hk hz (m+1);have h:(storeCells ad (row k (List.replicate (m+1) x0))).run P w= .ok () w':=h;simp[Builtin.clear_,df hu,Bp hi,Ov,h]
 have aeB:(List.replicate dl x0).length=dl:=by simp
 rcases so with⟨rfl,rfl,rfl,rfl⟩ |⟨b,pre,post,rfl,rfl,h3,h4⟩
 ·have hz:lo=0/\dl=0:=by simp at hl;omega
  obtain⟨rfl,rfl⟩:=hz;have NS:da=none:=by
   rcases wu with⟨h,_⟩ |h
   ·exact h
   ·simpa[gp] using h
  refine⟨[],w,nZ none w NS.symm rfl,.inl ⟨rfl,by simp[cB],rfl,rfl⟩,sT hj (by simpa using vu hj ow)⟩
 ·have ya:=lK k xs;have zL:=lK k (List.replicate dl x0);rw[aeB] at zL
  by_cases h0:dl=0
  ·subst h0;have hc:cB xs lo 0 (List.replicate 0 x0)=xs:=by simp[cB]
   have bK: ∃ad,da=some ad:=by
    rcases wu with⟨h,_⟩ |h
    ·exact⟨_,h⟩
    ·unfold gp at h;split at h
     ·exact⟨_,h⟩
     ·exact⟨_,h⟩
   obtain⟨ad,Nf⟩:=bK;refine⟨_,w,nZ (some ad) w Nf.symm ?_,by rw[hc];exact .inr ⟨b,pre,post,rfl,rfl,h3,h4⟩,sT hj (vu hj ow)⟩
   simp[Bo,storeCells]
  ·have NR:da=some ⟨b,pre.length+lo*sz,none⟩:=by
    rcases wu with⟨h,h'⟩ |h
    ·rw[h,h'];simp
    ·have bK:cap≠lo:=U;rw[h];simp only[gp,bK,if_false,Option.map_some,Addr.add];split
     ·rename_i h0;simp[h0]
     ·rfl
   have ml:lo*sz+dl*sz<=xs.length*sz:=by rw[<-Nat.add_mul];exact Nat.mul_le_mul_right _ U
   obtain⟨w',hr,cF⟩:=HT T b E (row k (List.replicate dl x0)) w (pre++(row k xs++post)).toArray (pre.length+lo*sz) 0 (by simpa using vu hj ow)
    (by simp[ya,zL,hk];omega) (Pl k _)
   refine⟨[(b,Obj.cells (pre++(row k (cB xs lo dl (List.replicate dl x0))++post)).toArray E (0,0))],w',nZ (some _) w' NR.symm hr,?_,?_⟩
   ·have eO:=A1 (xs:=xs) (ys:=List.replicate dl x0) (lo:=lo) (n:=dl) hl U;exact .inr ⟨b,pre,post,rfl,rfl,by rw[eO];exact h3,by rw[eO];exact h4⟩
   ·refine sT hj ?_;rw[Nat.add_zero,Ig _ _ _ (by simp[ya,zL,hk];omega)] at cF
    have e:gn (pre++(row k xs++post)) (pre.length+lo*sz) (row k (List.replicate dl x0))=pre++(row k (cB xs lo dl (List.replicate dl x0))++post):=by
     have CH:row k xs=row k (xs.take lo)++row k (xs.drop lo):=by rw[<-qI,List.take_append_drop]
     have wD:row k (xs.drop lo)=row k ((xs.drop lo).take dl)++row k (xs.drop (lo+dl)):=by
      rw[<-qI,<-List.drop_drop,List.take_append_drop]
     have vj:(row k (xs.take lo)).length=lo*sz:=by rw[lK,hk];congr 1;simp;omega
     have vk:(row k ((xs.drop lo).take dl)).length=dl*sz:=by rw[lK,hk];congr 1;simp;omega
     have Ez:(List.replicate dl x0).take dl=List.replicate dl x0:=List.take_of_length_le U;unfold gn;rw[show pre.length+lo*sz=(pre++row k (xs.take lo)).length by simp[vj]]
     rw[show pre++(row k xs++post)=(pre++row k (xs.take lo))++(row k (xs.drop lo)++post) by rw[CH];simp]
     rw[List.take_left',List.drop_length_add_append,wD]
     ·rw[show(row k (List.replicate dl x0)).length=(row k ((xs.drop lo).take dl)).length by rw[zL,vk,hk]]
      rw[show row k ((xs.drop lo).take dl)++row k (xs.drop (lo+dl))++post=row k ((xs.drop lo).take dl)++(row k (xs.drop (lo+dl))++post) by simp]
      rw[List.drop_left']
      ·simp[cB,qI,Ez]
      ·rfl
     ·rfl
    simpa[e] using cF
theorem Mv {xs:List α} {lo dl:Nat} {x0:α} (h:lo+dl<=xs.length):(cB xs lo dl (List.replicate dl x0)).length=xs.length:=A1 h (by simp)
section rules
variable {T : Ty P} {n : Nat} {Q : Exit -> Act -> World -> Prop} {env : Env} {HL : List Hp} {ops : Array Oper} {i : Nat} {K : Act -> World -> Prop} {o : Oper}
theorem Zb (T:Ty P) {g lo:Nat} {s:Operand} {t E:TypeId} {xs:List α} {a da:Option Addr} {cap dc dl sz by':Nat} {z:Value} {Hj:Hp} (x0:α)
 (qA:s_ ops env i=some o) (aQ:o.op= .call ⟨.builtin .clear,#[s],#[t]⟩)
 (hs:ev env s=some (.slice da dl dc)) (hu:T.bX t=some (.slice E)) (hi:T.inf E=some (sz,by',z)) (hk:k.size=sz) (hz:bO z=k.enc x0)
 (hj:idx g HL=some Hj) (so:aj k E xs a cap Hj) (wu:(da=a/\lo=0)∨da=gp a cap lo sz) (hl:lo+dl<=xs.length)
 (h: ∀H',aj k E (cB xs lo dl (List.replicate dl x0)) a cap H'->aJ W n K env (HL.set g H')):aJ W n (wpOp P ops Q i K) env HL:=by
 obtain⟨ho,hw,hd⟩:=BC qA;refine Je (β:={H':Hp // aj k E (cB xs lo dl (List.replicate dl x0)) a cap H'}) (G:=λp=>(HL.set g p.1).flatten)
  ho hw hd (λtt w sl ow=>?_) (λp=>h _ p.2)
 obtain⟨H',w',hr,rA,cF⟩:=aaN (P:=P) T (ty:=o.type) (dc:=dc) x0 hu hi hk hz (by rw[<-idx_eq];exact hj) so wu hl ow
 refine⟨⟨H',rA⟩,w',.inr ⟨.tuple #[],?_⟩,cF⟩;obtain⟨cs,hb⟩:=HS (P:=P) (t:=tt) w aQ;rw[hb];simp only[List.map_toArray,List.map_cons,List.map_nil,bE sl hs,builtin,Sem.run_bind];refine Eq.trans (congrArg (λr=>Result.andThen r _) hr) ?_;simp only[Result.andThen_ok,Sem.run_pure]
end rules
end
end
section
variable {W : World}
variable {P : Program}
section
variable {n' : Nat} {F : Act -> World -> Prop} {env : Env} {HL : List Hp}
theorem bU {As:List Hp} (j:Nat) (hj:idx j HL=some As.flatten) (h:aJ W n' F env (HL.eraseIdx j++As)):aJ W n' F env HL:=by
 rw[idx_eq] at hj;refine py (λw o=>o.perm ?_) h;rw[List.flatten_append];exact(xI HL j _ hj).trans List.perm_append_comm
theorem dD (js:List Nat) {As R:List Hp} {H:Hp} (hs:qM js HL=(As,R)) (hH:H=As.flatten) (h:aJ W n' F env (R++[H])):aJ W n' F env HL:=
 gL js hs (by rw[<-hH];exact h)
end
theorem aaA {f:FuncId} {as:List Value} {A B:List Hp} {β:Type} {V:β->Value} {G G':β->List Hp} (e:A.flatten=B.flatten) (eg: ∀b,(G b).flatten=(G' b).flatten) (c:gY P f as A V G):gY P f as B V G':=by
 show za P f _ B.flatten _ (λb=>(G' b).flatten)
 rw[<-e,show(λb=>(G' b).flatten)=(λb=>(G b).flatten) from funext λb=>(eg b).symm];exact c
theorem aaz {f:FuncId} {as:List Value} {A B:List Hp} {v:Value} (e:A.flatten=B.flatten) (c:gY P f as A (λ_:Unit=>v) (λ_=>A)):gY P f as B (λ_:Unit=>v) (λ_=>B):=by
 show za P f _ B.flatten _ (λ_=>B.flatten)
 rw[<-e];exact c
section
variable {α : Type} [Inhabited α] {kd : Kd α} {HL : List Hp} {n : Nat} {env : Env} {H : Hp} {o : Oper}
theorem xm.at {pre:List Value} {xs:List α} {b:Nat} {T:TypeId} {i:Int} {p q:List Value} {R:Hp} (h:xm kd pre xs b T i p q R):p.length=pre.length+i.toNat*kd.size:=h.2.1
theorem EA {j b f:Nat} {pre p q cs:List Value} {xs:List α} {T T':TypeId} {i:Int} {fr:Nat×Nat} {R Hr:Hp} {v:Value} (hj:idx j HL=some ((b,Obj.cells (p++(cs++q)).toArray T' fr)::Hr)) (so:xm kd pre xs b T i p q R) (hv:idx f pre=some v):
 ∃arr E fr,(b,Obj.cells arr E fr)∈HL.flatten/\arr[f]? =some v:=by
 obtain⟨_,_,⟨p0,rfl⟩,_⟩:=so;refine⟨_,T',fr,ie (by rw[<-idx_eq];exact hj) (List.mem_cons_self ..),?_⟩
 rw[idx_eq] at hv;have h1:=(List.getElem?_eq_some_iff.1 hv).1;rw[List.getElem?_toArray,List.append_assoc,List.getElem?_append_left h1];exact hv
theorem JA (T:Ty P) {m by' b off sz:Nat} {t E:TypeId} {x ix:Operand} {kk:IntKind} {j:Int} {z:Value} {p:List Value} (aQ:o.op= .indexAddr t x ix)
 (hx:ev env x=some (.pointer (some ⟨b,off,none⟩))) (vi:ev env ix=some (.int kk j)) (hu:T.bX t=some (.array m E)) (hi:T.inf E=some (sz,by',z))
 (hj:0<=j/\j<(m:Int)) (hp:p.length=off+j.toNat*sz):gQ W P n env H o (.pointer (some ⟨b,p.length+0,none⟩)):=by
 intro t' w s ow;obtain⟨h0,h1⟩:=hj;unfold execOp;simp only[aQ,bE s hx,bE s vi,Instr.indexAt,Instr.sureAddr,asIntOf,Sem.run_bind,Sem.run_pure,Result.andThen_ok,df hu,Sem.run_ite,h0,h1,and_self,if_true,jP hi]
 congr 3
 unfold Addr.add;rw[hp];split
 ·rename_i h;simp[h]
 ·simp
end
section
variable {α : Type} [Inhabited α] {kd : Kd α} {n' : Nat} {F : Act -> World -> Prop} {env : Env} {HL : List Hp} {pre : List Value} {xs : List α} {b : Nat} {T : TypeId}
theorem ah3 {xs:List α} {i:Int} (h:0<=i/\i<(xs.length:Int)):xs.set i.toNat (rd xs i)=xs:=by
 have h1:i.toNat<xs.length:=U;have h2:rd xs ((i.toNat:Nat):Int)=xs[i.toNat]'h1:=iU h1;rw[show((i.toNat:Nat):Int)=i by omega] at h2
 rw[h2];exact List.set_getElem_self h1
theorem Le {β:Type} {ys:List β} {i m:Nat} {y:β} (h:ys.length=m):(ys.set i y).length=m:=by rw[List.length_set];exact h
theorem Y7 {R Hx:Hp} {j q1 q2:Nat} {i:Int} {p q cs:List Value} (hj:idx j HL=some [(b,Obj.cells (p++(cs++q)).toArray T (0,0))]) (so:xm kd pre xs b T i p q R)
 (h1:idx q1 HL=some R) (h2:idx q2 HL=some Hx) (n1:Nat.beq j q1=false) (n2:Nat.beq j q2=false) (n3:Nat.beq q1 q2=false) (hx:kd.own (rd xs i) cs Hx)
 (h: ∀H',y_ kd pre xs b T H'->aJ W n' F env (((HL.set j H').set q1 []).set q2 [])):aJ W n' F env HL:=
 FO (rd xs i) hj so h1 h2 n1 n2 n3 hx (λH' hb=>h H' (by rw[ah3 so.1] at hb;exact hb))
end
section
variable {α : Type} [Inhabited α] {kd : Kd α} {HL : List Hp} {n : Nat} {Q : Exit -> Act -> World -> Prop} {env : Env} {ops : Array Oper} {i : Nat} {K : Act -> World -> Prop} {o : Oper}
theorem Y6 (T:Ty P) {t d:Nat} {x:Operand} {v:Value} (pre:List Value) (m:Nat) (x0:α) (c0:List Value) (hs:slot n ops env i=some (o,d)) (aQ:o.op= .box t x) (hx:ev env x=some v) (hz:bO v=pre++(List.replicate m c0).flatten)
 (wC:kd.own x0 c0 []) (h: ∀b H',y_ kd pre (List.replicate m x0) b t H'->aJ W n K ((d,.pointer (some ⟨b,0,none⟩))::env) (HL++[H'])):aJ W n (wpOp P ops Q i K) env HL:=by
 refine QE T _ hs aQ hx hz (λb=>h b _ ⟨List.replicate m ⟨c0,kd.len _ _ _ wC,kd.plain _ _ _ wC⟩,[],OG wC m,?_⟩);have e:((List.replicate m (⟨c0,kd.len _ _ _ wC,kd.plain _ _ _ wC⟩:Rw kd.size)).map λc=>c.val)=List.replicate m c0:=by simp
 rw[e]
end
section
variable {α : Type} {k : Fl α}
theorem dH.trans {xs l m:List α} {a a' Qr:Option Addr} {n n' Vc:Nat} (h:dH k xs a n l a' n') (hc:xs.length<=n) (h2:dH k l a' n' m Qr Vc):dH k xs a n m Qr Vc:=by
 rcases h2 with rfl |⟨lo,hi,h1,rfl,rfl,rfl⟩
 ·exact .inl rfl
 ·exact h.sub hc h1
end
end
section
variable {W : World}
variable {P : Program}
section
variable {n : Nat} {env : Env} {H : Hp} {o : Oper}
theorem Gg (T:Ty P) {m by' b off:Nat} {t E:TypeId} {x ix:Operand} {kk:IntKind} {j:Nat} {z:Value} (aQ:o.op= .indexAddr t x ix)
 (hx:ev env x=some (.pointer (some ⟨b,off,none⟩))) (vi:ev env ix=some (.int kk (Int.ofNat j))) (hu:T.bX t=some (.array m E)) (hi:T.inf E=some (1,by',z))
 (hj:Nat.blt j m=true):gQ W P n env H o (.pointer (some ⟨b,off+j,none⟩)):=by
 intro t' w s ow;have h1:(Int.ofNat j)<(m:Int):=by
  have:j<m:=by simpa using hj
  simp;omega
 have h0:(0:Int)<=Int.ofNat j:=by simp
 unfold execOp;simp only[aQ,bE s hx,bE s vi,Instr.indexAt,Instr.sureAddr,asIntOf,Sem.run_bind,Sem.run_pure,Result.andThen_ok,df hu,Sem.run_ite,h0,h1,and_self,if_true,jP hi]
 congr 3
 unfold Addr.add;split
 ·rename_i h;have:j=0:=by simpa using h
  simp[this]
 ·simp
end
end
end Go.Hx
