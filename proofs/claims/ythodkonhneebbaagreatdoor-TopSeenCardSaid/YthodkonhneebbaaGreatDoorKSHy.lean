/- The logic of this claim, further rules: maps, elements that own slices, and more. -/
import Derived.MapKept
import Derived.Maps.RangeRun
import Derived.LaidEql
import Derived.Lib.MakeNoZero
import Derived.Test.YthodkonhneebbaaGreatDoorKSHx
namespace Go.Hx
set_option autoImplicit true
set_option relaxedAutoImplicit true
set_option linter.unusedVariables false
set_option linter.unusedSimpArgs false
set_option linter.unusedSectionVars false
section
section model
variable [DecidableEq κ]
def cS:List (κ×α)->κ->Option α
 |[],_=>none
 |e::r,x=>if e.1=x then some e.2 else cS r x
def bR (m:List (κ×α)) (x:κ):Bool:=(cS m x).isSome
def aR [Inhabited α] (m:List (κ×α)) (x:κ):α:=(cS m x).getD default
def cJ:List (κ×α)->κ->α->List (κ×α)
 |[],x,v=>[(x,v)]
 |e::r,x,v=>if e.1=x then(x,v)::r else e::cJ r x v
def dT:List (κ×α)->κ->List (κ×α)
 |[],_=>[]
 |e::r,x=>if e.1=x then r else e::dT r x
def gD:List (κ×α)->κ->Option Nat
 |[],_=>none
 |e::r,x=>if e.1=x then some 0 else(gD r x).map (· +1)
theorem agG {m:List (κ×α)} {x:κ} (h:gD m x=none):cS m x=none:=by
 induction m with
 |nil=>rfl
 |cons e r ih=>
  simp only[gD,cS] at h⊢;split at h
  ·cases h
  ·rename_i hk;rw[if_neg hk];exact ih (by simpa using h)
theorem KY {m:List (κ×α)} {x:κ} {i:Nat} (h:gD m x=some i): ∃v,cS m x=some v/\m[i]? =some (x,v):=by
 induction m generalizing i with
 |nil=>cases h
 |cons e r ih=>
  simp only[gD,cS] at h⊢;split at h
  ·rename_i hk;simp at h;subst h;exact⟨e.2,by rw[if_pos hk],by simp[<-hk]⟩
  ·rename_i hk
   cases hr:gD r x with
   |none=>simp[hr] at h
   |some j=>
    simp[hr] at h;subst h;obtain⟨v,h1,h2⟩:=ih hr;exact⟨v,by rw[if_neg hk];exact h1,by simpa using h2⟩
end model
structure Ky (P:Program) (t:TypeId) (κ:Type) [DecidableEq κ] where
 enc:κ->Value
 check: ∀(e:Bool) (w:World) (x:κ),(Instr.checkKey e 10000 t (enc x)).run P w= .ok () w
 find: ∀(w:World) (x:κ) (es:List MapEntry) (ks:List κ),es.map (·.key)=ks.map enc->
  (Instr.findKey t (enc x) es).run P w= .ok ((gD (ks.map λk=>(k,())) x).bind λi=>(es[i]?).map λe=>(i,e.val)) w
 stays: ∀(w:World) (x:κ),(Instr.keyThatStays (enc x) (enc x)).run P w= .ok (enc x) w
theorem Se: ∀(es:List MapEntry) (ks:List Int) (j:Nat),es.map (·.key)=ks.map (λk=>Value.int q k)->
 Instr.findNow (.int q) (.int q x) es j=some ((gD (ks.map λk=>(k,())) x).bind λi=>(es[i]?).map λe=>(i+j,e.val))
 |[],[],_,_=>rfl
 |[],_::_,_,h=>by simp at h
 |_::_,[],_,h=>by simp at h
 |e::es,k::ks,j,h=>by
  simp only[List.map_cons,List.cons.injEq] at h;obtain⟨h1,h2⟩:=h;simp only[Instr.findNow,h1,Instr.sameNow,if_true,List.map_cons,gD]
  by_cases hk:k=x
  ·subst hk;simp
  ·have:(x==k)=false:=by simp[Ne.symm hk]
   simp only[this,hk,if_false];rw[Se es ks (j+1) h2]
   cases hp:gD (ks.map λk=>(k,())) x with
   |none=>simp
   |some i=>
    simp only[Option.map_some,Option.bind_some,List.getElem?_cons_succ];rw[show i+1+j=i+(j+1) by omega]
def Ky.int {P:Program} {t:TypeId} (q:IntKind) (ht:P.underlying t=some (.int q)):Ky P t Int where
 enc:=λx=> .int q x
 check:=λe w x=>MapKept.run_checkKey ht (by simp[MapKept.IsKey]) e 9999
 find:=λw x es ks h=>by
  have:=Se (x:=x) es ks 0 h;simpa using MapKept.run_findKey (w:=w) ht this
 stays:=λw x=>MapKept.run_keyThatStays (d:= .int q) (by simp[MapKept.IsKey])
section aha
variable [DecidableEq κ]
def gZ (K:Ky P t κ) (kv:α->Value):List (κ×α)->List Nat->List MapEntry
 |e::r,b::bs=>⟨K.enc e.1,kv e.2,b⟩::gZ K kv r bs
 |_,_=>[]
theorem MZ (K:Ky P t κ) (kv:α->Value): ∀(m:List (κ×α)) (bs:List Nat),bs.length=m.length->(gZ K kv m bs).map (·.key)=(m.map (·.1)).map K.enc
 |[],[],_=>rfl
 |[],_::_,h=>by simp at h
 |_::_,[],h=>by simp at h
 |e::r,b::bs,h=>by simp[gZ,MZ K kv r bs (by simpa using h)]
theorem abQ (K:Ky P t κ) (kv:α->Value) (m:List (κ×α)) (bs:List Nat) (h:bs.length=m.length):(gZ K kv m bs).length=m.length:=by
 have:=congrArg List.length (MZ K kv m bs h);simpa using this
theorem MY (K:Ky P t κ) (kv:α->Value): ∀(m:List (κ×α)) (bs:List Nat) (i:Nat) (e:κ×α),bs.length=m.length->m[i]? =some e-> ∃b,(gZ K kv m bs)[i]? =some ⟨K.enc e.1,kv e.2,b⟩/\bs[i]? =some b
 |[],_,_,_,_,h=>by simp at h
 |_::_,[],_,_,h,_=>by simp at h
 |e::r,b::bs,0,e',_,h=>by simp at h;subst h;exact⟨b,rfl,rfl⟩
 |e::r,b::bs,i+1,e',hl,h=>by
  obtain⟨b',h1⟩:=MY K kv r bs i e' (by simpa using hl) (by simpa using h)
  exact⟨b',by simpa[gZ] using h1⟩
theorem agF (m:List (κ×α)) (x:κ):gD ((m.map (·.1)).map λk=>(k,())) x=gD m x:=by
 induction m with
 |nil=>rfl
 |cons e r ih=>simp only[List.map_cons,gD,ih]
theorem PD (K:Ky P t κ) (kv:α->Value) (w:World) (m:List (κ×α)) (bs:List Nat) (x:κ) (h:bs.length=m.length):
 (Instr.findKey t (K.enc x) (gZ K kv m bs)).run P w= .ok ((gD m x).bind λi=>(m[i]?).map λe=>(i,kv e.2)) w:=by
 rw[K.find w x _ (m.map (·.1)) (MZ K kv m bs h),agF]
 congr 1
 cases hp:gD m x with
 |none=>rfl
 |some i=>
  obtain⟨v,_,h2⟩:=KY hp;obtain⟨b,h3,_⟩:=MY K kv m bs i _ h h2;simp[h2,h3]
theorem R6 (K:Ky P t κ) (kv:α->Value): ∀(m:List (κ×α)) (bs:List Nat) (x:κ) (v:α) (c:Nat),bs.length=m.length->gD m x=none->
 gZ K kv m bs++[⟨K.enc x,kv v,c⟩]=gZ K kv (cJ m x v) (bs++[c])
 |[],[],x,v,c,_,_=>rfl
 |[],_::_,_,_,_,h,_=>by simp at h
 |_::_,[],_,_,_,h,_=>by simp at h
 |e::r,b::bs,x,v,c,h,hp=>by
  simp only[gD] at hp;split at hp
  ·cases hp
  ·rename_i hk;have:=R6 K kv r bs x v c (by simpa using h) (by simpa using hp)
   simp only[gZ,List.cons_append,this,cJ,hk,if_false]
theorem agH {m:List (κ×α)} {x:κ} {v:α} (h:gD m x=none):(cJ m x v).length=m.length+1:=by
 induction m with
 |nil=>rfl
 |cons e r ih=>
  simp only[gD] at h;split at h
  ·cases h
  ·rename_i hk;simp[cJ,hk,ih (by simpa using h)]
theorem agI {m:List (κ×α)} {x:κ} {v:α} {i:Nat} (h:gD m x=some i):(cJ m x v).length=m.length:=by
 induction m generalizing i with
 |nil=>cases h
 |cons e r ih=>
  simp only[gD] at h;simp only[cJ];split at h
  ·rename_i hk;simp[hk]
  ·rename_i hk
   cases hr:gD r x with
   |none=>simp[hr] at h
   |some j=>simp[hk,ih hr]
theorem R5 (K:Ky P t κ) (kv:α->Value): ∀(m:List (κ×α)) (bs:List Nat) (x:κ) (v:α) (i:Nat),bs.length=m.length->gD m x=some i->
 (gZ K kv m bs).modify i (λe=>{e with key:=K.enc x,val:=kv v})=gZ K kv (cJ m x v) bs
 |[],_,_,_,_,_,h=>by cases h
 |_::_,[],_,_,_,h,_=>by simp at h
 |e::r,b::bs,x,v,i,h,hp=>by
  simp only[gD] at hp;split at hp
  ·rename_i hk;simp at hp;subst hp;simp[gZ,cJ,hk]
  ·rename_i hk
   cases hr:gD r x with
   |none=>simp[hr] at hp
   |some j=>
    simp[hr] at hp;subst hp;have:=R5 K kv r bs x v j (by simpa using h) hr
    simp[gZ,cJ,hk,this]
theorem R4 (K:Ky P t κ) (kv:α->Value): ∀(m:List (κ×α)) (bs:List Nat) (x:κ) (i:Nat),bs.length=m.length->gD m x=some i->
 (gZ K kv m bs).eraseIdx i=gZ K kv (dT m x) (bs.eraseIdx i)/\(bs.eraseIdx i).length=(dT m x).length
 |[],_,_,_,_,h=>by cases h
 |_::_,[],_,_,h,_=>by simp at h
 |e::r,b::bs,x,i,h,hp=>by
  simp only[gD] at hp;split at hp
  ·rename_i hk;simp at hp;subst hp;simp[gZ,dT,hk];simpa using h
  ·rename_i hk
   cases hr:gD r x with
   |none=>simp[hr] at hp
   |some j=>
    simp[hr] at hp;subst hp;have:=R4 K kv r bs x j (by simpa using h) hr
    simp[gZ,dT,hk,this]
theorem Vy {m:List (κ×α)} {x:κ} (h:gD m x=none):dT m x=m:=by
 induction m with
 |nil=>rfl
 |cons e r ih=>
  simp only[gD] at h;split at h
  ·cases h
  ·rename_i hk;simp[dT,hk,ih (by simpa using h)]
def yy (K:Ky P t κ) (kv:α->Value) (m:List (κ×α)) (r:Nat) (H:Hp):Prop:=
 ∃bs c,bs.length=m.length/\(r,Obj.map (gZ K kv m bs).toArray c)∈H
def cV (K:Ky P t κ) (kv:α->Value) (m:List (κ×α)) (r:Nat) (H:Hp):Prop:=
 ∃bs c,bs.length=m.length/\(bs.Nodup/\ ∀b∈bs,b<c)/\H=[(r,Obj.map (gZ K kv m bs).toArray c)]
theorem cV.r {K:Ky P t κ} {kv:α->Value} {m:List (κ×α)} {r:Nat} {H:Hp} (h:cV K kv m r H):yy K kv m r H:=by
 obtain⟨bs,c,h1,_,rfl⟩:=h;exact⟨bs,c,h1,List.mem_cons_self ..⟩
theorem yy.mono {K:Ky P t κ} {kv:α->Value} {m:List (κ×α)} {r:Nat} {H H':Hp} (h:yy K kv m r H) (hs: ∀c∈H,c∈H'):yy K kv m r H':=by
 obtain⟨bs,c,h1,h2⟩:=h;exact⟨bs,c,h1,hs _ h2⟩
theorem oJ {K:Ky P t κ} {kv:α->Value} {HL:List Hp} {j:Nat} {Hj:Hp} {m:List (κ×α)} {r:Nat} (h:cV K kv m r Hj) (hj:idx j HL=some Hj):yy K kv m r HL.flatten:=
 h.r.mono λ_ hc=>gx (by rw[<-idx_eq];exact hj) hc
section rules
theorem qa [Inhabited α] (T:Ty P) {mt et:TypeId} (KK:Ky P t κ) (kv:α->Value) {x ix:Operand} {m:List (κ×α)} {r:Nat} {k:κ} {b:Bool} {sz by':Nat}
 (aT:o.op= .lookup mt x ix b) (hx:ev env x=some (.map (some r))) (hk:ev env ix=some (KK.enc k)) (hu:T.bW mt=some (.map t et))
 (hi:T.inf et=some (sz,by',kv default)) (hm:yy KK kv m r H):
 gU W P n env H o (bif b then .tuple #[kv (aR m k),.bool (bR m k)] else kv (aR m k)):=by
 intro t' w s ow;obtain⟨bs,c,hl,hm⟩:=hm;have hb:=ow.lookup hm;unfold execOp;have h1:=PD KK kv w m bs k hl;have h0:(Instr.lookup mt (.map (some r)) (KK.enc k) b).run P w= .ok (bif b then .tuple #[kv (aR m k),.bool (bR m k)] else kv (aR m k)) w:=by
  simp only[Instr.lookup,Sem.run_bind,cW hu,Result.andThen_ok,MapKept.run_getObj_map hb,KK.check,h1]
  cases hp:gD m k with
  |none=>
   have:=agG hp
   cases b<;>simp[aR,bR,this,Bl hi,Result.andThen,h1,hp]
  |some j=>
   obtain⟨v,h2,h3⟩:=KY hp
   cases b<;>simp[aR,bR,h2,h3,Result.andThen,h1,hp]
 simp only[aT,bG s hx,bG s hk,Sem.run_bind,h0,Result.andThen_ok]
 rfl
theorem Na (T:Ty P) {mt et:TypeId} (KK:Ky P t κ) (kv:α->Value) {x:Operand} {m:List (κ×α)} {r:Nat}
 (aT:o.op= .call ⟨.builtin .len,#[x],#[mt]⟩) (hx:ev env x=some (.map (some r))) (hu:T.bW mt=some (.map t et)) (hm:yy KK kv m r H):
 gU W P n env H o (.int .i64 (m.length:Nat)):=by
 intro t' w s ow;obtain⟨bs,c,hl,hm⟩:=hm;have hb:=ow.lookup hm;obtain⟨cs,hr⟩:=HX (P:=P) (t:=t') w aT;rw[hr];simp only[List.map_toArray,List.map_cons,List.map_nil,bG s hx,builtin,Builtin.len_,Sem.run_bind,List.getElem?_toArray,List.getElem?_cons_zero,Sem.run_pure,Result.andThen_ok,cW hu,MapKept.run_getObj_map hb];simp[goInt,abQ KK kv m bs hl]
theorem Lm (ow:bk W w ((b,.map es c)::Hr)):
 ∃w',(setObj b (.map D8 c')).run P w= .ok () w'/\bk W w' ((b,.map D8 c')::Hr):=by
 have hb:=ow.lookup (List.mem_cons_self ..);refine⟨_,MapKept.run_setObj_map _ hb,?_⟩;exact ow.turn (o':= .map D8 c') (by rfl) rfl rfl rfl
theorem vt (T:Ty P) {d mt et:TypeId} (KK:Ky P t κ) (kv:α->Value) {rv:Option Operand} (hs:slot n ops env i=some (o,d)) (aT:o.op= .makeMap mt rv) (hu:T.bW mt=some (.map t et))
 (hr:match rv with |none=>True |some x=> ∃k j,ev env x=some (.int k j))
 (h: ∀r H',cV KK kv ([]:List (κ×α)) r H'->aJ W n K ((d,.map (some r))::env) (HL++[H'])):aJ W n (wpOp P ops Q i K) env HL:=by
 obtain⟨ho,hw,hd,hn⟩:=vf hs;refine yF (β:={p:Nat×Hp // cV KK kv ([]:List (κ×α)) p.1 p.2}) (V:=λp=> .map (some p.1.1)) (G:=λp=>(HL++[p.1.2]).flatten) ho hw hd hn (λtt w s ow=>?_) (λp=>h _ _ p.2);refine⟨⟨(w.heap.size,[(w.heap.size,.map #[] 0)]),⟨[],0,rfl,by simp,rfl⟩⟩,w.alloc (.map #[] 0),?_,C_ _ ow⟩
 unfold execOp
 cases rv with
 |none=>simp[aT,Instr.makeMap]
 |some x=>
  obtain⟨k,j,hx⟩:=hr;simp[aT,Instr.makeMap,cW hu,bG s hx,asInt,asIntOf]
theorem ajS (T:Ty P) {mt et:TypeId} (KK:Ky P t κ) (kv:α->Value) {m:List (κ×α)} {r g:Nat} {k:κ} {v:α} {Hj:Hp} {w:World}
 (hu:T.bW mt=some (.map t et)) (hj:idx g HL=some Hj) (so:cV KK kv m r Hj) (ow:bk W w HL.flatten):
 ∃H' w',(Instr.mapUpdate mt (.map (some r)) (KK.enc k) (kv v)).run P w= .ok () w'/\cV KK kv (cJ m k v) r H'/\bk W w' (HL.set g H').flatten:=by
 obtain⟨bs,c,hl,⟨hn,hc⟩,rfl⟩:=so;have iY:HL[g]? =some [(r,Obj.map (gZ KK kv m bs).toArray c)]:=by rw[<-idx_eq];exact hj
 have C9:=u_ iY ow;have hb:=C9.lookup (b:=r) (o:=Obj.map (gZ KK kv m bs).toArray c) (by simp)
 have h1:=PD KK kv w m bs k hl
 cases hp:gD m k with
 |none=>
  obtain⟨w',hr,cw⟩:=Lm (P:=P) (D8:=((gZ KK kv m bs).toArray.push ⟨KK.enc k,kv v,c⟩)) (c':=c+1) (by simpa using C9)
  refine⟨[(r,.map (gZ KK kv (cJ m k v) (bs++[c])).toArray (c+1))],w',?_,⟨bs++[c],c+1,by simp[agH hp,hl],⟨?_,?_⟩,rfl⟩,sa iY ?_⟩
  ·simp only[Instr.mapUpdate,Sem.run_bind,cW hu,Result.andThen_ok,MapKept.run_getObj_map hb,KK.check,h1,hp,Option.bind_none,hr]
  ·rw[List.nodup_append];exact⟨hn,by simp,λa ha b hb=>by simp at hb;subst hb;exact Nat.ne_of_lt (hc a ha)⟩
  ·intro b hb;rcases List.mem_append.1 hb with hb |hb
   ·exact Nat.lt_succ_of_lt (hc b hb)
   ·simp at hb;omega
  ·rw[<-R6 KK kv m bs k v c hl hp];simpa using cw
 |some j=>
  obtain⟨v0,h2,h3⟩:=KY hp;obtain⟨b0,h4,h5⟩:=MY KK kv m bs j _ hl h3;obtain⟨w',hr,cw⟩:=Lm (P:=P) (D8:=((gZ KK kv m bs).toArray.modify j λe=>{e with key:=KK.enc k,val:=kv v})) (c':=c) (by simpa using C9)
  refine⟨[(r,.map (gZ KK kv (cJ m k v) bs).toArray c)],w',?_,⟨bs,c,by rw[agI hp,hl],⟨hn,hc⟩,rfl⟩,sa iY ?_⟩
  ·simp only[Instr.mapUpdate,Sem.run_bind,cW hu,Result.andThen_ok,MapKept.run_getObj_map hb,KK.check,h1,hp,Option.bind_some,h3,Option.map_some];simp only[List.getElem?_toArray,h4,Option.map_some,Option.getD_some,KK.stays,Result.andThen_ok,hr]
  ·rw[<-R5 KK kv m bs k v j hl hp];simpa using cw
theorem pX (T:Ty P) {mt et:TypeId} (KK:Ky P t κ) (kv:α->Value) {x ix y:Operand} {m:List (κ×α)} {r g:Nat} {k:κ} {v:α} {Hj:Hp}
 (hs:ss ops env i=some o) (aT:o.op= .mapUpdate mt x ix y) (hx:ev env x=some (.map (some r))) (hk:ev env ix=some (KK.enc k)) (hy:ev env y=some (kv v))
 (hu:T.bW mt=some (.map t et)) (hj:idx g HL=some Hj) (so:cV KK kv m r Hj)
 (h: ∀H',cV KK kv (cJ m k v) r H'->aJ W n K env (HL.set g H')):aJ W n (wpOp P ops Q i K) env HL:=by
 obtain⟨ho,hw,hd⟩:=Bv hs;refine Jq (β:={H':Hp // cV KK kv (cJ m k v) r H'}) (G:=λp=>(HL.set g p.1).flatten) ho hw hd (λtt w s ow=>?_) (λp=>h _ p.2);obtain⟨H',w',hr,uQ,cw⟩:=ajS (P:=P) T (v:=v) (k:=k) KK kv hu hj so ow;refine⟨⟨H',uQ⟩,w',.inl ?_,cw⟩;unfold execOp;simp only[aT,bG s hx,bG s hk,bG s hy,Sem.run_bind,hr,Result.andThen_ok]
 rfl
theorem abx (T:Ty P) {mt et t2 ty:TypeId} (KK:Ky P t κ) (kv:α->Value) {m:List (κ×α)} {r g:Nat} {k:κ} {Hj:Hp} {w:World}
 (hu:T.bW mt=some (.map t et)) (hj:idx g HL=some Hj) (so:cV KK kv m r Hj) (ow:bk W w HL.flatten):
 ∃H' w',(Builtin.delete_ #[mt,t2] ty #[.map (some r),KK.enc k]).run P w= .ok (.tuple #[]) w'/\cV KK kv (dT m k) r H'/\bk W w' (HL.set g H').flatten:=by
 obtain⟨bs,c,hl,⟨hn,hc⟩,rfl⟩:=so;have iY:HL[g]? =some [(r,Obj.map (gZ KK kv m bs).toArray c)]:=by rw[<-idx_eq];exact hj
 have C9:=u_ iY ow;have hb:=C9.lookup (b:=r) (o:=Obj.map (gZ KK kv m bs).toArray c) (by simp)
 have h1:=PD KK kv w m bs k hl
 cases hp:gD m k with
 |none=>
  obtain⟨w',hr,cw⟩:=Lm (P:=P) (D8:=(gZ KK kv m bs).toArray) (c':=c) (by simpa using C9)
  refine⟨[(r,.map (gZ KK kv (dT m k) bs).toArray c)],w',?_,⟨bs,c,by rw[Vy hp,hl],⟨hn,hc⟩,rfl⟩,sa iY ?_⟩
  ·simp[Builtin.delete_,cW hu,MapKept.run_getObj_map hb,KK.check,h1,hp,hr]
  ·rw[Vy hp];simpa using cw
 |some j=>
  obtain⟨v0,h2,h3⟩:=KY hp;obtain⟨e1,e2⟩:=R4 KK kv m bs k j hl hp;obtain⟨w',hr,cw⟩:=Lm (P:=P) (D8:=((gZ KK kv m bs).toArray.eraseIdxIfInBounds j)) (c':=c) (by simpa using C9)
  have this:((gZ KK kv m bs).toArray.eraseIdxIfInBounds j)=((gZ KK kv m bs).eraseIdx j).toArray:=by apply Array.ext';simp
  rw[this] at hr cw;refine⟨[(r,.map (gZ KK kv (dT m k) (bs.eraseIdx j)).toArray c)],w',?_,⟨bs.eraseIdx j,c,e2,⟨hn.sublist (List.eraseIdx_sublist ..),λb hb=>hc b (List.mem_of_mem_eraseIdx hb)⟩,rfl⟩,sa iY ?_⟩
  ·simp[Builtin.delete_,cW hu,MapKept.run_getObj_map hb,KK.check,h1,hp,h3,hr]
  ·rw[<-e1];simpa using cw
theorem DZ (T:Ty P) {mt t2 et:TypeId} (KK:Ky P t κ) (kv:α->Value) {x ix:Operand} {m:List (κ×α)} {r g:Nat} {k:κ} {Hj:Hp}
 (ho:ops[i]? =some o) (hw:want ops env o=some true) (hd:o.dst=none) (aT:o.op= .call ⟨.builtin .delete,#[x,ix],#[mt,t2]⟩) (hx:ev env x=some (.map (some r))) (hk:ev env ix=some (KK.enc k))
 (hu:T.bW mt=some (.map t et)) (hj:idx g HL=some Hj) (so:cV KK kv m r Hj)
 (h: ∀H',cV KK kv (dT m k) r H'->aJ W n K env (HL.set g H')):aJ W n (wpOp P ops Q i K) env HL:=by
 refine Jq (β:={H':Hp // cV KK kv (dT m k) r H'}) (G:=λp=>(HL.set g p.1).flatten) ho hw hd (λtt w s ow=>?_) (λp=>h _ p.2);obtain⟨H',w',hr,uQ,cw⟩:=abx (P:=P) T (t2:=t2) (ty:=o.type) (k:=k) KK kv hu hj so ow;refine⟨⟨H',uQ⟩,w',.inr ⟨.tuple #[],?_⟩,cw⟩;obtain⟨cs,hb⟩:=HX (P:=P) (t:=tt) w aT;rw[hb];simp only[List.map_toArray,List.map_cons,List.map_nil,bG s hx,bG s hk,builtin,Sem.run_bind];refine Eq.trans (congrArg (λr=>Result.andThen r _) hr) ?_;simp only[Result.andThen_ok,Sem.run_pure]
end rules
end aha
end
section
def M0 (T:Ty P) (t:TypeId) (a b:Value):Option Bool:=
 match T.bW t,a,b with
 |some (.int _),.int k x,.int k' y=>bif zm k k' then some (x==y) else none
 |some .bool,.bool x,.bool y=>some (x==y)
 |_,_,_=>none
theorem abT {T:Ty P} {t:TypeId} {a b:Value} {e:Bool} (h:M0 T t a b=some e) (d:Nat) (w:World):(Op.equalIn (d+1) t a b).run P w= .ok e w:=by
 unfold M0 at h;split at h
 ·rename_i hu;rename_i k x k' y
  cases hk:zm k k'<;>simp[hk] at h
  subst h;obtain rfl:=KD hk;simp only[Op.equalIn,Sem.run_bind,cW hu,Result.andThen_ok,if_true,Sem.run_pure]
 ·rename_i hu;simp at h;subst h;simp only[Op.equalIn,Sem.run_bind,cW hu,Result.andThen_ok,Sem.run_pure]
 ·cases h
def Ci (T:Ty P) (xs ys:List Value):List Field->Option Bool
 |[]=>some true
 |f::r=>match ET T f.type xs f.offset,ET T f.type ys f.offset with
  |some a,some b=>match M0 T f.type a b,Ci T xs ys r with
   |some e,some e'=>some (e&&e')
   |_,_=>none
  |_,_=>none
theorem abS {T : Ty P} {xs ys : Array Value} (d : Nat) (w : World) : ∀ (fs : List Field) (e : Bool), (∀ f ∈ fs, f.name ≠ "_") → Ci T xs.toList ys.toList fs = some e →
 (forIn (m:=Sem) fs (⟨none,()⟩:Option Bool×Unit) λf _=>do
   if f.name ≠ "_" then
    if !(<-Op.equalIn (d+1) f.type (<-part f.type xs f.offset) (<-part f.type ys f.offset)) then pure (ForInStep.done ⟨some false,()⟩) else pure (ForInStep.yield ⟨none,()⟩)
   else pure (ForInStep.yield ⟨none,()⟩)).run P w= .ok (if e then⟨none,()⟩ else⟨some false,()⟩) w:=by
 intro fs
 induction fs with
 |nil=>intro e _ h;simp[Ci] at h;subst h;simp
 |cons f r ih=>
  intro e hn h;simp only[Ci] at h;split at h
  ·rename_i a b h1 h2;split at h
   ·rename_i e1 e2 h3 h4;simp at h;subst h;have hf:=hn f (by simp)
    rw[List.forIn_cons];simp only[hf,ne_eq,not_false_eq_true,if_true,Sem.run_bind,K8 h1,K8 h2,abT h3,Result.andThen_ok]
    cases e1
    ·simp
    ·simp only[Bool.not_true,Bool.false_eq_true,if_false,Sem.run_pure,Result.andThen_ok,Bool.true_and];exact ih e2 (λf hf=>hn f (by simp[hf])) h4
   ·cases h
  ·cases h
theorem QB {T : Ty P} {t : TypeId} {fs : Array Field} {xs ys : Array Value} {e : Bool} (hu : T.bW t = some (.struct fs)) (hs : P.stoodInHeld t = false) (hn : fs.toList.all (fun f => f.name != "_") = true)
 (h:Ci T xs.toList ys.toList fs.toList=some e) (w:World):(Op.equal t (.agg xs) (.agg ys)).run P w= .ok e w:=by
 show(Op.equalIn (9998+1+1) t _ _).run P w=_
 generalize 9998=d
 have tk : ∀ f ∈ fs.toList, f.name ≠ "_" := fun f hf => by simpa using List.all_eq_true.1 hn f hf
 have:=abS (P:=P) d w fs.toList e tk h;rw[Op.equalIn];simp only[Sem.run_bind,cW hu,Result.andThen_ok,run_program,hs,Bool.false_eq_true,if_false];rw[<-Array.forIn_toList];refine Eq.trans (congrArg (λr=>Result.andThen r _) this) ?_
 cases e<;>simp
section rules
theorem SL {t:TypeId} (h:P.eqGuardType P.depth t=false):(eqGuard op t x y (.agg a) (.agg b)).run P w= .ok () w:=by
 unfold eqGuard;rw[Sem.run_ite];refine KE (λ_=>rfl) (λ_=>?_);simp[h]
theorem acd (T:Ty P) (e:Bool) (aT:o.op= .binOp .eql t x y yt) (hx:ev env x=some (.agg xs)) (hy:ev env y=some (.agg ys))
 (hu : T.bW t = some (.struct fs)) (hs : P.stoodInHeld t = false ∧ P.eqGuardType P.depth t = false) (hn : fs.toList.all (fun f => f.name != "_") = true) (h : Ci T xs.toList ys.toList fs.toList = some e) :
 gU W P n env H o (.bool e):=by
 intro t1 w s ow;unfold execOp;simp only[aT,bG s hx,bG s hy];simp only[Sem.run_bind,SL hs.2,Result.andThen_ok,binOp,QB hu hs.1 hn h w,Sem.run_pure]
theorem M_ (T:Ty P) (e:Bool) (aT:o.op= .binOp .neq t x y yt) (hx:ev env x=some (.agg xs)) (hy:ev env y=some (.agg ys))
 (hu : T.bW t = some (.struct fs)) (hs : P.stoodInHeld t = false ∧ P.eqGuardType P.depth t = false) (hn : fs.toList.all (fun f => f.name != "_") = true) (h : Ci T xs.toList ys.toList fs.toList = some e) :
 gU W P n env H o (.bool (!e)):=by
 intro t1 w s ow;unfold execOp;simp only[aT,bG s hx,bG s hy];simp only[Sem.run_bind,SL hs.2,Result.andThen_ok,binOp,QB hu hs.1 hn h w,Sem.run_pure]
end rules
end
section
theorem wi (h1: -9223372036854775808<=x) (h2:x<=9223372036854775807):aa x=x:=by
 unfold aa IntKind.wrap IntKind.signed IntKind.bits;simp;omega
theorem ajU (h1:0<=x) (h2:x<=4294967295):IA x=x:=by
 unfold IA IntKind.wrap IntKind.signed IntKind.bits;simp;omega
theorem ajV (x:Int):fa (bU x):=by
 unfold bU IntKind.wrap IntKind.signed IntKind.bits fa;simp;omega
theorem cI:fuel=18446744073709551616:=by unfold fuel;rfl
theorem bl (h:n<k): ∃q,k=q+1:=⟨k-1,by omega⟩
section lists
variable [Inhabited α]
theorem lB {L:List α} {i c:Int} {v:α} (h0:0<=i) (h1:i<L.length) (c0:0<=c):rd (List.set L i.toNat v) c=if c=i then v else rd L c:=by
 unfold rd
 by_cases hc:c=i
 ·subst hc;rw[if_pos rfl];simp[List.getD,show c.toNat<L.length by omega]
 ·rw[if_neg hc];have:i.toNat≠c.toNat:=U;simp[List.getD,this]
theorem Pt {L:List α} {v:α} {c:Int} (c0:0<=c) (h:c<=L.length):rd (L++[v]) c=if c=L.length then v else rd L c:=by
 unfold rd
 by_cases hc:c=L.length
 ·rw[if_pos hc,hc];simp[List.getD]
 ·rw[if_neg hc];simp[List.getD,List.getElem?_append_left (show c.toNat<L.length by omega)]
theorem zD {L M:List α} {c:Int} (c0:0<=c) (h:c<L.length):rd (L++M) c=rd L c:=by
 unfold rd;simp[List.getD,List.getElem?_append_left (show c.toNat<L.length by omega)]
theorem mJ {L M:List α} {c:Int} (h:L.length<=c):rd (L++M) c=rd M (c-L.length):=by
 unfold rd;have h1: ¬c.toNat<L.length:=U;simp[List.getD,List.getElem?_append_right (show L.length<=c.toNat by omega),show(c-(L.length:Int)).toNat=c.toNat-L.length by omega]
theorem wq {n:Nat} {v:α} {c:Int} (c0:0<=c) (h:c<n):rd (List.replicate n v) c=v:=by
 unfold rd;simp[List.getD,show c.toNat<n by omega]
theorem zF {β:Type} [Inhabited β] {L:List β} {f:β->α} {c:Int} (c0:0<=c) (h:c<L.length):rd (L.map f) c=f (rd L c):=by
 unfold rd;simp[List.getD,show c.toNat<L.length by omega]
theorem EZ {L:List α} {n:Nat} (h:n<L.length):rd L (n:Int)=L[n]:=by simp[rd,h]
theorem yP {a:List α} {i:Int} (h0:0<=i) (h1:i<a.length):a.drop i.toNat=rd a i::a.drop (i+1).toNat:=by
 have aS:i.toNat<a.length:=U;rw[jA aS,show(i+1).toNat=i.toNat+1 by omega]
 exact List.drop_eq_getElem_cons aS
theorem Iv {a:List α} {i:Int} (h0:0<=i) (h1:i<a.length):a.take (i+1).toNat=a.take i.toNat++[rd a i]:=by
 have aS:i.toNat<a.length:=U;rw[jA aS,show(i+1).toNat=i.toNat+1 by omega,List.take_add_one,List.getElem?_eq_getElem aS];rfl
theorem dU {a:List α} {i:Int} (h0:0<=i) (h1:i<a.length):rd a i∈a:=by
 have aS:i.toNat<a.length:=U;rw[jA aS];exact List.getElem_mem aS
theorem jL {a:List α} {x:α} (h:x∈a): ∃i:Int,0<=i/\i<a.length/\rd a i=x:=by
 obtain⟨n,hn,rfl⟩:=List.mem_iff_getElem.1 h;exact⟨n,by omega,by omega,EZ hn⟩
theorem zC {a b:List α} (hl:a.length=b.length) (h: ∀i:Int,0<=i->i<a.length->rd a i=rd b i):a=b:=by
 apply List.ext_getElem hl;intro n h1 h2;have:=h n U U;rwa[EZ h1,EZ h2] at this
theorem va {a:List α} {R:α->α->Prop} (h:a.Pairwise R) {i j:Int} (h0:0<=i) (h1:i<j) (h2:j<a.length):R (rd a i) (rd a j):=by
 have hi:i.toNat<a.length:=U;have hj:j.toNat<a.length:=U;rw[jA hi,jA hj];exact List.pairwise_iff_getElem.1 h _ _ hi hj U
theorem Pu {a:List α} {R:α->α->Prop} (h: ∀i j:Int,0<=i->i<j->j<a.length->R (rd a i) (rd a j)):a.Pairwise R:=by
 rw[List.pairwise_iff_getElem];intro i j hi hj rW;have:=h i j U U U;rwa[EZ hi,EZ hj] at this
end lists
section maps
variable [DecidableEq κ]
theorem Ba (m:List (κ×α)) (x y:κ) (v:α):cS (cJ m x v) y=if x=y then some v else cS m y:=by
 induction m with
 |nil=>simp[cJ,cS]
 |cons e r ih=>
  simp only[cJ,cS]
  by_cases h1:e.1=x
  ·rw[if_pos h1];simp only[cS]
   by_cases h2:x=y
   ·simp[h2]
   ·simp[h2,h1]
  ·rw[if_neg h1];simp only[cS]
   by_cases h2:e.1=y
   ·rw[if_pos h2,if_pos h2,if_neg (λe'=>h1 (h2.trans e'.symm))]
   ·rw[if_neg h2,if_neg h2,ih]
theorem ags {m:List (κ×α)} {x:κ}:cS m x=none↔x∉m.map (·.1):=by
 induction m with
 |nil=>simp[cS]
 |cons e r ih=>
  simp only[cS,List.map_cons,List.mem_cons,not_or]
  by_cases h:e.1=x
  ·rw[if_pos h];simp[h]
  ·rw[if_neg h,ih];exact⟨λq=>⟨λz=>h z.symm,q⟩,λq=>q.2⟩
theorem KV {m:List (κ×α)} (hn:(m.map (·.1)).Nodup) (x y:κ):cS (dT m x) y=if x=y then none else cS m y:=by
 induction m with
 |nil=>simp[dT,cS]
 |cons e r ih=>
  simp only[List.map_cons,List.nodup_cons] at hn;simp only[dT,cS]
  by_cases h1:e.1=x
  ·rw[if_pos h1]
   by_cases h2:x=y
   ·rw[if_pos h2,ags,<-h2,<-h1];exact hn.1
   ·rw[if_neg h2,if_neg (λe'=>h2 (h1.symm.trans e'))]
  ·rw[if_neg h1];simp only[cS]
   by_cases h2:e.1=y
   ·rw[if_pos h2,if_pos h2,if_neg (λe'=>h1 (h2.trans e'.symm))]
   ·rw[if_neg h2,if_neg h2,ih hn.2]
theorem EN (m:List (κ×α)) (x y:κ) (v:α):bR (cJ m x v) y=(decide (x=y)||bR m y):=by
 unfold bR;rw[Ba]
 by_cases h:x=y<;>simp[h]
theorem agu {m:List (κ×α)} (hn:(m.map (·.1)).Nodup) (x y:κ):bR (dT m x) y=(!decide (x=y)&&bR m y):=by
 unfold bR;rw[KV hn]
 by_cases h:x=y<;>simp[h]
theorem u5 [Inhabited α] (m:List (κ×α)) (x y:κ) (v:α):aR (cJ m x v) y=if x=y then v else aR m y:=by
 unfold aR;rw[Ba]
 by_cases h:x=y<;>simp[h]
theorem VC [Inhabited α] {m:List (κ×α)} (hn:(m.map (·.1)).Nodup) (x y:κ):aR (dT m x) y=if x=y then default else aR m y:=by
 unfold aR;rw[KV hn]
 by_cases h:x=y<;>simp[h]
theorem agK [Inhabited α] {m:List (κ×α)} {x:κ} {v:α} (h:cS m x=some v):aR m x=v:=by simp[aR,h]
theorem HA {m:List (κ×α)} {x:κ} {v:α} (h:cS m x=some v):bR m x=true:=by simp[bR,h]
theorem agy {m:List (κ×α)} {x:κ} {v:α}:(cJ m x v).map (·.1)=if x∈m.map (·.1) then m.map (·.1) else m.map (·.1)++[x]:=by
 induction m with
 |nil=>simp[cJ]
 |cons e r ih=>
  simp only[cJ]
  by_cases h:e.1=x
  ·rw[if_pos h];simp[h]
  ·rw[if_neg h];have h': ¬x=e.1:=λq=>h q.symm
   simp only[List.map_cons,ih,List.mem_cons,h',false_or];split<;>simp
theorem CW {m:List (κ×α)} (hn:(m.map (·.1)).Nodup) (x:κ) (v:α):((cJ m x v).map (·.1)).Nodup:=by
 rw[agy];split
 ·exact hn
 ·rw[List.nodup_append];exact⟨hn,by simp,λa ha b hb e=>by simp at hb;subst hb;subst e;contradiction⟩
theorem agq {m:List (κ×α)} {x:κ}:(dT m x).Sublist m:=by
 induction m with
 |nil=>simp[dT]
 |cons e r ih=>
  simp only[dT]
  by_cases h:e.1=x
  ·rw[if_pos h];exact List.sublist_cons_self ..
  ·rw[if_neg h];exact ih.cons_cons e
theorem KS {m:List (κ×α)} (hn:(m.map (·.1)).Nodup) (x:κ):((dT m x).map (·.1)).Nodup:=hn.sublist (agq.map _)
theorem VB {m:List (κ×α)} {x:κ} {v:α}:(cJ m x v).length=if bR m x=true then m.length else m.length+1:=by
 induction m with
 |nil=>simp[cJ,bR,cS]
 |cons e r ih=>
  simp only[cJ]
  by_cases h:e.1=x
  ·rw[if_pos h];simp[bR,cS,h]
  ·rw[if_neg h];have:bR (e::r) x=bR r x:=by simp[bR,cS,h]
   rw[this];simp only[List.length_cons,ih];split<;>rfl
theorem agp {m:List (κ×α)} {x:κ}:(dT m x).length=if bR m x=true then m.length-1 else m.length:=by
 induction m with
 |nil=>simp[dT,bR,cS]
 |cons e r ih=>
  simp only[dT]
  by_cases h:e.1=x
  ·rw[if_pos h];simp[bR,cS,h]
  ·rw[if_neg h];have h2:bR (e::r) x=bR r x:=by simp[bR,cS,h]
   rw[h2];simp only[List.length_cons,ih];split
   ·rename_i hh;have:r≠[]:=by intro e';subst e';simp[bR,cS] at hh
    have:0<r.length:=List.length_pos_iff.2 this;omega
   ·rfl
end maps
end
section
section rules
variable {HL : List Hp}
theorem JM (T:Ty P) (aT:o.op= .build t parts)
 (hu:T.bW t=some (.array len e)) (hi:T.inf t=some (s2,b2,z2)) (he:T.inf e=some (sz,by',z)) (hv:(parts.toList.mapM λp=>(ev env p.2).map λv=>(p.1,v))=some vs)
 (hf:vH (λi=>some (i*sz,sz)) (bJ z2) vs=some cs):gU W P n env H o (.agg cs.toArray):=by
 intro t' w s ow;unfold execOp;have h1:bJ z2=(z2.cells).toList:=(rM z2).symm;rw[h1] at hf;have h2:=M8 _ _ _ _ hf;have h4:=M3 s hv;have h6:(parts.map λ(x:Nat×Operand)=>(x.1,Act.eval ⟨t',[]⟩ x.2)).toList=vs:=by rw[<-h4];simp
 simp only[aT,Instr.build,Sem.run_bind,Bl hi,Result.andThen_ok,cW hu,jZ he,h6,h2,Sem.run_pure]
theorem Sr [Inhabited α] (T:Ty P) (k:Fl α) (xs:List α) (aT:o.op= .index t x ix)
 (hx:ev env x=some (.agg (row k xs).toArray)) (za:ev env ix=some (.int kk j)) (hu:T.bW t=some (.array len e)) (he:T.inf e=some (sz,by',z)) (hue:T.bW e=some td) (ha:pc td=false)
 (hk:k.size=sz) (hl:xs.length=len) (hb:0<=j/\j<(xs.length:Int)) (hv:idx 0 (k.enc (rd xs j))=some v):gU W P n env H o v:=by
 intro t' w s ow;unfold execOp;have hj:j.toNat<xs.length:=U;have hp:=k.pos;have hg:=Dk k xs j.toNat 0 hj hp;rw[jA hj,idx_eq] at hv;rw[hv,hk,Nat.add_zero] at hg;have hc:0<=j/\j<(len:Int):=U;have ae8:(part e (row k xs).toArray (j.toNat*sz)).run P w= .ok v w:=by
  refine K8 (T:=T) ?_ w;unfold ET;simp only[hue,he,ha,cond_false,idx_eq];exact hg
 simp only[aT,bG s hx,bG s za,Instr.index,asIntOf,Sem.run_bind,Sem.run_pure,Result.andThen_ok,cW hu,Sem.run_ite,hc,and_self,if_true,jZ he,ae8]
theorem nL (hm:(b,Obj.cells arr E fr)∈F) (hj:idx j HL=some F) (hv:idx off arr.toList=some v):
 ∃arr E fr,(b,Obj.cells arr E fr)∈HL.flatten/\arr[off]? =some v:=
 ⟨arr,E,fr,gx (by rw[<-idx_eq];exact hj) hm,by rw[idx_eq] at hv;simpa using hv⟩
theorem afm (hm:(b,Obj.cells arr E fr)∈F) (hj:idx j HL=some F) (hv:(arr.toList.drop off).take cs.length=cs):
 ∃arr E fr,(b,Obj.cells arr E fr)∈HL.flatten/\ ∀j v,cs[j]? =some v->arr[off+j]? =some v:=
 ⟨arr,E,fr,gx (by rw[<-idx_eq];exact hj) hm,λj v h=>by
   rw[<-hv] at h;have hl:=(List.getElem?_eq_some_iff.1 h).1;rw[List.getElem?_take_of_lt (by simp at hl;omega),List.getElem?_drop] at h
   simpa using h⟩
theorem qh (hm:c∈F) (hj:idx j HL=some F):c∈HL.flatten:=gx (by rw[<-idx_eq];exact hj) hm
theorem zu (hj:idx j HL=some ((b,ob)::Hr)):(b,ob)∈HL.flatten:=gx (by rw[<-idx_eq];exact hj) (List.mem_cons_self ..)
end rules
theorem aj.pre (so:aj k E xs a cap H) (h:0<=(0:Int)/\0<=hi/\hi<=(xs.length:Int)):
 aj k E (aA xs 0 hi) (gm a cap (Int.toNat 0) k.size) (cap-Int.toNat 0) H:=by
 have hs:gm a cap (Int.toNat 0) k.size=a:=by
  unfold gm;split
  ·rfl
  ·cases a with
   |none=>rfl
   |some ad=>simp[Addr.add]
 have hx:aA xs 0 hi=xs.take hi.toNat:=by simp[aA]
 rw[hs,hx,show cap-Int.toNat 0=cap by simp]
 rcases so with⟨h1,h2,h3,h4⟩ |⟨b,pre,post,h1,h2,h3,h4⟩
 ·exact .inl ⟨h1,by rw[h2];simp,h3,h4⟩
 ·refine .inr ⟨b,pre,row k (xs.drop hi.toNat)++post,h1,?_,by simp;omega,?_⟩
  ·rw[h2];have:row k xs=row k (xs.take hi.toNat)++row k (xs.drop hi.toNat):=by rw[<-qn,List.take_append_drop]
   rw[this];simp
  ·simp only[List.length_append,lE,List.length_drop,List.length_take];have e:(cap-min hi.toNat xs.length)*k.size<=(xs.length-hi.toNat+(cap-xs.length))*k.size:=Nat.mul_le_mul_right _ U;rw[Nat.add_mul] at e;omega
end
section
section
variable {k : Fl α}
theorem aj.U8 (so:aj k E xs a cap Hj) (hc:xs=[]->a=none):Option.isNone a=List.isEmpty xs:=by
 cases a with
 |none=>
  rcases so with⟨_,h,_,_⟩ |⟨b,pre,post,h,_⟩
  ·subst h;rfl
  ·cases h
 |some ad=>
  cases xs with
  |nil=>cases hc rfl
  |cons x r=>rfl
theorem ace (T:Ty P) (aT:o.op= .binOp .eql t x y yt) (hx:ev env x=some (.slice a m cap)) (hy:ev env y=some (.slice none n' c'))
 (hu:T.bW t=some (.slice e)) (so:aj k E xs a cap Hj) (hc:xs=[]->a=none):gU W P n env H o (.bool (List.isEmpty xs)):=by
 intro t1 w s ow;unfold execOp;simp only[aT,bG s hx,bG s hy];have h:yJ T .eql t (.slice a m cap) (.slice none n' c')=some (.bool a.isNone):=by simp[yJ,hu]
 rw[Sem.run_bind,My h w,so.U8 hc];rfl
theorem acf (T:Ty P) (aT:o.op= .binOp .neq t x y yt) (hx:ev env x=some (.slice a m cap)) (hy:ev env y=some (.slice none n' c'))
 (hu:T.bW t=some (.slice e)) (so:aj k E xs a cap Hj) (hc:xs=[]->a=none):gU W P n env H o (.bool (!List.isEmpty xs)):=by
 intro t1 w s ow;unfold execOp;simp only[aT,bG s hx,bG s hy];have h:yJ T .neq t (.slice a m cap) (.slice none n' c')=some (.bool (!a.isNone)):=by simp[yJ,hu]
 rw[Sem.run_bind,My h w,so.U8 hc];rfl
theorem O' (h:List.isEmpty xs=false∨List.isEmpty ys=false):xs++ys=[]->a=none:=λe=>by
 rw[List.append_eq_nil_iff] at e;rw[e.1,e.2] at h;simp at h
end
end
section
variable {W : World}
variable {P : Program}
section
theorem yU (T:Ty P) (aT:o.op= .indexAddr t x ix)
 (hx:ev env x=some (.pointer (some ⟨b,0,none⟩))) (za:ev env ix=some (.int kk j)) (hu:T.bW t=some (.array m E)) (hi:T.inf E=some (1,by',z))
 (hj:0<=j/\j<(m:Int)):gU W P n env H o (.pointer (some ⟨b,j.toNat,none⟩)):=by
 intro t' w s ow;obtain⟨h0,h1⟩:=hj;unfold execOp;simp only[aT,bG s hx,bG s za,Instr.indexAt,Instr.sureAddr,asIntOf,Sem.run_bind,Sem.run_pure,Result.andThen_ok,cW hu,Sem.run_ite,h0,h1,and_self,if_true,jZ hi]
 congr 3
 unfold Addr.add;split
 ·rename_i h;have:j.toNat=0:=U;simp[this]
 ·simp
end
section
theorem Zs {x:Code} {σ:Type} (I:σ->Prop) (E:σ->Env) (G:σ->List Hp) (h1:At W n (x.wp P (Exit.then (DS W n I E G) Q)) env H)
 (h2: ∀s,I s->aJ W n (Q .normal) (E s) (G s)):At W n (x.wp P Q) env H:=by
 refine h1.mono λa w h=>wp_mono h λe a w h=>?_
 cases e with
 |normal=>
  obtain⟨s,hi,t,rfl,sl,o⟩:=h;exact h2 s hi t w sl o
 |_=>exact h
end
theorem mO (h:0<=lo/\lo<=hi/\hi<=(xs.length:Int)) (hc:xs.length<=cap):(aA xs lo hi).length<=cap-lo.toNat:=by
 have:=i_ h;omega
end
section
variable {W : World}
variable {P : Program}
abbrev Hd:=Option Addr×Nat×Nat
def uP (h:Hd):Value:= .slice h.1 h.2.1 h.2.2
section rules
variable {κ α : Type} [DecidableEq κ] {t : TypeId} {k : Fl α} {E : TypeId}
variable {T : Ty P} {n : Nat} {Q : Exit -> Act -> World -> Prop} {env : Env} {HL : List Hp} {ops : Array Oper} {i : Nat} {K : Act -> World -> Prop} {o : Oper}
theorem Gi (T:Ty P) {mt et:TypeId} (KK:Ky P t κ) {x ix:Operand} {r:Nat} {kx:κ} {v:Hd} {sz by':Nat}
 (aT:o.op= .lookup mt x ix false) (hx:ev env x=some (.map (some r))) (hk:ev env ix=some (KK.enc kx)) (hu:T.bW mt=some (.map t et))
 (hi:T.inf et=some (sz,by',.slice none 0 0)) (hm: ∃hs,yy KK uP hs r H/\aR hs kx=v):
 gU W P n env H o (.slice v.1 v.2.1 v.2.2):=by
 obtain⟨hs,h1,h2⟩:=hm;have:=qa (W:=W) (n:=n) (o:=o) T KK uP (k:=kx) (b:=false) (sz:=sz) (by':=by') aT hx hk hu hi h1
 rw[h2] at this;exact this
end rules
end
section
variable {W : World}
variable {P : Program}
open Go.ChangeMaps (setBlock)
section rules
variable {κ α : Type} [DecidableEq κ] {t : TypeId} {k : Fl α} {E : TypeId}
variable {T : Ty P} {n : Nat} {Q : Exit -> Act -> World -> Prop} {env : Env} {HL : List Hp} {ops : Array Oper} {i : Nat} {K : Act -> World -> Prop} {o : Oper}
end rules
end
section
structure Nk (α β γ:Type) where
 kin:Fl γ
 ein:TypeId
 kh:Fl β
 get:α->List γ
 set:α->List γ->α
 hd:α->Option Addr->Nat->β
 akn: ∀x l,get (set x l)=l
end
section
def xR (q:IntKind) (x:Int×Int):Value:= .agg #[.int q x.1,.int q x.2]
theorem Lh (T:Ty P) (hu:T.bW et=some (.int q)) (hv:cs[i]? =some v) (w:World):(part et cs i).run P w= .ok v w:=by
 unfold part;simp[E5 hu,pc,hv]
theorem air (T:Ty P) (ht:T.bW t=some (.array 2 et)) (hu:T.bW et=some (.int q)) (hi:T.inf et=some (1,by',z)) (w:World) (x y:Int×Int):
 (Op.equal t (xR q x) (xR q y)).run P w= .ok (decide (x=y)) w:=by
 show(Op.equalIn (9998+1+1) t _ _).run P w=_
 generalize 9998=d;have e0: ∀a b:Int,(Op.equalIn (d+1) et (.int q a) (.int q b)).run P w= .ok (a==b) w:=λa b=>by
  simp only[Op.equalIn,Sem.run_bind,cW hu,Result.andThen_ok,if_true,Sem.run_pure]
 have p0: ∀a b:Int,(part et #[.int q a,.int q b] 0).run P w= .ok (.int q a) w:=λa b=>Lh T hu rfl w
 have p1: ∀a b:Int,(part et #[.int q a,.int q b] 1).run P w= .ok (.int q b) w:=λa b=>Lh T hu rfl w
 unfold xR;rw[Op.equalIn];simp only[Sem.run_bind,cW ht,Result.andThen_ok,jZ hi];obtain⟨x1,x2⟩:=x;obtain⟨y1,y2⟩:=y
 by_cases h1:x1=y1
 ·by_cases h2:x2=y2
  ·simp[List.range',p0,p1,e0,h1,h2]
  ·simp[List.range',p0,p1,e0,h1,h2]
 ·simp[List.range',p0,p1,e0,h1]
theorem Sd (T:Ty P) (ht:T.bW t=some (.array 2 et)) (hu:T.bW et=some (.int q)) (hi:T.inf et=some (1,by',z)) (w:World) (x:Int×Int):
 ∀(es:List MapEntry) (ks:List (Int×Int)) (j:Nat),es.map (·.key)=ks.map (xR q)->
  (Instr.findAsking t (xR q x) es j).run P w= .ok ((gD (ks.map λk=>(k,())) x).bind λi=>(es[i]?).map λe=>(i+j,e.val)) w
 |[],[],_,_=>rfl
 |[],_::_,_,h=>by simp at h
 |_::_,[],_,h=>by simp at h
 |e::es,k::ks,j,h=>by
  simp only[List.map_cons,List.cons.injEq] at h;obtain⟨h1,h2⟩:=h;have:=air T ht hu hi w x k;simp only[Instr.findAsking,h1,Sem.run_bind,this,Result.andThen_ok,List.map_cons,gD]
  by_cases hk:k=x
  ·subst hk;simp
  ·have hk': ¬x=k:=λq=>hk q.symm
   simp only[hk,hk',decide_false,Bool.false_eq_true,if_false];rw[Sd T ht hu hi w x es ks (j+1) h2]
   cases hp:gD (ks.map λk=>(k,())) x with
   |none=>simp
   |some i=>
    simp only[Option.map_some,Option.bind_some,List.getElem?_cons_succ];rw[show i+1+j=i+(j+1) by omega]
def Ky.pair (T:Ty P) {t et:TypeId} (q:IntKind) {by':Nat} {z:Value} (ht:T.bW t=some (.array 2 et)) (hu:T.bW et=some (.int q)) (hi:T.inf et=some (1,by',z)) (ht':P.underlying t=some (.array 2 et)) (py:P.underlying et=some (.int q)):Ky P t (Int×Int) where
 enc:=xR q
 check:=λe w x=>by
  have c0: ∀a:Int,(Instr.checkKey e 9999 et (.int q a)).run P w= .ok () w:=λa=>MapKept.run_checkKey py (by simp[MapKept.IsKey]) e 9998
  have p0: ∀a b:Int,(part et #[.int q a,.int q b] 0).run P w= .ok (.int q a) w:=λa b=>Lh T hu rfl w
  have p1: ∀a b:Int,(part et #[.int q a,.int q b] 1).run P w= .ok (.int q b) w:=λa b=>Lh T hu rfl w
  obtain⟨a,b⟩:=x
  show(Instr.checkKey e (9999+1) t (xR q (a,b))).run P w=_
  unfold xR;generalize 9999=d at c0;rw[Instr.checkKey];simp[List.range',cW ht,jZ hi,p0,p1,c0]
 find:=λw x es ks h=>by
  have hf:=Sd T ht hu hi w x es ks 0 h;unfold Instr.findKey;simp only[Sem.run_bind,cW ht,Result.andThen_ok]
  cases es with
  |nil=>
   cases ks with
   |nil=>rfl
   |cons _ _=>simp at h
  |cons e es=>
   cases ks with
   |nil=>simp at h
   |cons k ks=>
    simp only[List.map_cons,List.cons.injEq] at h;have:Instr.findNow (.array 2 et) (xR q x) (e::es) 0=none:=by
     simp[Instr.findNow,Instr.sameNow]
    rw[this];simpa using hf
 stays:=λw x=>by
  unfold Instr.keyThatStays xR;simp[Instr.sameBits]
end
section
structure Kd (α:Type) where
 size:Nat
 own:α->List Value->Hp->Prop
 mJ:α->List Value->Hp->Prop
 len: ∀x cs H,own x cs H->cs.length=size
 plain: ∀x cs H,own x cs H-> ∀v∈cs,v.oneCell'=true
 r: ∀x cs H,own x cs H->mJ x cs H
 mono: ∀x cs H H',mJ x cs H->(∀c∈H,c∈H')->mJ x cs H'
 pos:0<size
structure Rw (n:Nat) where
 val:List Value
 len:val.length=n
 plain: ∀v∈val,v.oneCell'=true
instance (n:Nat):Inhabited (Rw n):=⟨⟨List.replicate n (.bool false),by simp,by intro v h;rw[List.mem_replicate] at h;rw[h.2];rfl⟩⟩
def Fl.raw (n:Nat) (h:0<n):Fl (Rw n):=⟨n,λx=>x.val,λx=>x.len,λx=>x.plain,h⟩
theorem Lp {δ:Type} {l:List δ} {j:Nat} {a:δ} (h:l[j]? =some a):l.set j a=l:=by
 obtain⟨hl,he⟩:=List.getElem?_eq_some_iff.1 h;rw[<-he];exact List.set_getElem_self _
theorem Ps [Inhabited δ] (y:δ) (l:List δ) (i:Nat):rd (y::l) ((i+1:Nat):Int)=rd l (i:Int):=by
 unfold rd;have h1:((i+1:Nat):Int).toNat=i+1:=U;have h2:((i:Nat):Int).toNat=i:=U;rw[h1,h2];rfl
theorem Be {HL:List Hp} {j:Nat} {A B:Hp} (h:j<HL.length):(HL.set j (A++B)).flatten.Perm (HL.set j A++[B]).flatten:=by
 have h1:=vI HL j _ (A++B) (List.getElem?_eq_getElem h);have h2:=vI HL j _ A (List.getElem?_eq_getElem h);refine h1.trans ?_;rw[List.flatten_append];simp only[List.flatten_cons,List.flatten_nil,List.append_nil];refine List.Perm.trans ?_ (List.Perm.append_right B h2.symm);rw[List.append_assoc,List.append_assoc];exact List.Perm.append_left A List.perm_append_comm
theorem EU {HL:List Hp} {j q:Nat} {A B:Hp} (hj:HL[j]? =some A) (hq:HL[q]? =some B) (bQ:j≠q):HL.flatten.Perm ((HL.set j (A++B)).set q []).flatten:=by
 have Ks:(HL.set j (A++B))[q]? =some B:=by rw[List.getElem?_set_ne bQ];exact hq
 have ha:=xn HL j A hj;have hb:(HL.set j (A++B)).flatten.Perm ((A++B)++(HL.eraseIdx j).flatten):=vI HL j _ _ hj;have hc:=xn (HL.set j (A++B)) q B Ks;have hd:=vI (HL.set j (A++B)) q B [] Ks;have key:(B++HL.flatten).Perm (B++((HL.set j (A++B)).set q []).flatten):=by
  refine List.Perm.trans ?_ (List.Perm.append_left B (by simpa using hd.symm))
  refine List.Perm.trans ?_ hc;refine List.Perm.trans ?_ hb.symm;refine(List.Perm.append_left B ha).trans ?_;rw[<-List.append_assoc];exact List.Perm.append_right _ List.perm_append_comm
 exact(List.perm_append_left_iff B).1 key
theorem Ck {HL:List Hp} {j:Nat} {A B:Hp} (h:A.Perm B):(HL.set j A).flatten.Perm (HL.set j B).flatten:=by
 by_cases hj:j<HL.length
 ·have h1:=vI HL j _ A (List.getElem?_eq_getElem hj);have h2:=vI HL j _ B (List.getElem?_eq_getElem hj);exact h1.trans ((List.Perm.append_right _ h).trans h2.symm)
 ·rw[List.set_eq_of_length_le U,List.set_eq_of_length_le U]
section
theorem Jo {j:Nat} {A B:Hp} (hj:idx j HL=some (A++B)) (h:aJ W n' F env (HL.set j A++[B])):aJ W n' F env HL:=by
 rw[idx_eq] at hj;have hl:=(List.getElem?_eq_some_iff.1 hj).1;refine pd (λw o=>?_) h;refine o.perm ?_;have e:HL.set j (A++B)=HL:=Lp hj;have:=Be (HL:=HL) (j:=j) (A:=A) (B:=B) hl;rw[e] at this;exact this
theorem f_ (js:List Nat) (hs:qt js HL=(As,R)) (h:aJ W n' F env (R++[As.flatten])):aJ W n' F env HL:=
 pd (λw o=>o.perm ((Xj hs).trans (by
  rw[List.flatten_append];simp only[List.flatten_cons,List.flatten_nil,List.append_nil];exact List.perm_append_comm))) h
theorem Mq (h:aJ W n' F env (R++As)):aJ W n' F env (R++[As.flatten]):=
 pd (λw o=>o.perm (by
  rw[List.flatten_append,List.flatten_append];simp only[List.flatten_cons,List.flatten_nil,List.append_nil];exact List.Perm.refl _)) h
end
section
variable [Inhabited α] (kd : Kd α)
def sE:List α->List (Rw kd.size)->Hp->Prop
 |[],cc,R=>cc=[]/\R=[]
 |x::xs,cc,R=> ∃c Hx vy R',kd.own x c.val Hx/\cc=c::vy/\R=Hx++R'/\sE xs vy R'
def fI (E:TypeId) (xs:List α) (a:Option Addr) (cap:Nat) (H:Hp):Prop:=
 ∃cc H0 R,aj (Fl.raw kd.size kd.pos) E cc a cap H0/\sE kd xs cc R/\H=H0++R
def kU (xs:List α) (a:Option Addr) (H:Hp):Prop:=
 ∃cc,aP (Fl.raw kd.size kd.pos) cc a H/\cc.length=xs.length/\ ∀i,i<xs.length->kd.mJ (rd xs (i:Int)) (rd cc (i:Int)).val H
def vq (E:TypeId) (xs:List α) (a:Option Addr) (cap:Nat) (i:Int) (cs:List Value) (H:Hp):Prop:=
 (0<=i/\i<(xs.length:Int))/\ ∃cc H0 R,aj (Fl.raw kd.size kd.pos) E cc a cap H0/\cc.length=xs.length/\(rd cc i).val=cs/\H=H0++R/\
   ∀x' (c':Rw kd.size) Hy,kd.own x' c'.val Hy-> ∃R2,R2.Perm (R++Hy)/\sE kd (xs.set i.toNat x') (cc.set i.toNat c') R2
def yq (a:Option Addr) (o:Nat) (cs:List Value) (H:Hp):Prop:=
 ∃b off arr E fr,a=some ⟨b,off,none⟩/\(b,Obj.cells arr E fr)∈H/\ ∀f v,cs[f]? =some v->arr[off+o+f]? =some v
variable {kd}
theorem CO: ∀(xs:List α) (cc:List (Rw kd.size)) (R:Hp),sE kd xs cc R->cc.length=xs.length
 |[],_,_,h=>by rw[h.1];rfl
 |x::xs,_,_,h=>by
  obtain⟨c,Hx,vy,R',_,rfl,_,h4⟩:=h;simp[CO xs vy R' h4]
theorem Vo: ∀(xs:List α) (cc:List (Rw kd.size)) (R:Hp) (ys:List α) (dd:List (Rw kd.size)) (S:Hp),sE kd xs cc R->sE kd ys dd S->sE kd (xs++ys) (cc++dd) (R++S)
 |[],_,_,ys,dd,S,h,h2=>by obtain⟨rfl,rfl⟩:=h;exact h2
 |x::xs,_,_,ys,dd,S,h,h2=>by
  obtain⟨c,Hx,vy,R',h1,rfl,rfl,h4⟩:=h;exact⟨c,Hx,vy++dd,R'++S,h1,rfl,by rw[List.append_assoc],Vo xs vy R' ys dd S h4 h2⟩
theorem af9 (h:kd.own x c.val Hx):sE kd [x] [c] Hx:=⟨c,Hx,[],[],h,rfl,by simp,rfl,rfl⟩
theorem OJ (h:kd.own x c.val []): ∀m:Nat,sE kd (List.replicate m x) (List.replicate m c) []
 |0=>⟨rfl,rfl⟩
 |m+1=>⟨c,[],_,[],h,rfl,rfl,OJ h m⟩
theorem KP: ∀(xs:List α) (cc:List (Rw kd.size)) (R:Hp) (i:Nat),sE kd xs cc R->i<xs.length->
 ∃Hx R',kd.own (rd xs (i:Int)) (rd cc (i:Int)).val Hx/\R.Perm (R'++Hx)/\
  ∀x' (c':Rw kd.size) Hy,kd.own x' c'.val Hy-> ∃R2,R2.Perm (R'++Hy)/\sE kd (xs.set i x') (cc.set i c') R2
 |[],_,_,_,_,h=>by simp at h
 |x::xs,_,_,0,h,_=>by
  obtain⟨c,Hx,vy,R',h1,rfl,rfl,h4⟩:=h;exact⟨Hx,R',h1,List.perm_append_comm,λx' c' Hy hy=>⟨Hy++R',List.perm_append_comm,⟨c',Hy,vy,R',hy,rfl,rfl,h4⟩⟩⟩
 |x::xs,_,_,i+1,h,hi=>by
  obtain⟨c,Hx,vy,R',h1,rfl,rfl,h4⟩:=h;obtain⟨H1,R1,e1,e4,e5⟩:=KP xs vy R' i h4 (by simpa using hi)
  refine⟨H1,Hx++R1,by rw[Ps,Ps];exact e1,by rw[List.append_assoc];exact List.Perm.append_left Hx e4,λx' c' Hy hy=>?_⟩
  obtain⟨R2,p2,l2⟩:=e5 x' c' Hy hy;exact⟨Hx++R2,by rw[List.append_assoc];exact List.Perm.append_left Hx p2,⟨c,Hx,_,R2,h1,rfl,rfl,l2⟩⟩
theorem af_ (h:sE kd xs cc R) (hi:i<xs.length):kd.mJ (rd xs (i:Int)) (rd cc (i:Int)).val R:=by
 obtain⟨Hx,R',e1,e2,_⟩:=KP xs cc R i h hi;exact kd.mono _ _ _ _ (kd.r _ _ _ e1) (λc hc=>e2.mem_iff.2 (List.mem_append_right _ hc))
theorem fI.nil:fI kd E ([]:List α) none 0 []:=⟨[],[],[],aj.nil,⟨rfl,rfl⟩,rfl⟩
theorem fI.bT (h:fI kd E xs a cap H):xs.length<=cap:=by
 obtain⟨cc,H0,R,h0,hl,_⟩:=h;rw[<-CO _ _ _ hl];exact h0.bT
theorem fI.r (h:fI kd E xs a cap H):kU kd xs a H:=by
 obtain⟨cc,H0,R,h0,hl,rfl⟩:=h;exact⟨cc,h0.r.mono (λc hc=>List.mem_append_left _ hc),CO _ _ _ hl,λi hi=>kd.mono _ _ _ _ (af_ hl hi) (λc hc=>List.mem_append_right _ hc)⟩
theorem kU.nil:kU kd ([]:List α) none H:=⟨[],.inl rfl,rfl,λi hi=>by simp at hi⟩
theorem kU.mono (h:kU kd xs a H) (hs: ∀c∈H,c∈H'):kU kd xs a H':=by
 obtain⟨cc,h1,h2,h3⟩:=h;exact⟨cc,h1.mono hs,h2,λi hi=>kd.mono _ _ _ _ (h3 i hi) hs⟩
theorem kU.addr {xs:List α} {a:Option Addr} {H:Hp} (h:kU kd xs a H) {i:Int} (h0:0<=i) (h1:i<xs.length): ∃b off,a=some ⟨b,off,none⟩:=by
 obtain⟨cc,h2,h3,_⟩:=h;exact h2.addr h0 (by rw[h3];exact h1)
theorem RS (h:fI kd E xs a cap Hj) (hj:idx j HL=some Hj):kU kd xs a HL.flatten:=
 h.r.mono λ_ hc=>gx (by rw[<-idx_eq];exact hj) hc
theorem kU.view (h:kU kd xs a H) (hj:0<=j/\j<(xs.length:Int)):
 ∃cs,yq a (j.toNat*kd.size) cs H/\kd.mJ (rd xs j) cs H:=by
 obtain⟨cc,h1,h2,h3⟩:=h;obtain⟨b,off,ha⟩:=h1.addr hj.1 (by rw[h2];exact hj.2)
 obtain⟨arr,E,fr,hm,hc⟩:=h1.elem ha hj.1 (by rw[h2];exact hj.2)
 have h4:=h3 j.toNat U;rw[show((j.toNat:Nat):Int)=j by omega] at h4
 exact⟨(rd cc j).val,⟨b,off,arr,E,fr,ha,hm,λf v hv=>hc f v hv⟩,h4⟩
theorem yq.mono (h:yq a o cs H) (hs: ∀c∈H,c∈H'):yq a o cs H':=by
 obtain⟨b,off,arr,E,fr,ha,hm,hc⟩:=h;exact⟨b,off,arr,E,fr,ha,hs _ hm,hc⟩
theorem CH (hj:idx j HL=some Hj) (h:yq a o cs Hj) (ha:a=some ⟨b,off,none⟩) (f:Nat) (hv:idx f cs=some v):
 ∃arr E fr,(b,Obj.cells arr E fr)∈HL.flatten/\arr[off+o+f]? =some v:=by
 obtain⟨b',ES,arr,E,fr,vL,hm,hc⟩:=h;rw[ha] at vL;simp at vL;obtain⟨rfl,rfl⟩:=vL;exact⟨arr,E,fr,gx (by rw[<-idx_eq];exact hj) hm,hc f v (by rw[<-idx_eq];exact hv)⟩
theorem EH (hj:idx j HL=some Hj) (h:yq a o cs Hj) (ha:a=some ⟨b,off,none⟩) (f:Nat)
 (hv:(cs.drop f).take vs.length=vs): ∃arr E fr,(b,Obj.cells arr E fr)∈HL.flatten/\ ∀i v,vs[i]? =some v->arr[off+o+f+i]? =some v:=by
 obtain⟨b',ES,arr,E,fr,vL,hm,hc⟩:=h;rw[ha] at vL;simp at vL;obtain⟨rfl,rfl⟩:=vL;refine⟨arr,E,fr,gx (by rw[<-idx_eq];exact hj) hm,λi v hi=>?_⟩
 rw[<-hv] at hi;have hl:=(List.getElem?_eq_some_iff.1 hi).1;rw[List.getElem?_take_of_lt (by simp at hl;omega),List.getElem?_drop] at hi
 rw[Nat.add_assoc];exact hc (f+i) v hi
theorem vq.cells (h:vq kd E xs a cap i cs H):yq a (i.toNat*kd.size) cs H:=by
 obtain⟨hi,cc,H0,R,h0,hl,rfl,rfl,_⟩:=h;obtain⟨b,off,ha⟩:=h0.r.addr hi.1 (by rw[hl];exact hi.2)
 obtain⟨arr,E',fr,hm,hc⟩:=h0.r.elem ha hi.1 (by rw[hl];exact hi.2)
 exact⟨b,off,arr,E',fr,ha,List.mem_append_left _ hm,λf v hv=>hc f v hv⟩
theorem vq.addr (h:vq kd E xs a cap i cs H): ∃b off,a=some ⟨b,off,none⟩:=by
 obtain⟨b,off,_,_,_,ha,_⟩:=h.cells;exact⟨b,off,ha⟩
theorem vq.bT (h:vq kd E xs a cap i cs H):xs.length<=cap:=by
 obtain⟨hi,cc,H0,R,h0,hl,rfl,rfl,_⟩:=h;rw[<-hl];exact h0.bT
section
theorem Mn {H:Hp} {j:Nat} {i:Int} (hj:idx j HL=some H) (so:fI kd E xs a cap H) (hi:0<=i/\i<(xs.length:Int))
 (h: ∀cs Hx H',kd.own (rd xs i) cs Hx->vq kd E xs a cap i cs H'->aJ W n' F env (HL.set j H'++[Hx])):aJ W n' F env HL:=by
 obtain⟨cc,H0,R,h0,hl,rfl⟩:=so;obtain⟨Hx,R',e1,e2,e3⟩:=KP xs cc R i.toNat hl U;rw[show((i.toNat:Nat):Int)=i by omega] at e1
 refine pd (λw o=>?_) (h (rd cc i).val Hx (H0++R') e1 ⟨hi,cc,H0,R',h0,CO _ _ _ hl,rfl,rfl,e3⟩);rw[idx_eq] at hj;have lv:=(List.getElem?_eq_some_iff.1 hj).1;refine o.perm ?_;have e:HL.set j (H0++R)=HL:=Lp hj;have h1:HL.flatten.Perm (HL.set j ((H0++R')++Hx)).flatten:=by
  conv=>lhs;rw[<-e]
  refine Ck ?_;rw[List.append_assoc];exact List.Perm.append_left H0 e2
 exact h1.trans (Be lv)
theorem Mm {H Hx:Hp} {j q:Nat} {i:Int} {cs:List Value} (x':α) (hj:idx j HL=some H) (so:vq kd E xs a cap i cs H) (hq:idx q HL=some Hx) (bQ:Nat.beq j q=false) (hx:kd.own x' cs Hx)
 (h: ∀H',fI kd E (xs.set i.toNat x') a cap H'->aJ W n' F env ((HL.set j H').set q [])):aJ W n' F env HL:=by
 obtain⟨hi,cc,H0,R,h0,hl,h2,rfl,h3⟩:=so;have qT:j≠q:=λe=>by subst e;simp at bQ
 obtain⟨R2,p2,l2⟩:=h3 x' (rd cc i) Hx (by rw[h2];exact hx)
 have ec:cc.set i.toNat (rd cc i)=cc:=by
  rw[jA U];exact List.set_getElem_self _
 rw[ec] at l2;refine pd (λw o=>?_) (h (H0++R2) ⟨cc,H0,R2,h0,l2,rfl⟩);rw[idx_eq] at hj hq;refine o.perm ?_;refine(EU hj hq qT).trans ?_;have: ∀(L:List Hp) (A:Hp),((L.set j A).set q [])=((L.set q []).set j A):=λL A=>List.set_comm _ _ qT
 rw[this,this];refine Ck ?_;rw[List.append_assoc];exact List.Perm.append_left H0 p2.symm
end
section rules
theorem Mo (T:Ty P) {b off t:Nat} {x y:Operand} {v:Value} {sz by' cap:Nat} {z:Value} {Hj:Hp} {xs:List α} {a:Option Addr} {j:Int} {cs:List Value} (g f:Nat) (sU:List Value)
 (qU:ss ops env i=some o) (aT:o.op= .store t x y) (hx:ev env x=some (.pointer (some ⟨b,off+j.toNat*kd.size+f,none⟩)))
 (hy:ev env y=some v) (hi:T.inf t=some (sz,by',z)) (hj:idx g HL=some Hj) (hs:vq kd E xs a cap j cs Hj) (ha:a=some ⟨b,off,none⟩)
 (hl:Nat.beq (bJ v).length sz=true) (hf:Nat.ble (f+sz) kd.size=true) (hp:(bJ v).all (·.oneCell')=true) (he:gk cs f (bJ v)=sU)
 (h: ∀H',vq kd E xs a cap j sU H'->aJ W n K env (HL.set g H')):aJ W n (wpOp P ops Q i K) env HL:=by
 obtain⟨hb,cc,H0,R,h0,lO,h2,rfl,h3⟩:=hs;have iY:=hj;rw[idx_eq] at hj;have nf:=(List.getElem?_eq_some_iff.1 hj).1;refine Jo iY ?_;have hg:idx g (HL.set g H0++[R])=some H0:=by
  rw[idx_eq,List.getElem?_append_left (by simpa using nf)];exact List.getElem?_set_self nf
 have hlen:cs.length=kd.size:=by rw[<-h2];exact(rd cc j).len
 have hle:=Nat.le_of_ble_eq_true hf;have UA:=Nat.eq_of_beq_eq_true hl;have Uh:sU.length=kd.size/\ ∀v∈sU,v.oneCell'=true:=by
  subst he;refine⟨by unfold gk;simp;omega,λu hu=>?_⟩
  unfold gk at hu;rcases List.mem_append.1 hu with hu |hu
  ·exact(rd cc j).plain u (by rw[h2];exact List.mem_of_mem_take hu)
  ·rcases List.mem_append.1 hu with hu |hu
   ·exact List.all_eq_true.1 hp u hu
   ·exact(rd cc j).plain u (by rw[h2];exact List.mem_of_mem_drop hu)
 refine kX (k:=Fl.raw kd.size kd.pos) T g f (⟨sU,Uh.1,Uh.2⟩:Rw kd.size) qU aT hx hy hi hg h0 ha ⟨hb.1,by rw[lO];exact hb.2⟩ hl hf ?_ (λH' Bw=>?_)
 ·show sU=gk (rd cc j).val f (bJ v)
  rw[h2];exact he.symm
 ·refine pd (λw o=>?_) (h (H'++R) ⟨hb,_,H',R,Bw,by simp[lO],?_,rfl,λx' c' Hy hy=>?_⟩)
  ·refine o.perm ?_;have e:(HL.set g H0++[R]).set g H'=HL.set g H'++[R]:=by
    rw[List.set_append_left _ _ (by simpa using nf)];simp
   rw[e];exact(Be nf).symm
  ·rw[jA (by simp;omega)];simp
  ·obtain⟨R2,p2,l2⟩:=h3 x' c' Hy hy;exact⟨R2,p2,by simpa using l2⟩
theorem B6 (T:Ty P) {d g q:Nat} {s x:Operand} {t t' E':TypeId} {xs ys:List α} {a a2:Option Addr} {cap cap2 sz by':Nat} {z:Value} {Hj Hq:Hp}
 (qU:slot n ops env i=some (o,d)) (aT:o.op= .call ⟨.builtin .append,#[s,x],#[t,t']⟩)
 (hs:ev env s=some (.slice a xs.length cap)) (hx:ev env x=some (.slice a2 ys.length cap2)) (hu:T.bW t=some (.slice E)) (py:T.bW t'=some (.slice E'))
 (hi:T.inf E=some (sz,by',z)) (hk:kd.size=sz) (hz:(bJ z).length=sz) (hj:idx g HL=some Hj) (so:fI kd E xs a cap Hj) (hq:idx q HL=some Hq) (bQ:Nat.beq g q=false) (sy:fI kd E ys a2 cap2 Hq)
 (hb:xs.length+ys.length<=1099511627776) (iX:Nat.ble by' 128=true)
 (h: ∀a' qN H',fI kd E (xs++ys) a' qN H'->aJ W n K ((d,.slice a' (xs++ys).length qN)::env) ((HL.set g H').set q [])):aJ W n (wpOp P ops Q i K) env HL:=by
 obtain⟨cc,H0,R,h0,hl,rfl⟩:=so;obtain⟨dd,G0,S,g0,gl,rfl⟩:=sy;have qT:g≠q:=λe=>by subst e;simp at bQ
 have l1:=CO _ _ _ hl;have l2:=CO _ _ _ gl;have iY:=hj;have hq':=hq;rw[idx_eq] at hj hq;have nf:=(List.getElem?_eq_some_iff.1 hj).1;have GR:=(List.getElem?_eq_some_iff.1 hq).1;refine Jo iY ?_;have e1:idx g (HL.set g H0++[R])=some H0:=by
  rw[idx_eq,List.getElem?_append_left (by simpa using nf)];exact List.getElem?_set_self nf
 have sr:aP (Fl.raw kd.size kd.pos) dd a2 (HL.set g H0++[R]).flatten:=g0.r.mono (λc hc=>by
  refine gx (j:=q) (Hj:=G0++S) ?_ (List.mem_append_left _ hc);rw[List.getElem?_append_left (by simpa using GR),List.getElem?_set_ne qT];exact hq)
 refine dW (k:=Fl.raw kd.size kd.pos) T qU aT (by rw[l1];exact hs) (by rw[l2];exact hx) hu py hi hk hz e1 h0 sr (by rw[l1,l2];exact hb) iX (λa' qN H' Bw=>?_)
 have hh:=h a' qN (H'++(R++S)) ⟨cc++dd,H',R++S,Bw,Vo _ _ _ _ _ _ hl gl,rfl⟩;have e0:(cc++dd).length=(xs++ys).length:=by simp[l1,l2]
 rw[e0];refine pd (λw o=>?_) hh;have e:(HL.set g H0++[R]).set g H'=HL.set g H'++[R]:=by
  rw[List.set_append_left _ _ (by simpa using nf)];simp
 rw[e] at o;have o2:bk W w ((HL.set g (H'++R))).flatten:=o.perm (Be nf).symm;have EA:(HL.set g (H'++R))[q]? =some (G0++S):=by rw[List.getElem?_set_ne qT];exact hq
 have o3:bk W w ((HL.set g (H'++R)).set q S).flatten:=by
  refine sa EA ?_;have:=u_ EA o2;rw[List.append_assoc] at this;exact this.right
 have hg4:((HL.set g (H'++R)).set q S)[g]? =some (H'++R):=by rw[List.getElem?_set_ne (Ne.symm qT)];exact List.getElem?_set_self nf
 have hq4:((HL.set g (H'++R)).set q S)[q]? =some S:=List.getElem?_set_self (by simpa using GR)
 refine o3.perm ((EU hg4 hq4 qT).trans ?_);have e5:(((HL.set g (H'++R)).set q S).set g (H'++R++S)).set q []=(HL.set g (H'++(R++S))).set q []:=by
  rw[List.set_comm _ _ (Ne.symm qT),List.set_set,List.set_set,List.append_assoc]
 rw[e5]
theorem B7 (T:Ty P) (x:α)
 (qU:slot n ops env i=some (o,d)) (aT:o.op= .buildSlice t 1 parts) (hu:T.bW t=some (.slice E)) (hi:T.inf E=some (sz,by',z)) (hk:kd.size=sz) (hz:(bJ z).length=sz)
 (hn:Nat.ble (1*sz) 16777216=true) (hp:(parts.toList.mapM λp=>(ev env p.2).map λv=>(p.1,v))=some [(0,v)]) (hv:bJ v=c)
 (hq:idx q HL=some Hx) (hx:kd.own x c Hx)
 (h: ∀a H',fI kd E [x] a (List.length [x]) H'->aJ W n K ((d,.slice a (List.length [x]) (List.length [x]))::env) (HL.set q []++[H'])):aJ W n (wpOp P ops Q i K) env HL:=by
 have lO:=kd.len _ _ _ hx;have hcp:=kd.plain _ _ _ hx;rw[idx_eq] at hq;have GR:=(List.getElem?_eq_some_iff.1 hq).1;refine cY (k:=Fl.raw kd.size kd.pos) T [(⟨c,lO,hcp⟩:Rw kd.size)] qU aT hu hi hz hn hp ?_ rfl (λa H' so=>?_)
 ·subst hv;have e:(Nat.beq (bJ v).length sz&&Nat.ble (0*sz+(bJ v).length) ((List.range (1*sz)).map λi=>((bJ z)[i%sz]?).getD default).length)=true:=by
   rw[lO,hk];simp
  simp only[vH,e,cond_true];simp only[row,List.map_cons,List.map_nil,List.flatten_cons,List.flatten_nil,List.append_nil,Fl.raw];have e2:gk ((List.range (1*sz)).map λi=>((bJ z)[i%sz]?).getD default) (0*sz) (bJ v)=bJ v:=by
   unfold gk;rw[Nat.zero_mul,List.take_zero,List.nil_append,Nat.zero_add,List.drop_of_length_le (by simp;omega),List.append_nil]
  rw[e2]
 ·refine pd (λw o=>?_) (h a (H'++Hx) ⟨_,H',Hx,so,af9 hx,rfl⟩);rw[List.flatten_append] at o⊢;simp only[List.flatten_cons,List.flatten_nil,List.append_nil] at o⊢;refine o.perm ?_;have h1:=xn HL q Hx hq;have h2:=vI HL q Hx [] hq;simp only[List.nil_append] at h2;refine(List.Perm.append_right H' h1).trans ?_;refine List.Perm.trans ?_ (List.Perm.append_right _ h2.symm);rw[List.append_assoc];refine List.perm_append_comm.trans ?_;rw[List.append_assoc]
theorem ZD (T:Ty P) (x0:α)
 (hs:slot n ops env i=some (o,d)) (aT:o.op= .makeSlice t x y) (hx:ev env x=some (.int kk m)) (hy:ev env y=some (.int A7 m))
 (hu:T.bW t=some (.slice E)) (hi:T.inf E=some (sz,by',z)) (hk:kd.size=sz) (hz:kd.own x0 (bJ z) []) (h0:0<=m/\m<=1099511627776) (iX:Nat.ble by' 128=true)
 (h: ∀a cap H',fI kd E (List.replicate m.toNat x0) a cap H'->aJ W n K ((d,.slice a (List.replicate m.toNat x0).length cap)::env) (HL++[H'])):aJ W n (wpOp P ops Q i K) env HL:=by
 refine yE (k:=Fl.raw kd.size kd.pos) T (⟨bJ z,kd.len _ _ _ hz,kd.plain _ _ _ hz⟩:Rw kd.size) hs aT hx hy hu hi hk rfl h0 iX (λa cap H' so=>?_);have:=h a cap H' ⟨_,H',[],so,OJ hz _,by simp⟩
 simpa using this
end rules
end
end
section
section
variable [DecidableEq κ]
def tr (m:List (κ×α)) (x:κ) (v:α):List (κ×α):=if bR m x then cJ m x v else m
theorem VA [Inhabited α]: ∀(m:List (κ×α)) (x:κ),tr m x (aR m x)=m
 |[],x=>rfl
 |e::r,x=>by
  have ih:=VA r x;unfold tr bR aR at ih⊢;simp only[cS,cJ]
  by_cases hk:e.1=x
  ·subst hk;simp
  ·simp only[hk,if_false];split at ih
   ·rename_i h;simp only[h,if_true,ih]
   ·rename_i h;simp only[h];rfl
variable (S : List α -> Option Addr -> Nat -> Hp -> Prop)
def vn (gone:List κ):List (κ×List α)->List (κ×Hd)->Hp->Prop
 |[],hs,R=>hs=[]/\R=[]
 |e::r,hs,R=> ∃a n c Hx fT R',((e.1∈gone/\Hx=[])∨(e.1∉gone/\S e.2 a c Hx/\n=e.2.length))/\hs=(e.1,(a,n,c))::fT/\R=Hx++R'/\vn gone r fT R'
variable {S}
theorem Vp (x:κ): ∀(xs:List (κ×List α)) (hs:List (κ×Hd)) (R:Hp),vn S gone xs hs R-> ∃R2 R3,R.Perm (R2++R3)/\vn S (x::gone) xs hs R2
 |[],_,_,h=>by obtain⟨rfl,rfl⟩:=h;exact⟨[],[],List.Perm.refl _,rfl,rfl⟩
 |e::r,_,_,h=>by
  obtain⟨a,n,c,Hx,fT,R',h1,rfl,rfl,h4⟩:=h;obtain⟨R2,R3,p,l⟩:=Vp x r fT R' h4;rcases h1 with⟨hg,rfl⟩ |⟨hg,GY,rfl⟩
  ·exact⟨R2,R3,p,a,n,c,[],fT,R2,.inl ⟨List.mem_cons_of_mem _ hg,rfl⟩,rfl,rfl,l⟩
  ·by_cases hk:e.1=x
   ·refine⟨R2,Hx++R3,?_,a,_,c,[],fT,R2,.inl ⟨by rw[hk];exact List.mem_cons_self ..,rfl⟩,rfl,rfl,l⟩
    refine(List.Perm.append_left Hx p).trans ?_;rw[<-List.append_assoc,<-List.append_assoc];exact List.Perm.append_right _ List.perm_append_comm
   ·refine⟨Hx++R2,R3,by rw[List.append_assoc];exact List.Perm.append_left Hx p,a,_,c,Hx,fT,R2,.inr ⟨?_,GY,rfl⟩,rfl,rfl,l⟩
    intro hm;rcases List.mem_cons.1 hm with h |h
    ·exact hk h
    ·exact hg h
theorem Vq (h0:S [] none 0 []): ∀(xs:List (κ×List α)) (hs:List (κ×Hd)) (R:Hp) (x:κ),x∉gone->vn S gone xs hs R->
 ∃a c Hx R',S (aR xs x) a c Hx/\aR hs x=(a,(aR xs x).length,c)/\R.Perm (R'++Hx)/\
  (∀ys a2 c2 Hy,S ys a2 c2 Hy-> ∃R2,R2.Perm (R'++Hy)/\vn S gone (cJ xs x ys) (cJ hs x (a2,ys.length,c2)) R2)/\
  (∀ys Hy,ys.length=(aR xs x).length->S ys a c Hy-> ∃R2 R3,(R'++Hy).Perm (R2++R3)/\vn S gone (tr xs x ys) hs R2)/\
  (∃R2 R3,R'.Perm (R2++R3)/\vn S (x::gone) xs hs R2)
 |[],_,_,x,hx,h=>by
  obtain⟨rfl,rfl⟩:=h;refine⟨none,0,[],[],h0,rfl,by simp,λys a2 c2 Hy hy=>⟨Hy,by simp,a2,_,c2,Hy,[],[],.inr ⟨hx,hy,rfl⟩,rfl,by simp,rfl,rfl⟩,λys Hy hl hy=>⟨[],Hy,by simp,?_⟩,[],[],by simp,rfl,rfl⟩
  exact⟨rfl,rfl⟩
 |e::r,hs,R,x,hx,h=>by
  obtain⟨a,n,c,Hx,fT,R',h1,rfl,rfl,h4⟩:=h
  by_cases hk:e.1=x
  ·have hng:e.1∉gone:=by rw[hk];exact hx
   rcases h1 with⟨hg,_⟩ |⟨_,GY,rfl⟩
   ·exact absurd hg hng
   have e1:aR (e::r) x=e.2:=by simp[aR,cS,hk]
   have e2:aR ((e.1,(a,e.2.length,c))::fT) x=(a,e.2.length,c):=by simp[aR,cS,hk]
   refine⟨a,c,Hx,R',by rw[e1];exact GY,by rw[e1,e2],List.perm_append_comm,λys a2 c2 Hy hy=>⟨Hy++R',List.perm_append_comm,?_⟩,λys Hy hl hy=>⟨Hy++R',[],by simpa using List.perm_append_comm,?_⟩,?_⟩
   ·simp only[cJ,hk,if_true];exact⟨a2,_,c2,Hy,fT,R',.inr ⟨hx,hy,rfl⟩,rfl,rfl,h4⟩
   ·have:tr (e::r) x ys=(x,ys)::r:=by simp[tr,bR,cS,cJ,hk]
    rw[this];rw[e1] at hl;exact⟨a,_,c,Hy,fT,R',.inr ⟨hx,hy,rfl⟩,by rw[hl,hk],rfl,h4⟩
   ·obtain⟨R2,R3,p,l⟩:=Vp x r fT R' h4;exact⟨R2,R3,p,a,_,c,[],fT,R2,.inl ⟨by rw[hk];exact List.mem_cons_self ..,rfl⟩,rfl,rfl,l⟩
  ·obtain⟨a1,c1,H1,R1,q1,q2,q3,q4,q5,q6⟩:=Vq h0 r fT R' x hx h4;have e1:aR (e::r) x=aR r x:=by simp[aR,cS,hk]
   have e2:aR ((e.1,(a,n,c))::fT) x=aR fT x:=by simp[aR,cS,hk]
   refine⟨a1,c1,H1,Hx++R1,by rw[e1];exact q1,by rw[e1,e2];exact q2,by rw[List.append_assoc];exact List.Perm.append_left Hx q3,λys a2 c2 Hy hy=>?_,λys Hy hl hy=>?_,?_⟩
   ·obtain⟨R2,p2,l2⟩:=q4 ys a2 c2 Hy hy;refine⟨Hx++R2,by rw[List.append_assoc];exact List.Perm.append_left Hx p2,?_⟩
    simp only[cJ,hk,if_false];exact⟨a,n,c,Hx,_,R2,h1,rfl,rfl,l2⟩
   ·rw[e1] at hl;obtain⟨R2,R3,p2,l2⟩:=q5 ys Hy hl hy;refine⟨Hx++R2,R3,by rw[List.append_assoc,List.append_assoc];exact List.Perm.append_left Hx p2,?_⟩
    have:tr (e::r) x ys=e::tr r x ys:=by
     unfold tr bR;simp only[cS,cJ,hk,if_false];split<;>rfl
    rw[this];exact⟨a,n,c,Hx,_,R2,h1,rfl,rfl,l2⟩
   ·obtain⟨R2,R3,p2,l2⟩:=q6;rcases h1 with⟨hg,rfl⟩ |⟨hg,GY,rfl⟩
    ·exact⟨R2,R3,p2,a,n,c,[],fT,R2,.inl ⟨List.mem_cons_of_mem _ hg,rfl⟩,rfl,rfl,l2⟩
    ·refine⟨Hx++R2,R3,by rw[List.append_assoc];exact List.Perm.append_left Hx p2,a,_,c,Hx,fT,R2,.inr ⟨?_,GY,rfl⟩,rfl,rfl,l2⟩
     intro hm;rcases List.mem_cons.1 hm with h |h
     ·exact hk h
     ·exact hg h
variable (S) (KK : Ky P t κ)
def w9 (gone:List κ) (xs:List (κ×List α)) (r:Nat) (H:Hp):Prop:=
 ∃hs H0 R,cV KK uP hs r H0/\vn S gone xs hs R/\H=H0++R
def DR (gone:List κ) (xs:List (κ×List α)) (x:κ) (r:Nat) (a:Option Addr) (m c:Nat) (H:Hp):Prop:=
 ∃hs H0 R,cV KK uP hs r H0/\aR hs x=(a,m,c)/\H=H0++R/\
  (∀ys a2 c2 Hy,S ys a2 c2 Hy-> ∃R2,R2.Perm (R++Hy)/\vn S gone (cJ xs x ys) (cJ hs x (a2,ys.length,c2)) R2)/\
  (∀ys Hy,ys.length=m->S ys a c Hy-> ∃R2 R3,(R++Hy).Perm (R2++R3)/\vn S gone (tr xs x ys) hs R2)/\
  (∃R2 R3,R.Perm (R2++R3)/\vn S (x::gone) xs hs R2)
variable {S KK}
theorem agt (h:cV KK uP ([]:List (κ×Hd)) r H):w9 S KK [] ([]:List (κ×List α)) r H:=⟨[],H,[],h,⟨rfl,rfl⟩,by simp⟩
theorem FX (h0:S [] none 0 []) {H:Hp} {j:Nat} (x:κ) (hx:x∉gone) (hj:idx j HL=some H) (so:w9 S KK gone xs r H)
 (h: ∀a c Hx H',S (aR xs x) a c Hx->DR S KK gone xs x r a (aR xs x).length c H'->aJ W n' F env (HL.set j H'++[Hx])):aJ W n' F env HL:=by
 obtain⟨hs,H0,R,h1,hl,rfl⟩:=so;obtain⟨a,c,Hx,R',q1,q2,q3,q4,q5,q6⟩:=Vq h0 xs hs R x hx hl;refine pd (λw o=>?_) (h a c Hx (H0++R') q1 ⟨hs,H0,R',h1,q2,rfl,q4,q5,q6⟩);rw[idx_eq] at hj;have lv:=(List.getElem?_eq_some_iff.1 hj).1;refine o.perm ?_;have e:HL.set j (H0++R)=HL:=Lp hj;have h2:HL.flatten.Perm (HL.set j ((H0++R')++Hx)).flatten:=by
  conv=>lhs;rw[<-e]
  refine Ck ?_;rw[List.append_assoc];exact List.Perm.append_left H0 q3
 exact h2.trans (Be lv)
theorem G6 (hj:idx j HL=some H) (so:DR S KK gone xs x r a m c H): ∃hs,yy KK uP hs r HL.flatten/\aR hs x=((a,m,c):Hd):=by
 obtain⟨hs,H0,R,h0,h1,rfl,_⟩:=so;exact⟨hs,h0.r.mono (λy hy=>gx (by rw[<-idx_eq];exact hj) (List.mem_append_left _ hy)),h1⟩
theorem QT {H Hx:Hp} {j q m c:Nat} {x:κ} {a:Option Addr} (ys:List α) (hj:idx j HL=some H) (so:DR S KK gone xs x r a m c H) (hq:idx q HL=some Hx) (bQ:Nat.beq j q=false) (hy:S ys a c Hx) (hl:ys.length=m)
 (h: ∀H',w9 S KK gone (tr xs x ys) r H'->aJ W n' F env ((HL.set j H').set q [])):aJ W n' F env HL:=by
 obtain⟨hs,H0,R,h1,h2,rfl,h4,h5,h6⟩:=so;have qT:j≠q:=λe=>by subst e;simp at bQ
 obtain⟨R2,R3,p2,l2⟩:=h5 ys Hx hl hy;refine pd (λw o=>?_) (h (H0++R2) ⟨hs,H0,R2,h1,l2,rfl⟩);rw[idx_eq] at hj hq;have lv:=(List.getElem?_eq_some_iff.1 hj).1;have GR:=(List.getElem?_eq_some_iff.1 hq).1;have o2:=o.perm (EU hj hq qT);have e: ∀(A:Hp),((HL.set j A).set q [])=((HL.set q []).set j A):=λA=>List.set_comm _ _ qT
 rw[e] at o2⊢;have p3:((HL.set q []).set j (H0++R++Hx)).flatten.Perm ((HL.set q []).set j ((H0++R2)++R3)).flatten:=Ck (by
  rw[List.append_assoc,List.append_assoc];exact List.Perm.append_left H0 p2)
 have p4:=Be (HL:=HL.set q []) (j:=j) (A:=H0++R2) (B:=R3) (by simpa using lv)
 have o3:=o2.perm (p3.trans p4);rw[List.flatten_append] at o3;exact o3.left
theorem ZJ [Inhabited α] (hj:idx j HL=some H) (so:DR S KK gone xs x r a m c H) (hq:idx q HL=some Hx) (bQ:Nat.beq j q=false) (hy:S (aR xs x) a c Hx) (hl:(aR xs x).length=m)
 (h: ∀H',w9 S KK gone xs r H'->aJ W n' F env ((HL.set j H').set q [])):aJ W n' F env HL:=
 QT (aR xs x) hj so hq bQ hy hl (λH' Bw=>h H' (by rw[VA] at Bw;exact Bw))
theorem ZK {H:Hp} {j m c:Nat} {x:κ} {a:Option Addr} (hj:idx j HL=some H) (so:DR S KK gone xs x r a m c H)
 (h: ∀H',w9 S KK (x::gone) xs r H'->aJ W n' F env (HL.set j H')):aJ W n' F env HL:=by
 obtain⟨hs,H0,R,h1,h2,rfl,h4,h5,R2,R3,p2,l2⟩:=so;refine pd (λw o=>?_) (h (H0++R2) ⟨hs,H0,R2,h1,l2,rfl⟩);rw[idx_eq] at hj;have lv:=(List.getElem?_eq_some_iff.1 hj).1;have e:HL.set j (H0++R)=HL:=Lp hj;have p3:HL.flatten.Perm (HL.set j ((H0++R2)++R3)).flatten:=by
  conv=>lhs;rw[<-e]
  exact Ck (by rw[List.append_assoc];exact List.Perm.append_left H0 p2)
 have o3:=o.perm (p3.trans (Be lv));rw[List.flatten_append] at o3;exact o3.left
end
section rules
variable [DecidableEq κ]
theorem QS (T:Ty P) {mt et:TypeId} (KK:Ky P t κ) {gone:List κ} {x ix y:Operand} {xs:List (κ×List α)} {r q m0 c0:Nat} {kx:κ} {a0:Option Addr} {ys:List α} {a:Option Addr} {c:Nat} {Hj Hq:Hp} (j:Nat)
 (hs:ss ops env i=some o) (aT:o.op= .mapUpdate mt x ix y) (hx:ev env x=some (.map (some r))) (hk:ev env ix=some (KK.enc kx)) (hy:ev env y=some (.slice a ys.length c))
 (hu:T.bW mt=some (.map t et)) (hj:idx j HL=some Hj) (so:DR S KK gone xs kx r a0 m0 c0 Hj) (bQ:Nat.beq j q=false) (hq:idx q HL=some Hq) (sq:S ys a c Hq)
 (h: ∀H',w9 S KK gone (cJ xs kx ys) r H'->aJ W n K env ((HL.set j H').set q [])):aJ W n (wpOp P ops Q i K) env HL:=by
 obtain⟨fT,H0,R,h0,_,rfl,h4,_,_⟩:=so;have qT:j≠q:=λe=>by subst e;simp at bQ
 obtain⟨R2,p2,l2⟩:=h4 ys a c Hq sq;have iY:=hj;rw[idx_eq] at hj hq;have lv:=(List.getElem?_eq_some_iff.1 hj).1;have GR:=(List.getElem?_eq_some_iff.1 hq).1;refine Jo iY ?_;have hg:idx j (HL.set j H0++[R])=some H0:=by
  rw[idx_eq,List.getElem?_append_left (by simpa using lv)];exact List.getElem?_set_self lv
 refine pX T KK uP (v:=((a,ys.length,c):Hd)) (k:=kx) (g:=j) hs aT hx hk hy hu hg h0 (λH' Bw=>?_);refine pd (λw o=>?_) (h (H'++R2) ⟨_,H',R2,Bw,l2,rfl⟩);have e1:(HL.set j H0++[R]).set j H'=HL.set j H'++[R]:=by
  rw[List.set_append_left _ _ (by simpa using lv)];simp
 rw[e1] at o;have o2:=o.perm (Be lv).symm;have EA:(HL.set j (H'++R))[q]? =some Hq:=by rw[List.getElem?_set_ne qT];exact hq
 have N_:(HL.set j (H'++R))[j]? =some (H'++R):=List.getElem?_set_self lv;have o3:=o2.perm (EU N_ EA qT);rw[List.set_set] at o3;have e: ∀(A:Hp),((HL.set j A).set q [])=((HL.set q []).set j A):=λA=>List.set_comm _ _ qT
 rw[e] at o3⊢;exact o3.perm (Ck (by rw[List.append_assoc];exact List.Perm.append_left H' p2.symm))
end rules
end
section
inductive Er where
 |nil:Er
 |eF:Nat->Er
 |num:Nat->Int->Er
 |wrap:Nat->List Int->Er->Er
instance :Inhabited Er:=⟨.nil⟩
def Er.isNil:Er->Bool
 | .nil=>true
 |_=>false
def fW (tE:TypeId) (gs:List Nat) (lits:List (Nat×Value)) (el:Nat->Addr) (F:Hp):Prop:=
 (∀g∈gs,∃T fr,(g,Obj.cells #[.iface tE (.pointer (some (el g)))] T fr)∈F)/\(∀g∈gs,∃c T,((el g).block,Obj.cells c T (0,0))∈F)/\(∀a∈gs,∀b∈gs,el a=el b->a=b)/\
   (∀p∈lits,∃T fr,(p.1,Obj.cells #[p.2] T fr)∈F)
theorem fW.mono (h:fW tE gs lits el F) (hs: ∀c∈F,c∈F'):fW tE gs lits el F':=by
 obtain⟨h1,h2,h3,h4⟩:=h;exact⟨λg hg=>let⟨T,fr,hm⟩:=h1 g hg;⟨T,fr,hs _ hm⟩,λg hg=>let⟨c,T,hm⟩:=h2 g hg;⟨c,T,hs _ hm⟩,h3,λp hp=>let⟨T,fr,hm⟩:=h4 p hp;⟨T,fr,hs _ hm⟩⟩
theorem dG (h:fW tE gs lits el F) (hj:idx j HL=some F):fW tE gs lits el HL.flatten:=
 h.mono λ_ hc=>gx (by rw[<-idx_eq];exact hj) hc
section
variable (tE : TypeId) (el : Nat -> Addr)
def lW:Er->Value->Hp->Prop
 | .nil,v,_=>v= .nilIface
 | .eF g,v,_=>v= .iface tE (.pointer (some (el g)))
 | .num t n,v,_=>v= .iface t (.int .i64 n)
 | .wrap t ns e,v,H=> ∃b vo T,v= .iface t (.pointer (some ⟨b,0,none⟩))/\(b,Obj.cells ((ns.map λn=>Value.int .i64 n)++[vo]).toArray T (0,0))∈H/\lW e vo H
def gp:Er->Value->Hp->Prop
 | .nil,v,H=>v= .nilIface/\H=[]
 | .eF g,v,H=>v= .iface tE (.pointer (some (el g)))/\H=[]
 | .num t n,v,H=>v= .iface t (.int .i64 n)/\H=[]
 | .wrap t ns e,v,H=> ∃b vo T Ho,v= .iface t (.pointer (some ⟨b,0,none⟩))/\H=(b,Obj.cells ((ns.map λn=>Value.int .i64 n)++[vo]).toArray T (0,0))::Ho/\gp e vo Ho
variable {tE el}
theorem lW.mono: ∀{e:Er} {v:Value} {H H':Hp},lW tE el e v H->(∀c∈H,c∈H')->lW tE el e v H'
 | .nil,_,_,_,h,_=>h
 | .eF _,_,_,_,h,_=>h
 | .num _ _,_,_,_,h,_=>h
 | .wrap _ _ _,_,_,_,h,hs=>by
  obtain⟨b,vo,T,h1,h2,h3⟩:=h;exact⟨b,vo,T,h1,hs _ h2,lW.mono h3 hs⟩
theorem gp.r: ∀{e:Er} {v:Value} {H:Hp},gp tE el e v H->lW tE el e v H
 | .nil,_,_,h=>h.1
 | .eF _,_,_,h=>h.1
 | .num _ _,_,_,h=>h.1
 | .wrap _ _ _,_,_,h=>by
  obtain⟨b,vo,T,Ho,h1,rfl,h3⟩:=h;exact⟨b,vo,T,h1,List.mem_cons_self ..,lW.mono (gp.r h3) (λc hc=>List.mem_cons_of_mem _ hc)⟩
theorem uG:gp tE el .nil .nilIface []:=⟨rfl,rfl⟩
theorem oB:gp tE el (.eF g) (.iface tE (.pointer (some (el g)))) []:=⟨rfl,rfl⟩
theorem rN:gp tE el (.num t n) (.iface t (.int .i64 n)) []:=⟨rfl,rfl⟩
theorem p9 (h:gp tE el e vo Ho):
 gp tE el (.wrap t ns e) (.iface t (.pointer (some ⟨b,0,none⟩))) (List.flatten [[(b,Obj.cells ((ns.map λn=>Value.int .i64 n)++[vo]).toArray T (0,0))],Ho]):=⟨b,vo,T,Ho,rfl,by simp,h⟩
theorem JC:lW tE el (.eF g) (.iface tE (.pointer (some (el g)))) H:=rfl
theorem rP (h:gp tE el e v H) (hj:idx j HL=some H):lW tE el e v HL.flatten:=
 h.r.mono λ_ hc=>gx (by rw[<-idx_eq];exact hj) hc
theorem Gg (h:lW tE el e v H) (hj:idx j HL=some H):lW tE el e v HL.flatten:=
 h.mono λ_ hc=>gx (by rw[<-idx_eq];exact hj) hc
theorem JD {e:Er} {v:Value} {H:Hp} (h:lW tE el e v H):(e.isNil=true/\v= .nilIface)∨(e.isNil=false/\ ∃t u,v= .iface t u):=by
 cases e with
 |nil=>exact .inl ⟨rfl,h⟩
 |eF g=>exact .inr ⟨rfl,_,_,h⟩
 |num t n=>exact .inr ⟨rfl,_,_,h⟩
 |wrap t ns e=>
  obtain⟨b,vo,T,h1,_⟩:=h;exact .inr ⟨rfl,_,_,h1⟩
section
theorem W9 {T:Ty P} {ti:TypeId} {ms:Array (String×TypeId)} (hu:T.bW ti=some (.interface ms)) {e:Er} {v:Value} (h:lW tE el e v H) (w:World):
 (Op.equal ti v .nilIface).run P w= .ok e.isNil w:=by
 show(Op.equalIn (9999+1) ti _ _).run P w=_
 generalize 9999=d;rcases JD h with⟨h1,rfl⟩ |⟨h1,t,u,rfl⟩
 ·simp only[Op.equalIn,Sem.run_bind,cW hu,Result.andThen_ok,Sem.run_pure,h1]
 ·simp only[Op.equalIn,Sem.run_bind,cW hu,Result.andThen_ok,Sem.run_pure,h1]
theorem SK {t:TypeId} {op:BinOp} {x:Operand} {v:Value} (w:World):(eqGuard op t x (.const .nilIface) v .nilIface).run P w= .ok () w:=by
 unfold eqGuard;rw[Sem.run_ite];refine KE (λ_=>rfl) (λ_=>?_)
 cases v<;>simp
theorem Re {t:TypeId} {v:Value} (hv:v= .nilIface∨ ∃a b,v= .iface a b):binOp .eql t v .nilIface=(do pure (.bool (<-Op.equal t v .nilIface)))/\binOp .neq t v .nilIface=(do pure (.bool !(<-Op.equal t v .nilIface))):=by
 rcases hv with rfl |⟨a,b,rfl⟩<;>exact⟨rfl,rfl⟩
theorem JO (T:Ty P) {t yt:TypeId} {x:Operand} {ms:Array (String×TypeId)} {e:Er} {v:Value} (aT:o.op= .binOp .eql t x (.const .nilIface) yt) (hx:ev env x=some v)
 (hu:T.bW t=some (.interface ms)) (h:lW tE el e v H):gU W P n env H o (.bool e.isNil):=by
 intro t' w s ow;unfold execOp;have hv:v= .nilIface∨ ∃a b,v= .iface a b:=by
  rcases JD h with⟨_,h1⟩ |⟨_,a,b,h1⟩
  ·exact .inl h1
  ·exact .inr ⟨a,b,h1⟩
 simp only[aT,bG s hx,bG (x:= .const .nilIface) s rfl];rw[(Re hv).1];simp only[Sem.run_bind,SK,Result.andThen_ok,W9 hu h,Sem.run_pure]
theorem Ea (T:Ty P) {t yt:TypeId} {x:Operand} {ms:Array (String×TypeId)} {e:Er} {v:Value} (aT:o.op= .binOp .neq t x (.const .nilIface) yt) (hx:ev env x=some v)
 (hu:T.bW t=some (.interface ms)) (h:lW tE el e v H):gU W P n env H o (.bool (!e.isNil)):=by
 intro t' w s ow;unfold execOp;have hv:v= .nilIface∨ ∃a b,v= .iface a b:=by
  rcases JD h with⟨_,h1⟩ |⟨_,a,b,h1⟩
  ·exact .inl h1
  ·exact .inr ⟨a,b,h1⟩
 simp only[aT,bG s hx,bG (x:= .const .nilIface) s rfl];rw[(Re hv).2];simp only[Sem.run_bind,SK,Result.andThen_ok,W9 hu h,Sem.run_pure]
def ag4:TypeDesc->Bool
 | .interface _=>false
 |_=>true
theorem iu (T:Ty P) (aT:o.op= .makeInterface t x) (hx:ev env x=some v) (hu:T.bW t=some d) (hd:ag4 d=true):gU W P n env H o (.iface t v):=by
 intro t' w s ow;unfold execOp;have:(Instr.makeInterface t v).run P w= .ok (.iface t v) w:=by
  unfold Instr.makeInterface;simp only[Sem.run_bind,cW hu,Result.andThen_ok]
  cases d<;>first |rfl |cases hd
 simp only[aT,bG s hx,Sem.run_bind,this,Result.andThen_ok]
 rfl
end
theorem rY (hj:idx j HL=some F) (hG:fW tE gs lits el F) (hg:g∈gs):
 ∃arr E fr,(g,Obj.cells arr E fr)∈HL.flatten/\arr[0]? =some (Value.iface tE (.pointer (some (el g)))):=by
 obtain⟨T,fr,hm⟩:=hG.1 g hg;exact⟨_,T,fr,gx (by rw[<-idx_eq];exact hj) hm,rfl⟩
end
def Er.DY (t:Nat):Er->Option (Option Int)
 | .nil=>some none
 | .num u n=>if u=t then some (some n) else none
 | .wrap _ _ (.num u n)=>if u=t then some (some n) else none
 |_=>none
def Er.FU (t:Nat):Er->Option (Option (Int×Int×Er))
 | .nil=>some none
 | .wrap u [a,b] e=>if u=t then some (some (a,b,e)) else none
 |_=>none
theorem Zf (h:e.FU t=some none) (so:gp tE el e v H):v= .nilIface/\H=[]:=by
 unfold Er.FU at h;split at h
 ·exact so
 ·split at h<;>cases h
 ·cases h
theorem Zg (h:e.FU t=some (some (a,b,of))) (so:gp tE el e v H):
 ∃q vo T Ho,v= .iface t (.pointer (some ⟨q,0,none⟩))/\H=[(q,Obj.cells #[.int .i64 a,.int .i64 b,vo] T (0,0))]++Ho/\gp tE el of vo Ho:=by
 unfold Er.FU at h;split at h
 ·cases h
 ·split at h
  ·rename_i u x y e' hu;subst hu;simp only[Option.some.injEq,Prod.mk.injEq] at h;obtain⟨rfl,rfl,rfl⟩:=h;obtain⟨q,vo,T,Ho,h1,h2,h3⟩:=so;exact⟨q,vo,T,Ho,h1,by rw[h2];rfl,h3⟩
  ·cases h
 ·cases h
section
variable (k : Fl α)
def dA (xs:List α) (a:Option Addr) (n:Nat) (l:List α) (a':Option Addr) (n':Nat):Prop:=
 l=[]∨ ∃lo hi:Int,(0<=lo/\lo<=hi/\hi<=(xs.length:Int))/\l=aA xs lo hi/\a'=gm a n lo.toNat k.size/\n'=n-lo.toNat
variable {k}
theorem dA.nil:dA k xs a n [] a' n':= .inl rfl
theorem QA (a:Addr):a.add 0=a:=by unfold Addr.add;simp
theorem dA.self:dA k xs a n xs a n:=by
 refine .inr ⟨0,xs.length,by omega,by simp[aA],?_,by simp⟩
 unfold gm
 cases a<;>simp[QA]
theorem dA.r (h:dA k xs a n l a' n') (sr:aP k xs a H) (hc:xs.length<=n):aP k l a' H:=by
 rcases h with rfl |⟨lo,hi,h1,rfl,rfl,_⟩
 ·exact .inl rfl
 ·exact nj sr h1 hc
theorem dA.cap (h:dA k xs a n l a' n') (hc:xs.length<=n):l=[]∨l.length<=n':=by
 rcases h with rfl |⟨lo,hi,h1,rfl,_,rfl⟩
 ·exact .inl rfl
 ·exact .inr (mO h1 hc)
theorem sub_sub (h1:0<=lo/\lo<=hi/\hi<=(xs.length:Int)) (h2:0<=A8/\A8<=rV/\rV<=((aA xs lo hi).length:Int)):
 aA (aA xs lo hi) A8 rV=aA xs (lo+A8) (lo+rV):=by
 have hl:=i_ h1;unfold aA at hl⊢;rw[List.drop_take,List.take_take,List.drop_drop];have e1:lo.toNat+A8.toNat=(lo+A8).toNat:=U;have e2:min (rV.toNat-A8.toNat) (hi.toNat-lo.toNat-A8.toNat)=(lo+rV).toNat-(lo+A8).toNat:=by
  rw[i_ h1] at h2;omega
 rw[e1,e2]
theorem dA.sub (h:dA k xs a n l a' n') (hc:xs.length<=n) (h2:0<=lo/\lo<=hi/\hi<=(l.length:Int)):
 dA k xs a n (aA l lo hi) (gm a' n' lo.toNat k.size) (n'-lo.toNat):=by
 rcases h with rfl |⟨zq,hi1,h1,rfl,rfl,rfl⟩
 ·exact .inl (by simp[aA])
 ·by_cases he:lo=hi
  ·left;subst he;simp[aA]
  ·right
   have hl:=i_ h1;refine⟨zq+lo,zq+hi,by omega,sub_sub h1 h2,?_,by omega⟩
   unfold gm;have n1: ¬n=zq.toNat:=U;have n2: ¬n-zq.toNat=lo.toNat:=U;have n3: ¬n=(zq+lo).toNat:=U;rw[if_neg n1,if_neg n2,if_neg n3]
   cases a with
   |none=>rfl
   |some x=>
    simp only[Option.map_some,Option.some.injEq];have:(zq+lo).toNat=zq.toNat+lo.toNat:=U;rw[this,Nat.add_mul];unfold Addr.add
    by_cases z1:zq.toNat*k.size=0
    ·simp[z1]
    ·by_cases z2:lo.toNat*k.size=0
     ·simp[z1,z2]
     ·have: ¬(zq.toNat*k.size+lo.toNat*k.size=0):=U;simp only[z1,z2,this,if_false]
      congr 1
      omega
theorem oz {HL:List Hp} {xs l:List α} {a a':Option Addr} {n n':Nat} (h:dA k xs a n l a' n') (sr:aP k xs a HL.flatten) (hc:xs.length<=n):aP k l a' HL.flatten:=h.r sr hc
variable (k)
def IY (E:TypeId) (xs:List α) (a:Option Addr) (n:Nat) (l:List α) (a':Option Addr) (n':Nat) (H:Hp):Prop:=
 (dA k xs a n l a' n'/\l.length<=n'/\H=[])∨aj k E l a' n' H
variable {k}
theorem aay (h:IY k E xs a n l a' n' H) (hj:idx j HL=some H) (sr:aP k xs a HL.flatten) (hc:xs.length<=n):aP k l a' HL.flatten:=by
 rcases h with⟨h,_,_⟩ |h
 ·exact h.r sr hc
 ·exact Wa h hj
theorem IY.bT (h:IY k E xs a n l a' n' H):l.length<=n':=by
 rcases h with⟨_,h,_⟩ |h
 ·exact h
 ·exact h.bT
end
section
open Classical
noncomputable def FT {α β:Type} (p:α->Prop) (f:α->Option β):Option β:=if h: ∃r,∀x,p x->f x=some r then some (Classical.choose h) else none
theorem Y4 (h:FT p f=some r) (hx:p x):f x=some r:=by
 unfold FT at h;split at h
 ·rename_i hh;have:=Classical.choose_spec hh x hx;rw[Option.some.inj h] at this;exact this
 ·cases h
theorem Y5 (hx:p x) (h: ∀x,p x->f x=some r):FT p f=some r:=by
 unfold FT;have hh: ∃r,∀x,p x->f x=some r:=⟨r,h⟩;rw[dif_pos hh];have:=Classical.choose_spec hh x hx;rw[h x hx] at this;exact this.symm
end
def K4 (n:Int) (xs:List Int):Prop:=xs.length=n.toNat/\ ∀x∈xs,fa x
theorem ag_ (n:Int):K4 n (List.replicate n.toNat 0):=⟨by simp,λx hx=>by rw[List.mem_replicate] at hx;rw[hx.2];exact⟨by omega,by omega⟩⟩
def xP:Nat->Nat->List Int
 |0,_=>[]
 |n+1,t=>Int.ofNat (t%256)::xP n (t/256)
theorem VP: ∀n t,(xP n t).length=n
 |0,_=>rfl
 |n+1,t=>by simp[xP,VP n]
theorem VO: ∀n t,∀x∈xP n t,fa x
 |0,_,x,h=>by simp[xP] at h
 |n+1,t,x,h=>by
  simp only[xP,List.mem_cons] at h;rcases h with rfl |h
  ·have:=Nat.mod_lt t (show 256>0 by omega)
   refine⟨Int.natCast_nonneg _,?_⟩
   show((t%256:Nat):Int)<=255
   omega
  ·exact VO n _ x h
theorem RQ: ∀(n t:Nat) (acc:Array Value),(Extern.BytealgMakeNoZero.digits n t acc).toList=acc.toList++(xP n t).map λx=>Value.int .u8 x
 |0,_,acc=>by simp[Extern.BytealgMakeNoZero.digits,xP]
 |n+1,t,acc=>by
  rw[Extern.BytealgMakeNoZero.digits,RQ n];simp[xP]
structure Qn (P:Program) (f:FuncId) (t:TypeId):Prop where
 h: ∃ps,∀(args:Array Value) (w:World),(callFunc f args).run P w=((Extern.BytealgMakeNoZero.makeNoZero ps #[t] args).run P w).andThen λv w'=> .ok (.value v) w'
section
theorem ZN (T:Ty P)
 (hs:slot n ops env i=some (o,d)) (aT:o.op= .call ⟨.value c,#[x],types⟩) (hc:ev env c=some (.func (.func f) #[] #[])) (hx:ev env x=some (.int .i64 m)) (hf:Qn P f t) (ht:T.bW t=some (.slice E)) (h0:0<=m/\m<=1099511627776)
 (h: ∀xs a cap H',K4 m xs->aj (Fl.int .u8) E xs a cap H'->aJ W n K ((d,.slice a xs.length cap)::env) (HL++[H'])):aJ W n (wpOp P ops Q i K) env HL:=by
 obtain⟨ho,hw,hd,hn⟩:=vf hs;refine yF (β:={p:List Int×Option Addr×Nat×Hp // K4 m p.1/\aj (Fl.int .u8) E p.1 p.2.1 p.2.2.1 p.2.2.2}) (V:=λp=> .slice p.1.2.1 p.1.1.length p.1.2.2.1) (G:=λp=>(HL++[p.1.2.2.2]).flatten)
  ho hw hd hn (λt' w s ow=>?_) (λp=>h _ _ _ _ p.2.1 p.2.2)
 obtain⟨ps,oG⟩:=hf.h
 let cap:=grownCap w m.toNat 0 E
 let by' := (Question.extern "internal/bytealg.MakeNoZero.bytes" 0).cut (w.tape (w.drawn + 1) (.extern "internal/bytealg.MakeNoZero.bytes" 0))
 let ds:=xP cap by'
 have GA:m.toNat<=cap:=grownCap_ge w m.toNat 0 E;have Cs:ds.length=cap:=VP _ _;have aeS:(Extern.BytealgMakeNoZero.digits cap by' #[])=(row (Fl.int .u8) ds).toArray:=by
  apply Array.ext';rw[RQ,W5];simp[ds]
 have nI:(Extern.BytealgMakeNoZero.makeNoZero ps #[t] #[.int .i64 m]).run P w= .ok (.slice (some ⟨w.heap.size,0,none⟩) m.toNat cap) (w.drew.drew.alloc (.cells (row (Fl.int .u8) ds).toArray E)):=by
  have aeT:Extern.BytealgMakeNoZero.makeNoZero ps #[t] #[.int .i64 m]=
   (do
     let .slice elem ← underlying t | stuck "bytealg.MakeNoZero: slice type expected"
     if m < 0 || m > 2 ^ 48 then runtimePanic (.error "makeslice: len out of range")
     let cap<-choose (.appendCap m.toNat 0 elem)
     askRoom cap
     let bytes ← choose (.extern "internal/bytealg.MakeNoZero.bytes" 0)
     let a<-newRow elem (Extern.BytealgMakeNoZero.digits cap bytes #[])
     pure (.slice (some a) m.toNat cap)):=rfl
  rw[aeT];have h1: ¬m<0:=U;have h2: ¬(281474976710656:Int)<m:=U;rw[<-aeS];simp[cW ht,h1,h2,Question.forced,newRow,Lib.size_digits,grownCap,cap,by']
 refine⟨⟨(ds.take m.toNat,some ⟨w.heap.size,0,none⟩,cap,[(w.heap.size,.cells (row (Fl.int .u8) ds).toArray E)]),⟨by simp;omega,λx hx=>VO _ _ x (List.mem_of_mem_take hx)⟩,.inr ⟨w.heap.size,[],row (Fl.int .u8) (ds.drop m.toNat),rfl,?_,by simp;omega,?_⟩⟩,w.drew.drew.alloc (.cells (row (Fl.int .u8) ds).toArray E),?_,?_⟩
 ·rw[List.nil_append,<-qn,List.take_append_drop]
 ·rw[lE,List.length_drop,List.length_take]
  show(cap-min m.toNat ds.length)*_<=(ds.length-m.toNat)*_
  exact Nat.mul_le_mul_right _ U
 ·have hl:(ds.take m.toNat).length=m.toNat:=by simp;omega
  unfold execOp;simp only[aT,resolve,bG s hc,bG s hx,Deferred.ofValue,Sem.run_bind,Sem.run_pure,Result.andThen_ok,invoke,List.map_toArray,List.map_cons,List.map_nil];rw[show(#[]:Array Value)++ #[Value.int .i64 m]++ #[]= #[Value.int .i64 m] from rfl,oG,nI]
  simp only[Result.andThen_ok,hl]
 ·exact C_ _ (show bk W w.drew.drew HL.flatten from ow.drew.drew)
end
theorem aj.trim (so:aj k E xs a cap H) (h1:xs.length<=c) (h2:c<=cap):aj k E xs a c H:=by
 rcases so with⟨h3,h4,h5,h6⟩ |⟨b,pre,post,h3,h4,h5,h6⟩
 ·exact .inl ⟨h3,h4,by omega,h6⟩
 ·refine .inr ⟨b,pre,post,h3,h4,h1,Nat.le_trans (Nat.mul_le_mul_right _ U) h6⟩
section
theorem aci {α:Type} (T:Ty P) {H:Hp} {t E sz by' cap:Nat} {z:Value} {x hi mx:Operand} {a:Option Addr} {xs:List α} {h:Int} {kk A7:IntKind} (aT:o.op= .slice t x none (some hi) (some mx)) (hx:ev env x=some (.slice a xs.length cap))
 (hu:T.bW t=some (.slice E)) (dZ:T.inf E=some (sz,by',z)) (vU:ev env hi=some (.int kk h)) (hmx:ev env mx=some (.int A7 h)) (hb:h=(xs.length:Int)) (hc:xs.length<=cap):
 gU W P n env H o (.slice a xs.length xs.length):=by
 subst hb;intro t' w s ow;have uR:xs.length-0=xs.length:=U;have e1:(Instr.sliceBounds true xs.length cap none (some (Act.eval ⟨t',[]⟩ hi)) (some (Act.eval ⟨t',[]⟩ mx))).run P w= .ok (0,xs.length,xs.length) w:=by
  unfold Instr.sliceBounds;simp only[bG s vU,bG s hmx,Sem.run_bind,run_sliceBound (kk:=A7) U (show((xs.length:Int))<=(cap:Int) by omega),run_sliceBound (kk:=kk) U (show((xs.length:Int))<=((Int.toNat (xs.length:Int):Nat):Int) by omega),Result.andThen_ok,Sem.run_pure]
  simp
 have e2:(Instr.slice t (.slice a xs.length cap) none (some (Act.eval ⟨t',[]⟩ hi)) (some (Act.eval ⟨t',[]⟩ mx))).run P w= .ok (.slice a xs.length xs.length) w:=by
  unfold Instr.slice;simp only[Sem.run_bind,cW hu,Result.andThen_ok];simp only[Sem.run_bind,e1,Result.andThen_ok,jZ dZ,Sem.run_pure]
  congr 2
  cases a with
  |none=>simp
  |some a=>simp[QA]
 unfold execOp;simp only[aT,bG s hx,Option.map_none,Option.map_some];unfold Instr.sliceAt;simp only[Sem.run_bind,cW hu,Result.andThen_ok];rw[e2];rfl
end
theorem abU (h:lW tE el e v H):bJ v=[v]:=by
 rcases JD h with⟨_,rfl⟩ |⟨_,t,u,rfl⟩<;>rfl
theorem R_ (h:gp tE el e v H):bJ v=[v]:=abU h.r
def JF (place:Nat->Option (Nat×Nat)) (cells:List Value):List (Nat×List Value)->Option (List Value)
 |[]=>some cells
 |(i,v)::rest=>
  match place i with
  |none=>none
  |some (off,size)=>
   bif Nat.beq v.length size&&Nat.ble (off+v.length) cells.length then JF place (gk cells off v) rest else none
theorem Sc (place:Nat->Option (Nat×Nat)): ∀(vs:List (Nat×Value)) (cells:List Value),vH place cells vs=JF place cells (vs.map λp=>(p.1,bJ p.2))
 |[],_=>rfl
 |(i,v)::rest,cells=>by
  simp only[vH,List.map_cons,JF]
  cases place i with
  |none=>rfl
  |some os=>simp only[Sc place rest]
section
theorem Ss (T:Ty P) (ws:List (Nat×List Value)) (aT:o.op= .build t parts)
 (hu:T.bW t=some (.struct fs)) (hi:T.inf t=some (sz,by',z)) (mB:EW T fs.toList=some pl) (Ou:(parts.toList.mapM λp=>(ev env p.2).map λv=>(p.1,v))=some vs)
 (hws:(vs.map λp=>(p.1,bJ p.2))=ws) (hf:JF (λi=>idx i pl) (bJ z) ws=some cs):gU W P n env H o (.agg cs.toArray):=by
 intro t' w s ow;refine Lb (T:=T) s ?_ w;unfold Dd;rw[aT];simp only[hu,hi,mB,Ou,Sc,hws,hf]
end
end
section
section
variable [Inhabited α] (kd : Kd α)
def BX (E:TypeId) (xs:List α) (a:Option Addr) (cap:Nat) (H Hl:Hp):Prop:=
 ∃cc H0 R,aj (Fl.raw kd.size kd.pos) E cc a cap H0/\cc.length=xs.length/\H=H0++R/\ ∀i:Nat,i<xs.length->kd.mJ (rd xs (i:Int)) (rd cc (i:Int)).val (R++Hl)
def DU (E:TypeId) (xs:List α) (a:Option Addr) (cap:Nat) (i:Int) (cs:List Value) (H Hl:Hp):Prop:=
 (0<=i/\i<(xs.length:Int))/\ ∃cc H0 R,aj (Fl.raw kd.size kd.pos) E cc a cap H0/\cc.length=xs.length/\(rd cc i).val=cs/\H=H0++R/\
   ∀j:Nat,j<xs.length->(j:Int)≠i->kd.mJ (rd xs (j:Int)) (rd cc (j:Int)).val (R++Hl)
variable {kd}
theorem BX.bT (h:BX kd E xs a cap H Hl):xs.length<=cap:=by
 obtain⟨cc,H0,R,h0,hl,_⟩:=h;rw[<-hl];exact h0.bT
theorem BX.addr {xs:List α} {a:Option Addr} {cap:Nat} {H Hl:Hp} (h:BX kd E xs a cap H Hl) {i:Int} (h0:0<=i) (h1:i<xs.length): ∃b off,a=some ⟨b,off,none⟩:=by
 obtain⟨cc,H0,R,h2,h3,_⟩:=h;exact h2.r.addr h0 (by rw[h3];exact h1)
theorem BX.pre (so:BX kd E xs a cap H Hl) (h:0<=(0:Int)/\0<=hi/\hi<=(xs.length:Int)):
 BX kd E (aA xs 0 hi) (gm a cap (Int.toNat 0) kd.size) (cap-Int.toNat 0) H Hl:=by
 obtain⟨cc,H0,R,h0,hl,rfl,hr⟩:=so;have hx: ∀{β:Type} [Inhabited β] (l:List β) (i:Nat),(i:Int)<hi->rd (aA l 0 hi) (i:Int)=rd l (i:Int):=λl i dZ=>by
  unfold rd aA;simp only[Int.toNat_zero,List.drop_zero,Nat.sub_zero];rw[List.getD_eq_getElem?_getD,List.getD_eq_getElem?_getD,List.getElem?_take_of_lt U]
 have hlen:(aA xs 0 hi).length=hi.toNat:=by rw[i_ h];omega
 refine⟨aA cc 0 hi,H0,R,h0.pre (by rw[hl];exact h),?_,rfl,λi dZ=>?_⟩
 ·rw[i_ (by rw[hl];exact h),i_ h]
 ·rw[hlen] at dZ;rw[hx xs i U,hx cc i U];exact hr i U
theorem DU.cells (h:DU kd E xs a cap i cs H Hl):yq a (i.toNat*kd.size) cs H:=by
 obtain⟨hi,cc,H0,R,h0,hl,rfl,rfl,_⟩:=h;obtain⟨b,off,ha⟩:=h0.r.addr hi.1 (by rw[hl];exact hi.2)
 obtain⟨arr,E',fr,hm,hc⟩:=h0.r.elem ha hi.1 (by rw[hl];exact hi.2)
 exact⟨b,off,arr,E',fr,ha,List.mem_append_left _ hm,λf v hv=>hc f v hv⟩
theorem DU.addr (h:DU kd E xs a cap i cs H Hl): ∃b off,a=some ⟨b,off,none⟩:=by
 obtain⟨b,off,_,_,_,ha,_⟩:=h.cells;exact⟨b,off,ha⟩
theorem DU.bT (h:DU kd E xs a cap i cs H Hl):xs.length<=cap:=by
 obtain⟨hi,cc,H0,R,h0,hl,rfl,rfl,_⟩:=h;rw[<-hl];exact h0.bT
section rules
end rules
end
end
section
def Fl.pair (k:IntKind):Fl (Int×Int):=⟨2,λx=>[.int k x.1,.int k x.2],λ_=>rfl,λ_ v h=>by
 simp only[List.mem_cons,List.not_mem_nil,or_false] at h;rcases h with rfl |rfl<;>rfl,by decide⟩
section
theorem St (aT:o.op= .binOp .shl t x y yt) (hx:ev env x=some (.int k a)) (hy:ev env y=some (.int yk b)) (hb:0<=b):
 gU W P n env H o (.int k (k.wrap (a*2^(min b.toNat k.bits)))):=by
 intro t' w s ow;unfold execOp;simp only[aT,bG s hx,bG s hy];have: ¬b<0:=U;simp[eqGuard,binOp,Op.shift,this]
theorem Su (T:Ty P) (xs:List Int) (aT:o.op= .index t x ix) (hx:ev env x=some (.string s)) (za:ev env ix=some (.int kk j))
 (hu:T.bW t=some .string) (hs:s.data.toList.map (λb=>(b.toNat:Int))=xs) (hj:0<=j/\j<(xs.length:Int)):gU W P n env H o (.int .u8 (rd xs j)):=by
 intro t' w st ow;obtain⟨h0,h1⟩:=hj;unfold execOp;have hl:j.toNat<s.data.toList.length:=by
  have:xs.length=s.data.toList.length:=by rw[<-hs];simp
  omega
 have hg:s[j.toNat]? =some (s.data.toList[j.toNat]'hl):=by
  have jW:j.toNat<s.size:=by have q:=hl;rw[Array.length_toList] at q;exact q
  rw[getElem?_pos s j.toNat jW]
  rfl
 have hr:rd xs j=((s.data.toList[j.toNat]'hl).toNat:Int):=by
  rw[jA (by rw[<-hs];simpa using hl)]
  simp only[<-hs,List.getElem_map]
 simp only[aT,bG st hx,bG st za,Instr.index,asIntOf,Sem.run_bind,Sem.run_pure,Result.andThen_ok,cW hu,h0,if_true,hg];rw[hr]
end
section
variable {HL : List Hp}
theorem U5 (hj:idx j HL=some ((b,.cells arr E fr)::Hr)) (ha:arr.toList=xs.map λx=>Value.int kk x) (hi:0<=i/\i<(xs.length:Int)):
 ∃arr E fr,(b,Obj.cells arr E fr)∈HL.flatten/\arr[i.toNat]? =some (Value.int kk (rd xs i)):=by
 refine⟨arr,E,fr,gx (by rw[<-idx_eq];exact hj) (List.mem_cons_self ..),?_⟩
 have h2:arr[i.toNat]? =arr.toList[i.toNat]? :=by simp
 rw[h2,ha,List.getElem?_map,jA U,List.getElem?_eq_getElem U]
 rfl
end
section
theorem ZY (T:Ty P) (j:Nat) (cs:List Value)
 (hs:ss ops env i=some o) (aT:o.op= .store t x y) (hx:ev env x=some (.pointer (some ⟨b,jx.toNat,none⟩)))
 (hy:ev env y=some (.int kk v)) (hi:T.inf t=some (1,by',z)) (hj:idx j HL=some ((b,.cells arr E (0,0))::Hr)) (ha:arr.toList=xs.map λx=>Value.int kk x) (hb:0<=jx/\jx<(xs.length:Int))
 (nD:((List.range xs.length).map λq:Nat=>Value.int kk (rd (List.set xs jx.toNat v) (q:Int)))=cs)
 (h:aJ W n K env (HL.set j ((b,.cells cs.toArray E (0,0))::Hr))):aJ W n (wpOp P ops Q i K) env HL:=by
 let⟨ho,hw,hd⟩:=Bv hs
 have jW:arr.size=xs.length:=by rw[<-Array.length_toList,ha];simp
 refine D1 T ho hw hd aT hx hy hi (by rw[<-idx_eq];exact hj) rfl (λc hc=>?_) U ?_ h
 ·simp only[bJ,List.mem_singleton] at hc;subst hc;rfl
 ·rw[<-nD,ha];unfold gk;apply List.ext_getElem
  ·simp[bJ];omega
  ·intro q h1 h2;have hq:q<xs.length:=by simpa using h2
   simp only[List.getElem_map,List.getElem_range];have e1:rd (List.set xs jx.toNat v) (q:Int)=if jx.toNat=q then v else xs[q]:=by
    rw[jA (by simpa using hq)]
    simp only[Int.toNat_natCast];rw[List.getElem_set]
   rw[e1]
   by_cases aS:q<jx.toNat
   ·rw[List.getElem_append_left (by simp;omega),List.getElem_take,List.getElem_map,if_neg U]
   ·by_cases heq:q=jx.toNat
    ·rw[List.getElem_append_right (by simp;omega),if_pos heq.symm,List.getElem_append_left (by simp[bJ];omega)]
     simp[bJ,heq]
    ·rw[List.getElem_append_right (by simp;omega),List.getElem_append_right (by simp[bJ];omega),if_neg U,List.getElem_drop,List.getElem_map]
     congr 2
     simp[bJ];omega
end
end
section
def BP (b o:Nat) (cs:List Value) (F:Hp):Prop:= ∃arr E fr,(b,Obj.cells arr E fr)∈F/\ ∀(i:Nat) (v:Value),cs[i]? =some v->arr[o+i]? =some v
section
theorem BP.mono (h:BP b o cs F) (hs: ∀c∈F,c∈F'):BP b o cs F':=by
 obtain⟨arr,E,fr,hm,hc⟩:=h;exact⟨arr,E,fr,hs _ hm,hc⟩
theorem Q2 (h:yq a p cs F) (ha:a=some ⟨b,off,none⟩) (hj:idx j HL=some F):BP b (off+p) cs HL.flatten:=by
 obtain⟨b',ES,arr,E,fr,vL,hm,hc⟩:=h;rw[ha] at vL;simp at vL;obtain⟨rfl,rfl⟩:=vL;exact⟨arr,E,fr,gx (by rw[<-idx_eq];exact hj) hm,hc⟩
theorem OA (h:BP b o cs F) (hj:idx j HL=some F) (f:Nat) (hv:idx f cs=some v): ∃arr E fr,(b,Obj.cells arr E fr)∈HL.flatten/\arr[o+f]? =some v:=by
 obtain⟨arr,E,fr,hm,hc⟩:=h;exact⟨arr,E,fr,gx (by rw[<-idx_eq];exact hj) hm,hc f v (by rw[<-idx_eq];exact hv)⟩
theorem afk {α:Type} [Inhabited α] {k:Fl α} {H:Hp} {xs:List α} {a:Option Addr} (h:aP k xs a H) {off:Nat} (ha:a=some ⟨b,off,none⟩) {i:Int} (hi:0<=i/\i<(xs.length:Int)) (f:Nat) {vs:List Value}
 (hv:((k.enc (rd xs i)).drop f).take vs.length=vs): ∃arr E fr,(b,Obj.cells arr E fr)∈H/\ ∀q v,vs[q]? =some v->arr[off+i.toNat*k.size+f+q]? =some v:=by
 obtain⟨arr,E,fr,hm,hc⟩:=iv h ha hi rfl;refine⟨arr,E,fr,hm,λq v hq=>?_⟩
 rw[<-hv] at hq;have hl:=(List.getElem?_eq_some_iff.1 hq).1;rw[List.getElem?_take_of_lt (by simp at hl;omega),List.getElem?_drop] at hq
 rw[Nat.add_assoc];exact hc (f+q) v hq
end
def Yz (r:Option Int) (a:Option Addr) (len sz:Nat) (u:Value):Prop:=match r with
 |none=>u= .pointer none
 |some i=>(0<=i/\i<(len:Int))/\ ∃b off,a=some ⟨b,off,none⟩/\u= .pointer (some ⟨b,off+i.toNat*sz+0,none⟩)
section
theorem aiu (T:Ty P) {t e b o1 o2 sz by':Nat} {z:Value} (hu:T.bW t=some (.pointer e)) (hi:T.inf e=some (sz,by',z)) (jW:Nat.beq sz 0=false) (w:World):
 (Op.equal t (.pointer (some ⟨b,o1,none⟩)) (.pointer (some ⟨b,o2,none⟩))).run P w= .ok (o1==o2) w:=by
 show(Op.equalIn (9999+1) t _ _).run P w=_
 generalize 9999=d;have bQ:sz≠0:=by intro q;subst q;simp at jW
 simp only[Op.equalIn,Sem.run_bind,cW hu,Result.andThen_ok,jZ hi,Sem.run_ite,bQ,if_true,sameAddr,beq_self_eq_true,Sem.run_pure,ne_eq,not_false_eq_true]
 congr 1
 by_cases h:o1=o2
 ·subst h;simp
 ·have:(⟨b,o1,none⟩:Addr)≠⟨b,o2,none⟩:=λq=>h (by injection q)
  rw[beq_eq_false_iff_ne.mpr this,beq_eq_false_iff_ne.mpr h]
theorem Wi {t:TypeId} {op:BinOp} {x y:Operand} {a b:Option Addr} (w:World):(eqGuard op t x y (.pointer a) (.pointer b)).run P w= .ok () w:=by
 unfold eqGuard;rw[Sem.run_ite];refine KE (λ_=>rfl) (λ_=>?_);simp
theorem ach (T:Ty P) {t yt e b1 b2 o1 o2 sz by':Nat} {x y:Operand} {a:Option Addr} {i j:Int} {z:Value} (aT:o.op= .binOp .neq t x y yt) (hx:ev env x=some (.pointer (some ⟨b1,o1+i.toNat*sz+0,none⟩)))
 (hy:ev env y=some (.pointer (some ⟨b2,o2+j.toNat*sz+0,none⟩))) (hu:T.bW t=some (.pointer e)) (hi:T.inf e=some (sz,by',z)) (jW:Nat.beq sz 0=false) (h1:a=some ⟨b1,o1,none⟩) (h2:a=some ⟨b2,o2,none⟩)
 (hi0:0<=i) (hj0:0<=j):gU W P n env H o (.bool (!(i==j))):=by
 intro t' w s ow;rw[h1] at h2;simp at h2;obtain⟨rfl,rfl⟩:=h2;unfold execOp;simp only[aT,bG s hx,bG s hy,binOp,Sem.run_bind,Wi,Result.andThen_ok,aiu T hu hi jW,Sem.run_pure]
 congr 3
 have bQ:0<sz:=by
  rcases Nat.eq_zero_or_pos sz with q |q
  ·subst q;simp at jW
  ·exact q
 by_cases h:i=j
 ·subst h;simp
 ·have h3:i.toNat≠j.toNat:=U;have h4:i.toNat*sz≠j.toNat*sz:=λq=>h3 (Nat.eq_of_mul_eq_mul_right bQ q);have h5: ¬(o1+i.toNat*sz+0=o1+j.toNat*sz+0):=U;simp only[beq_eq_false_iff_ne.mpr h];simp only[beq_eq_false_iff_ne.mpr h5]
end
section
theorem ait (T:Ty P) (hu:T.bW t=some (.pointer e)) (w:World):(Op.equal t (.pointer none) (.pointer (some a))).run P w= .ok false w/\(Op.equal t (.pointer (some a)) (.pointer none)).run P w= .ok false w:=by
 constructor
 ·show(Op.equalIn (9999+1) t _ _).run P w=_
  generalize 9999=d;simp only[Op.equalIn,Sem.run_bind,cW hu,Result.andThen_ok,Sem.run_pure]
  rfl
 ·show(Op.equalIn (9999+1) t _ _).run P w=_
  generalize 9999=d;simp only[Op.equalIn,Sem.run_bind,cW hu,Result.andThen_ok,Sem.run_pure]
theorem acg (T:Ty P) (aT:o.op= .binOp .neq t x y yt) (hx:ev env x=some (.pointer none)) (hy:ev env y=some (.pointer (some a))) (hu:T.bW t=some (.pointer e)):gU W P n env H o (.bool true):=by
 intro t' w s ow;unfold execOp;simp only[aT,bG s hx,bG s hy,binOp,Sem.run_bind,Wi,Result.andThen_ok,(ait T hu w).1,Sem.run_pure]
 rfl
end
end
section
section rules
variable {k : Fl α}
variable {k : Fl α}
theorem ZI (T:Ty P) (x0:α)
 (ho:ops[i]? =some o) (hw:want ops env o=some true) (hd:o.dst=some d) (hn:d<n) (aT:o.op= .makeSlice t x y) (hx:ev env x=some (.int kk l)) (hy:ev env y=some (.int A7 m))
 (hu:T.bW t=some (.slice E)) (hi:T.inf E=some (sz,by',z)) (hk:k.size=sz) (hz:bJ z=k.enc x0) (l0:0<=l) (l1:l<=m) (h0:0<=m) (hm:m<=4611686018427387904) (hb:by'*m<=281474976710656)
 (h: ∀a cap H',aj k E (List.replicate l.toNat x0) a cap H'->aJ W n K ((d,.slice a (List.replicate l.toNat x0).length cap)::env) (HL++[H'])):
 aJ W n (wpOp P ops Q i K) env HL:=by
 refine yF (β:={p:Option Addr×Nat×Hp // aj k E (List.replicate l.toNat x0) p.1 p.2.1 p.2.2}) (V:=λp=> .slice p.1.1 (List.replicate l.toNat x0).length p.1.2.1) (G:=λp=>(HL++[p.1.2.2]).flatten)
  ho hw hd hn (λt' w s ow=>?_) (λp=>h _ _ _ p.2)
 obtain⟨inf,mz,jW,iX,A4⟩:=T.mz E sz by' z hi
 have wb:z.cells.toList=k.enc x0:=by rw[rM,hz]
 have xB: ∀c:Nat,(Array.range (c*sz)).map (λi=>z.cells[i%z.cells.size]!)=(row k (List.replicate c x0)).toArray:=by
  intro c;have jW:z.cells.size=sz:=by have:=k.len x0;rw[<-wb] at this;simpa[hk] using this
  have hp:0<sz:=hk▸k.pos;apply Array.ext
  ·simp[lE,hk]
  ·intro j h1 h2;simp at h1;simp only[Array.getElem_map,Array.getElem_range,List.getElem_toArray];have hq:j/sz<c:=by rw[Nat.div_lt_iff_lt_mul hp];exact h1
   have hr:j%sz<sz:=Nat.mod_lt _ hp;have hg:=Dk k (List.replicate c x0) (j/sz) (j%sz) (by simpa using hq) (by rw[hk];exact hr)
   rw[hk,Nat.div_add_mod' j sz] at hg;simp only[List.getElem_replicate] at hg;rw[jW];have h3:z.cells[j%sz]? =(k.enc x0)[j%sz]? :=by rw[<-wb];simp
   rw[<-h3] at hg;rw[List.getElem?_eq_getElem (by simpa using h2)] at hg
   rw[getElem!_pos z.cells (j%sz) (by rw[jW];exact hr)]
   rw[Array.getElem?_eq_getElem (by rw[jW];exact hr)] at hg
   exact(Option.some.inj hg).symm
 have G2:IntKind.i64.wrap m=m:=by unfold IntKind.wrap IntKind.signed IntKind.bits;simp;omega
 have UW:IntKind.i64.wrap l=l:=by unfold IntKind.wrap IntKind.signed IntKind.bits;simp;omega
 have hl4: ¬l<0:=U;have hl5: ¬l>m:=U;refine⟨⟨(some ⟨w.heap.size,0,none⟩,m.toNat,[(w.heap.size,.cells (row k (List.replicate m.toNat x0)).toArray E (0,0))]),.inr ⟨w.heap.size,[],row k (List.replicate (m.toNat-l.toNat) x0),rfl,by rw[List.nil_append,<-qn,List.replicate_append_replicate,show l.toNat+(m.toNat-l.toNat)=m.toNat by omega],by simp;omega,by rw[lE];simp⟩⟩,
  w.alloc (.cells (row k (List.replicate m.toNat x0)).toArray E),?_,C_ _ ow⟩
 unfold execOp;have h4: ¬m<0:=U;have h5: ¬(281474976710656<(by':Int)*m):=U
 by_cases hc:m.toNat*sz=0
 ·have hz0:m.toNat=0:=by
   rcases Nat.mul_eq_zero.1 hc with h |h
   ·exact h
   ·have:=k.pos;omega
  have:m=0:=U;have AV:l=0:=U;subst this;subst AV;simp[aT,bG s hx,bG s hy,Instr.makeSlice,cW hu,asInt,asIntOf,typeInfo,mz,iX,G2,UW,jZ hi,newRow,Bk];have e:(Array.range 0).map (λ_=>(default:Value))= #[]:=by apply Array.ext';simp
  rw[e]
 ·simp[aT,bG s hx,bG s hy,Instr.makeSlice,cW hu,asInt,asIntOf,typeInfo,mz,iX,G2,UW,hl4,hl5,h4,h5,jZ hi,hc,Bl hi,newRow,xB]
theorem ZM (T:Ty P) (x0:α)
 (hs:slot n ops env i=some (o,d)) (aT:o.op= .makeSlice t x y) (hx:ev env x=some (.int kk l)) (hy:ev env y=some (.int A7 m))
 (hu:T.bW t=some (.slice E)) (hi:T.inf E=some (sz,by',z)) (hk:k.size=sz) (hz:bJ z=k.enc x0) (h0:0<=l/\l<=m/\m<=1099511627776) (iX:Nat.ble by' 128=true)
 (h: ∀a cap H',aj k E (List.replicate l.toNat x0) a cap H'->aJ W n K ((d,.slice a (List.replicate l.toNat x0).length cap)::env) (HL++[H'])):aJ W n (wpOp P ops Q i K) env HL:=
 let⟨ho,hw,hd,hn⟩:=vf hs
 ZI T x0 ho hw hd hn aT hx hy hu hi hk hz h0.1 h0.2.1 U U (by
  have h1:=Nat.le_of_ble_eq_true iX;have h2:(by':Int)*m<=128*1099511627776:=by
   have h3:(by':Int)<=128:=U
   exact Int.mul_le_mul h3 h0.2.2 U U
  omega) h
end rules
section
variable {HL : List Hp}
theorem afl (hj:idx j HL=some ((b,.cells (pre++v::post).toArray E fr)::Hr)):
 ∃arr E fr,(b,Obj.cells arr E fr)∈HL.flatten/\arr[pre.length]? =some v:=
 ⟨_,E,fr,gx (by rw[<-idx_eq];exact hj) (List.mem_cons_self ..),by simp⟩
end
section
theorem Z0 (T:Ty P) (j:Nat)
 (hs:ss ops env i=some o) (aT:o.op= .store t x y) (hx:ev env x=some (.pointer (some ⟨b,pre.length,none⟩)))
 (hy:ev env y=some (.int kk v)) (hi:T.inf t=some (1,by',z)) (hj:idx j HL=some ((b,.cells (pre++v0::post).toArray E (0,0))::Hr))
 (h:aJ W n K env (HL.set j ((b,.cells (pre++Value.int kk v::post).toArray E (0,0))::Hr))):aJ W n (wpOp P ops Q i K) env HL:=by
 let⟨ho,hw,hd⟩:=Bv hs
 refine D1 T ho hw hd aT hx hy hi (by rw[<-idx_eq];exact hj) rfl (λc hc=>?_) (by simp) ?_ h
 ·simp only[bJ,List.mem_singleton] at hc;subst hc;rfl
 ·unfold gk;simp[bJ]
end
end
section
section
variable {HL : List Hp}
theorem CG (hj:idx j HL=some ((b,.cells (pre++(mid++post)).toArray E fr)::Hr)) (f:Nat) (hv:idx f mid=some v):
 ∃arr E fr,(b,Obj.cells arr E fr)∈HL.flatten/\arr[pre.length+f]? =some v:=by
 refine⟨_,E,fr,gx (by rw[<-idx_eq];exact hj) (List.mem_cons_self ..),?_⟩
 rw[idx_eq] at hv;have hl:=(List.getElem?_eq_some_iff.1 hv).1;rw[List.getElem?_toArray,List.getElem?_append_right U,show pre.length+f-pre.length=f by omega,List.getElem?_append_left hl]
 exact hv
end
section
theorem Jp (T:Ty P) (j f:Nat) (cs:List Value)
 (hs:ss ops env i=some o) (aT:o.op= .store t x y) (hx:ev env x=some (.pointer (some ⟨b,pre.length+f,none⟩)))
 (hy:ev env y=some v) (hi:T.inf t=some (sz,by',z)) (hj:idx j HL=some ((b,.cells (pre++(mid++post)).toArray E (0,0))::Hr)) (hl:Nat.beq (bJ v).length sz=true) (hf:(bJ v).all Value.oneCell'=true)
 (hb:Nat.ble (f+sz) mid.length=true) (nD:gk mid f (bJ v)=cs)
 (h:aJ W n K env (HL.set j ((b,.cells (pre++(cs++post)).toArray E (0,0))::Hr))):aJ W n (wpOp P ops Q i K) env HL:=by
 let⟨ho,hw,hd⟩:=Bv hs
 have h1:=Nat.eq_of_beq_eq_true hl;have h2:=Nat.le_of_ble_eq_true hb;refine D1 T ho hw hd aT hx hy hi (by rw[<-idx_eq];exact hj) h1 (λc hc=>List.all_eq_true.1 hf c hc) (by simp;omega) ?_ h
 subst nD;unfold gk;have e1:List.take (pre.length+f) (pre++(mid++post))=pre++List.take f mid:=by
  rw[List.take_append,List.take_of_length_le U,show pre.length+f-pre.length=f by omega,List.take_append_of_le_length U]
 have e2:List.drop (pre.length+f+(bJ v).length) (pre++(mid++post))=List.drop (f+(bJ v).length) mid++post:=by
  rw[List.drop_append,List.drop_of_length_le U,show pre.length+f+(bJ v).length-pre.length=f+(bJ v).length by omega,List.drop_append_of_le_length U]
  simp
 simp only[e1,e2,List.append_assoc]
end
section
variable [Inhabited α] (kd : Kd α)
def yo (pre:List Value) (xs:List α) (b:Nat) (T:TypeId) (H:Hp):Prop:=
 ∃cc R,sE kd xs cc R/\H=(b,Obj.cells (pre++(cc.map λc=>c.val).flatten).toArray T (0,0))::R
def wW (pre:List Value) (xs:List α) (b:Nat) (T:TypeId) (i:Int) (p q:List Value) (R:Hp):Prop:=
 (0<=i/\i<(xs.length:Int))/\p.length=pre.length+i.toNat*kd.size/\(∃p0,p=pre++p0)/\
   ∀x' sU I7,kd.own x' sU I7-> ∃R2,R2.Perm (R++I7)/\yo kd pre (xs.set i.toNat x') b T ((b,Obj.cells (p++(sU++q)).toArray T (0,0))::R2)
variable {kd}
theorem Si: ∀(cc:List (Rw kd.size)) (i:Nat) (h:i<cc.length),∃p q:List Value,p.length=i*kd.size/\(cc.map λc=>c.val).flatten=p++((cc[i]).val++q)/\ ∀c':Rw kd.size,((cc.set i c').map λc=>c.val).flatten=p++(c'.val++q)
 |c::cc,0,_=>⟨[],(cc.map λc=>c.val).flatten,by simp,by simp,λc'=>by simp⟩
 |c::cc,i+1,h=>by
  obtain⟨p,q,h1,h2,h3⟩:=Si cc i (by simpa using h)
  refine⟨c.val++p,q,by rw[List.length_append,c.len,h1,Nat.succ_mul];omega,?_,λc'=>?_⟩
  ·simp only[List.map_cons,List.flatten_cons,List.getElem_cons_succ,h2,List.append_assoc]
  ·simp only[List.set_cons_succ,List.map_cons,List.flatten_cons,h3 c',List.append_assoc]
section
theorem Mk (hj:idx j HL=some H) (so:yo kd pre xs b T H) (hi:0<=i/\i<(xs.length:Int))
 (h: ∀p q cs R Hx,kd.own (rd xs i) cs Hx->wW kd pre xs b T i p q R->aJ W n' F env (HL.set j [(b,Obj.cells (p++(cs++q)).toArray T (0,0))]++[R,Hx])):aJ W n' F env HL:=by
 obtain⟨cc,R,hl,rfl⟩:=so;have hlen:=CO _ _ _ hl;obtain⟨Hx,R',e1,e2,e3⟩:=KP xs cc R i.toNat hl U;obtain⟨p,q,h1,h2,h3⟩:=Si cc i.toNat U;rw[show((i.toNat:Nat):Int)=i by omega] at e1
 have ec:(rd cc i)=cc[i.toNat]'(by omega):=jA U
 rw[ec] at e1;refine pd (λw o=>?_) (h (pre++p) q (cc[i.toNat]'(by omega)).val R' Hx e1 ⟨hi,by rw[List.length_append,h1],⟨p,rfl⟩,λx' sU I7 qg=>?_⟩)
 ·rw[idx_eq] at hj;have nf:=(List.getElem?_eq_some_iff.1 hj).1;have a1:=xn HL j _ hj;have a2:=vI HL j _ [(b,Obj.cells ((pre++p)++((cc[i.toNat]'(by omega)).val++q)).toArray T (0,0))] hj
  refine o.perm (a1.trans ?_);rw[List.flatten_append];refine List.Perm.trans ?_ (List.Perm.append_right _ a2.symm);rw[h2,<-List.append_assoc pre p];simp only[List.flatten_cons,List.flatten_nil,List.append_nil,List.cons_append,List.nil_append];refine List.Perm.cons _ ?_;exact(List.Perm.append_right _ e2).trans List.perm_append_comm
 ·obtain⟨R2,p2,l2⟩:=e3 x' ⟨sU,kd.len _ _ _ qg,kd.plain _ _ _ qg⟩ I7 qg;exact⟨R2,p2,_,R2,l2,by rw[h3,List.append_assoc]⟩
theorem FV (x':α) (hj:idx j HL=some [(b,Obj.cells (p++(cs++q)).toArray T (0,0))]) (so:wW kd pre xs b T i p q R)
 (h1:idx q1 HL=some R) (h2:idx q2 HL=some Hx) (n1:Nat.beq j q1=false) (n2:Nat.beq j q2=false) (n3:Nat.beq q1 q2=false) (hx:kd.own x' cs Hx)
 (h: ∀H',yo kd pre (xs.set i.toNat x') b T H'->aJ W n' F env (((HL.set j H').set q1 []).set q2 [])):aJ W n' F env HL:=by
 obtain⟨hi,_,_,hc⟩:=so;obtain⟨R2,p2,l2⟩:=hc x' cs Hx hx;have K0:j≠q1:=λe=>by subst e;simp at n1
 have OZ:j≠q2:=λe=>by subst e;simp at n2
 have ne3:q1≠q2:=λe=>by subst e;simp at n3
 refine pd (λw o=>?_) (h _ l2);rw[idx_eq] at hj h1 h2;have nf:=(List.getElem?_eq_some_iff.1 hj).1;have s1:=EU hj h1 K0;have N_:((HL.set j ([(b,Obj.cells (p++(cs++q)).toArray T (0,0))]++R)).set q1 [])[j]? =some ([(b,Obj.cells (p++(cs++q)).toArray T (0,0))]++R):=by
  rw[List.getElem?_set_ne (Ne.symm K0)];exact List.getElem?_set_self nf
 have h22:((HL.set j ([(b,Obj.cells (p++(cs++q)).toArray T (0,0))]++R)).set q1 [])[q2]? =some Hx:=by
  rw[List.getElem?_set_ne ne3,List.getElem?_set_ne OZ];exact h2
 have s2:=EU N_ h22 OZ;refine o.perm (s1.trans (s2.trans ?_));have e:((((HL.set j ([(b,Obj.cells (p++(cs++q)).toArray T (0,0))]++R)).set q1 []).set j (([(b,Obj.cells (p++(cs++q)).toArray T (0,0))]++R)++Hx)).set q2 [])=((HL.set j ((b,Obj.cells (p++(cs++q)).toArray T (0,0))::(R++Hx))).set q1 []).set q2 []:=by
  rw[List.set_comm _ _ (Ne.symm K0),List.set_set];simp
 rw[e];have f1: ∀A:Hp,((HL.set j A).set q1 []).set q2 []=((HL.set q1 []).set q2 []).set j A:=λA=>by
  rw[List.set_comm _ _ K0,List.set_comm _ _ OZ]
 rw[f1,f1];exact Ck (List.Perm.cons _ p2.symm)
end
end
section
variable [Inhabited α] {kd : Kd α}
theorem A5 (hj:idx j HL=some H) (so:yo kd pre xs b T H) (hv:idx f pre=some v): ∃arr E fr,(b,Obj.cells arr E fr)∈HL.flatten/\arr[f]? =some v:=by
 obtain⟨cc,R,hl,rfl⟩:=so;refine⟨_,T,(0,0),gx (by rw[<-idx_eq];exact hj) (List.mem_cons_self ..),?_⟩
 rw[idx_eq] at hv;have h1:=(List.getElem?_eq_some_iff.1 hv).1;rw[List.getElem?_toArray,List.getElem?_append_left h1];exact hv
section
theorem Jl (T:Ty P) (j:Nat) (cs:List Value)
 (hs:ss ops env i=some o) (aT:o.op= .store t x y) (hx:ev env x=some (.pointer (some ⟨b,f,none⟩)))
 (hy:ev env y=some v) (hi:T.inf t=some (sz,by',z)) (hj:idx j HL=some H) (so:yo kd pre xs b E H) (hl:Nat.beq (bJ v).length sz=true) (hf:(bJ v).all Value.oneCell'=true)
 (hb:Nat.ble (f+sz) pre.length=true) (nD:gk pre f (bJ v)=cs)
 (h: ∀H',yo kd cs xs b E H'->aJ W n K env (HL.set j H')):aJ W n (wpOp P ops Q i K) env HL:=by
 obtain⟨cc,R,rX,rfl⟩:=so
 let⟨ho,hw,hd⟩:=Bv hs
 have h1:=Nat.eq_of_beq_eq_true hl;have h2:=Nat.le_of_ble_eq_true hb;refine D1 T ho hw hd aT hx hy hi (by rw[<-idx_eq];exact hj) h1 (λc hc=>List.all_eq_true.1 hf c hc) (by simp;omega) ?_ (h _ ⟨cc,R,rX,rfl⟩)
 subst nD;unfold gk;have e1:List.take f (pre++(cc.map λc=>c.val).flatten)=List.take f pre:=List.take_append_of_le_length U;have e2:List.drop (f+(bJ v).length) (pre++(cc.map λc=>c.val).flatten)=List.drop (f+(bJ v).length) pre++(cc.map λc=>c.val).flatten:=List.drop_append_of_le_length U;simp only[e1,e2,List.append_assoc]
end
end
end
section
section
variable {k : Fl α}
theorem aka {z:Value} (hk:k.size=sz) (hz:bJ z=k.enc x0) (c:Nat):(Builtin.zeroCells z.cells c).toList=row k (List.replicate c x0):=by
 have wb:z.cells.toList=k.enc x0:=by rw[rM,hz]
 have jW:z.cells.size=sz:=by have:=k.len x0;rw[<-wb] at this;simpa[hk] using this
 have hp:0<sz:=hk▸k.pos;unfold Builtin.zeroCells;rw[jW];apply List.ext_getElem
 ·simp[lE,hk]
 ·intro j h1 h2;simp at h1;simp only[Array.getElem_toList,Array.getElem_map,Array.getElem_range];have hq:j/sz<c:=by rw[Nat.div_lt_iff_lt_mul hp];exact h1
  have hr:j%sz<sz:=Nat.mod_lt _ hp;have hg:=Dk k (List.replicate c x0) (j/sz) (j%sz) (by simpa using hq) (by rw[hk];exact hr)
  rw[hk,Nat.div_add_mod' j sz] at hg;simp only[List.getElem_replicate] at hg;have h3:z.cells[j%sz]? =(k.enc x0)[j%sz]? :=by rw[<-wb];simp
  rw[<-h3] at hg;rw[List.getElem?_eq_getElem (by simpa using h2)] at hg
  rw[getElem!_pos z.cells (j%sz) (by rw[jW];exact hr)]
  rw[Array.getElem?_eq_getElem (by rw[jW];exact hr)] at hg
  exact(Option.some.inj hg).symm
theorem abb (T:Ty P) {t ty E:TypeId} {xs:List α} {a da:Option Addr} {g cap dc dl lo sz by':Nat} {z:Value} {Hj:Hp} {w:World} {HL:List Hp} (x0:α)
 (hu:T.bW t=some (.slice E)) (hi:T.inf E=some (sz,by',z)) (hk:k.size=sz) (hz:bJ z=k.enc x0)
 (hj:HL[g]? =some Hj) (so:aj k E xs a cap Hj) (vS:(da=a/\lo=0)∨da=gm a cap lo sz) (hl:lo+dl<=xs.length) (ow:bk W w HL.flatten):
 ∃H' w',(Builtin.clear_ #[t] ty #[.slice da dl dc]).run P w= .ok (.tuple #[]) w'/\
  aj k E (cm xs lo dl (List.replicate dl x0)) a cap H'/\bk W w' (HL.set g H').flatten:=by
 have nI: ∀(r:Option Addr) (w':World),r=da->(match r with |some ad=>(storeCells ad (row k (List.replicate dl x0))).run P w= .ok () w' |none=>w'=w)->
  (Builtin.clear_ #[t] ty #[.slice da dl dc]).run P w= .ok (.tuple #[]) w':=by
  intro r w' hr h;subst hr
  cases r with
  |none=>subst h;simp[Builtin.clear_,cW hu]
  |some ad=>
   cases dl with
   |zero=>
    have h:(storeCells ad (row k (List.replicate 0 x0))).run P w= .ok () w':=h;simp[Bk,storeCells] at h;subst h;simp[Builtin.clear_,cW hu]
   |succ m=>
    have Oz:=aka (k:=k) hk hz (m+1);have h:(storeCells ad (row k (List.replicate (m+1) x0))).run P w= .ok () w':=h;simp[Builtin.clear_,cW hu,Bl hi,Oz,h]
 have afg:(List.replicate dl x0).length=dl:=by simp
 rcases so with⟨rfl,rfl,rfl,rfl⟩ |⟨b,pre,post,rfl,rfl,h3,h4⟩
 ·have hz:lo=0/\dl=0:=by simp at hl;omega
  obtain⟨rfl,rfl⟩:=hz;have N1:da=none:=by
   rcases vS with⟨h,_⟩ |h
   ·exact h
   ·simpa[gm] using h
  refine⟨[],w,nI none w N1.symm rfl,.inl ⟨rfl,by simp[cm],rfl,rfl⟩,sa hj (by simpa using u_ hj ow)⟩
 ·have zk:=lE k xs;have zl:=lE k (List.replicate dl x0);rw[afg] at zl
  by_cases h0:dl=0
  ·subst h0;have hc:cm xs lo 0 (List.replicate 0 x0)=xs:=by simp[cm]
   have bQ: ∃ad,da=some ad:=by
    rcases vS with⟨h,_⟩ |h
    ·exact⟨_,h⟩
    ·unfold gm at h;split at h
     ·exact⟨_,h⟩
     ·exact⟨_,h⟩
   obtain⟨ad,Nw⟩:=bQ;refine⟨_,w,nI (some ad) w Nw.symm ?_,by rw[hc];exact .inr ⟨b,pre,post,rfl,rfl,h3,h4⟩,sa hj (u_ hj ow)⟩
   simp[Bk,storeCells]
  ·have N0:da=some ⟨b,pre.length+lo*sz,none⟩:=by
    rcases vS with⟨h,h'⟩ |h
    ·rw[h,h'];simp
    ·have bQ:cap≠lo:=U;rw[h];simp only[gm,bQ,if_false,Option.map_some,Addr.add];split
     ·rename_i h0;simp[h0]
     ·rfl
   have mc:lo*sz+dl*sz<=xs.length*sz:=by rw[<-Nat.add_mul];exact Nat.mul_le_mul_right _ U
   obtain⟨w',hr,cw⟩:=HY T b E (row k (List.replicate dl x0)) w (pre++(row k xs++post)).toArray (pre.length+lo*sz) 0 (by simpa using u_ hj ow)
    (by simp[zk,zl,hk];omega) (Pz k _)
   refine⟨[(b,Obj.cells (pre++(row k (cm xs lo dl (List.replicate dl x0))++post)).toArray E (0,0))],w',nI (some _) w' N0.symm hr,?_,?_⟩
   ·have lO:=AA (xs:=xs) (ys:=List.replicate dl x0) (lo:=lo) (n:=dl) hl U;exact .inr ⟨b,pre,post,rfl,rfl,by rw[lO];exact h3,by rw[lO];exact h4⟩
   ·refine sa hj ?_;rw[Nat.add_zero,Is _ _ _ (by simp[zk,zl,hk];omega)] at cw
    have e:gk (pre++(row k xs++post)) (pre.length+lo*sz) (row k (List.replicate dl x0))=pre++(row k (cm xs lo dl (List.replicate dl x0))++post):=by
     have zj:row k xs=row k (xs.take lo)++row k (xs.drop lo):=by rw[<-qn,List.take_append_drop]
     have wa:row k (xs.drop lo)=row k ((xs.drop lo).take dl)++row k (xs.drop (lo+dl)):=by
      rw[<-qn,<-List.drop_drop,List.take_append_drop]
     have zd:(row k (xs.take lo)).length=lo*sz:=by rw[lE,hk];congr 1;simp;omega
     have qR:(row k ((xs.drop lo).take dl)).length=dl*sz:=by rw[lE,hk];congr 1;simp;omega
     have htk:(List.replicate dl x0).take dl=List.replicate dl x0:=List.take_of_length_le U;unfold gk;rw[show pre.length+lo*sz=(pre++row k (xs.take lo)).length by simp[zd]]
     rw[show pre++(row k xs++post)=(pre++row k (xs.take lo))++(row k (xs.drop lo)++post) by rw[zj];simp]
     rw[List.take_left',List.drop_length_add_append,wa]
     ·rw[show(row k (List.replicate dl x0)).length=(row k ((xs.drop lo).take dl)).length by rw[zl,qR,hk]]
      rw[show row k ((xs.drop lo).take dl)++row k (xs.drop (lo+dl))++post=row k ((xs.drop lo).take dl)++(row k (xs.drop (lo+dl))++post) by simp]
      rw[List.drop_left']
      ·simp[cm,qn,htk]
      ·rfl
     ·rfl
    simpa[e] using cw
theorem MI (h:lo+dl<=xs.length):(cm xs lo dl (List.replicate dl x0)).length=xs.length:=AA h (by simp)
section rules
theorem ZB (T:Ty P) {g lo:Nat} {s:Operand} {t E:TypeId} {xs:List α} {a da:Option Addr} {cap dc dl sz by':Nat} {z:Value} {Hj:Hp} (x0:α)
 (qU:ss ops env i=some o) (aT:o.op= .call ⟨.builtin .clear,#[s],#[t]⟩)
 (hs:ev env s=some (.slice da dl dc)) (hu:T.bW t=some (.slice E)) (hi:T.inf E=some (sz,by',z)) (hk:k.size=sz) (hz:bJ z=k.enc x0)
 (hj:idx g HL=some Hj) (so:aj k E xs a cap Hj) (vS:(da=a/\lo=0)∨da=gm a cap lo sz) (hl:lo+dl<=xs.length)
 (h: ∀H',aj k E (cm xs lo dl (List.replicate dl x0)) a cap H'->aJ W n K env (HL.set g H')):aJ W n (wpOp P ops Q i K) env HL:=by
 obtain⟨ho,hw,hd⟩:=Bv qU;refine Jq (β:={H':Hp // aj k E (cm xs lo dl (List.replicate dl x0)) a cap H'}) (G:=λp=>(HL.set g p.1).flatten)
  ho hw hd (λtt w sl ow=>?_) (λp=>h _ p.2)
 obtain⟨H',w',hr,uQ,cw⟩:=abb (P:=P) T (ty:=o.type) (dc:=dc) x0 hu hi hk hz (by rw[<-idx_eq];exact hj) so vS hl ow
 refine⟨⟨H',uQ⟩,w',.inr ⟨.tuple #[],?_⟩,cw⟩;obtain⟨cs,hb⟩:=HX (P:=P) (t:=tt) w aT;rw[hb];simp only[List.map_toArray,List.map_cons,List.map_nil,bG sl hs,builtin,Sem.run_bind];refine Eq.trans (congrArg (λr=>Result.andThen r _) hr) ?_;simp only[Result.andThen_ok,Sem.run_pure]
end rules
end
end
section
section
theorem bS (j:Nat) (hj:idx j HL=some As.flatten) (h:aJ W n' F env (HL.eraseIdx j++As)):aJ W n' F env HL:=by
 rw[idx_eq] at hj;refine pd (λw o=>o.perm ?_) h;rw[List.flatten_append];exact(xn HL j _ hj).trans List.perm_append_comm
theorem dw (js:List Nat) (hs:qt js HL=(As,R)) (hH:H=As.flatten) (h:aJ W n' F env (R++[H])):aJ W n' F env HL:=
 f_ js hs (by rw[<-hH];exact h)
end
theorem aa0 (e:A.flatten=B.flatten) (eg: ∀b,(G b).flatten=(G' b).flatten) (c:gT P f as A V G):gT P f as B V G':=by
 show yp P f _ B.flatten _ (λb=>(G' b).flatten)
 rw[<-e,show(λb=>(G' b).flatten)=(λb=>(G b).flatten) from funext λb=>(eg b).symm];exact c
theorem aaZ (e:A.flatten=B.flatten) (c:gT P f as A (λ_:Unit=>v) (λ_=>A)):gT P f as B (λ_:Unit=>v) (λ_=>B):=by
 show yp P f _ B.flatten _ (λ_=>B.flatten)
 rw[<-e];exact c
section
variable [Inhabited α]
theorem wW.at (h:wW kd pre xs b T i p q R):p.length=pre.length+i.toNat*kd.size:=h.2.1
theorem EG (hj:idx j HL=some ((b,Obj.cells (p++(cs++q)).toArray T' fr)::Hr)) (so:wW kd pre xs b T i p q R) (hv:idx f pre=some v):
 ∃arr E fr,(b,Obj.cells arr E fr)∈HL.flatten/\arr[f]? =some v:=by
 obtain⟨_,_,⟨p0,rfl⟩,_⟩:=so;refine⟨_,T',fr,gx (by rw[<-idx_eq];exact hj) (List.mem_cons_self ..),?_⟩
 rw[idx_eq] at hv;have h1:=(List.getElem?_eq_some_iff.1 hv).1;rw[List.getElem?_toArray,List.append_assoc,List.getElem?_append_left h1];exact hv
theorem JN (T:Ty P) {m by' b off sz:Nat} {t E:TypeId} {x ix:Operand} {kk:IntKind} {j:Int} {z:Value} {p:List Value} (aT:o.op= .indexAddr t x ix)
 (hx:ev env x=some (.pointer (some ⟨b,off,none⟩))) (za:ev env ix=some (.int kk j)) (hu:T.bW t=some (.array m E)) (hi:T.inf E=some (sz,by',z))
 (hj:0<=j/\j<(m:Int)) (hp:p.length=off+j.toNat*sz):gU W P n env H o (.pointer (some ⟨b,p.length+0,none⟩)):=by
 intro t' w s ow;obtain⟨h0,h1⟩:=hj;unfold execOp;simp only[aT,bG s hx,bG s za,Instr.indexAt,Instr.sureAddr,asIntOf,Sem.run_bind,Sem.run_pure,Result.andThen_ok,cW hu,Sem.run_ite,h0,h1,and_self,if_true,jZ hi]
 congr 3
 unfold Addr.add;rw[hp];split
 ·rename_i h;simp[h]
 ·simp
end
section
variable {α : Type} [Inhabited α] {kd : Kd α} {F : Act -> World -> Prop} {HL : List Hp} {xs : List α} {T : TypeId}
theorem aiZ (h:0<=i/\i<(xs.length:Int)):xs.set i.toNat (rd xs i)=xs:=by
 have h1:i.toNat<xs.length:=U;have h2:rd xs ((i.toNat:Nat):Int)=xs[i.toNat]'h1:=jA h1;rw[show((i.toNat:Nat):Int)=i by omega] at h2
 rw[h2];exact List.set_getElem_self h1
theorem Lo {β:Type} {ys:List β} {i m:Nat} {y:β} (h:ys.length=m):(ys.set i y).length=m:=by rw[List.length_set];exact h
theorem Zv (hj:idx j HL=some [(b,Obj.cells (p++(cs++q)).toArray T (0,0))]) (so:wW kd pre xs b T i p q R)
 (h1:idx q1 HL=some R) (h2:idx q2 HL=some Hx) (n1:Nat.beq j q1=false) (n2:Nat.beq j q2=false) (n3:Nat.beq q1 q2=false) (hx:kd.own (rd xs i) cs Hx)
 (h: ∀H',yo kd pre xs b T H'->aJ W n' F env (((HL.set j H').set q1 []).set q2 [])):aJ W n' F env HL:=
 FV (rd xs i) hj so h1 h2 n1 n2 n3 hx (λH' hb=>h H' (by rw[aiZ so.1] at hb;exact hb))
end
section
variable [Inhabited α]
theorem Zu (T:Ty P) (pre:List Value) (m:Nat) (x0:α) (c0:List Value) (hs:slot n ops env i=some (o,d)) (aT:o.op= .box t x) (hx:ev env x=some v) (hz:bJ v=pre++(List.replicate m c0).flatten)
 (uR:kd.own x0 c0 []) (h: ∀b H',yo kd pre (List.replicate m x0) b t H'->aJ W n K ((d,.pointer (some ⟨b,0,none⟩))::env) (HL++[H'])):aJ W n (wpOp P ops Q i K) env HL:=by
 refine QM T _ hs aT hx hz (λb=>h b _ ⟨List.replicate m ⟨c0,kd.len _ _ _ uR,kd.plain _ _ _ uR⟩,[],OJ uR m,?_⟩);have e:((List.replicate m (⟨c0,kd.len _ _ _ uR,kd.plain _ _ _ uR⟩:Rw kd.size)).map λc=>c.val)=List.replicate m c0:=by simp
 rw[e]
end
section
variable {k : Fl α}
theorem dA.trans (h:dA k xs a n l a' n') (hc:xs.length<=n) (h2:dA k l a' n' m YG n''):dA k xs a n m YG n'':=by
 rcases h2 with rfl |⟨lo,hi,h1,rfl,rfl,rfl⟩
 ·exact .inl rfl
 ·exact h.sub hc h1
end
end
section
theorem ahe (ht:P.underlying t=some .bool) (hc:P.cellsOf t=1):I' P t Fl.bool (λ_=>True):=
 ⟨hc,λ_ _ _ _ _ _ _ _ h=>let⟨b,h1,_⟩:=DataW.trod_bool ht h;⟨b,h1,trivial⟩⟩
end
end Go.Hx
