/- What the functions do, in plain Lean, on the objects that are kept in order. -/
import Derived.Test.YthodkonhneebbaaGreatDoorKW14
import Derived.Test.YthodkonhneebbaaGreatDoorKW10
import Derived.Test.YthodkonhneebbaaGreatDoorKW11
import Derived.Test.YthodkonhneebbaaGreatDoorKW8
namespace Go.Proofs.YthodkonhneebbaaGreatDoor
open Go.Hx
set_option linter.unusedVariables false
set_option linter.unusedSimpArgs false
theorem iG.mono {r:eK} {n n':Nat} (h:iG r n) (hn:n<=n') (hb:n'<=1000000000):iG r n':=⟨h.len_,h.at_,λb hb=>by have:=h.gone b hb;omega,h.Bm,hb⟩
structure Iv (r:eK) (todo:List ba) (n:Nat) (r':eK) (K7:List ba):Prop where
 ring: ∃n',iG r' n'/\n'+K7.length<=n+todo.length
 uh: ∀k i,Has r k i->Has r' k i
 new: ∀k i,Has r' k i->Has r k i∨ ∃x∈todo,x.Key=k/\x.Cell=i
 Xd: ∃a,todo=a++K7/\ ∀x∈a,Has r' x.Key x.Cell
 len_:r'.len+2*K7.length<=r.len+2*todo.length
 at_:r'.bc=r.bc
 end_: ∀x l,K7=x::l->x.Key<r'.bc∨r'.bc+256<=x.Key
theorem abB (s:de): ∀(m k:Nat) (r:eK) (todo:List ba) (n:Nat),todo.length<=m->m<k->iG r n->n+todo.length<=2000000->(∀x∈todo,0<=x.Key/\x.Key<=1073741824)->
 Ok (j4.l0 k s r todo) (λq=>q.t=s.t/\q.aP=s.aP/\Iv r todo n q.wait q.todo):=by
 have nil: ∀(k:Nat) (r:eK) (n:Nat),iG r n->Ok (j4.l0 (k+1) s r []) (λq=>q.t=s.t/\q.aP=s.aP/\Iv r [] n q.wait q.todo):=by
  intro k r n h;rw[j4.l0,ah bh];exact Ok.pure ⟨J,J,⟨⟨n,h,by simp⟩,λ_ _ q=>q,λ_ _ q=> .inl q,⟨[],J,by simp⟩,Int.le_refl _,J,by simp⟩⟩
 intro m
 induction m with
 |zero=>
  intro k r todo n hm hk h hn hx;obtain⟨k,rfl⟩:=bq hk;have:todo=[]:=List.length_eq_zero_iff.1 U;subst this;exact nil k r n h
 |succ m ih=>
  intro k r todo n hm hk h hn hx;obtain⟨k,rfl⟩:=bq hk
  cases todo with
  |nil=>exact nil k r n h
  |cons x l=>
   simp only[List.length_cons] at hm hn;have uf:=hx x (List.mem_cons_self ..);have e0:rd (x::l) 0=x:=rfl;have e1:aB (x::l) 1 ((x::l).length:Int)=l:=by unfold aB;simp
   rw[j4.l0,af bh,af bh,e0,e1];refine(WB h U U uf.1 x.Cell).bind' λv hv=>?_
   obtain⟨h1,h2,h3⟩:=hv;simp only;rcases h3 with⟨a,b,c,d,e⟩ |⟨a,b,c⟩
   ·rw[a];refine Ok.pos J (Ok.ct bp ((ih k v.2 l (n+1) U U h2 U (λy hy=>hx y (List.mem_cons_of_mem _ hy))).mono λq hq=>?_));obtain⟨q1,q2,q3⟩:=hq;obtain⟨n',f1,f2⟩:=q3.ring;obtain⟨A,g1,g2⟩:=q3.Xd;refine⟨q1,q2,⟨⟨n',f1,by simp only[List.length_cons];omega⟩,λk i hh=>q3.uh k i ((e k i).2 (.inl hh)),λk i hh=>?_,⟨x::A,by rw[g1];rfl,λy hy=>?_⟩,?_,by rw[q3.at_,h1],q3.end_⟩⟩
    ·rcases q3.new k i hh with z |⟨y,hy,z⟩
     ·rcases(e k i).1 z with z |⟨rfl,rfl⟩
      ·exact .inl z
      ·exact .inr ⟨x,List.mem_cons_self ..,J,J⟩
     ·exact .inr ⟨y,List.mem_cons_of_mem _ hy,z⟩
    ·rcases List.mem_cons.1 hy with rfl |hy
     ·exact q3.uh _ _ ((e _ _).2 (.inr ⟨J,J⟩))
     ·exact g2 y hy
    ·have:=q3.len_;simp only[List.length_cons];omega
   ·rw[a];refine Ok.neg bh (Ok.pure ⟨J,J,?_⟩);simp only;rw[c];exact⟨⟨n,h,by simp⟩,λ_ _ q=>q,λ_ _ q=> .inl q,⟨[],J,by simp⟩,Int.le_refl _,J,λy l' hy=>by simp only[List.cons.injEq] at hy;rw[<-hy.1];exact b⟩
theorem abA (s:de) {n:Nat} (h:iG s.wait n) (hn:n+s.todo.length<=2000000) (hx: ∀x∈s.todo,0<=x.Key/\x.Key<=1073741824):
 Ok (j4.f s) (λq=>q.t=s.t/\q.aP=s.aP/\ ∃r,((r=s.wait/\(s.wait.len≠0∨s.todo=[]))∨(s.wait.len=0/\r.len=0/\ ∃x l,s.todo=x::l/\r.bc=if x.Key<s.wait.bc then s.wait.bc else x.Key))/\(∀k i,Has r k i↔Has s.wait k i)/\Iv r s.todo n q.wait q.todo):=by
 unfold j4.f;have key: ∀r,iG r n->Ok (j4.l0 fuel s r s.todo) (λq=>q.t=s.t/\q.aP=s.aP/\Iv r s.todo n q.wait q.todo):=λr hr=>abB s s.todo.length fuel r s.todo n (Nat.le_refl _) (by rw[cO];omega) hr hn hx
 by_cases hl:s.todo=[]
 ·rw[ah (by simp[hl])]
  exact Ok.eq J ((key s.wait h).mono λq hq=>⟨hq.1,hq.2.1,s.wait,.inl ⟨J,.inr hl⟩,λ_ _=>Iff.rfl,hq.2.2⟩)
 ·obtain⟨x,l,e⟩:=List.exists_cons_of_ne_nil hl;have uf:=hx x (by rw[e];exact List.mem_cons_self ..)
  rw[af (by rw[e];simp)]
  unfold vW.f
  by_cases z:s.wait.len=0
  ·have e0:rd s.todo 0=x:=by rw[e];rfl
   rw[show((some s.wait.len).bind λv5=>some (v5==0))=some true by simp[z]]
   simp only[aK,if_true,e0];rw[af (by rw[e];simp)]
   refine((ae_ h uf.1 U z).bind λv hv=>Ok.pure (P:=λr=>iG r n/\r.len=0/\r.bc=if x.Key<s.wait.bc then s.wait.bc else x.Key) hv).bind λr hr=>(key r hr.1).mono λq hq=>⟨hq.1,hq.2.1,r,.inr ⟨z,hr.2.1,x,l,e,hr.2.2⟩,λk i=>⟨λy=>absurd y (hr.1.none hr.2.1 k i),λy=>absurd y (h.none z k i)⟩,hq.2.2⟩
  ·simp only[aK];rw[ah (by simpa using z)]
   exact Ok.eq J ((key s.wait h).mono λq hq=>⟨hq.1,hq.2.1,s.wait,.inl ⟨J,.inl z⟩,λ_ _=>Iff.rfl,hq.2.2⟩)
def eQ (t:aM) (c s:Int):Int:=
 if s=0 then(if c/t.W>0 then c-t.W else-1) else if s=1 then(if c%t.W<t.W-1 then c+1 else-1) else if s=2 then(if c/t.W<t.H-1 then c+t.W else-1) else if c%t.W>0 then c-1 else-1
theorem K6 {t:aM} (h:sm t) {c s:Int} (c0:0<=c) (c1:c<t.C.length):eQ t c s= -1∨(0<=eQ t c s/\eQ t c s<t.C.length):=by
 obtain⟨a,b,d,e,f,_⟩:=h;rw[f] at c1⊢;have Gi:=Int.mul_ediv_add_emod c t.W;have hm:=Int.emod_nonneg c (show t.W≠0 by omega)
 have xf:=Int.emod_lt_of_pos c (show 0<t.W by omega)
 have hq:0<=c/t.W:=Int.ediv_nonneg c0 U;have hq':c/t.W<t.H:=Int.ediv_lt_of_lt_mul U (by rw[Int.mul_comm];exact c1)
 unfold eQ;split
 ·split
  ·have:t.W*1<=t.W*(c/t.W):=Int.mul_le_mul_of_nonneg_left U U;exact .inr U
  ·exact .inl J
 ·split
  ·split
   ·have:t.W*(c/t.W)<=t.W*(t.H-1):=Int.mul_le_mul_of_nonneg_left U U;rw[Int.mul_sub,Int.mul_one] at this;exact .inr U
   ·exact .inl J
  ·split
   ·split
    ·have:t.W*(c/t.W)<=t.W*(t.H-1-1):=Int.mul_le_mul_of_nonneg_left U U;rw[Int.mul_sub,Int.mul_sub,Int.mul_one] at this;exact .inr U
    ·exact .inl J
   ·split
    ·have:0<=t.W*(c/t.W):=Int.mul_nonneg U hq;exact .inr U
    ·exact .inl J
abbrev cK:Int:=1099511627776
structure Ar (s:de) (n:Nat) (key c:Int) (j:Nat) (q:de):Prop where
 t_:q.t=s.t
 td:q.todo=s.todo
 ds:q.aP=s.aP
 ring:iG q.wait (n+j)
 at_:q.wait.bc=s.wait.bc
 len_:q.wait.len<=s.wait.len+j
 uh: ∀k i,Has s.wait k i->Has q.wait k i
 new: ∀k i,Has q.wait k i->Has s.wait k i∨(k=key/\ ∃d:Int,0<=d/\d<j/\i=eQ s.t c d/\0<=i/\i<s.t.C.length/\rd s.t.C i≠255/\rd s.aP i=cK)
 all:s.wait.bc<=key->key<s.wait.bc+256-> ∀d:Int,0<=d->d<j->0<=eQ s.t c d->rd s.t.C (eQ s.t c d)≠255->rd s.aP (eQ s.t c d)=cK->Has q.wait key (eQ s.t c d)
section
variable {s q : de} {n : Nat} {key c : Int} {j : Nat}
theorem IY (h:Ar s n key c j q) (hn:n+j+1<=1000000000) (hj:eQ s.t c j= -1):Ar s n key c (j+1) q:=by
 refine⟨h.t_,h.td,h.ds,h.ring.mono U U,h.at_,by have:=h.len_;omega,h.uh,λk i hh=>?_,λa b d d0 d1 d2 d3 d4=>?_⟩
 ·rcases h.new k i hh with z |⟨z,d,a,b,r⟩
  ·exact .inl z
  ·exact .inr ⟨z,d,a,by omega,r⟩
 ·by_cases z:d=j
  ·subst z;omega
  ·exact h.all a b d d0 U d2 d3 d4
theorem IX (ht:lW s.t) (hd:s.aP.length=s.t.C.length) (h:Ar s n key c j q) (hn:n+j+1<=1000000000) (k0:0<=key) (k1:key<=8796093022208) (c0:0<=c) (c1:c<s.t.C.length) {p:Int} (hj:eQ s.t c j=p) (hp:p≠ -1):
 Ok (kP.f q p key) (Ar s n key c (j+1)):=by
 have ck:=K6 ht.1 (s:=j) c0 c1;rw[hj] at ck;have ck:0<=p/\p<s.t.C.length:=ck.resolve_left hp;unfold kP.f;rw[h.t_,h.ds,h.td];have e:(if(0<=p/\p<(List.length s.t.C:Int)) then(if((rd s.t.C p)!=255)=true then(if(0<=p/\p<(List.length s.aP:Int)) then(some ((rd s.aP p)==1099511627776)) else none) else(some false)) else none)=some (decide (rd s.t.C p≠255/\rd s.aP p=cK)):=by
  rw[af ck,af (c:=0<=p/\p<(List.length s.aP:Int)) U]
  by_cases z:rd s.t.C p=255
  ·simp[z]
  ·rw[af (by simpa using z)];congr 1;rw[Bool.eq_iff_iff];simp[z]
 refine Ok.eq e (Ok.ite (λz=>?_) λz=>Ok.pure ?_)
 ·have z:=of_decide_eq_true z;refine(WB h.ring U k1 k0 p).bind λv hv=>Ok.pure ?_
  obtain⟨a1,a2,a3⟩:=hv;rcases a3 with⟨b1,b2,b3,b4,b5⟩ |⟨b1,b2,b3⟩
  ·refine⟨J,J,J,a2,by rw[a1,h.at_],by have:=h.len_;simp only;omega,λk i hh=>(b5 k i).2 (.inl (h.uh k i hh)),λk i hh=>?_,λa b d d0 d1 d2 d3 d4=>?_⟩
   ·rcases(b5 k i).1 hh with y |⟨rfl,rfl⟩
    ·rcases h.new k i y with y |⟨y,d,a,b,r⟩
     ·exact .inl y
     ·exact .inr ⟨y,d,a,by omega,r⟩
    ·exact .inr ⟨J,j,by omega,by omega,hj.symm,ck.1,ck.2,z⟩
   ·by_cases y:d=j
    ·subst y;rw[hj];exact(b5 _ _).2 (.inr ⟨rfl,rfl⟩)
    ·exact(b5 _ _).2 (.inl (h.all a b d d0 U d2 d3 d4))
  ·refine⟨J,J,J,a2,by rw[a1,h.at_],by have:=h.len_;simp only;rw[b3];omega,λk i hh=>by simp only;rw[b3];exact h.uh k i hh,λk i hh=>?_,λa b=>?_⟩
   ·simp only at hh;rw[b3] at hh;rcases h.new k i hh with y |⟨y,d,a,b,r⟩
    ·exact .inl y
    ·exact .inr ⟨y,d,a,by omega,r⟩
   ·have:=h.at_;omega
 ·have z: ¬(rd s.t.C p≠255/\rd s.aP p=cK):=by simpa using z
  refine⟨h.t_,h.td,h.ds,h.ring.mono U U,h.at_,by have:=h.len_;omega,h.uh,λk i hh=>?_,λa b d d0 d1 d2 d3 d4=>?_⟩
  ·rcases h.new k i hh with y |⟨y,d,a,b,r⟩
   ·exact .inl y
   ·exact .inr ⟨y,d,a,by omega,r⟩
  ·by_cases y:d=j
   ·subst y;rw[hj] at d3 d4;exact absurd ⟨d3,d4⟩ z
   ·exact h.all a b d d0 U d2 d3 d4
end
theorem IW {q s:de} (e:q.t=s.t):de.mk (aM.mk q.t.W q.t.H s.t.C) q.wait q.todo q.aP=q:=by
 obtain⟨t,a,b,d⟩:=q;simp only at e;subst e;rfl
theorem YB (s:de) (ht:lW s.t) (hd:s.aP.length=s.t.C.length) {n:Nat} (h:iG s.wait n) (hn:n+4<=1000000000) {c:Int} (c0:0<=c) (c1:c<s.t.C.length) (d0:0<=rd s.aP c) (d1:rd s.aP c<=2000000000):
 Ok (xS.f s c) (Ar s n (rd s.aP c+rd s.t.C c) c 4):=by
 have hC:=ht.2 c c0 c1;have hl:=oK ht.1;obtain⟨a1,a2,a3,a4,a5,_⟩:=ht.1;have hq:0<=c/s.t.W/\c/s.t.W<=c:=⟨Int.ediv_nonneg c0 U,Int.ediv_le_self _ c0⟩;unfold xS.f;rw[wi (x:=rd s.t.C c) U U,wi (x:=rd s.aP c+rd s.t.C c) U U,qZ c0,nh c0,wi (x:=c/s.t.W) U U,wi (x:=c-s.t.W) U U,wi (x:=c+1) U U,wi (x:=c-1) U U];generalize hk:rd s.aP c+rd s.t.C c=key;have k0:0<=key:=U;have k1:key<=8796093022208:=U;have A0:Ar s n key c 0 s:=⟨J,J,J,h,J,by omega,λ_ _ z=>z,λ_ _ z=> .inl z,λ_ _ d d0 d1=>by omega⟩
 refine Ok.ct U (Ok.ct U (Ok.ct U (Ok.ct U ?_)));have n0:eQ s.t c (0:Nat)=if c/s.t.W>0 then c-s.t.W else-1:=rfl
 have n1:eQ s.t c (1:Nat)=if c%s.t.W<s.t.W-1 then c+1 else-1:=rfl
 have n2:eQ s.t c (2:Nat)=if c/s.t.W<s.t.H-1 then c+s.t.W else-1:=rfl
 have n3:eQ s.t c (3:Nat)=if c%s.t.W>0 then c-1 else-1:=rfl
 have Gi:=Int.mul_ediv_add_emod c s.t.W;have s0:Ok (if c/s.t.W>0 then(kP.f s (c-s.t.W) key).bind λv7=>some (v7.t.W,v7.t.H,v7.wait,v7.todo,v7.aP) else some (s.t.W,s.t.H,s.wait,s.todo,s.aP)) (λp=>Ar s n key c 1 ⟨⟨p.1,p.2.1,s.t.C⟩,p.2.2.1,p.2.2.2.1,p.2.2.2.2⟩):=by
  refine Ok.ite (λz=>?_) λz=>Ok.pure (IY (j:=0) A0 U (by rw[n0,ah z]))
  have ck:=K6 ht.1 (s:=(0:Nat)) c0 c1;rw[n0,af z] at ck;refine(IX (j:=0) ht hd A0 U k0 k1 c0 c1 (by rw[n0,af z]) (λy=>?_)).bind λv hv=>Ok.pure ?_
  ·have:s.t.W*1<=s.t.W*(c/s.t.W):=Int.mul_le_mul_of_nonneg_left U U;have:=Int.emod_nonneg c (show s.t.W≠0 by omega)
   omega
  ·simp only;rw[IW hv.t_];exact hv
 refine s0.bind λp hp=>?_
 obtain⟨x1,x2,x3,x4,x5⟩:=p;simp only at hp⊢;have et:=hp.t_;simp only at et;have e1:x1=s.t.W:=by rw[<-et]
 have e2:x2=s.t.H:=by rw[<-et]
 subst e1;subst e2;rw[wi (x:=s.t.W-1) U U];have s1:Ok (if c%s.t.W<s.t.W-1 then(kP.f (de.mk (aM.mk s.t.W s.t.H s.t.C) x3 x4 x5) (c+1) key).bind λdq=>some (dq.t.W,dq.t.H,dq.wait,dq.todo,dq.aP) else some (s.t.W,s.t.H,x3,x4,x5)) (λp=>Ar s n key c 2 ⟨⟨p.1,p.2.1,s.t.C⟩,p.2.2.1,p.2.2.2.1,p.2.2.2.2⟩):=by
  refine Ok.ite (λz=>?_) λz=>Ok.pure (IY (j:=1) hp U (by rw[n1,ah z]))
  refine(IX (j:=1) ht hd hp U k0 k1 c0 c1 (by rw[n1,af z]) U).bind λv hv=>Ok.pure ?_
  simp only;rw[IW hv.t_];exact hv
 refine s1.bind λp hp=>?_
 obtain⟨x1,x2,x3,x4,x5⟩:=p;simp only at hp⊢;have et:=hp.t_;simp only at et;have e1:x1=s.t.W:=by rw[<-et]
 have e2:x2=s.t.H:=by rw[<-et]
 subst e1;subst e2;rw[wi (x:=s.t.H-1) U U];have s3: ∀v:de,Ar s n key c 3 v->Ok (if c%s.t.W>0 then(kP.f v (c-1) key).bind λdG=>some (de.mk (aM.mk dG.t.W dG.t.H s.t.C) dG.wait dG.todo dG.aP) else some v) (Ar s n key c 4):=λv hv=>by
  refine Ok.ite (λz=>?_) λz=>Ok.pure (IY (j:=3) hv U (by rw[n3,ah z]))
  refine(IX (j:=3) ht hd hv U k0 k1 c0 c1 (by rw[n3,af z]) (λy=>?_)).bind λv hv=>Ok.pure ?_
  ·have:c=0:=U;subst this;simp at z
  ·rw[IW hv.t_];exact hv
 refine Ok.ite (λz=>?_) λz=>?_
 ·rw[wi (x:=c+s.t.W) U U];refine(IX (j:=2) ht hd hp U k0 k1 c0 c1 (by rw[n2,af z]) U).bind λv hv=>?_
  rw[IW hv.t_];exact s3 v hv
 ·exact s3 _ (IY (j:=2) hp U (by rw[n2,ah z]))
def Ff (t:aM) (l:List ba) (D:List Int) (i k:Int):Prop:=
 (∃x∈l,x.Cell=i/\x.Key=k)∨ ∃c d:Int,0<=c/\c<t.C.length/\0<=d/\d<=3/\rd D c≠cK/\eQ t c d=i/\rd D c+rd t.C c=k
def uF (t:aM) (D:List Int):Nat:=eI (λc=>rd D c==cK) t.C.length
structure BF (t:aM) (l:List ba) (K:Int) (r:eK) (todo:List ba) (D:List Int) (n:Nat):Prop where
 ring:iG r n
 room:n+todo.length+4*uF t D<=2000000
 dl:D.length=t.C.length
 dv: ∀c:Int,0<=c->c<t.C.length->rd D c≠cK->0<=rd D c/\rd D c<=r.bc/\rd D c+254*(uF t D:Int)<=K/\rd t.C c≠255/\Ff t l D c (rd D c)
 hs: ∀k i,Has r k i->0<=i/\i<t.C.length/\rd t.C i≠255/\k+254*(uF t D:Int)<=K/\Ff t l D i k
 nb: ∀c d:Int,0<=c->c<t.C.length->rd D c≠cK->0<=d->d<=3->0<=eQ t c d->rd t.C (eQ t c d)≠255->(rd D (eQ t c d)≠cK/\rd D (eQ t c d)<=rd D c+rd t.C c)∨Has r (rd D c+rd t.C c) (eQ t c d)
 sd: ∀x∈l,x∈todo∨Has r x.Key x.Cell∨(rd D x.Cell≠cK/\rd D x.Cell<=x.Key)
 td: ∀x∈todo,x∈l/\r.bc<=x.Key
 so:todo.Pairwise (λa b=>a.Key<=b.Key)
def Full (r:eK) (todo:List ba):Prop:=todo=[]∨(r.len≠0/\ ∀x∈todo,r.bc+256<=x.Key)
section
variable {t : aM} {l : List ba} {K : Int}
theorem Pc (hl: ∀x∈l,qy t x/\x.Key+254*256<=K) (ht:lW t) (s:de) (hs:s.t=t) {n:Nat} (h:BF t l K s.wait s.todo s.aP n):
 Ok (j4.f s) (λq=>q.t=t/\q.aP=s.aP/\q.wait.len+2*q.todo.length<=s.wait.len+2*s.todo.length/\Full q.wait q.todo/\ ∃n',BF t l K q.wait q.todo s.aP n'):=by
 have hk: ∀x∈s.todo,0<=x.Key/\x.Key<=1073741824:=λx hx=>by have:=(hl x (h.td x hx).1).1;exact⟨this.2.2.2.1,this.2.2.2.2.1⟩
 have hu:uF t s.aP<=256:=by unfold uF;have:=FO (λc=>rd s.aP c==cK) t.C.length;have:=oK ht.1;omega
 refine(abA s h.ring (by have:=h.room;omega) hk).mono λq hq=>?_
 obtain⟨q1,q2,r,q3,q4,q5⟩:=hq;obtain⟨n',f1,f2⟩:=q5.ring;obtain⟨A,g1,g2⟩:=q5.Xd;have sK:s.wait.bc<=r.bc/\(∀x∈s.todo,r.bc<=x.Key)/\r.len=s.wait.len:=by
  rcases q3 with⟨rfl,_⟩ |⟨z0,z,x,m,e,e2⟩
  ·exact⟨Int.le_refl _,λx hx=>(h.td x hx).2,J⟩
  ·have hx:=(h.td x (by rw[e];exact List.mem_cons_self ..)).2
   rw[ah U] at e2;refine⟨by omega,λy hy=>?_,by omega⟩
   have so:=h.so;rw[e] at hy so;rcases List.mem_cons.1 hy with rfl |hy
   ·omega
   ·have:=(List.pairwise_cons.1 so).1 y hy;omega
 have aep:Full q.wait q.todo:=by
  cases JY:q.todo with
  |nil=>exact .inl J
  |cons y m=>
   have hy:=q5.end_ y m JY;have N9:y∈s.todo:=by rw[g1,JY];simp
   have:=sK.2.1 y N9;have ha:=q5.at_;refine .inr ⟨λz0=>?_,λx hx=>?_⟩
   ·have gL:=f1.none z0;rcases q3 with⟨rfl,z |z⟩ |⟨_,z,x,m',e,e2⟩
    ·obtain⟨k,i,hh⟩:=h.ring.some z;exact gL k i (q5.uh k i hh)
    ·rw[z] at N9;simp at N9
    ·rw[ah (by have:=(h.td x (by rw[e];exact List.mem_cons_self ..)).2;omega)] at e2
     cases A with
     |nil=>
      rw[List.nil_append,JY] at g1;rw[e] at g1;simp only[List.cons.injEq] at g1;rw[<-g1.1] at hy;omega
     |cons a A=>exact gL _ _ (g2 a (List.mem_cons_self ..))
   ·have so:=h.so;rw[g1,JY] at so;have so:=(List.pairwise_append.1 so).2.1;rcases List.mem_cons.1 hx with rfl |hx
    ·omega
    ·have:=(List.pairwise_cons.1 so).1 x hx;omega
 refine⟨q1.trans hs,q2,by have:=q5.len_;omega,aep,n',⟨f1,by have:=h.room;omega,h.dl,λc c0 c1 hc=>?_,λk i hh=>?_,λc d c0 c1 hc d0 d3 p0 p1=>?_,λx hx=>?_,λx hx=>?_,?_⟩⟩
 ·obtain⟨a,b,c,d⟩:=h.dv c c0 c1 hc;exact⟨a,by rw[q5.at_];omega,c,d⟩
 ·rcases q5.new k i hh with z |⟨x,hx,rfl,rfl⟩
  ·exact h.hs k i ((q4 k i).1 z)
  ·have qc:=(h.td x hx).1;obtain⟨⟨a,b,c,d⟩,e⟩:=hl x qc;exact⟨a,b,c,by omega,.inl ⟨x,qc,J,J⟩⟩
 ·rcases h.nb c d c0 c1 hc d0 d3 p0 p1 with z |z
  ·exact .inl z
  ·exact .inr (q5.uh _ _ ((q4 _ _).2 z))
 ·rcases h.sd x hx with z |z |z
  ·rw[g1] at z;rcases List.mem_append.1 z with z |z
   ·exact .inr (.inl (g2 x z))
   ·exact .inl z
  ·exact .inr (.inl (q5.uh _ _ ((q4 _ _).2 z)))
  ·exact .inr (.inr z)
 ·have qc:x∈s.todo:=by rw[g1];exact List.mem_append_right _ hx
  exact⟨(h.td x qc).1,by rw[q5.at_];exact sK.2.1 x qc⟩
 ·have so:=h.so;rw[g1] at so;exact(List.pairwise_append.1 so).2.1
theorem OT {D D':List Int} (h: ∀c:Int,0<=c->c<t.C.length->rd D c≠cK->rd D' c=rd D c) {i k:Int} (hp:Ff t l D i k):Ff t l D' i k:=by
 rcases hp with z |⟨c,d,c0,c1,d0,d3,e,f,g⟩
 ·exact .inl z
 ·have:=h c c0 c1 e;exact .inr ⟨c,d,c0,c1,d0,d3,by rw[this];exact e,f,by rw[this];exact g⟩
structure qz (t:aM) (l:List ba) (K:Int) (D:List Int):Prop where
 dl:D.length=t.C.length
 dv: ∀c:Int,0<=c->c<t.C.length->rd D c≠cK->0<=rd D c/\rd D c<=K/\rd t.C c≠255/\Ff t l D c (rd D c)
 nb: ∀c d:Int,0<=c->c<t.C.length->rd D c≠cK->0<=d->d<=3->0<=eQ t c d->rd t.C (eQ t c d)≠255->rd D (eQ t c d)≠cK/\rd D (eQ t c d)<=rd D c+rd t.C c
 sd: ∀x∈l,rd D x.Cell≠cK/\rd D x.Cell<=x.Key
theorem ahV (hl: ∀x∈l,qy t x/\x.Key+254*256<=K) (hK:K<=1100000000) (ht:lW t) (s:de) (hs:s.t=t): ∀(m k:Nat) (r:eK) (todo:List ba) (D:List Int) (n:Nat),(5*uF t D+2*todo.length+r.len).toNat<=m->m<k->BF t l K r todo D n->Full r todo->
 Ok (nZ.l0 k s t.W t.H r todo D) (λq=>qz t l K q.aP):=by
 have oD:=oK ht.1;have hI:cK=1099511627776:=rfl;have fin: ∀(k:Nat) (r:eK) (todo:List ba) (D:List Int) (n:Nat),BF t l K r todo D n->Full r todo->r.len=0->Ok (nZ.l0 (k+1) s t.W t.H r todo D) (λq=>qz t l K q.aP):=by
  intro k r todo D n h hf h0;rw[nZ.l0];refine Ok.eq (v:=r.len) J (Ok.neg U (Ok.pure ?_));have gL:=h.ring.none h0;have J2:todo=[]:=hf.resolve_right λz=>z.1 h0
  refine⟨h.dl,λc c0 c1 hc=>?_,λc d c0 c1 hc d0 d3 p0 p1=>?_,λx hx=>?_⟩
  ·obtain⟨a1,a2,a3,a4⟩:=h.dv c c0 c1 hc;exact⟨a1,by show rd D c<=K;omega,a4⟩
  ·exact(h.nb c d c0 c1 hc d0 d3 p0 p1).resolve_right (gL _ _)
  ·rcases h.sd x hx with z |z |z
   ·rw[J2] at z;simp at z
   ·exact absurd z (gL _ _)
   ·exact z
 intro m
 induction m with
 |zero=>
  intro k r todo D n hm hk h hf;obtain⟨k,rfl⟩:=bq hk;have:=h.ring.Cw;exact fin k r todo D n h hf U
 |succ m ih=>
  intro k r todo D n hm hk h hf;obtain⟨k,rfl⟩:=bq hk;have hlen:=h.ring.Cw
  by_cases h0:r.len=0
  ·exact fin k r todo D n h hf h0
  obtain⟨x,y,GG⟩:=h.ring.some h0;rw[nZ.l0];refine Ok.eq (v:=r.len) J (Ok.pos U ((ahO h.ring (by have:=(h.hs x y GG).2.2.2.1;omega) GG).bind λv hv=>?_))
  obtain⟨v1,v2,v3,v4,v5,v6,v7,v8⟩:=hv;obtain⟨i0,i1,i2,i3,i4⟩:=h.hs _ _ v5;have sK:=v5.1;have ajN:=v5.2.1;have J2: ∀x∈todo,v.1<=x.Key:=λx hx=>by
   rcases hf with z |⟨_,z⟩
   ·rw[z] at hx;simp at hx
   ·have:=z x hx;omega
  refine Ok.ct (by rw[h.dl];exact⟨i0,i1⟩) (Ok.ite (λq=>?_) λq=>?_)
  ·have q:rd D v.2.1=cK:=by simpa using q
   have hi:=ht.2 _ i0 i1;have dT: ∀c:Int,0<=c->rd (List.set D v.2.1.toNat v.1) c=if c=v.2.1 then v.1 else rd D c:=λc c0=>ln i0 (by rw[h.dl];exact i1) c0
   have yX:0<=v.1:=by have:=h.ring.at_;omega
   have hu:uF t D=uF t (List.set D v.2.1.toNat v.1)+1:=by
    unfold uF;refine Mh (c:=v.2.1) i0 i1 (by simp[q]) ?_ λi a b hi=>?_
    ·rw[dT _ i0,af J];simp;omega
    ·rw[dT _ a,ah hi]
   have hold: ∀c:Int,0<=c->c<t.C.length->rd D c≠cK->rd (List.set D v.2.1.toNat v.1) c=rd D c:=λc c0 c1 hc=>by
    rw[dT c c0,ah (λz=>hc (by rw[z];exact q))]
   have e:(de.mk (aM.mk t.W t.H s.t.C) v.2.2.2 todo (List.set D (Int.toNat v.2.1) v.1))=de.mk t v.2.2.2 todo (List.set D (Int.toNat v.2.1) v.1):=by rw[hs]
   rw[e];have hr:=h.room;refine(YB (de.mk t v.2.2.2 todo (List.set D (Int.toNat v.2.1) v.1)) ht (by simp[h.dl]) v2 U i0 i1 (by simp only;rw[dT _ i0,af J];exact yX) (by simp only;rw[dT _ i0,af J];omega)).bind λa ha=>?_
   have vm:rd (List.set D v.2.1.toNat v.1) v.2.1=v.1:=by rw[dT _ i0,af J]
   have LI:=ha.td;have LB:=ha.ds;have LH:=ha.t_;have Yh:=ha.len_;have Lz:=ha.at_;simp only at LI LB LH Yh Lz;have aC:a.t.C=s.t.C:=by rw[LH,hs]
   have ea:de.mk (aM.mk a.t.W a.t.H s.t.C) a.wait a.todo a.aP=a:=by rw[<-aC]
   rw[ea];have nK:BF t l K a.wait a.todo a.aP (n+4):=by
    rw[LI,LB];refine⟨ha.ring,by omega,by simp[h.dl],λc c0 c1 hc=>?_,λk i hh=>?_,λc d c0 c1 hc d0 d3 p0 p1=>?_,λx hx=>?_,λx hx=>⟨(h.td x hx).1,by rw[Lz,v3];exact J2 x hx⟩,h.so⟩
    ·rw[Lz,v3]
     by_cases z:c=v.2.1
     ·subst z;rw[vm];exact⟨yX,Int.le_refl _,by omega,i2,OT hold i4⟩
     ·rw[dT c c0,ah z] at hc⊢;obtain⟨b1,b2,b3,b4,b5⟩:=h.dv c c0 c1 hc;exact⟨b1,by omega,by omega,b4,OT hold b5⟩
    ·rcases ha.new k i hh with z |⟨rfl,d,d0,d4,rfl,w0,w1,w2,w3⟩
     ·obtain⟨b1,b2,b3,b4,b5⟩:=h.hs k i (v7 k i z);exact⟨b1,b2,b3,by omega,OT hold b5⟩
     ·simp only at w0 w1 w2 vm⊢;rw[vm];exact⟨w0,w1,w2,by omega,.inr ⟨v.2.1,d,i0,i1,d0,by omega,by rw[vm];omega,J,by rw[vm]⟩⟩
    ·have hn:0<=eQ t c d/\eQ t c d<t.C.length:=(K6 ht.1 c0 c1).resolve_left U
     by_cases z:c=v.2.1
     ·subst z;rw[vm]
      by_cases w:rd (List.set D v.2.1.toNat v.1) (eQ t v.2.1 d)=cK
      ·refine .inr ?_;have:=ha.all (by simp only;rw[vm,v3];omega) (by simp only;rw[vm,v3];omega) d d0 U p0 p1 w
       simp only at this;rw[vm] at this;exact this
      ·refine .inl ⟨w,?_⟩;rw[dT _ hn.1] at w⊢;split
       ·omega
       ·rename_i y;rw[ah y] at w;have:=(h.dv _ hn.1 hn.2 w).2.1;omega
     ·rw[dT c c0,ah z] at hc⊢;rcases h.nb c d c0 c1 hc d0 d3 p0 p1 with⟨w1,w2⟩ |w
      ·exact .inl (by rw[hold _ hn.1 hn.2 w1];exact⟨w1,w2⟩)
      ·rcases v8 _ _ w with⟨y1,y2⟩ |y
       ·refine .inl ?_;rw[y2,vm];exact⟨by omega,by omega⟩
       ·exact .inr (ha.uh _ _ y)
    ·have Uy:=(hl x hx).1;rcases h.sd x hx with z |z |⟨z1,z2⟩
     ·exact .inl z
     ·rcases v8 _ _ z with⟨y1,y2⟩ |y
      ·exact .inr (.inr (by rw[y2,vm];exact⟨by omega,by omega⟩))
      ·exact .inr (.inl (ha.uh _ _ y))
     ·exact .inr (.inr (by rw[hold _ Uy.1 Uy.2.1 z1];exact⟨z1,z2⟩))
   refine(Pc hl ht a LH nK).bind λw hw=>?_
   obtain⟨w1,w2,w3,w4,n',w5⟩:=hw;rw[w1,w2];refine ih k w.wait w.todo a.aP n' ?_ U w5 w4;rw[LB] at*;rw[LI] at w3;omega
  ·have q:rd D v.2.1≠cK:=by simpa using q
   have hd:=(h.dv _ i0 i1 q).2.1;have nK:BF t l K v.2.2.2 todo D n:=by
    refine⟨v2,h.room,h.dl,λc c0 c1 hc=>?_,λk i hh=>h.hs k i (v7 k i hh),λc d c0 c1 hc d0 d3 p0 p1=>?_,λx hx=>?_,λx hx=>⟨(h.td x hx).1,by rw[v3];exact J2 x hx⟩,h.so⟩
    ·obtain⟨b1,b2,b3⟩:=h.dv c c0 c1 hc;exact⟨b1,by omega,b3⟩
    ·rcases h.nb c d c0 c1 hc d0 d3 p0 p1 with w |w
     ·exact .inl w
     ·rcases v8 _ _ w with⟨y1,y2⟩ |y
      ·exact .inl (by rw[y2];exact⟨q,by omega⟩)
      ·exact .inr y
    ·rcases h.sd x hx with z |z |z
     ·exact .inl z
     ·rcases v8 _ _ z with⟨y1,y2⟩ |y
      ·exact .inr (.inr (by rw[y2];exact⟨q,by omega⟩))
      ·exact .inr (.inl y)
     ·exact .inr (.inr z)
   have e:(de.mk (aM.mk t.W t.H s.t.C) v.2.2.2 todo D)=de.mk t v.2.2.2 todo D:=by rw[hs]
   rw[e];refine(Pc hl ht (de.mk t v.2.2.2 todo D) J nK).bind λw hw=>?_
   obtain⟨w1,w2,w3,w4,n',w5⟩:=hw;rw[w1,w2];exact ih k w.wait w.todo D n' (by simp only at w3;omega) U w5 w4
theorem W8 (ht:lW t) (hb:l.length<=1000000) (hK:K<=1100000000) (hl: ∀x∈l,qy t x/\x.Key+254*256<=K):Ok (tD.f t l) (λr=>r.2=0/\qz t l K r.1):=by
 have oD:=oK ht.1;unfold tD.f;refine(W3 ht l hb).bind λb jH=>?_
 have:b=true:=jH.2 λx hx=>(hl x hx).1;subst this;refine Ok.neg bh ?_;obtain⟨r,e1,e2,e3,e4⟩:=ahI;refine Ok.bind (P:=λp=> ∃S:List ba,p=(t.W,t.H,t.C,r,S,List.replicate t.C.length cK)/\S.length<=l.length/\(∀e,e∈S↔e∈l)/\S.Pairwise (λa b=> ¬tj b a)) (Ok.eq e1 ((Pt l hb).bind λS hS=>Ok.eq (Wz U U) (Ok.pure ⟨S,J,hS⟩))) λp hp=>?_
 obtain⟨S,rfl,s1,s2,s3⟩:=hp;simp only;have AG: ∀x∈S,qy t x/\x.Key+254*256<=K:=λx hx=>hl x ((s2 x).1 hx);have Gx: ∀c:Int,0<=c->c<t.C.length->rd (List.replicate t.C.length cK) c=cK:=λc c0 c1=>vR c0 U
 have hu:uF t (List.replicate t.C.length cK)<=256:=by unfold uF;have:=FO (λc=>rd (List.replicate t.C.length cK) c==cK) t.C.length;omega
 have nK:BF t S K r S (List.replicate t.C.length cK) 0:=by
  refine⟨e3,by omega,by simp,λc c0 c1 hc=>absurd (Gx c c0 c1) hc,λk i hh=>absurd hh (e4 k i),λc d c0 c1 hc=>absurd (Gx c c0 c1) hc,λx hx=> .inl hx,λx hx=>⟨hx,by rw[e2];exact(AG x hx).1.2.2.2.1⟩,s3.imp λ{a b} h=>?_⟩
  unfold tj at h;omega
 unfold nZ.f;refine Ok.bind (P:=λq=>qz t l K q.aP) ?_ λq hq=>Ok.pure ⟨J,hq⟩
 refine(Pc AG ht ⟨t,r,S,List.replicate t.C.length cK⟩ J nK).bind λw hw=>?_
 obtain⟨w1,w2,w3,w4,n',w5⟩:=hw;rw[w1,w2];have hlen:=e3.Cw;have Gv:r.len=0:=Classical.byContradiction λz=>by obtain⟨k,i,hh⟩:=e3.some z;exact e4 k i hh
 refine(ahV AG hK ht ⟨⟨t.W,t.H,t.C⟩,r,S,List.replicate t.C.length cK⟩ J 3000000 fuel w.wait w.todo _ n' (by show(5*uF t (List.replicate t.C.length cK)+2*w.todo.length+w.wait.len).toNat<=3000000;have w3:w.wait.len+2*w.todo.length<=r.len+2*S.length:=w3;omega) (by rw[cO];omega) w5 w4).mono λq hq=>⟨hq.dl,λc c0 c1 hc=>?_,hq.nb,λx hx=>hq.sd x ((s2 x).2 hx)⟩
 obtain⟨b1,b2,b3,b4⟩:=hq.dv c c0 c1 hc;refine⟨b1,b2,b3,?_⟩;rcases b4 with⟨x,hx,z⟩ |z
 ·exact .inl ⟨x,(s2 x).1 hx,z⟩
 ·exact .inr z
theorem Pu (ht:lW t) {K':Int} {D D':List Int} (h:qz t l K D) (h':qz t l K' D'): ∀(n:Nat) (c:Int),0<=c->c<t.C.length->rd D c≠cK->rd D c<=n->rd D' c≠cK/\rd D' c<=rd D c:=by
 intro n
 induction n with
 |zero=>
  intro c c0 c1 hc hn;obtain⟨a1,a2,a3,a4⟩:=h.dv c c0 c1 hc;rcases a4 with⟨x,hx,e1,e2⟩ |⟨q,d,q0,q1,d0,d3,e1,e2,e3⟩
  ·have:=h'.sd x hx;rw[e1] at this;exact⟨this.1,by omega⟩
  ·have:=(h.dv q q0 q1 e1).1;have:=ht.2 q q0 q1;omega
 |succ n ih=>
  intro c c0 c1 hc hn;obtain⟨a1,a2,a3,a4⟩:=h.dv c c0 c1 hc;rcases a4 with⟨x,hx,e1,e2⟩ |⟨q,d,q0,q1,d0,d3,e1,e2,e3⟩
  ·have:=h'.sd x hx;rw[e1] at this;exact⟨this.1,by omega⟩
  ·have hC:=ht.2 q q0 q1;obtain⟨b1,b2⟩:=ih q q0 q1 e1 U;have:=h'.nb q d q0 q1 b1 d0 d3 U (by rw[e2];exact a3)
   rw[e2] at this;exact⟨this.1,by omega⟩
theorem W7 (ht:lW t) {K':Int} {D D':List Int} (h:qz t l K D) (h':qz t l K' D') {c:Int} (c0:0<=c) (c1:c<t.C.length):rd D c=rd D' c:=by
 by_cases z:rd D c=cK
 ·by_cases z':rd D' c=cK
  ·rw[z,z']
  ·exact absurd z (Pu ht h' h (rd D' c).toNat c c0 c1 z' (by have:=(h'.dv c c0 c1 z').1;omega)).1
 ·have q:=Pu ht h h' (rd D c).toNat c c0 c1 z (by have:=(h.dv c c0 c1 z).1;omega)
  have:=Pu ht h' h (rd D' c).toNat c c0 c1 q.1 (by have:=(h'.dv c c0 c1 q.1).1;omega)
  omega
theorem aiL (ht:lW t) {D:List Int} (h:qz t l K D) {c:Int} (c0:0<=c) (c1:c<t.C.length) (hc:rd D c=0): ∃x∈l,x.Cell=c/\x.Key=0:=by
 have hI:cK=1099511627776:=rfl;obtain⟨a1,a2,a3,a4⟩:=h.dv c c0 c1 U;rcases a4 with⟨x,hx,e1,e2⟩ |⟨q,d,q0,q1,d0,d3,e1,e2,e3⟩
 ·exact⟨x,hx,e1,by omega⟩
 ·have:=(h.dv q q0 q1 e1).1;have:=ht.2 q q0 q1;omega
end
section
variable {t : aM} {l : List ba} {K : Int} {D : List Int}
def uY (l:List ba) (c s:Int):Int:=(kN.f l c s).getD 0
theorem QS (hb:l.length<=1000000) (c s:Int):kN.f l c s=some (uY l c s):=by
 obtain⟨r,e⟩:=ZV l c s hb;unfold uY;rw[e];rfl
theorem agi (ht:lW t) {c s:Int} (c0:0<=c) (c1:c<t.C.length) (s0:0<=s) (s3:s<=3):Dg.f ⟨t,l,D⟩ c s=some (eQ t c s):=by
 have hl:=oK ht.1;obtain⟨a1,a2,a3,a4,a5,_⟩:=ht.1;have hq:0<=c/t.W/\c/t.W<=c:=⟨Int.ediv_nonneg c0 U,Int.ediv_le_self _ c0⟩;unfold Dg.f eQ;simp only;rw[af (show ¬t.W=0 by omega),af (show ¬t.W=0 by omega),qZ c0,nh c0,wi (x:=c/t.W) U U,wi (x:=t.W-1) U U,wi (x:=t.H-1) U U,wi (x:=c-t.W) U U,wi (x:=c+1) U U,wi (x:=c+t.W) U U,wi (x:=c-1) U U]
 have hs:s=0∨s=1∨s=2∨s=3:=U;rcases hs with rfl |rfl |rfl |rfl
 ·by_cases z:0<c/t.W<;>simp[z]
 ·by_cases z:c%t.W<t.W-1<;>simp[z]
 ·by_cases z:c/t.W<t.H-1<;>simp[z]
 ·by_cases z:0<c%t.W<;>simp[z]
def Ae (t:aM) (l:List ba) (D:List Int) (c s:Int):Bool:=
 if eQ t c s<0 then uY l c s==rd D c else decide (rd t.C (eQ t c s)≠255/\rd t.C (eQ t c s)+rd D (eQ t c s)=rd D c)
theorem aiM (hK:K<=1100000000) (h:qz t l K D) {c:Int} (c0:0<=c) (c1:c<t.C.length):0<=rd D c/\rd D c<=1099511627776:=by
 have hI:cK=1099511627776:=rfl
 by_cases z:rd D c=cK
 ·omega
 ·have:=h.dv c c0 c1 z;omega
theorem KU (ht:lW t) (hb:l.length<=1000000) (hK:K<=1100000000) (h:qz t l K D) {c s:Int} (c0:0<=c) (c1:c<t.C.length) (s0:0<=s) (s3:s<=3):kO.f ⟨t,l,D⟩ c s=some (Ae t l D c s):=by
 have B9:=h.dl;unfold kO.f Ae;rw[agi ht c0 c1 s0 s3];simp only[aK]
 by_cases z:eQ t c s<0
 ·rw[af z,af z,QS hb];simp only[aK];rw[af U]
 ·have hn:=(K6 ht.1 (s:=s) c0 c1).resolve_left U;have hC:=ht.2 _ hn.1 hn.2;have hD:=aiM hK h hn.1 hn.2;rw[ah z,ah z,af hn]
  by_cases y:rd t.C (eQ t c s)=255
  ·rw[ah (by simp[y])];simp[y]
  ·rw[af (by simpa using y),af U,af U,wi (x:=rd t.C (eQ t c s)) U U,wi U U]
   simp only[aK,Option.some.injEq];rw[Bool.eq_iff_iff];simp[y]
def HM (t:aM) (l:List ba) (D:List Int) (c:Int):Int:=
 if Ae t l D c 0=true then 0 else if Ae t l D c 1=true then 1 else if Ae t l D c 2=true then 2 else if Ae t l D c 3=true then 3 else 5
def yD (t:aM) (l:List ba) (D:List Int) (c:Int):Int:=if rd D c=cK then 5 else if rd D c=uY l c 4 then 4 else HM t l D c
theorem abe (c:Int):0<=yD t l D c/\yD t l D c<=5:=by
 unfold yD HM
 repeat' split
 all_goals omega
theorem aia (ht:lW t) (hb:l.length<=1000000) (hK:K<=1100000000) (h:qz t l K D) {c:Int} (c0:0<=c) (c1:c<t.C.length):Df.f ⟨t,l,D⟩ c=some (yD t l D c):=by
 have B9:=h.dl;unfold Df.f ES.f yD HM;simp only[KU ht hb hK h c0 c1 (Int.le_refl 0) (by omega:(0:Int)<=3),KU ht hb hK h c0 c1 (by omega:(0:Int)<=1) U,KU ht hb hK h c0 c1 (by omega:(0:Int)<=2) U,KU ht hb hK h c0 c1 (by omega:(0:Int)<=3) U,QS hb,aK,beq_self_eq_true,if_true]
 rw[af U]
 by_cases z:rd D c=cK
 ·rw[af (by simpa using z),af z]
 ·rw[ah (by simpa using z),ah z]
  by_cases y:rd D c=uY l c 4
  ·rw[af (by simpa using y),af y]
  ·rw[ah (by simpa using y),ah y]
   repeat' split
   all_goals rfl
structure tL (t:aM) (l:List ba) (K:Int) (f:fQ):Prop where
 aP:qz t l K f.eW
 dl:f.cx.length=t.C.length
 dir: ∀c:Int,0<=c->c<t.C.length->rd f.cx c=yD t l f.eW c
theorem aby (ht:lW t) (hb:l.length<=1000000) (hK:K<=1100000000) (h:qz t l K D) (z:Int): ∀(n k:Nat) (x:List Int) (i:Int),(t.C.length-i).toNat<=n->n<k->0<=i->i<=t.C.length->(x.length:Int)=i->(∀c:Int,0<=c->c<i->rd x c=yD t l D c)->
 Ok (nY.l0 k t l (D,z) x i) (λr=>r.2=0/\tL t l K r.1):=by
 have oD:=oK ht.1;have B9:=h.dl;have fin: ∀(k:Nat) (x:List Int) (i:Int),¬i<t.C.length->i<=t.C.length->(x.length:Int)=i->(∀c:Int,0<=c->c<i->rd x c=yD t l D c)->Ok (nY.l0 (k+1) t l (D,z) x i) (λr=>r.2=0/\tL t l K r.1):=λk x i hi eD hx ha=>by
  rw[nY.l0,ah (by simp only;omega)]
  exact Ok.pure ⟨J,h,by simp only;omega,λc c0 c1=>ha c c0 U⟩
 intro n
 induction n with
 |zero=>
  intro k x i hn hk hi eD hx ha;obtain⟨k,rfl⟩:=bq hk;exact fin k x i U eD hx ha
 |succ n ih=>
  intro k x i hn hk hi eD hx ha;obtain⟨k,rfl⟩:=bq hk
  by_cases aR:i<t.C.length
  ·rw[nY.l0,wi U U];refine Ok.pos (by simp only;omega) (Ok.eq (aia ht hb hK h hi aR) (Ok.ct U (ih k _ (i+1) U U U U bp λc c0 c1=>?_)))
   rw[OZ c0 U];split
   ·rename_i q;rw[q,hx]
   ·exact ha c c0 U
  ·exact fin k x i aR eD hx ha
theorem abx (ht:lW t) (hb:l.length<=1000000) (hK:K<=1100000000) (hl: ∀x∈l,qy t x/\x.Key+254*256<=K):Ok (nY.f t l) (λr=>r.2=0/\tL t l K r.1):=by
 have oD:=oK ht.1;unfold nY.f;refine(W8 ht hb hK hl).bind λv hv=>?_
 obtain⟨D,z⟩:=v;simp only at hv⊢;exact Ok.neg (by simp[hv.1]) (aby ht hb hK hv.2 z t.C.length fuel [] 0 U (by rw[cO];omega) U U J (λc c0 c1=>by omega))
theorem abz (ht:lW t) {K':Int} {f f':fQ} (h:tL t l K f) (h':tL t l K' f'):f=f':=by
 have e:f.eW=f'.eW:=zp (by rw[h.aP.dl,h'.aP.dl]) λi i0 i1=>W7 ht h.aP h'.aP i0 (by rw[h.aP.dl] at i1;exact i1)
 have e2:f.cx=f'.cx:=zp (by rw[h.dl,h'.dl]) λi i0 i1=>by
  rw[h.dl] at i1;rw[h.dir i i0 i1,h'.dir i i0 i1,e]
 cases f;cases f';simp only at e e2;rw[e,e2]
end
def kQ (m:aM) (s:Int) (n:Nat):List Int:=(List.range n).map λl:Nat=>rd m.C (db m.W m.H s (l:Int))
theorem Dl (m:aM) (s:Int) (n:Nat):(kQ m s n).length=n:=by simp[kQ]
theorem aja (m:aM) (s:Int) (n:Nat):kQ m s (n+1)=kQ m s n++[rd m.C (db m.W m.H s (n:Int))]:=by
 simp[kQ,List.range_succ]
theorem ai' (m:aM) (s:Int) (n a:Nat):kQ m s (n+a)=kQ m s n++(List.range a).map λx:Nat=>rd m.C (db m.W m.H s ((n+x:Nat):Int)):=by
 simp only[kQ,List.range_add,List.map_append,List.map_map];rfl
theorem Aw {w h s l:Int} (hs:bK w h s) (h0:0<=l) (h1:l<(ax w h s).1*(ax w h s).2):0<=db w h s l/\db w h s l<w*h:=by
 obtain⟨a1,a2,a3,a4,a5,a6⟩:=w6 hs h0 h1;obtain⟨p1,p2,p3,p4⟩:=uz hs;have e:db w h s l=(16*(s/(bt w h).1)+l/(ax w h s).1)*w+(16*(s%(bt w h).1)+l%(ax w h s).1):=by
  unfold db;rw[af ⟨hs,h0,h1⟩]
 rw[e];exact sB U a5 U a6
theorem global_row {w h s y x:Int} (hs:bK w h s) (y0:0<=y) (y1:y<(ax w h s).2) (x0:0<=x) (x1:x<(ax w h s).1):db w h s (y*(ax w h s).1+x)=db w h s (y*(ax w h s).1)+x:=by
 obtain⟨z1,z2,z3,z4⟩:=qn hs;have hl:=sB (w:=(ax w h s).1) (h:=(ax w h s).2) x0 x1 y0 y1;have AH:=sB (w:=(ax w h s).1) (h:=(ax w h s).2) (x:=0) U U y0 y1;have n1:=qM (a:=(ax w h s).1) (x:=x) (y:=y) x0 x1;have n0:=qM (a:=(ax w h s).1) (x:=0) (y:=y) U U;rw[Int.add_zero] at n0 AH;unfold db;rw[af ⟨hs,hl⟩,af ⟨hs,AH⟩,n1.1,n1.2,n0.1,n0.2];omega
theorem ai4 {L:List Int} {lo:Int} {a:Nat} (h0:0<=lo) (h1:lo+a<=L.length):aB L lo (lo+a)=(List.range a).map λx:Nat=>rd L (lo+(x:Int)):=by
 apply List.ext_getElem
 ·simp[aB];omega
 ·intro i h2 h3;have hi:i<a:=by simpa using h3
  simp only[aB,List.getElem_take,List.getElem_drop,List.getElem_map,List.getElem_range];rw[jq U]
  congr 1;omega
theorem ajb {m:aM} (hm:tM m) (s:Int):nS.f m s=some (aM.mk (ax m.W m.H s).1 (ax m.W m.H s).2 (kQ m s ((ax m.W m.H s).1*(ax m.W m.H s).2).toNat)):=by
 unfold nS.f;rw[WI,aK];have hz:=size_le m.W m.H s;have hpr:(ax m.W m.H s).1*(ax m.W m.H s).2<=16*16:=kJ hz.1 hz.2.2.1 hz.2.1 hz.2.2.2;have hp0:0<=(ax m.W m.H s).1*(ax m.W m.H s).2:=nQ hz.1 hz.2.2.1;have key: ∀(n k:Nat) (i:Int),i+n=(ax m.W m.H s).1*(ax m.W m.H s).2->0<=i->n<k->
  nS.l0 k m s (ax m.W m.H s) (kQ m s i.toNat) i=some (aM.mk (ax m.W m.H s).1 (ax m.W m.H s).2 (kQ m s ((ax m.W m.H s).1*(ax m.W m.H s).2).toNat)):=by
  intro n
  induction n with
  |zero=>
   intro k i hi h0 hk;obtain⟨k,rfl⟩: ∃q,k=q+1:=⟨k-1,by omega⟩
   rw[nS.l0,bo (x:=_*_) U U,ah U];have:i=(ax m.W m.H s).1*(ax m.W m.H s).2:=U;rw[this]
  |succ n ih=>
   intro k i hi h0 hk;obtain⟨k,rfl⟩: ∃q,k=q+1:=⟨k-1,by omega⟩
   have hs:bK m.W m.H s:=by
    by_cases hs:bK m.W m.H s
    ·exact hs
    ·have:ax m.W m.H s=(0,0):=by unfold ax;rw[ah hs]
     rw[this] at hi;simp at hi;omega
   have hg:=Aw hs h0 (by omega:i<_)
   have hl:=hm.2.1;rw[nS.l0,bo (x:=_*_) U U,af U,ahH,aK,af U,af (by rw[Dl];omega),bo U U]
   have:=ih k (i+1) U U U;rw[show(i+1).toNat=i.toNat+1 by omega,aja,show((i.toNat:Nat):Int)=i by omega] at this
   exact this
 exact key ((ax m.W m.H s).1*(ax m.W m.H s).2).toNat fuel 0 U U (by rw[tX];omega)
def FY (g:bA) (s:Int):aM×Bool:=if bK g.m.W g.m.H s then(aM.mk (ax g.m.W g.m.H s).1 (ax g.m.W g.m.H s).2 (kQ g.m s ((ax g.m.W g.m.H s).1*(ax g.m.W g.m.H s).2).toNat),true) else(aM.mk 0 0 [],false)
theorem PE {g:bA} {more:Int} (h:dn g more) (s:Int):l6.f g s=some (FY g s):=by
 have hl:=h.ok.2.1;unfold l6.f FY;have e0:iJ.f g=some (g.m.W,g.m.H):=rfl;rw[e0,aK,HN,aK]
 by_cases hs:bK g.m.W g.m.H s
 ·have hz:=qn hs;rw[ah bp,af hs];have hpr:(ax g.m.W g.m.H s).1*(ax g.m.W g.m.H s).2<=16*16:=kJ U U hz.2.1 hz.2.2.2;have key: ∀(n k:Nat) (i:Int),i+n=(ax g.m.W g.m.H s).2->0<=i->n<k->
   l6.l0 k g s (g.m.W,g.m.H) (ax g.m.W g.m.H s) (kQ g.m s (i*(ax g.m.W g.m.H s).1).toNat) i=some (aM.mk (ax g.m.W g.m.H s).1 (ax g.m.W g.m.H s).2 (kQ g.m s ((ax g.m.W g.m.H s).1*(ax g.m.W g.m.H s).2).toNat),true):=by
   intro n
   induction n with
   |zero=>
    intro k i hi h0 hk;obtain⟨k,rfl⟩: ∃q,k=q+1:=⟨k-1,by omega⟩
    rw[l6.l0,ah U];have:i=(ax g.m.W g.m.H s).2:=U;rw[this,Int.mul_comm]
   |succ n ih=>
    intro k i hi h0 hk;obtain⟨k,rfl⟩: ∃q,k=q+1:=⟨k-1,by omega⟩
    have rJ:i<(ax g.m.W g.m.H s).2:=U;have b0:0<=i*(ax g.m.W g.m.H s).1:=nQ h0 U;have b1:i*(ax g.m.W g.m.H s).1+(ax g.m.W g.m.H s).1<=(ax g.m.W g.m.H s).1*(ax g.m.W g.m.H s).2:=by
     have:(i+1)*(ax g.m.W g.m.H s).1<=(ax g.m.W g.m.H s).2*(ax g.m.W g.m.H s).1:=Int.mul_le_mul_of_nonneg_right U U;rw[Int.add_mul,Int.one_mul,Int.mul_comm (ax g.m.W g.m.H s).2] at this;exact this
    have lo:=Aw hs b0 U;have hi3:=Aw (l:=i*(ax g.m.W g.m.H s).1+((ax g.m.W g.m.H s).1-1)) hs U U;rw[global_row hs h0 rJ U U] at hi3;have hc:=xt h.ok.1;rw[l6.l0,af rJ,bo (x:=_*_) U U,Jo,aK];simp only[bo (x:=db g.m.W g.m.H s (i*(ax g.m.W g.m.H s).1)+(ax g.m.W g.m.H s).1) U U];rw[af U];have jS:(((ax g.m.W g.m.H s).1.toNat:Nat):Int)=(ax g.m.W g.m.H s).1:=U;have yW:=ai4 (L:=g.m.C) (lo:=db g.m.W g.m.H s (i*(ax g.m.W g.m.H s).1)) (a:=(ax g.m.W g.m.H s).1.toNat) U U;rw[jS] at yW;rw[yW,af (by rw[Dl];simp;omega),bo U U]
    have qH:kQ g.m s (i*(ax g.m.W g.m.H s).1).toNat++(List.range (ax g.m.W g.m.H s).1.toNat).map (λx:Nat=>rd g.m.C (db g.m.W g.m.H s (i*(ax g.m.W g.m.H s).1)+(x:Int)))=kQ g.m s ((i+1)*(ax g.m.W g.m.H s).1).toNat:=by
     rw[show((i+1)*(ax g.m.W g.m.H s).1).toNat=(i*(ax g.m.W g.m.H s).1).toNat+(ax g.m.W g.m.H s).1.toNat by rw[Int.add_mul,Int.one_mul];omega,ai']
     congr 1
     apply List.map_congr_left;intro x hx;have vD:=List.mem_range.mp hx;rw[show(((i*(ax g.m.W g.m.H s).1).toNat+x:Nat):Int)=i*(ax g.m.W g.m.H s).1+(x:Int) by omega,global_row hs h0 rJ U U]
    rw[qH];exact ih k (i+1) U U U
  have:=key (ax g.m.W g.m.H s).2.toNat fuel 0 U U (by rw[tX];omega)
  rw[show((0:Int)*(ax g.m.W g.m.H s).1).toNat=0 by simp] at this
  exact this
 ·have:ax g.m.W g.m.H s=(0,0):=by unfold ax;rw[ah hs]
  rw[this,af bh,ah hs]
theorem ab2 (g:bA) (hb:g.m.C.length<=1099511627776):w9.f g=some g.m:=by
 unfold w9.f;rw[Ra _ hb];rfl
theorem GV (w h c:Int):ra.f w h c=some (dB w h c):=by
 unfold ra.f dB;simp only[OQ,aK,tr,HN]
 by_cases hc:bV w h c
 ·rw[ah (by rw[Ex];simp[hc]),af hc]
  simp only[Ba];rw[af hc];simp only;have hp:=vP hc;have hw:=Oq hc;have hz:=size_le w h (aX w h c);have h5:0<=c/w%16*(ax w h (aX w h c)).1:=nQ U U;have h6:c/w%16*(ax w h (aX w h c)).1<=16*16:=kJ U U U U;rw[nh hp.2.2.1,nh hp.1,bo (x:=_*_) U U,bo U U]
 ·rw[af (by rw[Ex];exact hc),ah hc]
theorem Em {w h c:Int} (hc:bV w h c):0<=dB w h c/\dB w h c<(ax w h (aX w h c)).1*(ax w h (aX w h c)).2:=by
 have l_:=Oq hc;have mz:=vP hc;have h1:=sB (w:=(ax w h (aX w h c)).1) (h:=(ax w h (aX w h c)).2) (x:=c%w%16) (y:=c/w%16) U l_.1 U l_.2;have e4:dB w h c=c/w%16*(ax w h (aX w h c)).1+c%w%16:=by unfold dB;rw[af hc]
 rw[e4];exact h1
theorem tu {w h c:Int} (hc:bV w h c):bK w h (aX w h c):=by
 unfold aX;rw[af hc];exact EL hc
theorem DT {w h c:Int} (hc:bV w h c):db w h (aX w h c) (dB w h c)=c:=by
 have l_:=Oq hc;have mz:=vP hc;have Uo:=EK hc;have ck:=Em hc;unfold db;rw[af ⟨tu hc,ck⟩];have e3:aX w h c=c/w/16*(bt w h).1+c%w/16:=by unfold aX;rw[af hc]
 have e4:dB w h c=c/w%16*(ax w h (aX w h c)).1+c%w%16:=by unfold dB;rw[af hc]
 have n1:=qM (a:=(bt w h).1) (x:=c%w/16) (y:=c/w/16) Uo.1 Uo.2.1;have n2:=qM (a:=(ax w h (aX w h c)).1) (x:=c%w%16) (y:=c/w%16) U l_.1;rw[<-e3] at n1;rw[<-e4] at n2;rw[n1.1,n1.2,n2.1,n2.2];have a1:16*(c/w/16)+c/w%16=c/w:=U;have a2:16*(c%w/16)+c%w%16=c%w:=U;rw[a1,a2];have e:=Q8 hc;unfold pI at e;rw[af ⟨hc.1,mz.1,mz.2.1,mz.2.2.1,mz.2.2.2⟩] at e;exact e
theorem Sb {w h s l k:Int} (hs:bK w h s) (h0:0<=l) (h1:l<k) (h2:k<(ax w h s).1*(ax w h s).2):db w h s l<db w h s k:=by
 obtain⟨a1,a2,a3,a4,a5,a6⟩:=w6 hs h0 (by omega:l<_)
 obtain⟨b1,b2,b3,b4,b5,b6⟩:=w6 (l:=k) hs U h2;have e1:db w h s l=(16*(s/(bt w h).1)+l/(ax w h s).1)*w+(16*(s%(bt w h).1)+l%(ax w h s).1):=by unfold db;rw[af ⟨hs,h0,by omega⟩]
 have e2:db w h s k=(16*(s/(bt w h).1)+k/(ax w h s).1)*w+(16*(s%(bt w h).1)+k%(ax w h s).1):=by unfold db;rw[af ⟨hs,by omega,h2⟩]
 have p:=uz hs;have hz:=qn hs;have m1:=Int.mul_ediv_add_emod l (ax w h s).1;have m2:=Int.mul_ediv_add_emod k (ax w h s).1;rw[e1,e2];have hle:l/(ax w h s).1<=k/(ax w h s).1:=Int.ediv_le_ediv U U
 by_cases hq:l/(ax w h s).1=k/(ax w h s).1
 ·rw[<-hq] at m2⊢;omega
 ·have:=Int.mul_le_mul_of_nonneg_right (show 16*(s/(bt w h).1)+l/(ax w h s).1+1<=16*(s/(bt w h).1)+k/(ax w h s).1 by omega) (show 0<=w by omega)
  rw[Int.add_mul (16*(s/(bt w h).1)+l/(ax w h s).1),Int.one_mul] at this;omega
theorem aaE (w h s:Int):(qR w h s).Pairwise (· < ·):=by
 unfold qR vZ;have hz:=zH w h s;rw[List.pairwise_map];have h1:((List.range ((ax w h s).1*(ax w h s).2).toNat).filter (λl:Nat=>C6 w h s (l:Int))).Pairwise (· < ·):=List.Pairwise.sublist List.filter_sublist List.pairwise_lt_range;refine List.Pairwise.imp_of_mem ?_ h1;intro a b ha hb vk;have kb:=List.mem_range.mp (List.mem_filter.mp hb).1;exact Sb (Ps (w:=w) (h:=h) (s:=s) (l:=(b:Int)) U U) U U U
theorem OI (m:aM) (s:Int):(bJ m s).Pairwise (· < ·):=(aaE m.W m.H s).sublist List.filter_sublist
theorem uq {m:aM} {s c:Int} (h:c∈bJ m s):mf m c=true/\cF m c/\bK m.W m.H s/\aX m.W m.H c=s:=by
 obtain⟨h1,h2⟩:=List.mem_filter.mp h;unfold qR vZ at h1;obtain⟨l,hl,rfl⟩:=List.mem_map.mp h1;have hz:=zH m.W m.H s;have kl:=List.mem_range.mp (List.mem_filter.mp hl).1;have hs:=Ps (w:=m.W) (h:=m.H) (s:=s) (l:=(l:Int)) U U;exact⟨h2,(Bh.mp h2).1,hs,KW hs U U⟩
theorem vM (m:aM) (s:Int):(bJ m s).length<=256:=by
 have:=Q_ m.W m.H s;have:=List.length_filter_le (mf m) (qR m.W m.H s);unfold bJ;omega
theorem Oo {w h a b:Int} (ha:bV w h a) (hb:bV w h b) (e:aX w h a=aX w h b) (vk:a<b):dB w h a<dB w h b:=by
 have ia:=Em ha;have ga:=DT ha;have ib:=Em hb;have gb:=DT hb;rw[e] at ia ga;rcases Int.lt_trichotomy (dB w h a) (dB w h b) with q |q |q
 ·exact q
 ·rw[q] at ga;omega
 ·have:=Sb (tu hb) ib.1 q ia.2;omega
abbrev fO (m:aM) (s:Int):aM:=aM.mk (ax m.W m.H s).1 (ax m.W m.H s).2 (kQ m s ((ax m.W m.H s).1*(ax m.W m.H s).2).toNat)
theorem Si {g:bA} {s:Int} (hs:bK g.m.W g.m.H s):FY g s=(fO g.m s,true):=by unfold FY;rw[af hs]
theorem PD {m:aM} {s l:Int} {n:Nat} (h0:0<=l) (h1:l<n):rd (kQ m s n) l=rd m.C (db m.W m.H s l):=by
 unfold kQ;rw[jq bp];simp only[List.getElem_map,List.getElem_range];rw[show((l.toNat:Nat):Int)=l by omega]
variable {g : bA} {more : Int}
theorem KV (h:dn g more) {s:Int} (hs:bK g.m.W g.m.H s):lW (fO g.m s):=by
 obtain⟨z1,z2,z3,z4⟩:=qn hs;have hz:=zH g.m.W g.m.H s;have hv: ∀c:Int,0<=c->c<((ax g.m.W g.m.H s).1*(ax g.m.W g.m.H s).2).toNat->1<=rd (fO g.m s).C c/\rd (fO g.m s).C c<=255:=λc c0 c1=>by
  show 1<=rd (kQ _ _ _) c/\rd (kQ _ _ _) c<=255
  rw[PD c0 c1];have:=Aw hs c0 U;exact h.sw _ this.1 this.2
 refine⟨⟨z1,z2,z3,z4,by simp[Dl];omega,λhm=>?_⟩,λc c0 c1=>hv c c0 (by rw[Dl] at c1;exact c1)⟩
 obtain⟨c,c0,c1,e⟩:=jT hm;have:=hv c c0 (by rw[Dl] at c1;exact c1)
 simp only at this;rw[e] at this;omega
theorem C8 (h:dn g more) {c:Int} (hc:cF g.m c):0<=dB g.m.W g.m.H c/\dB g.m.W g.m.H c<(fO g.m (aX g.m.W g.m.H c)).C.length/\rd (fO g.m (aX g.m.W g.m.H c)).C (dB g.m.W g.m.H c)=fK g c:=by
 have dW:=nL h.ok hc;have ck:=Em dW;refine⟨ck.1,by rw[Dl];omega,?_⟩
 show rd (kQ _ _ _) _=_
 rw[PD ck.1 U,DT dW];unfold fK;rw[af hc]
variable {t : aM} {l : List Int}
structure Fe (t:aM) (l:List Int):Prop where
 Dk:lW t
 mem: ∀c∈l,0<=c/\c<t.C.length/\rd t.C c≠255
 up:l.Pairwise (· < ·)
 kD:l.length<=256
abbrev KT:Int:=65024
def Fg (t:aM) (c:Int) (D:List Int):Prop:=qz t [⟨c,4,0⟩] KT D
theorem ajd (ht:lW t) {c:Int} (c0:0<=c) (c1:c<t.C.length) (c2:rd t.C c≠255):Ok (xU.f t c) (λr=>Fg t c r.1/\r.2=0):=by
 unfold xU.f;refine(W8 (K:=KT) ht bh (by decide) (λx hx=>?_)).bind λr hr=>Ok.pure ⟨hr.2,hr.1⟩
 simp only[List.mem_cons,List.not_mem_nil,or_false] at hx;subst hx;exact⟨⟨c0,c1,c2,Int.le_refl _,by show(0:Int)<=1073741824;decide,.inl J⟩,by show(0:Int)+254*256<=65024;decide⟩
theorem ajc (h:Fe t l): ∀(n k:Nat) (i:Int),(l.length-i).toNat<=n->n<k->0<=i->qq.l0 k t l i=some true:=by
 have hf:=h.kD;have hl:=oK h.Dk.1;have fin: ∀(k:Nat) (i:Int),¬i<l.length->qq.l0 (k+1) t l i=some true:=λk i hi=>by
  rw[qq.l0,ah hi,K5 _ U,decide_eq_true h.Dk.1];rfl
 intro n
 induction n with
 |zero=>
  intro k i hn hk hi;obtain⟨k,rfl⟩:=bq hk;exact fin k i U
 |succ n ih=>
  intro k i hn hk hi;obtain⟨k,rfl⟩:=bq hk
  by_cases aR:i<l.length
  ·have hm:=h.mem _ (dZ hi aR);have hc:=h.Dk.2 _ hm.1 hm.2.1;have et:Bk.f t (rd l i)=some (rd t.C (rd l i)):=by rw[ai9 h.Dk,af ⟨hm.1,hm.2.1⟩]
   rw[qq.l0,af aR,af (c:=0<=i/\i<(List.length l:Int)) ⟨hi,aR⟩,et,aK,ah (c:=(rd t.C (rd l i)==0||rd t.C (rd l i)==255)=true) bp]
   have e:(if i>0 then(if(0<=(aa (i-1))/\(aa (i-1))<(List.length l:Int)) then(some (decide ((rd l i)<=(rd l (aa (i-1)))))) else none) else(some false))=some false:=by
    by_cases z:i>0
    ·rw[af z,wi U U,af U,decide_eq_false (by have:=uv h.up (i:=i-1) (j:=i) U U aR;omega)]
    ·rw[ah z]
   rw[e,aK];simp only[Bool.false_eq_true,if_false];rw[wi U U];exact ih k (i+1) U U U
  ·exact fin k i aR
theorem GJ {n i j:Int} (i0:0<=i) (i1:i<n) (j0:0<=j) (j1:j<n):0<=i*n/\i*n+j<n*n:=by
 have h1:=Int.mul_le_mul_of_nonneg_right (show i+1<=n by omega) (show 0<=n by omega)
 have h2:=Int.mul_nonneg i0 (show 0<=n by omega)
 rw[Int.add_mul,Int.one_mul] at h1;omega
theorem UE {n i j i' j':Int} (j0:0<=j) (j1:j<n) (j0':0<=j') (j1':j'<n) (e:i*n+j=i'*n+j'):i=i'/\j=j':=by
 have a:=qM (y:=i) j0 j1;have b:=qM (y:=i') j0' j1';rw[e] at a;exact⟨a.2.symm.trans b.2,a.1.symm.trans b.1⟩
def wE (t:aM) (l:List Int) (j:Int) (x:List Int):Prop:=(x.length:Int)=l.length*l.length/\ ∀q:Int,0<=q->q<j-> ∃D,Fg t (rd l q) D/\ ∀i:Int,0<=i->i<l.length->rd x (i*l.length+q)=rd D (rd l i)
theorem afQ (h:Fe t l) {j:Int} (j0:0<=j) (j1:j<l.length) {D:List Int×Int} (hD:Fg t (rd l j) D.1): ∀(n k:Nat) (x:List Int) (i:Int),(l.length-i).toNat<=n->n<k->0<=i->wE t l j x->(∀q:Int,0<=q->q<i->rd x (q*l.length+j)=rd D.1 (rd l q))->
 Ok (jO.l1 k l j D x i) (wE t l (j+1)):=by
 have hf:=h.kD;have fin: ∀(k:Nat) (x:List Int) (i:Int),¬i<l.length->wE t l j x->(∀q:Int,0<=q->q<i->rd x (q*l.length+j)=rd D.1 (rd l q))->Ok (jO.l1 (k+1) l j D x i) (wE t l (j+1)):=λk x i hi hx hq=>by
  rw[jO.l1,ah hi];refine Ok.pure ⟨hx.1,λq q0 q1=>?_⟩
  by_cases z:q=j
  ·rw[z];exact⟨D.1,hD,λi i0 i1=>hq i i0 U⟩
  ·exact hx.2 q q0 U
 intro n
 induction n with
 |zero=>
  intro k x i hn hk hi hx hq;obtain⟨k,rfl⟩:=bq hk;exact fin k x i U hx hq
 |succ n ih=>
  intro k x i hn hk hi hx hq;obtain⟨k,rfl⟩:=bq hk
  by_cases aR:i<l.length
  ·have hm:=h.mem _ (dZ hi aR);have ck:=GJ hi aR j0 j1;have AJ:(l.length:Int)*l.length<=256*256:=kJ U U U U;rw[jO.l1,wi (x:=i*(l.length:Int)) U U,wi (x:=i*(l.length:Int)+j) U U,wi (x:=i+1) U U];refine Ok.pos aR (Ok.ct ⟨hi,aR⟩ (Ok.ct (by rw[hD.dl];exact⟨hm.1,hm.2.1⟩) (Ok.ct (by rw[hx.1];omega) ?_)))
   have dT: ∀c:Int,0<=c->rd (List.set x (i*(l.length:Int)+j).toNat (rd D.1 (rd l i))) c=if c=i*(l.length:Int)+j then rd D.1 (rd l i) else rd x c:=λc c0=>ln U (by rw[hx.1];omega) c0
   refine ih k _ (i+1) U U U ⟨by simpa using hx.1,λq q0 q1=>?_⟩ (λq q0 q1=>?_)
   ·obtain⟨E,e1,e2⟩:=hx.2 q q0 q1;refine⟨E,e1,λr r0 r1=>?_⟩
    have:=GJ r0 r1 q0 (show q<l.length by omega)
    rw[dT _ U,ah (λz=>by have:=UE q0 U j0 j1 z;omega)]
    exact e2 r r0 r1
   ·have:=GJ q0 (show q<l.length by omega) j0 j1
    rw[dT _ U]
    by_cases z:q=i
    ·rw[af (by rw[z]),z]
    ·rw[ah (λy=>z (UE j0 j1 j0 j1 y).1)];exact hq q q0 U
  ·exact fin k x i aR hx hq
theorem afP (h:Fe t l): ∀(n k:Nat) (x:List Int) (j:Int),(l.length-j).toNat<=n->n<k->0<=j->j<=l.length->wE t l j x->Ok (jO.l0 k t l x j) (λr=>r.2=0/\wE t l l.length r.1):=by
 have hf:=h.kD;have fin: ∀(k:Nat) (x:List Int) (j:Int),j<=l.length-> ¬j<l.length->wE t l j x->Ok (jO.l0 (k+1) t l x j) (λr=>r.2=0/\wE t l l.length r.1):=λk x j hj hi hx=>by
  rw[jO.l0,ah hi];have:j=l.length:=U;subst this;exact Ok.pure ⟨J,hx⟩
 intro n
 induction n with
 |zero=>
  intro k x j hn hk hj iL hx;obtain⟨k,rfl⟩:=bq hk;exact fin k x j iL U hx
 |succ n ih=>
  intro k x j hn hk hj iL hx;obtain⟨k,rfl⟩:=bq hk
  by_cases aR:j<l.length
  ·have hm:=h.mem _ (dZ hj aR);rw[jO.l0,wi U U];refine Ok.pos aR (Ok.bind (P:=wE t l (j+1)) (Ok.ct ⟨hj,aR⟩ ((ajd h.Dk hm.1 hm.2.1 hm.2.2).bind λD hD=>?_)) λr hr=>ih k r (j+1) U U U U hr);exact afQ h hj aR hD.1 l.length fuel x 0 U (by rw[cO];omega) U hx (λq q0 q1=>by omega)
  ·exact fin k x j iL aR hx
theorem afO (h:Fe t l):Ok (jO.f t l) (λr=>r.2=0/\wE t l l.length r.1):=by
 have hf:=h.kD;unfold jO.f qq.f;have AJ:(l.length:Int)*l.length<=256*256:=kJ U U U U;have Gq:0<=(l.length:Int)*l.length:=Int.mul_nonneg U U;rw[ajc h l.length fuel 0 U (by rw[cO];omega) U,wi U U]
 refine Ok.eq J (Ok.neg bh (Ok.ct U (afP h l.length fuel _ 0 U (by rw[cO];omega) U U ⟨by simp;omega,λq q0 q1=>by omega⟩)))
variable {g : bA} {more : Int}
theorem PQ (h:dn g more) (s:Int):p_.f g s=some (fB g s):=by
 unfold p_.f fB;have hv:=h.vs
 by_cases hs:0<=s/\s<d_ g.m.W g.m.H
 ·rw[ah U,aK,ah bp,af U,af hs]
 ·by_cases h0:s<0
  ·rw[af h0,ah hs];rfl
  ·rw[ah h0,aK,af bp,ah hs]
abbrev AV (m:aM) (s:Int):List Int:=(bJ m s).map (dB m.W m.H)
theorem Kl (h:dn g more) {s:Int} (hs:bK g.m.W g.m.H s):Fe (fO g.m s) (AV g.m s):=by
 refine⟨KV h hs,λc hc=>?_,?_,by simpa using vM g.m s⟩
 ·obtain⟨x,hx,rfl⟩:=List.mem_map.1 hc;obtain⟨n1,n2,n3,n4⟩:=uq hx;have:=C8 h n2;rw[n4] at this;refine⟨this.1,this.2.1,?_⟩;rw[this.2.2];unfold fK;rw[af n2];exact(Bh.1 n1).2
 ·rw[List.pairwise_map];refine(OI g.m s).imp_of_mem λ{a b} ha hb vk=>?_
  obtain⟨_,a2,_,a4⟩:=uq ha;obtain⟨_,b2,_,b4⟩:=uq hb;exact Oo (nL h.ok a2) (nL h.ok b2) (a4.trans b4.symm) vk
def enc (d:Int):Int:=if d=cK then-1 else d
structure BE (m:aM) (s:Int) (p:pB):Prop where
 nodes:p.nodes=bJ m s
 len_:(p.aP.length:Int)=(bJ m s).length*(bJ m s).length
 Rh: ∀j:Int,0<=j->j<(bJ m s).length-> ∃D,Fg (fO m s) (dB m.W m.H (rd (bJ m s) j)) D/\ ∀i:Int,0<=i->i<(bJ m s).length->rd p.aP (i*(bJ m s).length+j)=enc (rd D (dB m.W m.H (rd (bJ m s) i)))
theorem UC {x:Int} (h0: -2147483648<=x) (h1:x<=2147483647):IntKind.i32.wrap x=x:=by
 unfold IntKind.wrap IntKind.signed IntKind.bits;simp;omega
theorem af2 (v:Int) (nodes:List Int) (T:List Int×Int) (hT: ∀c:Int,0<=c->c<T.1.length->rd T.1 c=cK∨(0<=rd T.1 c/\rd T.1 c<=KT)) (hb:T.1.length<=65536): ∀(n k:Nat) (x:List Int) (i:Int),(T.1.length-i).toNat<=n->n<k->0<=i->x.length=T.1.length->(∀c:Int,0<=c->c<i->rd x c=enc (rd T.1 c))->
 Ok (jn.l1 k v nodes T x i) (λp=>p.version=v/\p.nodes=nodes/\p.aP.length=T.1.length/\ ∀c:Int,0<=c->c<T.1.length->rd p.aP c=enc (rd T.1 c)):=by
 have hI:cK=1099511627776:=rfl;have MW:KT=65024:=rfl;have fin: ∀(k:Nat) (x:List Int) (i:Int),¬i<T.1.length->x.length=T.1.length->(∀c:Int,0<=c->c<i->rd x c=enc (rd T.1 c))->Ok (jn.l1 (k+1) v nodes T x i) (λp=>p.version=v/\p.nodes=nodes/\p.aP.length=T.1.length/\ ∀c:Int,0<=c->c<T.1.length->rd p.aP c=enc (rd T.1 c)):=λk x i hi hx ha=>by
  rw[jn.l1,ah hi];exact Ok.pure ⟨J,J,hx,λc c0 c1=>ha c c0 U⟩
 intro n
 induction n with
 |zero=>
  intro k x i hn hk hi hx ha;obtain⟨k,rfl⟩:=bq hk;exact fin k x i U hx ha
 |succ n ih=>
  intro k x i hn hk hi hx ha;obtain⟨k,rfl⟩:=bq hk
  by_cases aR:i<T.1.length
  ·rw[jn.l1,wi (x:=i+1) U U];have s1: ∀(y:List Int) (u c:Int),y.length=T.1.length->0<=c->rd (List.set y i.toNat u) c=if c=i then u else rd y c:=λy u c hy c0=>ln hi U c0
   refine Ok.pos aR (Ok.ct ⟨hi,aR⟩ (Ok.ct U (Ok.ite (λq=>Ok.ct bp ?_) λq=>?_)))
   ·have q:rd T.1 i≠cK:=by simpa using q
    have hd:=(hT i hi aR).resolve_left q;rw[UC U U];refine ih k _ (i+1) U U U (by simpa using hx) λc c0 c1=>?_
    rw[s1 _ _ c (by simpa using hx) c0,s1 _ _ c hx c0]
    by_cases z:c=i
    ·rw[af z,z];unfold enc;rw[ah q]
    ·rw[ah z,ah z];exact ha c c0 U
   ·have q:rd T.1 i=cK:=by simpa using q
    refine ih k _ (i+1) U U U (by simpa using hx) λc c0 c1=>?_
    rw[s1 _ _ c hx c0]
    by_cases z:c=i
    ·rw[af z,z];unfold enc;rw[af q]
    ·rw[ah z];exact ha c c0 U
  ·exact fin k x i aR hx ha
theorem af1 (h:dn g more) {s:Int} (hs:bK g.m.W g.m.H s) (v:Int): ∀(n k:Nat) (x:List Int) (i:Int),((bJ g.m s).length-i).toNat<=n->n<k->0<=i->i<=(bJ g.m s).length->x=(AV g.m s).take i.toNat->
 Ok (jn.l0 k (g.m.W,g.m.H) (fO g.m s,true) v (bJ g.m s) x i) (λp=>p.version=v/\BE g.m s p):=by
 have hl:=vM g.m s;have fin: ∀(k:Nat) (x:List Int) (i:Int),¬i<(bJ g.m s).length->i<=(bJ g.m s).length->x=(AV g.m s).take i.toNat->Ok (jn.l0 (k+1) (g.m.W,g.m.H) (fO g.m s,true) v (bJ g.m s) x i) (λp=>p.version=v/\BE g.m s p):=λk x i hi eD hx=>by
  rw[jn.l0,ah hi];have hx:x=AV g.m s:=by rw[hx,List.take_of_length_le bp]
  subst hx;refine(afO (Kl h hs)).bind λT hT=>?_
  obtain⟨_,t1,t2⟩:=hT;have hlen:((AV g.m s).length:Int)=(bJ g.m s).length:=by simp
  have AJ:((bJ g.m s).length:Int)*(bJ g.m s).length<=256*256:=kJ U U U U;rw[hlen] at t1 t2;have hT': ∀c:Int,0<=c->c<T.1.length->rd T.1 c=cK∨(0<=rd T.1 c/\rd T.1 c<=KT):=λc c0 c1=>by
   have hp:0<((bJ g.m s).length:Int):=by
    apply Classical.byContradiction;intro z;have:((bJ g.m s).length:Int)=0:=U;rw[this] at t1;omega
   have hm:=Int.emod_nonneg c (show((bJ g.m s).length:Int)≠0 by omega)
   have xf:=Int.emod_lt_of_pos c hp;have Gi:=Int.mul_ediv_add_emod c (bJ g.m s).length;have hq:c/(bJ g.m s).length<(bJ g.m s).length:=Int.ediv_lt_of_lt_mul hp U;have Gs:0<=c/(bJ g.m s).length:=Int.ediv_nonneg c0 U;obtain⟨D,d1,d2⟩:=t2 _ hm xf;have:=d2 _ Gs hq;rw[Int.mul_comm,Gi] at this;rw[this];have jk:=(Kl h hs).mem _ (dZ (a:=AV g.m s) Gs U)
   by_cases z:rd D (rd (AV g.m s) (c/(bJ g.m s).length))=cK
   ·exact .inl z
   ·have:=d1.dv _ jk.1 jk.2.1 z;exact .inr ⟨this.1,this.2.1⟩
  refine Ok.ct U ((af2 v _ T hT' U T.1.length fuel _ 0 U (by rw[cO];omega) U bh (λc c0 c1=>by omega)).mono λp hp=>⟨hp.1,hp.2.1,by rw[hp.2.2.1];exact t1,λj j0 j1=>?_⟩)
  obtain⟨D,d1,d2⟩:=t2 j j0 j1;have hr: ∀i:Int,0<=i->i<(bJ g.m s).length->rd (AV g.m s) i=dB g.m.W g.m.H (rd (bJ g.m s) i):=λi i0 i1=>zs i0 i1
  rw[hr j j0 j1] at d1;refine⟨D,d1,λi i0 i1=>?_⟩
  have:=GJ i0 i1 j0 j1;rw[hp.2.2.2 _ U (by rw[t1];omega),d2 i i0 i1,hr i i0 i1]
 intro n
 induction n with
 |zero=>
  intro k x i hn hk hi eD hx;obtain⟨k,rfl⟩:=bq hk;exact fin k x i U eD hx
 |succ n ih=>
  intro k x i hn hk hi eD hx;obtain⟨k,rfl⟩:=bq hk
  by_cases aR:i<(bJ g.m s).length
  ·rw[jn.l0,wi (x:=i+1) U U];refine Ok.pos aR (Ok.ct ⟨hi,aR⟩ (Ok.eq (GV ..) (Ok.ct (by rw[hx];simp;omega) (ih k _ (i+1) U U U U ?_))))
   rw[hx,HZ hi (by simpa using aR),zs hi aR]
  ·exact fin k x i aR eD hx
theorem af4 (h:dn g more) {s:Int} (hs:bK g.m.W g.m.H s) (M:dJ):Ok (jn.f M s g) (λp=>p.version=fB g s/\BE g.m s p):=by
 have hl:=vM g.m s;unfold jn.f;refine Ok.eq (Db g) (Ok.eq ((PE h s).trans (by rw[Si hs])) ?_)
 rw[PQ h,Vm h];exact Ok.eq J (af1 h hs _ (bJ g.m s).length fuel [] 0 U (by rw[cO];omega) U U J)
structure zZ (g:bA) (M:dJ):Prop where
 len_:(M.parts.length:Int)=d_ g.m.W g.m.H
 le: ∀s:Int,bK g.m.W g.m.H s->(rd M.parts s).version<=g.bN
 ok: ∀s:Int,bK g.m.W g.m.H s->(rd M.parts s).version=fB g s->BE g.m s (rd M.parts s)
 cl:M.clean=g.bN-> ∀s:Int,bK g.m.W g.m.H s->(rd M.parts s).version=fB g s
 Mf:M.clean<=g.bN
 eI:0<=M.count/\M.count<=1000000000000
def Aq (g:bA) (M:dJ) (s:Nat):Bool:=(rd M.parts (s:Int)).version !=fB g s
def oz (g:bA) (M:dJ) (n:Nat):List Int:=((List.range n).filter (Aq g M)).map Int.ofNat
theorem abd (g:bA) (M:dJ) (n:Nat):oz g M (n+1)=if Aq g M n=true then oz g M n++[(n:Int)] else oz g M n:=by
 unfold oz;rw[List.range_succ,List.filter_append,List.map_append]
 by_cases h:Aq g M n=true
 ·rw[af h,List.filter_cons_of_pos h];rfl
 ·rw[ah h,List.filter_cons_of_neg h];simp
theorem Mp (g:bA) (M:dJ) (n:Nat):(oz g M n).length<=n:=by
 unfold oz;simp only[List.length_map];have:=List.length_filter_le (Aq g M) (List.range n);simpa using this
theorem I' {M:dJ} {n:Nat} {s:Int}:s∈oz g M n↔0<=s/\s<n/\(rd M.parts s).version≠fB g s:=by
 unfold oz;simp only[List.mem_map,List.mem_filter,List.mem_range];constructor
 ·rintro⟨a,⟨a1,a2⟩,rfl⟩;exact⟨by simp,by simpa using a1,by simpa[Aq] using a2⟩
 ·rintro⟨h0,h1,h2⟩;refine⟨s.toNat,⟨by omega,?_⟩,by simp;omega⟩
  unfold Aq;rw[show((s.toNat:Nat):Int)=s by omega];simpa using h2
theorem abc (h:dn g more) (M:dJ) (hb:M.parts.length<=4096): ∀(n k:Nat) (i:Nat),i+n=M.parts.length->n<k->nO.l0 k M g (oz g M i) (i:Int)=some (oz g M M.parts.length):=by
 intro n
 induction n with
 |zero=>
  intro k i hi hk;obtain⟨k,rfl⟩:=bq hk;rw[nO.l0,ah U];have:i=M.parts.length:=U;rw[this]
 |succ n ih=>
  intro k i hi hk;obtain⟨k,rfl⟩:=bq hk;have hl:=Mp g M i;have:=ih k (i+1) U U;rw[abd] at this;rw[nO.l0,af U,af U,PQ h,aK,wi U U];have ed:((rd M.parts (i:Int)).version !=fB g i)=Aq g M i:=rfl;rw[ed]
  by_cases z:Aq g M i=true
  ·rw[af z] at this;rw[af z,af U];exact this
  ·rw[ah z] at this;rw[ah z];exact this
variable {M : dJ}
theorem abb (h:dn g more) (hM:zZ g M):nO.f M g=some (oz g M M.parts.length):=by
 unfold nO.f;have hl:=hM.len_;have hc:=pg g.m.W g.m.H;rw[FV,aK]
 by_cases z:M.clean=g.bN
 ·rw[af (by simpa using z)]
  congr 1
  refine(List.eq_nil_iff_forall_not_mem.2 λs hs=>?_).symm;obtain⟨a,b,c⟩:=I'.1 hs;exact c (hM.cl z s ⟨a,by omega⟩)
 ·rw[ah (by simpa using z)]
  exact abc h M U M.parts.length fuel 0 U (by rw[cO];omega)
structure og (g:bA) (M:dJ):Prop where
 ms:zZ g M
 all: ∀s:Int,bK g.m.W g.m.H s->(rd M.parts s).version=fB g s
theorem og.part (h:og g M) {s:Int} (hs:bK g.m.W g.m.H s):BE g.m s (rd M.parts s):=h.ms.ok s hs (h.all s hs)
theorem yd {x:Int} (h1:0<=x) (h2:x<=18446744073709551615):cY x=x:=rh h1 h2
theorem zJ {a b:Int} (a0:0<=a) (a1:a<=4611686018427387904) (b0:0<=b) (b1:b<=4611686018427387904):rZ.f a b=some (a+b):=by
 unfold rZ.f;rw[yd U U,ah U,yd U U]
theorem ahz (h:dn g more) (hv: ∀s:Int,bK g.m.W g.m.H s->fB g s<=g.bN) (L:List Int) (hL: ∀s∈L,bK g.m.W g.m.H s) (hb:L.length<=4096) (N:Int): ∀(n k:Nat) (i:Int) (M:dJ),(L.length-i).toNat<=n->n<k->0<=i->i<=L.length->zZ g M->M.count+(L.length-i)=N->
 (∀s:Int,bK g.m.W g.m.H s->(rd M.parts s).version=fB g s∨ ∃j:Int,i<=j/\j<L.length/\rd L j=s)->N<=1000000000000->
 Ok (nP.l0 k g L M i) (λr=>r.1=L.length/\og g r.2/\r.2.clean=g.bN/\r.2.count=N):=by
 have fin: ∀(k:Nat) (i:Int) (M:dJ),¬i<L.length->i<=L.length->zZ g M->M.count+(L.length-i)=N->(∀s:Int,bK g.m.W g.m.H s->(rd M.parts s).version=fB g s∨ ∃j:Int,i<=j/\j<L.length/\rd L j=s)->Ok (nP.l0 (k+1) g L M i) (λr=>r.1=L.length/\og g r.2/\r.2.clean=g.bN/\r.2.count=N):=λk i M hi eD hM hN ha=>by
  rw[nP.l0,ah hi];have tY: ∀s:Int,bK g.m.W g.m.H s->(rd M.parts s).version=fB g s:=λs hs=>(ha s hs).resolve_right λ⟨j,j0,j1,_⟩=>by omega
  refine Ok.eq (FV g) (Ok.pure ⟨J,⟨⟨hM.len_,hM.le,hM.ok,λ_=>tY,Int.le_refl _,hM.eI⟩,tY⟩,J,?_⟩);simp only;omega
 intro n
 induction n with
 |zero=>
  intro k i M hn hk hi eD hM hN ha St;obtain⟨k,rfl⟩:=bq hk;exact fin k i M U eD hM hN ha
 |succ n ih=>
  intro k i M hn hk hi eD hM hN ha St;obtain⟨k,rfl⟩:=bq hk
  by_cases aR:i<L.length
  ·have hs:=hL _ (dZ hi aR);have hc:=hM.eI;rw[nP.l0,wi (x:=i+1) U U];refine Ok.pos aR (Ok.ct ⟨hi,aR⟩ ((af4 h hs M).bind λp hp=>Ok.ct (by rw[hM.len_];exact hs) (Ok.eq (zJ hc.1 U U U) ?_)))
   have dT: ∀s:Int,0<=s->rd (List.set M.parts (rd L i).toNat p) s=if s=rd L i then p else rd M.parts s:=λs s0=>ln hs.1 (by rw[hM.len_];exact hs.2) s0
   refine ih k (i+1) _ U U U U ⟨by simpa using hM.len_,λs fS=>?_,λs fS e=>?_,λe s fS=>?_,hM.Mf,by simp only;omega⟩ (by simp only;omega) (λs fS=>?_) St
   ·rw[dT s fS.1];split
    ·rw[hp.1];exact hv _ hs
    ·exact hM.le s fS
   ·rw[dT s fS.1] at e⊢;split
    ·rename_i z;rw[z];exact hp.2
    ·rename_i z;rw[ah z] at e;exact hM.ok s fS e
   ·rw[dT s fS.1];split
    ·rename_i z;rw[z];exact hp.1
    ·exact hM.cl e s fS
   ·simp only;rw[dT s fS.1]
    by_cases z:s=rd L i
    ·rw[af z,z];exact .inl hp.1
    ·rw[ah z];rcases ha s fS with y |⟨j,j0,j1,y⟩
     ·exact .inl y
     ·refine .inr ⟨j,?_,j1,y⟩;have:j≠i:=λw=>z (by rw[<-y,w])
      omega
  ·exact fin k i M aR eD hM hN ha
theorem ahy (h:dn g more) (hv: ∀s:Int,bK g.m.W g.m.H s->fB g s<=g.bN) (hM:zZ g M) (hc:M.count+4096<=1000000000000):
 Ok (nP.f M g) (λr=>og g r.2/\r.2.clean=g.bN/\r.2.count=M.count+(oz g M M.parts.length).length):=by
 unfold nP.f;have hl:=hM.len_;have Nz:=pg g.m.W g.m.H;have B9:=Mp g M M.parts.length;refine Ok.eq (abb h hM) ((ahz h hv _ (λs hs=>?_) U (M.count+(oz g M M.parts.length).length) (oz g M M.parts.length).length fuel 0 M U (by rw[cO];omega) U U hM U (λs hs=>?_) U).mono λr hr=>hr.2)
 ·obtain⟨a,b,_⟩:=I'.1 hs;exact⟨a,by omega⟩
 ·by_cases z:(rd M.parts s).version=fB g s
  ·exact .inl z
  ·obtain⟨j,j0,j1,e⟩:=jT ((I' (n:=M.parts.length)).2 ⟨hs.1,by have:=hs.2;omega,z⟩)
   exact .inr ⟨j,j0,j1,e⟩
theorem af5 (h:dn g more) (hv: ∀s:Int,bK g.m.W g.m.H s->1<=fB g s): ∃M,rP.f g=some (some M)/\zZ g M/\M.count=0/\M.clean=0/\ ∀s:Int,bK g.m.W g.m.H s->(rd M.parts s).version=0:=by
 unfold rP.f;have Nz:=pg g.m.W g.m.H;have e:(bt g.m.W g.m.H).1*(bt g.m.W g.m.H).2=d_ g.m.W g.m.H:=rfl;rw[Db,aK,EM,aK,e,wi U U,af U];have h0: ∀s:Int,bK g.m.W g.m.H s->(rd (List.replicate (d_ g.m.W g.m.H).toNat (default:pB)) s).version=0:=λs hs=>by
  rw[vR hs.1 (by have:=hs.2;omega)];rfl
 have NF:=h.ep;refine⟨_,J,⟨by simp;omega,λs hs=>by simp only;rw[h0 s hs];omega,λs hs e=>?_,λe=>by simp only at e;omega,by simp only;omega,by simp⟩,J,J,h0⟩
 simp only at e;rw[h0 s hs] at e;have:=hv s hs;omega
section
variable {g : bA} {more : Int} {s : ju} {k : Int} {ord : List Int}
abbrev KF:Int:=104603678
abbrev CB:Int:=1000000000000
structure qw (c:fx) (b:Int):Prop where
 re:0<=c.bB/\c.bB<=b
 se:0<=c.bw/\c.bw<=b
 bu:0<=c.bk/\c.bk<=b
 hi:0<=c.bn/\c.bn<=b
 st:0<=c.bF/\c.bF<=b
 ev:0<=c.bE/\c.bE<=b
theorem qw.mono {c:fx} {b b':Int} (h:qw c b) (hb:b<=b'):qw c b':=by
 obtain⟨a1,a2,a3,a4,a5,a6⟩:=h;exact⟨by omega,by omega,by omega,by omega,by omega,by omega⟩
structure z7 (g:bA) (s:ju) (k:Int) (ord:List Int):Prop where
 iN:pR s.keys k ord
 fl:s.fields.length=s.keys.ak.length
 ok: ∀c:Int,0<=c->c<s.fields.length->cF g.m (rd s.keys.ak c).key.1/\bK g.m.W g.m.H (rd s.keys.ak c).key.2/\(rd s.fields c).version<=g.bN/\
  ((rd s.fields c).version=fB g (rd s.keys.ak c).key.2->(rd s.fields c).tv.length<=1000000/\tL (fO g.m (rd s.keys.ak c).key.2) (rd s.fields c).tv KF (rd s.fields c).field)
def Mc (s:ju) (a b v:Int) (l:List ba):Prop:= ∃c,cI s.keys.eP (a,b)=some c/\(rd s.fields c).version=v/\(rd s.fields c).tv=l
theorem VF (f:fQ) (h1:f.eW.length<=1000) (h2:f.cx.length<=1000):tx.f f=some f:=by
 unfold tx.f qo.f;rw[af bp,aK,af bp,aK]
 cases f;rfl
theorem KC {c:Int} (h0:0<=c) (h1:c<=1000000000000):mJ.f c=some (c+1):=by
 unfold mJ.f;rw[zJ h0 U U U];rfl
theorem aaH (l:List ba) (hb:l.length<=1000000):rV.f l=some l:=by
 unfold rV.f;rw[af bp];rfl
theorem ME (h:dn g more) {b:Int} (hb:bK g.m.W g.m.H b) {l:List ba} {f:fQ} (hf:tL (fO g.m b) l KF f):f.eW.length<=1000/\f.cx.length<=1000:=by
 have:=oK (KV h hb).1;rw[hf.aP.dl,hf.dl];omega
structure PY (g:bA) (s:ju) (k:Int) (ord:List Int) (a b:Int) (l:List ba) (r:fQ×Int×ju):Prop where
 code:r.2.1=0
 tV:tL (fO g.m b) l KF r.1
 sh: ∃c A B,z7 g r.2.2 k (c::(A++B))/\(rd r.2.2.keys.ak c).key=(a,b)/\(ord=A++c::B∨ord=A++B)/\
  (∀d∈A++B,(rd r.2.2.keys.ak d).key=(rd s.keys.ak d).key/\rd r.2.2.fields d=rd s.fields d)/\
  (cI s.keys.eP (a,b)=some c∨(cI s.keys.eP (a,b)=none/\(ord=A++B∨(B=[]/\(s.keys.ak.length:Int)=k))))
 now:Mc r.2.2 a b (fB g b) l
 hit:Mc s a b (fB g b) l->r.2.2.count=⟨s.count.bB,s.count.bw,s.count.bk,s.count.bn+1,s.count.bF,s.count.bE⟩
 eI:r.2.2.count.bB=s.count.bB/\r.2.2.count.bw=s.count.bw/\s.count.bk<=r.2.2.count.bk/\s.count.bn<=r.2.2.count.bn/\r.2.2.count.bk+r.2.2.count.bn=s.count.bk+s.count.bn+1/\s.count.bF<=r.2.2.count.bF/\s.count.bE<=r.2.2.count.bE/\r.2.2.count.bF<=s.count.bF+1/\r.2.2.count.bE<=s.count.bE+1
theorem ait (h:dn g more) (hv: ∀b:Int,bK g.m.W g.m.H b->fB g b<=g.bN) (hs:z7 g s k ord) (hc:qw s.count CB) {a b:Int} (ha:cF g.m a) (hb:bK g.m.W g.m.H b) (l:List ba) (JS:l.length<=1000000) (hl: ∀x∈l,qy (fO g.m b) x/\x.Key+254*256<=KF):
 Ok (mH.f s a b (fB g b) (fO g.m b) l) (PY g s k ord a b l):=by
 have ht:=KV h hb;have JQ:=hs.iN.kb;have Cc:=hs.iN.kD;obtain⟨c1,c2,c3,c4,c5,c6⟩:=hc;unfold mH.f;refine(W3 ht l JS).bind λm hm=>?_
 have:m=true:=hm.2 λx hx=>(hl x hx).1;subst this;refine Ok.neg bh ((ajl hs.iN a b).bind λv N5=>?_);obtain⟨A,B,hL,yN⟩:=N5;have hfl:=hs.fl;have ji:=(hL.mem v.1).1 (List.mem_cons_self ..);obtain⟨Ur,Us⟩:v.1∉A/\v.1∉B:=by
  have:=(List.nodup_cons.1 hL.nd).1;simpa using this
 obtain⟨X,hX,SA,B2⟩: ∃X,(if(v.1==(List.length s.fields:Int))=true then(if(List.length s.fields+1<=1099511627776) then(some (s.fields++[(qm.mk 0 [] (fQ.mk [] []))])) else none) else(some s.fields))=some X/\X.length=v.2.2.2.ak.length/\ ∀d:Int,0<=d->d<s.fields.length->rd X d=rd s.fields d:=by
  rcases yN with⟨_,_,_,vy,h5,_⟩ |⟨_,_,_,_,h4,h5,_⟩ |⟨_,_,_,vy,_,h4,h5,_⟩
  ·rw[ah bp];exact⟨_,J,by omega,λ_ _ _=>rfl⟩
  ·rw[af bp,af U];exact⟨_,J,by simp;omega,λd d0 d1=>zq d0 d1⟩
  ·rw[ah bp];exact⟨_,J,by omega,λ_ _ _=>rfl⟩
 rw[hX,aK];refine Ok.ct U ?_;have hKF:KF<=1100000000:=by decide
 have Cf:(rd v.2.2.2.ak v.1).key=(a,b):=by
  rcases yN with⟨_,_,h3,_,_,h6⟩ |⟨_,_,_,_,_,_,_,h6⟩ |⟨_,_,_,_,_,_,_,_,h6⟩
  ·rw[h6 _ ji.1];exact((hs.iN.sl _ _).1 h3).2.2
  ·exact h6
  ·exact h6
 have NN: ∀d∈A++B,0<=d/\d<s.fields.length/\(rd v.2.2.2.ak d).key=(rd s.keys.ak d).key:=λd hd=>by
  have ud:d≠v.1:=λz=>by rw[z] at hd;exact(List.mem_append.1 hd).elim Ur Us
  have B_:d∈ord:=by
   rcases yN with⟨_,_,_,e,_⟩ |⟨_,_,_,e,_⟩ |⟨_,_,_,e,_⟩<;>rw[e]
   ·rcases List.mem_append.1 hd with q |q
    ·exact List.mem_append_left _ q
    ·exact List.mem_append_right _ (List.mem_cons_of_mem _ q)
   ·exact hd
   ·rcases List.mem_append.1 hd with q |q
    ·exact List.mem_append_left _ q
    ·exact List.mem_append_right _ (List.mem_cons_of_mem _ q)
  have hr:=(hs.iN.mem d).1 B_;refine⟨hr.1,by omega,?_⟩
  rcases yN with⟨_,_,_,_,_,h6⟩ |⟨_,_,_,_,_,_,h6,_⟩ |⟨_,_,_,_,_,_,_,h6,_⟩
  ·exact h6 d hr.1
  ·exact h6 d hr.1 hr.2
  ·exact h6 d hr.1 ud
 have Uj:ord=A++v.1::B∨ord=A++B:=by
  rcases yN with⟨_,_,_,e,_⟩ |⟨_,_,_,e,_⟩ |⟨_,_,_,e,_⟩
  ·exact .inl e
  ·exact .inr e
  ·exact .inl e
 have hold:cI s.keys.eP (a,b)=some v.1∨(cI s.keys.eP (a,b)=none/\(ord=A++B∨(B=[]/\(s.keys.ak.length:Int)=k))):=by
  rcases yN with⟨_,_,h3,_⟩ |⟨_,_,h3,h4,_⟩ |⟨_,_,h3,_,h5,h6,_⟩
  ·exact .inl h3
  ·exact .inr ⟨h3,.inl h4⟩
  ·exact .inr ⟨h3,.inr ⟨h5,h6⟩⟩
 have hq:(if v.2.1=true then(if((rd X v.1).version==fB g b)=true then((Bb.f ((rd X v.1).tv) l).bind λv7=>some v7) else(some false)) else(some false))=some (decide (v.2.1=true/\(rd X v.1).version=fB g b/\(rd X v.1).tv=l)):=by
  by_cases z:v.2.1=true
  ·rw[af z]
   by_cases y:(rd X v.1).version=fB g b
   ·rw[af (by simpa using y)]
    have hlen:(rd X v.1).tv.length<=1000000:=by
     rcases yN with⟨_,_,h3,vy,h5,h6⟩ |⟨h1,_⟩ |⟨h1,_⟩
     ·have aR:v.1<s.fields.length:=U;rw[B2 _ ji.1 aR] at y⊢;have:=(hs.ok _ ji.1 aR).2.2.2;rw[<-h6 _ ji.1,Cf] at this;exact(this y).1
     ·rw[h1] at z;simp at z
     ·rw[h1] at z;simp at z
    rw[aiP _ _ hlen];simp[z,y]
   ·rw[ah (by simpa using y)];simp[y]
  ·rw[ah z];simp[z]
 rw[hq,aK];refine Ok.ite (λq=>?_) λq=>?_
 ·obtain⟨q1,q2,q3⟩:=of_decide_eq_true q;rcases yN with⟨h1,h2,h3,vy,h5,h6⟩ |⟨h1,_⟩ |⟨h1,_⟩
  rotate_left
  ·rw[h1] at q1;simp at q1
  ·rw[h1] at q1;simp at q1
  have aR:v.1<s.fields.length:=U;have TZ:tL (fO g.m b) l KF (rd X v.1).field:=by
   have:=(hs.ok _ ji.1 aR).2.2.2;rw[<-h6 _ ji.1,Cf] at this;rw[B2 _ ji.1 aR] at q2 q3⊢;have:=(this q2).2;rw[q3] at this;exact this
  have hlen:=ME h hb TZ;refine Ok.eq (KC c4.1 c4.2) (Ok.eq (VF _ hlen.1 hlen.2) (Ok.pure ⟨J,TZ,⟨v.1,A,B,⟨hL,SA,λd d0 d1=>?_⟩,Cf,Uj,λd hd=>?_,hold⟩,⟨v.1,(hL.sl _ _).2 ⟨ji.1,ji.2,Cf⟩,q2,q3⟩,λ_=>rfl,⟨J,J,Int.le_refl _,by show s.count.bn<=s.count.bn+1;omega,by show s.count.bk+(s.count.bn+1)=s.count.bk+s.count.bn+1;omega,Int.le_refl _,Int.le_refl _,by show s.count.bF<=s.count.bF+1;omega,by show s.count.bE<=s.count.bE+1;omega⟩⟩))
  ·simp only at d1⊢;have TQ:d<s.fields.length:=U;rw[h6 d d0,B2 d d0 TQ];exact hs.ok d d0 TQ
  ·obtain⟨e0,e1,e2⟩:=NN d hd;exact⟨e2,B2 d e0 e1⟩
 ·have gV: ∃S,(if v.2.1=true then((mJ.f s.count.bF).bind λv12=>some v12) else(some s.count.bF))=some S/\s.count.bF<=S/\S<=s.count.bF+1:=by
   split
   ·rw[KC c5.1 c5.2];exact⟨_,J,by omega,Int.le_refl _⟩
   ·exact⟨_,J,Int.le_refl _,by omega⟩
  have hev: ∃S,(if v.2.2.1=true then((mJ.f s.count.bE).bind λv12=>some v12) else(some s.count.bE))=some S/\s.count.bE<=S/\S<=s.count.bE+1:=by
   split
   ·rw[KC c6.1 c6.2];exact⟨_,J,by omega,Int.le_refl _⟩
   ·exact⟨_,J,Int.le_refl _,by omega⟩
  obtain⟨S,eS,S1,S2⟩:=gV;obtain⟨E,eE,E1,E2⟩:=hev;rw[eS,aK,eE,aK,KC c3.1 c3.2,aK];refine(abx ht JS hKF hl).bind λf hf=>Ok.eq (aaH l JS) (Ok.eq (VF _ (ME h hb hf.2).1 (ME h hb hf.2).2) (Ok.pure ?_));have dT: ∀d:Int,0<=d->rd (List.set X (Int.toNat v.1) (qm.mk (fB g b) l f.1)) d=if d=v.1 then qm.mk (fB g b) l f.1 else rd X d:=λd d0=>ln ji.1 U d0
  refine⟨rfl,hf.2,⟨v.1,A,B,⟨hL,by simpa using SA,λd d0 d1=>?_⟩,Cf,Uj,λd hd=>?_,hold⟩,⟨v.1,(hL.sl _ _).2 ⟨ji.1,ji.2,Cf⟩,?_,?_⟩,λ⟨c,k1,k2,k3⟩=>?_,⟨rfl,rfl,by show s.count.bk<=s.count.bk+1;omega,Int.le_refl _,by show s.count.bk+1+s.count.bn=s.count.bk+s.count.bn+1;omega,S1,E1,S2,E2⟩⟩
  ·simp only[List.length_set] at d1⊢;rw[dT d d0]
   by_cases z:d=v.1
   ·rw[af z,z,Cf];exact⟨ha,hb,hv b hb,λ_=>⟨JS,hf.2⟩⟩
   ·rw[ah z];have B_:d∈A++B:=by
     have:=(hL.mem d).2 ⟨d0,by omega⟩
     exact(List.mem_cons.1 this).resolve_left z
    obtain⟨e0,e1,e2⟩:=NN d B_;rw[e2,B2 d e0 e1];exact hs.ok d e0 e1
  ·obtain⟨e0,e1,e2⟩:=NN d hd;have ud:d≠v.1:=λz=>by rw[z] at hd;exact(List.mem_append.1 hd).elim Ur Us
   refine⟨e2,?_⟩;simp only;rw[dT d e0,ah ud];exact B2 d e0 e1
  ·simp only;rw[dT _ ji.1,af J]
  ·simp only;rw[dT _ ji.1,af J]
  ·exfalso;rcases yN with⟨h1,h2,h3,vy,h5,h6⟩ |⟨_,_,h3,_⟩ |⟨_,_,h3,_⟩
   ·rw[h3] at k1;simp only[Option.some.injEq] at k1;subst k1;have aR:v.1<s.fields.length:=U;have q: ¬(v.2.1=true/\(rd X v.1).version=fB g b/\(rd X v.1).tv=l):=by simpa using q
    rw[B2 _ ji.1 aR] at q;exact q ⟨h1,k2,k3⟩
   ·rw[h3] at k1;simp at k1
   ·rw[h3] at k1;simp at k1
theorem aiC {k:Int} (h1:1<=k) (h2:k<=1000000): ∃s,xM.f k=some (some s)/\pR s.keys k []/\s.fields=[]/\s.count=⟨0,0,0,0,0,0⟩:=by
 obtain⟨l,e,hl⟩:=afI h1 h2;unfold xM.f;rw[ah U,e];exact⟨_,J,hl,J,J⟩
theorem RU (h:pR s.keys k ord): ∃s',pM.f s=some s'/\pR s'.keys k []/\s'.fields=[]/\s'.count=s.count:=by
 obtain⟨l,e,hl⟩:=aaF h;unfold pM.f;rw[e];exact⟨_,J,hl,J,J⟩
theorem z7.empty (g:bA) (h:pR s.keys k []) (hf:s.fields=[]):z7 g s k []:=by
 have hl:s.keys.ak.length=0:=by
  apply Classical.byContradiction;intro z;have:=(h.mem 0).2 U;simp at this
 exact⟨h,by rw[hf,hl];rfl,λc c0 c1=>by rw[hf] at c1;simp at c1;omega⟩
end
variable {g : bA} {more : Int} {M : dJ}
theorem afG (x y:Int):cmp_Less_int.f x y=some (decide (x<y)):=by
 unfold cmp_Less_int.f cmp_isNaN_int.f;simp
theorem aaa (x:List Int) (t:Int) (hx:x.Pairwise (· < ·)) (hb:x.length<=1000000): ∀(n k:Nat) (i j:Int),(j-i).toNat<=n->n<k->0<=i->i<=j->j<=x.length->(∀c:Int,0<=c->c<i->rd x c<t)->(∀c:Int,j<=c->c<x.length->t<=rd x c)->
 Ok (oJ.l0 k x t i j) (λr=>0<=r/\r<=x.length/\(∀c:Int,0<=c->c<r->rd x c<t)/\(∀c:Int,r<=c->c<x.length->t<=rd x c)):=by
 have fin: ∀(k:Nat) (i j:Int),¬i<j->0<=i->i<=j->j<=x.length->(∀c:Int,0<=c->c<i->rd x c<t)->(∀c:Int,j<=c->c<x.length->t<=rd x c)->Ok (oJ.l0 (k+1) x t i j) (λr=>0<=r/\r<=x.length/\(∀c:Int,0<=c->c<r->rd x c<t)/\(∀c:Int,r<=c->c<x.length->t<=rd x c)):=λk i j rK h0 h1 h2 ha hb=>by
  rw[oJ.l0,ah rK];exact Ok.pure ⟨h0,by omega,ha,λc c0 c1=>hb c U c1⟩
 intro n
 induction n with
 |zero=>
  intro k i j hn hk h0 h1 h2 ha hb;obtain⟨k,rfl⟩:=bq hk;exact fin k i j U h0 h1 h2 ha hb
 |succ n ih=>
  intro k i j hn hk h0 h1 h2 ha hb;obtain⟨k,rfl⟩:=bq hk
  by_cases aR:i<j
  ·have e:aa (Int.fdiv (cY (aa (i+j))) (2^1))=(i+j)/2:=by
    rw[wi (x:=i+j) U U,rh U U,Int.fdiv_eq_ediv_of_nonneg _ (by decide),show(2:Int)^1=2 from rfl,wi U U]
   rw[oJ.l0,e,wi (x:=(i+j)/2+1) U U];refine Ok.pos aR (Ok.ct U (Ok.eq (afG ..) (Ok.ite (λq=>?_) λq=>?_)))
   ·have q:=of_decide_eq_true q;refine ih k _ j U U U U h2 (λc c0 c1=>?_) hb
    by_cases z:c=(i+j)/2
    ·rw[z];exact q
    ·have:=uv hx (i:=c) (j:=(i+j)/2) c0 U U;omega
   ·have q: ¬rd x ((i+j)/2)<t:=by simpa using q
    refine ih k i _ U U h0 U U ha (λc c0 c1=>?_)
    by_cases z:c=(i+j)/2
    ·rw[z];omega
    ·have:=uv hx (i:=(i+j)/2) (j:=c) U U c1;omega
  ·exact fin k i j aR h0 h1 h2 ha hb
theorem Z' (x:List Int) (t:Int) (hx:x.Pairwise (· < ·)) (hb:x.length<=1000000):Ok (oJ.f x t) (λr=>(r.2=true↔t∈x)/\(r.2=true->0<=r.1/\r.1<x.length/\rd x r.1=t)):=by
 unfold oJ.f Be.f;refine(aaa x t hx hb x.length fuel 0 x.length U (by rw[cO];omega) U U U (λc c0 c1=>by omega) (λc c0 c1=>by omega)).bind λr hr=>?_
 obtain⟨r0,r1,r2,r3⟩:=hr;have gL:(r<x.length->rd x r≠t)->t∉x:=λh hm=>by
  obtain⟨c,c0,c1,e⟩:=jT hm;rcases Int.lt_trichotomy c r with q |q |q
  ·have:=r2 c c0 q;omega
  ·subst q;exact h c1 e
  ·have:=uv hx r0 q c1;have:=r3 r U U;omega
 by_cases h1:r<x.length
 ·rw[af h1,af ⟨r0,h1⟩]
  by_cases h2:rd x r=t
  ·rw[af (by simpa using h2)]
   exact Ok.pure ⟨⟨λ_=>by rw[<-h2];exact dZ r0 h1,λ_=>rfl⟩,λ_=>⟨r0,h1,h2⟩⟩
  ·rw[ah (by simpa using h2)]
   have:=gL λ_=>h2
   simp only[aK,bne_self_eq_false,Bool.false_eq_true,if_false];exact Ok.pure ⟨by simpa using this,by simp⟩
 ·rw[ah h1];have:=gL λq=>absurd q h1
  exact Ok.pure ⟨by simpa using this,by simp⟩
def node (m:aM) (c:Int):Prop:=c∈bJ m (aX m.W m.H c)
theorem CL {m:aM} {c:Int} (h:node m c):mf m c=true/\cF m c:=⟨(uq h).1,(uq h).2.1⟩
theorem Kz {m:aM} {s c:Int} (h:c∈bJ m s):node m c:=by
 unfold node;rw[(uq h).2.2.2];exact h
theorem RM (h:dn g more) (hF:og g M) (c:Int):Ok (sQ.f M c g) (λr=>(¬bV g.m.W g.m.H c/\r=(none,0,false))∨(bV g.m.W g.m.H c/\r.1=some (aX g.m.W g.m.H c)/\(r.2.2=true↔node g.m c)/\(r.2.2=true->0<=r.2.1/\r.2.1<(bJ g.m (aX g.m.W g.m.H c)).length/\rd (bJ g.m (aX g.m.W g.m.H c)) r.2.1=c))):=by
 unfold sQ.f Eo.f;refine Ok.eq (Db g) (Ok.eq (tr ..) (Ok.ite (λq=>Ok.pure (.inl ⟨zF.1 q,J⟩)) λq=>?_));have hc:bV g.m.W g.m.H c:=Classical.byContradiction λz=>q (zF.2 z);have hs:=tu hc;have hp:=hF.part hs;refine Ok.ct (by rw[hF.ms.len_];exact hs) ?_
 rw[hp.nodes];refine Ok.bind (Ok.bind (Z' _ c (OI ..) (by have:=vM g.m (aX g.m.W g.m.H c);omega)) λr hr=>Ok.pure (P:=λr:Int×Bool=>(r.2=true↔node g.m c)/\(r.2=true->0<=r.1/\r.1<(bJ g.m (aX g.m.W g.m.H c)).length/\rd (bJ g.m (aX g.m.W g.m.H c)) r.1=c)) hr) λr hr=>Ok.pure (.inr ⟨hc,J,hr⟩)
theorem agz (hF:og g M) (s:Int) (hs:bK g.m.W g.m.H s):xu.f M s g=some (bJ g.m s):=by
 have hp:=hF.part hs;have hl:=vM g.m s;unfold xu.f qo.f;have:=hs.1;have:=hs.2;rw[hF.ms.len_,ah U,hp.nodes];simp only[aK];rw[ah bp,af hs,af bp];rfl
def Comes (m:aM) (b:Int) (e:ek):Prop:=
 (e.To∈bJ m (aX m.W m.H b)/\e.To≠b/\e.kS≠cK/\ ∃D,Fg (fO m (aX m.W m.H b)) (dB m.W m.H b) D/\e.kS=rd D (dB m.W m.H e.To))∨
 (node m e.To/\aX m.W m.H e.To≠aX m.W m.H b/\(∃d:Int,0<=d/\d<=3/\e.To=cC m.W m.H b d)/\e.kS=rd m.C b)
theorem abn {d:Int} (h:d=cK∨(0<=d/\d<=KT)):(if(enc d != -1)=true then some (aa (enc d)) else some 1099511627776)=some d:=by
 have hI:cK=1099511627776:=rfl;have hK:KT=65024:=rfl;unfold enc
 by_cases z:d=cK
 ·simp[z]
 ·have:=h.resolve_left z;rw[ah z,af bp,wi U U]
theorem ae0 (h:dn g more) (hF:og g M) {b:Int} (hb:node g.m b) (v:Option Int×Int×Bool) (hv:0<=v.2.1/\v.2.1<(bJ g.m (aX g.m.W g.m.H b)).length/\rd (bJ g.m (aX g.m.W g.m.H b)) v.2.1=b)
 (Q:List ek->Prop) (D9: ∀x:List ek,x.length<=256->(∀e,e∈x↔Comes g.m b e/\aX g.m.W g.m.H e.To=aX g.m.W g.m.H b)->Ok (gX.l1 fuel M b g (aX g.m.W g.m.H b) (g.m.W,g.m.H) x 0) Q):
 ∀(n k:Nat) (i:Int) (x:List ek),((bJ g.m (aX g.m.W g.m.H b)).length-i).toNat<=n->n<k->0<=i->i<=(bJ g.m (aX g.m.W g.m.H b)).length->x.length<=i->
 (∀e,e∈x↔Comes g.m b e/\aX g.m.W g.m.H e.To=aX g.m.W g.m.H b/\ ∃j:Int,0<=j/\j<i/\rd (bJ g.m (aX g.m.W g.m.H b)) j=e.To)->
 Ok (gX.l0 k M b g v (aX g.m.W g.m.H b) x i) Q:=by
 have ck:=(CL hb).2;have hs:=tu (nL h.ok ck);have hp:=hF.part hs;have hN:=vM g.m (aX g.m.W g.m.H b);have Cg:=Kl h hs;have hI:cK=1099511627776:=rfl;have MW:KT=65024:=rfl;generalize hS:aX g.m.W g.m.H b=s at*;have Um:=OI g.m s;have fin: ∀(k:Nat) (i:Int) (x:List ek),¬i<(bJ g.m s).length->i<=(bJ g.m s).length->x.length<=i->(∀e,e∈x↔Comes g.m b e/\aX g.m.W g.m.H e.To=s/\ ∃j:Int,0<=j/\j<i/\rd (bJ g.m s) j=e.To)->Ok (gX.l0 (k+1) M b g v s x i) Q:=λk i x hi eD hx he=>by
  rw[gX.l0,hp.nodes,ah hi];refine Ok.eq (Db g) (D9 x U λe=>(he e).trans ⟨λq=>⟨q.1,q.2.1⟩,λq=>⟨q.1,q.2,?_⟩⟩);rcases q.1 with⟨y,_⟩ |⟨_,y,_⟩
  ·rw[hS] at y;obtain⟨j,j0,j1,z⟩:=jT y;exact⟨j,j0,by omega,z⟩
  ·rw[hS] at y;exact absurd q.2 y
 intro n
 induction n with
 |zero=>
  intro k i x hn hk hi eD hx he;obtain⟨k,rfl⟩:=bq hk;exact fin k i x U eD hx he
 |succ n ih=>
  intro k i x hn hk hi eD hx he;obtain⟨k,rfl⟩:=bq hk
  by_cases aR:i<(bJ g.m s).length
  ·obtain⟨D,d1,d2⟩:=hp.Rh v.2.1 hv.1 hv.2.1;rw[hv.2.2] at d1;have ajT:=GJ hi aR hv.1 hv.2.1;have AJ:((bJ g.m s).length:Int)*(bJ g.m s).length<=256*256:=kJ U U U U;have NZ:=dZ hi aR;have jk:=Cg.mem _ (List.mem_map_of_mem NZ);have hd:rd D (dB g.m.W g.m.H (rd (bJ g.m s) i))=cK∨(0<=rd D (dB g.m.W g.m.H (rd (bJ g.m s) i))/\rd D (dB g.m.W g.m.H (rd (bJ g.m s) i))<=KT):=by
    by_cases z:rd D (dB g.m.W g.m.H (rd (bJ g.m s) i))=cK
    ·exact .inl z
    ·have:=d1.dv _ jk.1 jk.2.1 z;exact .inr ⟨this.1,this.2.1⟩
   have eb:CA.f (rd M.parts s) i v.2.1=some (rd D (dB g.m.W g.m.H (rd (bJ g.m s) i))):=by
    unfold CA.f;rw[hp.nodes,wi (x:=i*((bJ g.m s).length:Int)) U U,wi U U,af (by rw[hp.len_];omega),d2 i hi aR]
    exact abn hd
   rw[gX.l0,hp.nodes,af aR,af (c:=0<=i/\i<_) ⟨hi,aR⟩,eb,aK,wi U U];have bI:(i≠v.2.1)↔rd (bJ g.m s) i≠b:=by
    constructor
    ·intro z y;rw[<-hv.2.2] at y;rcases Int.lt_or_gt_of_ne z with w |w
     ·have:=uv Um hi w hv.2.1;omega
     ·have:=uv Um hv.1 w aR;omega
    ·intro z y;rw[y] at z;exact z hv.2.2
   have yV:aX g.m.W g.m.H (rd (bJ g.m s) i)=s:=(uq NZ).2.2.2;generalize hV:rd D (dB g.m.W g.m.H (rd (bJ g.m s) i))=V at*;have AB: ∀e:ek,e.To=rd (bJ g.m s) i->(Comes g.m b e↔i≠v.2.1/\V≠cK/\e=⟨rd (bJ g.m s) i,V⟩):=λe ee=>by
    obtain⟨a,c⟩:=e;simp only at ee;subst ee;unfold Comes;rw[hS];constructor
    ·rintro(⟨_,z2,z3,E,z4,z5⟩ |⟨_,z2,_⟩)
     ·have:=W7 Cg.Dk z4 d1 jk.1 jk.2.1;simp only at z2 z3 z5;rw[this,hV] at z5;exact⟨bI.2 z2,by omega,by rw[z5]⟩
     ·exact absurd yV z2
    ·rintro⟨z1,z2,z3⟩;simp only[ek.mk.injEq,true_and] at z3;subst z3;exact .inl ⟨NZ,bI.1 z1,z2,D,d1,hV.symm⟩
   have qH: ∀e:ek,(Comes g.m b e/\aX g.m.W g.m.H e.To=s/\ ∃j:Int,0<=j/\j<i+1/\rd (bJ g.m s) j=e.To)↔(e∈x∨(i≠v.2.1/\V≠cK/\e=⟨rd (bJ g.m s) i,V⟩)):=λe=>by
    rw[he e];constructor
    ·rintro⟨a,b',j,j0,j1,ej⟩
     by_cases z:j=i
     ·subst z;exact .inr ((AB e ej.symm).1 a)
     ·exact .inl ⟨a,b',j,j0,by omega,ej⟩
    ·rintro(⟨a,b',j,j0,j1,ej⟩ |w)
     ·exact⟨a,b',j,j0,by omega,ej⟩
     ·have ee:e.To=rd (bJ g.m s) i:=by rw[w.2.2]
      exact⟨(AB e ee).2 w,by rw[ee];exact yV,i,hi,by omega,ee.symm⟩
   by_cases q:i≠v.2.1/\V≠cK
   ·rw[af (by simp;exact q),af U]
    refine Ok.eq J (ih k (i+1) _ U U U U bp λe=>?_);rw[qH e];simp[q.1,q.2]
   ·rw[ah (by simp only[Bool.and_eq_true,bne_iff_ne];exact q)]
    refine Ok.eq J (ih k (i+1) x U U U U U λe=>?_);rw[qH e];exact⟨.inl,λw=>w.resolve_right λy=>q ⟨y.1,y.2.1⟩⟩
  ·exact fin k i x aR eD hx he
theorem ae1 (h:dn g more) (hF:og g M) {b:Int} (hb:node g.m b): ∀(n k:Nat) (j:Int) (x:List ek),(4-j).toNat<=n->n<k->0<=j->j<=4->x.length<=256+j->
 (∀e,e∈x↔Comes g.m b e/\(aX g.m.W g.m.H e.To=aX g.m.W g.m.H b∨ ∃d:Int,0<=d/\d<j/\e.To=cC g.m.W g.m.H b d))->
 Ok (gX.l1 k M b g (aX g.m.W g.m.H b) (g.m.W,g.m.H) x j) (λr=>r.length<=260/\ ∀e,e∈r↔Comes g.m b e):=by
 have fin: ∀(k:Nat) (j:Int) (x:List ek),¬j<=3->x.length<=256+j->j<=4->(∀e,e∈x↔Comes g.m b e/\(aX g.m.W g.m.H e.To=aX g.m.W g.m.H b∨ ∃d:Int,0<=d/\d<j/\e.To=cC g.m.W g.m.H b d))->Ok (gX.l1 (k+1) M b g (aX g.m.W g.m.H b) (g.m.W,g.m.H) x j) (λr=>r.length<=260/\ ∀e,e∈r↔Comes g.m b e):=λk j x hj hx iL he=>by
  rw[gX.l1,ah hj];refine Ok.pure ⟨by omega,λe=>(he e).trans ⟨λq=>q.1,λq=>⟨q,?_⟩⟩⟩
  rcases q with⟨y,_⟩ |⟨_,_,⟨d,d0,d3,y⟩,_⟩
  ·exact .inl (uq y).2.2.2
  ·exact .inr ⟨d,d0,by omega,y⟩
 intro n
 induction n with
 |zero=>
  intro k j x hn hk hj iL hx he;obtain⟨k,rfl⟩:=bq hk;exact fin k j x U hx iL he
 |succ n ih=>
  intro k j x hn hk hj iL hx he;obtain⟨k,rfl⟩:=bq hk
  by_cases aR:j<=3
  ·rw[gX.l1,wi (x:=j+1) U U];have ck:=(CL hb).2;have D5:fK g b=rd g.m.C b:=by unfold fK;rw[af ck]
   have qH: ∀(P:Prop),(P↔node g.m (cC g.m.W g.m.H b j)/\aX g.m.W g.m.H (cC g.m.W g.m.H b j)≠aX g.m.W g.m.H b)-> ∀e:ek,(Comes g.m b e/\(aX g.m.W g.m.H e.To=aX g.m.W g.m.H b∨ ∃d:Int,0<=d/\d<j+1/\e.To=cC g.m.W g.m.H b d))↔(e∈x∨(P/\e=⟨cC g.m.W g.m.H b j,fK g b⟩)):=λP hP e=>by
    rw[he e];constructor
    ·rintro⟨a,c |⟨d,d0,d1,c⟩⟩
     ·exact .inl ⟨a,.inl c⟩
     ·by_cases z:d=j
      ·subst z;rcases a with⟨y1,y2⟩ |⟨y1,y2,y3,y4⟩
       ·exact .inl ⟨.inl ⟨y1,y2⟩,.inl (uq y1).2.2.2⟩
       ·obtain⟨e1,e2⟩:=e;simp only at c y1 y2 y4;rw[c] at y1 y2;exact .inr ⟨hP.2 ⟨y1,y2⟩,by rw[c,y4,D5]⟩
      ·exact .inl ⟨a,.inr ⟨d,d0,by omega,c⟩⟩
    ·rintro(⟨a,c |⟨d,d0,d1,c⟩⟩ |⟨p,rfl⟩)
     ·exact⟨a,.inl c⟩
     ·exact⟨a,.inr ⟨d,d0,by omega,c⟩⟩
     ·obtain⟨y1,y2⟩:=hP.1 p;exact⟨.inr ⟨y1,y2,⟨j,hj,aR,J⟩,D5⟩,.inr ⟨j,hj,by omega,J⟩⟩
   have skip: ¬(node g.m (cC g.m.W g.m.H b j)/\aX g.m.W g.m.H (cC g.m.W g.m.H b j)≠aX g.m.W g.m.H b)->Ok (gX.l1 k M b g (aX g.m.W g.m.H b) (g.m.W,g.m.H) x (j+1)) (λr=>r.length<=260/\ ∀e,e∈r↔Comes g.m b e):=λz=>by
    refine ih k (j+1) x U U U U U λe=>?_
    rw[qH False ⟨False.elim,z⟩ e];simp
   refine Ok.pos aR (Ok.eq (HU ..) ((RM h hF _).bind λr hr=>?_));rcases hr with⟨r1,rfl⟩ |⟨r1,r2,r3,r4⟩
   ·exact skip λz=>r1 (nL h.ok (CL z.1).2)
   ·rw[r2]
    show Ok (if r.2.2=true then _ else _) _
    refine Ok.ite (λq=>Ok.ite (λq'=>Ok.eq (u9 h _) (Ok.ct U ?_)) λq'=>?_) λq=>?_
    ·have q':aX g.m.W g.m.H (cC g.m.W g.m.H b j)≠aX g.m.W g.m.H b:=by simpa using q'
     refine ih k (j+1) _ U U U U bp λe=>?_
     rw[qH True ⟨λ_=>⟨r3.1 q,q'⟩,λ_=>trivial⟩ e];simp
    ·exact skip λz=>z.2 (by simpa using q')
    ·exact skip λz=>q (r3.2 z.1)
  ·exact fin k j x aR hx iL he
theorem aeZ (h:dn g more) (hF:og g M) (b:Int):Ok (gX.f M b g) (λr=>r.length<=260/\((node g.m b/\ ∀e,e∈r↔Comes g.m b e)∨(¬node g.m b/\r=[]))):=by
 unfold gX.f;refine(RM h hF b).bind λr hr=>?_
 rcases hr with⟨r1,rfl⟩ |⟨r1,r2,r3,r4⟩
 ·exact Ok.of (r:=[]) J (⟨by simp,.inr ⟨λz=>r1 (nL h.ok (CL z).2),J⟩⟩)
 ·rw[r2]
  show Ok (if(!r.2.2)=true then some [] else _) (λr=>r.length<=260/\((node g.m b/\ ∀e,e∈r↔Comes g.m b e)∨(¬node g.m b/\r=[])))
  by_cases q:r.2.2=true
  rotate_left
  ·refine Ok.pos (by simpa using q) (Ok.pure ⟨by simp,.inr ⟨λz=>q (r3.2 z),J⟩⟩)
  refine Ok.neg (by simp[q]) ?_
  have q:r.2.2=true:=by simpa using q
  have hb:=r3.1 q;have hs:=tu r1;have hp:=hF.part hs;have hN:=vM g.m (aX g.m.W g.m.H b);refine Ok.ct (by rw[hp.nodes,wi U U];omega) ((ae0 h hF hb r (r4 q) (λr=>r.length<=260/\ ∀e,e∈r↔Comes g.m b e) (λx hx he=>ae1 h hF hb 4 fuel 0 x bh (by rw[cO];omega) U U U λe=>(he e).trans ⟨λq=>⟨q.1,.inl q.2⟩,λq=>⟨q.1,q.2.resolve_right λ⟨d,d0,d1,_⟩=>by omega⟩⟩) 256 fuel 0 _ U (by rw[cO];omega) U U bh (λe=>⟨λq=>by simp at q,λ⟨_,_,j,j0,j1,_⟩=>by omega⟩)).mono λr hr=>⟨hr.1,.inl ⟨hb,hr.2⟩⟩)
theorem FP (h:dn g more) {b:Int} (hb:node g.m b) {e:ek} (he:Comes g.m b e):node g.m e.To/\e.To≠b/\1<=e.kS/\e.kS<=KT:=by
 have MW:KT=65024:=rfl;have ck:=CL hb;have hs:=tu (nL h.ok ck.2);rcases he with⟨a1,a2,a3,D,a4,a5⟩ |⟨a1,a2,a3,a4⟩
 ·have Cg:=Kl h hs;have hm:=Cg.mem _ (List.mem_map_of_mem (f:=dB g.m.W g.m.H) a1);have hd:=a4.dv _ hm.1 hm.2.1 (by rw[<-a5];exact a3)
  refine⟨Kz a1,a2,?_,by omega⟩
  apply Classical.byContradiction;intro z;obtain⟨x,hx,e1,_⟩:=aiL Cg.Dk a4 hm.1 hm.2.1 U;simp only[List.mem_cons,List.not_mem_nil,or_false] at hx;subst hx;have hE:=uq a1;rcases Int.lt_or_gt_of_ne a2 with w |w
  ·have:=Oo (nL h.ok hE.2.1) (nL h.ok ck.2) hE.2.2.2 w;simp only at e1;omega
  ·have:=Oo (nL h.ok ck.2) (nL h.ok hE.2.1) hE.2.2.2.symm w;simp only at e1;omega
 ·have:=h.sw b ck.2.1 ck.2.2;exact⟨a1,λz=>a2 (by rw[z]),by omega,by omega⟩
def Ry (a b:dO):Bool:=decide (a.key<b.key)||(a.key==b.key&&decide (a.item<b.item))
theorem Rz (a b:dO):yO.f a b=some (Ry a b):=by
 unfold yO.f Ry
 by_cases h:a.key<b.key
 ·simp[h]
 ·by_cases g:a.key=b.key<;>simp[h,g]
theorem ajj: ∀(n k:Nat) (l:List dO) (i:Int),i.toNat<=n->n<k->i<l.length->l.length<=1099511627776->
 Ok (pq.l0 k l i) (λh=>h.l.length=l.length/\ ∀e,e∈h.l↔e∈l):=by
 intro n
 induction n with
 |zero=>
  intro k l i hn hk hi hb;obtain⟨k,rfl⟩: ∃q,k=q+1:=⟨k-1,by omega⟩
  rw[pq.l0,ah U];exact Ok.pure ⟨J,λ_=>Iff.rfl⟩
 |succ n ih=>
  intro k l i hn hk hi hb;obtain⟨k,rfl⟩: ∃q,k=q+1:=⟨k-1,by omega⟩
  rw[pq.l0];refine Ok.ite (λhp=>?_) (λ_=>Ok.pure ⟨J,λ_=>Iff.rfl⟩);have ew:aa (Int.tdiv (aa (i-1)) 2)=(i-1)/2:=by rw[wi (x:=i-1) U U,qZ U,wi U U]
  simp only[ew];refine Ok.ct U (Ok.ct U (Ok.eq (Rz _ _) (Ok.ite (λ_=>Ok.pure ⟨J,λ_=>Iff.rfl⟩) λ_=>Ok.ct bp ?_)));refine(ih k _ ((i-1)/2) U U bp (by simpa using hb)).mono λh hh=>⟨by simpa using hh.1,λe=>(hh.2 e).trans (PB U hi U U e)⟩
theorem KJ (h:eT) (k i:Int) (hb:h.l.length<1099511627776):
 Ok (nJ.f h k i) (λr=>r.l.length=h.l.length+1/\ ∀e,e∈r.l↔e∈h.l∨e=⟨k,i⟩):=by
 unfold nJ.f pq.f;refine Ok.ct U ((ajj h.l.length fuel _ _ ?_ (by rw[cO];omega) ?_ bp).bind λr hr=>Ok.pure ⟨by simpa using hr.1,λe=>by rw[hr.2 e];simp⟩)
 ·simp only[List.length_append,List.length_cons,List.length_nil];rw[wi U U];omega
 ·simp only[List.length_append,List.length_cons,List.length_nil];rw[wi U U];omega
theorem abg: ∀(n k:Nat) (l:List dO) (i m j:Int),(2*i+3-j).toNat<=n->n<k->0<=i->i<l.length->(m=i∨i<m)->m<l.length->i<j->l.length<=1099511627776->
 Ok (jj.l1 k l i m j) (λr=>r=Sum.inl ⟨l⟩∨ ∃l' m',r=Sum.inr (l',m')/\l'.length=l.length/\(∀e,e∈l'↔e∈l)/\i<m'/\m'<l.length):=by
 intro n
 induction n with
 |zero=>
  intro k l i m j hn hk i0 i1 hm m1 hj hb;obtain⟨k,rfl⟩: ∃q,k=q+1:=⟨k-1,by omega⟩
  rw[jj.l1,wi (x:=2*i) U U,wi (x:=2*i+2) U U,ah U];simp only[aK,Bool.false_eq_true,if_false];refine Ok.ite (λ_=>Ok.pure (.inl J)) λq=>Ok.ct U (Ok.ct U (Ok.ct bp (Ok.pure (.inr ⟨_,_,J,by simp,λe=>PB i0 i1 U m1 e,?_,m1⟩))))
  have:m≠i:=λz=>q (by simp[z])
  omega
 |succ n ih=>
  intro k l i m j hn hk i0 i1 hm m1 hj hb;obtain⟨k,rfl⟩: ∃q,k=q+1:=⟨k-1,by omega⟩
  rw[jj.l1,wi (x:=2*i) U U,wi (x:=2*i+2) U U];have hx:(if j<=2*i+2 then some (decide (j<(l.length:Int))) else some false)=some (decide (j<=2*i+2/\j<l.length)):=by
   by_cases a:j<=2*i+2<;>simp[a]
  rw[hx];simp only[aK];refine Ok.ite (λq=>?_) λq=>?_
  ·have q':=of_decide_eq_true q;refine Ok.ct U (Ok.ct U (Ok.eq (Rz _ _) (Ok.ite (λ_=>?_) λ_=>?_)))
   ·rw[wi U U];exact ih k l i j (j+1) U U i0 i1 (.inr hj) q'.2 U hb
   ·rw[wi U U];exact ih k l i m (j+1) U U i0 i1 hm m1 U hb
  ·refine Ok.ite (λ_=>Ok.pure (.inl J)) λq=>Ok.ct U (Ok.ct U (Ok.ct bp (Ok.pure (.inr ⟨_,_,J,by simp,λe=>PB i0 i1 U m1 e,?_,m1⟩))))
   have:m≠i:=λz=>q (by simp[z])
   omega
theorem abf: ∀(n k:Nat) (l:List dO) (i:Int),l.length-i.toNat<=n->n<k->0<=i->i<l.length->l.length<=1099511627776->
 Ok (jj.l0 k l i) (λh=>h.l.length=l.length/\ ∀e,e∈h.l↔e∈l):=by
 intro n
 induction n with
 |zero=>intro k l i hn hk i0 i1;omega
 |succ n ih=>
  intro k l i hn hk i0 i1 hb;obtain⟨k,rfl⟩: ∃q,k=q+1:=⟨k-1,by omega⟩
  rw[jj.l0,wi (x:=2*i) U U,wi (x:=2*i+1) U U];refine(abg (i.toNat+3) fuel l i i (2*i+1) U (by rw[cO];omega) i0 i1 (.inl J) i1 U hb).bind λr hr=>?_
  rcases hr with rfl |⟨l',m',rfl,e1,e2,e3,e4⟩
  ·exact Ok.pure ⟨J,λ_=>Iff.rfl⟩
  ·exact(ih k l' m' U U U U U).mono λh hh=>⟨by omega,λe=>(hh.2 e).trans (e2 e)⟩
def X_ (l:List dO) (r:Int×Int×Bool×eT):Prop:=
 (l=[]/\r=(0,0,false,⟨[]⟩))∨(l≠[]/\r.2.2.1=true/\⟨r.1,r.2.1⟩=rd l 0/\r.2.2.2.l.length+1=l.length/\(∀e∈r.2.2.2.l,e∈l)/\ ∀e∈l,e=rd l 0∨e∈r.2.2.2.l)
theorem KG (h:eT) (hb:h.l.length<=1099511627776):Ok (nI.f h) (X_ h.l):=by
 obtain⟨l⟩:=h;unfold nI.f D8.f D7.f jj.f
 by_cases hl:l=[]
 ·subst hl;exact Ok.pure (.inl ⟨rfl,rfl⟩)
 have hp:0<l.length:=List.length_pos_iff.2 hl;simp only at hb⊢;simp only[aK];rw[ah (by simpa using hl),af U,wi (x:=(l.length:Int)-1) U U]
 simp only[aK,if_true];refine Ok.ct U (Ok.ct U (Ok.ct bp ?_));have hs: ∀(L:List dO),L.length=l.length->aB L 0 ((l.length:Int)-1)=L.take (l.length-1):=by
  intro L hL;unfold aB;simp
 rw[hs _ bh];have jk: ∀e∈(List.set l 0 (rd l ((l.length:Int)-1))).take (l.length-1),e∈l:=by
  intro e he;rcases List.mem_or_eq_of_mem_set (List.mem_of_mem_take he) with h |h
  ·exact h
  ·rw[h];exact uw U U
 have NR: ∀e∈l,e=rd l 0∨e∈(List.set l 0 (rd l ((l.length:Int)-1))).take (l.length-1):=by
  intro e he;obtain⟨c,c0,c1,rfl⟩:=Ko.1 he
  by_cases z:c=0
  ·exact .inl (by rw[z])
  ·refine .inr (Ko.2 ?_);have ht: ∀d:Int,0<=d->d<(l.length:Int)-1->rd ((List.set l 0 (rd l ((l.length:Int)-1))).take (l.length-1)) d=if d=0 then rd l ((l.length:Int)-1) else rd l d:=by
    intro d d0 d1;have:=Ht (L:=l) (i:=0) (c:=d) (v:=rd l ((l.length:Int)-1)) U U d0;rw[<-this];simp only[Int.toNat_zero];rw[jq (xs:=List.take _ _) bp,List.getElem_take,jq (xs:=List.set _ _ _) bp]
   have hlen:((List.set l 0 (rd l ((l.length:Int)-1))).take (l.length-1)).length=l.length-1:=by simp
   by_cases y:c=(l.length:Int)-1
   ·exact⟨0,by omega,by omega,by rw[ht 0 U U,af J,y]⟩
   ·exact⟨c,c0,by omega,by rw[ht c c0 U,ah z]⟩
 by_cases h1:l.length=1
 ·have e0:(List.set l 0 (rd l ((l.length:Int)-1))).take (l.length-1)=[]:=by rw[h1];rfl
  simp only[Int.toNat_zero];rw[e0] at jk NR⊢;have hd:jj.l0 fuel [] 0=some ⟨[]⟩:=by
   obtain⟨k,hk⟩: ∃q,fuel=q+1+1:=⟨fuel-2,by rw[cO]⟩
   rw[hk,jj.l0,hk,jj.l1];rfl
  rw[hd];exact Ok.pure (.inr ⟨hl,J,J,by simp[h1],jk,NR⟩)
 ·refine(abf l.length fuel _ 0 bh (by rw[cO];omega) U bp bp).bind λr hr=>Ok.pure (.inr ⟨hl,J,J,?_,λe he=>jk e ((hr.2 e).1 he),λe he=>(NR e he).imp id λx=>(hr.2 e).2 x⟩)
  have:=hr.1;simp at this;simp only;omega
variable {g : bA} {more : Int}
def A1 (g:bA) (c:Int):Prop:=cF g.m c/\fK g c≠255
theorem MK (h:dn g more) {c:Int} (hc:cF g.m c):1<=fK g c/\fK g c<=255:=by
 unfold fK;rw[af hc];exact h.sw c hc.1 hc.2
theorem ajs (h:dn g more) (goal cell key:Int) (m:List (Int×Int)) (hc:A1 g cell) (k0:0<=key) (k1:key<=1000000000): ∀(n k:Nat) (l:List dO) (s:Int),(4-s).toNat<=n->n<k->0<=s->l.length<=10000000-4+s->
 Ok (jr.l1 k goal g (g.m.W,g.m.H) m cell key l s) (λr=>r.1=cE m cell key/\r.2.length<=l.length+(4-s).toNat/\ ∀e∈r.2,e∈l∨(A1 g e.item/\0<=e.key/\e.key<=key+254)):=by
 have gK:=MK h hc.1;intro n
 induction n with
 |zero=>
  intro k l s hn hk s0 hl;obtain⟨k,rfl⟩:=bq hk;rw[jr.l1,ah U];exact Ok.pure ⟨J,by simp,λe he=> .inl he⟩
 |succ n ih=>
  intro k l s hn hk s0 hl;obtain⟨k,rfl⟩:=bq hk;rw[jr.l1];refine Ok.ite (λhs=>?_) λhs=>Ok.pure ⟨J,by simp only;omega,λe he=> .inl he⟩
  refine Ok.eq (HU ..) ?_;have hsk:Ok (if cC g.m.W g.m.H cell s<0 then some true else(gN.f g.m.W g.m.H (cC g.m.W g.m.H cell s)).bind λv28=>(gN.f g.m.W g.m.H goal).bind λq_=>if(v28 !=q_)=true then some true else(jh.f g (cC g.m.W g.m.H cell s)).bind λv30=>some (v30==255)) (λb=>b=false->A1 g (cC g.m.W g.m.H cell s)):=by
   refine Ok.ite (λ_=>Ok.pure bh) λq=>Ok.eq (tr ..) (Ok.eq (tr ..) (Ok.ite (λ_=>Ok.pure bh) λ_=>Ok.eq (u9 h _) (Ok.pure λz=>⟨aiY q,by simpa using z⟩)))
  refine hsk.bind λb hb=>Ok.ite (λ_=>?_) λq=>?_
  ·rw[wi U U];exact(ih k l (s+1) U U U U).mono λr hr=>⟨hr.1,by have:=hr.2.1;omega,hr.2.2⟩
  ·have ho:=hb (by simpa using q)
   refine Ok.eq (u9 h _) ((KJ _ _ _ (by simp only;omega)).bind λr hr=>?_)
   simp only at hr;rw[wi (x:=s+1) U U];refine(ih k r.l (s+1) U U U U).mono λr' vA=>⟨vA.1,by have:=vA.2.1;omega,λe he=>?_⟩
   rcases vA.2.2 e he with z |z
   ·rcases(hr.2 e).1 z with y |rfl
    ·exact .inl y
    ·refine .inr ⟨ho,?_⟩;have:fK g cell≠255:=hc.2;rw[wi U U];simp only;omega
   ·exact .inr z
def uD (g:bA) (m:List (Int×Int)):Nat:=eI (λc=>!bO m c) (g.m.W*g.m.H).toNat
theorem Ox (m:List (Int×Int)) (x y v:Int):bO (cE m x v) y=if x=y then true else bO m y:=by
 unfold bO;rw[AX];split<;>rfl
theorem aji {m:List (Int×Int)} {c v:Int} (hc:cF g.m c) (hn:bO m c=false):uD g m=uD g (cE m c v)+1:=by
 unfold uD;refine Mh (c:=c) hc.1 (by have:=hc.1;have:=hc.2;omega) (by simp[hn]) (by simp[Ox]) (λi _ _ hi=>?_)
 rw[Ox,ah (λz=>hi z.symm)]
theorem ajr (h:dn g more) (hN:g.m.W*g.m.H<=1600) (goal:Int): ∀(n k:Nat) (m:List (Int×Int)) (l:List dO) (key cell:Int) (ok:Bool),
 5*uD g m+l.length+(if ok then 1 else 0)<=n->n<k->l.length+5*uD g m<=9000->
 (∀c,bO m c=true->0<=aQ m c/\aQ m c<=500000)->
 (∀e∈l,A1 g e.item/\0<=e.key/\e.key+254*(uD g m:Int)<=254*1600)->(ok=true->A1 g cell/\0<=key/\key+254*(uD g m:Int)<=254*1600)->(ok=false->l=[])->
 Ok (jr.l0 k goal g (g.m.W,g.m.H) m l key cell ok) (λr=> ∀c,bO r c=true->0<=aQ r c/\aQ r c<=500000):=by
 intro n
 induction n with
 |zero=>
  intro k m l key cell ok hn hk hb hm hl hp hf;obtain⟨k,rfl⟩:=bq hk;have:ok=false:=by cases ok<;>simp_all
  subst this;rw[jr.l0];exact Ok.pure hm
 |succ n ih=>
  intro k m l key cell ok hn hk hb hm hl hp hf;obtain⟨k,rfl⟩:=bq hk;rw[jr.l0];refine Ok.ite (λq=>?_) λ_=>Ok.pure hm
  obtain⟨p1,p2,p3⟩:=hp q;subst q;simp only[if_true] at hn;have aew:Ok (if bO m cell=true then some (m,l) else jr.l1 fuel goal g (g.m.W,g.m.H) m cell key l 0) (λr=>5*uD g r.1+r.2.length<=n/\r.2.length+5*uD g r.1<=9000/\(∀c,bO r.1 c=true->0<=aQ r.1 c/\aQ r.1 c<=500000)/\ ∀e∈r.2,A1 g e.item/\0<=e.key/\e.key+254*(uD g r.1:Int)<=254*1600):=by
   refine Ok.ite (λ_=>Ok.pure ⟨by simp only;omega,hb,hm,hl⟩) λz=>?_
   have z:bO m cell=false:=by simpa using z
   have hu:=aji (v:=key) p1.1 z;refine(ajs h goal cell key m p1 p2 U 4 fuel l 0 bh (by rw[cO];omega) U U).mono λr hr=>?_
   obtain⟨e1,e2,e3⟩:=hr;rw[e1];have:(4-(0:Int)).toNat=4:=rfl;refine⟨by omega,by omega,λc hc=>?_,λe he=>?_⟩
   ·rw[um];rw[Ox] at hc;split
    ·omega
    ·rename_i q;rw[ah q] at hc;exact hm c hc
   ·rcases e3 e he with y |y
    ·have:=hl e y;exact⟨this.1,this.2.1,by omega⟩
    ·exact⟨y.1,y.2.1,by omega⟩
  refine aew.bind λr hr=>?_
  obtain⟨h1,h2,h3,h4⟩:=hr;refine(KG ⟨r.2⟩ (by simp only;omega)).bind λv hv=>?_
  rcases hv with⟨e1,e2⟩ |⟨e1,e2,e3,e4,e5,e6⟩
  ·subst e2;simp only at e1;exact ih k r.1 [] 0 0 false bp U bp h3 bh bh bh
  ·simp only at e1 e3 e4 e5;have Gv:=h4 (rd r.2 0) (dZ U (by have:=List.length_pos_iff.2 e1;omega))
   rw[<-e3] at Gv;refine ih k r.1 v.2.2.2.l v.1 v.2.1 v.2.2.1 (by rw[e2];simp;omega) U U h3 (λe he=>h4 e (e5 e he)) (λ_=>Gv) (by rw[e2];simp)
theorem ah1 (h:dn g more) (hN:g.m.W*g.m.H<=1600) (f:kc) (M:dJ) {goal:Int} (hg:cF g.m goal):Ok (jr.f f goal M g) (λr=> ∀c,bO r c=true->0<=aQ r c/\aQ r c<=500000):=by
 unfold jr.f;refine Ok.eq (Db g) (Ok.eq (u9 h _) (Ok.ite (λ_=>Ok.pure (by simp[bO,cI])) λq=>?_))
 have hu:uD g []<=1600:=by unfold uD;have:=FO (λc=>!bO ([]:List (Int×Int)) c) (g.m.W*g.m.H).toNat;omega
 refine(KJ ⟨[]⟩ 0 goal bh).bind λr hr=>(KG r (by simp at hr;omega)).bind λv hv=>?_
 have ho:A1 g goal:=⟨hg,by simpa using q⟩
 have tY: ∀e∈r.l,e=⟨0,goal⟩:=λe he=>by simpa using(hr.2 e).1 he
 have hlen:r.l.length=1:=by simpa using hr.1
 rcases hv with⟨e1,e2⟩ |⟨e1,e2,e3,e4,e5,e6⟩
 ·rw[e1] at hlen;simp at hlen
 ·have h0:=tY _ (dZ (a:=r.l) (i:=0) U U);rw[h0] at e3;simp only[dO.mk.injEq] at e3;have AH:v.2.2.2.l=[]:=List.length_eq_zero_iff.1 U;rw[AH,e3.1,e3.2,e2];exact ajr h hN goal 9000 fuel [] [] 0 goal true bp (by rw[cO];omega) bp (by simp[bO,cI]) bh (λ_=>⟨ho,by omega,by omega⟩) bh
end Go.Proofs.YthodkonhneebbaaGreatDoor
