/- What the functions do, in plain Lean, on the objects that are kept in order. -/
import Derived.Test.YthodkonhneebbaaGreatDoorK14
import Derived.Test.YthodkonhneebbaaGreatDoorK10
import Derived.Test.YthodkonhneebbaaGreatDoorK11
import Derived.Test.YthodkonhneebbaaGreatDoorK8
namespace Go.Proofs.YthodkonhneebbaaGreatDoor
open Go.Hx
set_option linter.unusedVariables false
set_option linter.unusedSimpArgs false
theorem iB.mono {r:eB} {n n':Nat} (h:iB r n) (hn:n<=n') (hb:n'<=1000000000):iB r n':=⟨h.len_,h.at_,λb hb=>by have:=h.gone b hb;omega,h.A8,hb⟩
structure Ic (r:eB) (todo:List aZ) (n:Nat) (r':eB) (KQ:List aZ):Prop where
 ring: ∃n',iB r' n'/\n'+KQ.length<=n+todo.length
 ua: ∀k i,Has r k i->Has r' k i
 new: ∀k i,Has r' k i->Has r k i∨ ∃x∈todo,x.Key=k/\x.Cell=i
 WE: ∃a,todo=a++KQ/\ ∀x∈a,Has r' x.Key x.Cell
 len_:r'.len+2*KQ.length<=r.len+2*todo.length
 at_:r'.a_=r.a_
 end_: ∀x l,KQ=x::l->x.Key<r'.a_∨r'.a_+256<=x.Key
theorem aa' (s:df): ∀(m k:Nat) (r:eB) (todo:List aZ) (n:Nat),todo.length<=m->m<k->iB r n->n+todo.length<=2000000->(∀x∈todo,0<=x.Key/\x.Key<=1073741824)->
 Ok (jR.l0 k s r todo) (λq=>q.t=s.t/\q.aQ=s.aQ/\Ic r todo n q.wait q.todo):=by
 have nil: ∀(k:Nat) (r:eB) (n:Nat),iB r n->Ok (jR.l0 (k+1) s r []) (λq=>q.t=s.t/\q.aQ=s.aQ/\Ic r [] n q.wait q.todo):=by
  intro k r n h;rw[jR.l0,ah bk];exact Ok.pure ⟨J,J,⟨⟨n,h,by simp⟩,λ_ _ q=>q,λ_ _ q=> .inl q,⟨[],J,by simp⟩,Int.le_refl _,J,by simp⟩⟩
 intro m
 induction m with
 |zero=>
  intro k r todo n hm hk h hn hx;obtain⟨k,rfl⟩:=bh hk;have:todo=[]:=List.length_eq_zero_iff.1 U;subst this;exact nil k r n h
 |succ m ih=>
  intro k r todo n hm hk h hn hx;obtain⟨k,rfl⟩:=bh hk
  cases todo with
  |nil=>exact nil k r n h
  |cons x l=>
   simp only[List.length_cons] at hm hn;have tY:=hx x (List.mem_cons_self ..);have e0:rd (x::l) 0=x:=rfl;have e1:aA (x::l) 1 ((x::l).length:Int)=l:=by unfold aA;simp
   rw[jR.l0,af bk,af bk,e0,e1];refine(V8 h U U tY.1 x.Cell).bind' λv hv=>?_
   obtain⟨h1,h2,h3⟩:=hv;simp only;rcases h3 with⟨a,b,c,d,e⟩ |⟨a,b,c⟩
   ·rw[a];refine Ok.pos J (Ok.cx bl ((ih k v.2 l (n+1) U U h2 U (λy hy=>hx y (List.mem_cons_of_mem _ hy))).mono λq hq=>?_));obtain⟨q1,q2,q3⟩:=hq;obtain⟨n',f1,f2⟩:=q3.ring;obtain⟨A,g1,g2⟩:=q3.WE;refine⟨q1,q2,⟨⟨n',f1,by simp only[List.length_cons];omega⟩,λk i hh=>q3.ua k i ((e k i).2 (.inl hh)),λk i hh=>?_,⟨x::A,by rw[g1];rfl,λy hy=>?_⟩,?_,by rw[q3.at_,h1],q3.end_⟩⟩
    ·rcases q3.new k i hh with z |⟨y,hy,z⟩
     ·rcases(e k i).1 z with z |⟨rfl,rfl⟩
      ·exact .inl z
      ·exact .inr ⟨x,List.mem_cons_self ..,J,J⟩
     ·exact .inr ⟨y,List.mem_cons_of_mem _ hy,z⟩
    ·rcases List.mem_cons.1 hy with rfl |hy
     ·exact q3.ua _ _ ((e _ _).2 (.inr ⟨J,J⟩))
     ·exact g2 y hy
    ·have:=q3.len_;simp only[List.length_cons];omega
   ·rw[a];refine Ok.neg bk (Ok.pure ⟨J,J,?_⟩);simp only;rw[c];exact⟨⟨n,h,by simp⟩,λ_ _ q=>q,λ_ _ q=> .inl q,⟨[],J,by simp⟩,Int.le_refl _,J,λy l' hy=>by simp only[List.cons.injEq] at hy;rw[<-hy.1];exact b⟩
theorem aa_ (s:df) {n:Nat} (h:iB s.wait n) (hn:n+s.todo.length<=2000000) (hx: ∀x∈s.todo,0<=x.Key/\x.Key<=1073741824):
 Ok (jR.f s) (λq=>q.t=s.t/\q.aQ=s.aQ/\ ∃r,((r=s.wait/\(s.wait.len≠0∨s.todo=[]))∨(s.wait.len=0/\r.len=0/\ ∃x l,s.todo=x::l/\r.a_=if x.Key<s.wait.a_ then s.wait.a_ else x.Key))/\(∀k i,Has r k i↔Has s.wait k i)/\Ic r s.todo n q.wait q.todo):=by
 unfold jR.f;have key: ∀r,iB r n->Ok (jR.l0 fuel s r s.todo) (λq=>q.t=s.t/\q.aQ=s.aQ/\Ic r s.todo n q.wait q.todo):=λr hr=>aa' s s.todo.length fuel r s.todo n (Nat.le_refl _) (by rw[cH];omega) hr hn hx
 by_cases hl:s.todo=[]
 ·rw[ah (by simp[hl])]
  exact Ok.eq J ((key s.wait h).mono λq hq=>⟨hq.1,hq.2.1,s.wait,.inl ⟨J,.inr hl⟩,λ_ _=>Iff.rfl,hq.2.2⟩)
 ·obtain⟨x,l,e⟩:=List.exists_cons_of_ne_nil hl;have tY:=hx x (by rw[e];exact List.mem_cons_self ..)
  rw[af (by rw[e];simp)]
  unfold vJ.f
  by_cases z:s.wait.len=0
  ·have e0:rd s.todo 0=x:=by rw[e];rfl
   rw[show((some s.wait.len).bind λv5=>some (v5==0))=some true by simp[z]]
   simp only[aK,if_true,e0];rw[af (by rw[e];simp)]
   refine((aeK h tY.1 U z).bind λv hv=>Ok.pure (P:=λr=>iB r n/\r.len=0/\r.a_=if x.Key<s.wait.a_ then s.wait.a_ else x.Key) hv).bind λr hr=>(key r hr.1).mono λq hq=>⟨hq.1,hq.2.1,r,.inr ⟨z,hr.2.1,x,l,e,hr.2.2⟩,λk i=>⟨λy=>absurd y (hr.1.none hr.2.1 k i),λy=>absurd y (h.none z k i)⟩,hq.2.2⟩
  ·simp only[aK];rw[ah (by simpa using z)]
   exact Ok.eq J ((key s.wait h).mono λq hq=>⟨hq.1,hq.2.1,s.wait,.inl ⟨J,.inl z⟩,λ_ _=>Iff.rfl,hq.2.2⟩)
def eN (t:aJ) (c s:Int):Int:=
 if s=0 then(if c/t.W>0 then c-t.W else-1) else if s=1 then(if c%t.W<t.W-1 then c+1 else-1) else if s=2 then(if c/t.W<t.H-1 then c+t.W else-1) else if c%t.W>0 then c-1 else-1
theorem KP {t:aJ} (h:r8 t) {c s:Int} (c0:0<=c) (c1:c<t.C.length):eN t c s= -1∨(0<=eN t c s/\eN t c s<t.C.length):=by
 obtain⟨a,b,d,e,f,_⟩:=h;rw[f] at c1⊢;have FY:=Int.mul_ediv_add_emod c t.W;have hm:=Int.emod_nonneg c (show t.W≠0 by omega)
 have wU:=Int.emod_lt_of_pos c (show 0<t.W by omega)
 have hq:0<=c/t.W:=Int.ediv_nonneg c0 U;have hq':c/t.W<t.H:=Int.ediv_lt_of_lt_mul U (by rw[Int.mul_comm];exact c1)
 unfold eN;split
 ·split
  ·have:t.W*1<=t.W*(c/t.W):=Int.mul_le_mul_of_nonneg_left U U;exact .inr U
  ·exact .inl J
 ·split
  ·split
   ·have:t.W*(c/t.W)<=t.W*(t.H-1):=Int.mul_le_mul_of_nonneg_left U U;rw[Int.mul_sub,Int.mul_one] at this;exact .inr U
   ·exact .inl J
  ·split
   ·split
    ·have:t.W*(c/t.W)<=t.W*(t.H-1-1):=Int.mul_le_mul_of_nonneg_left U U;rw[Int.mul_sub,Int.mul_sub,Int.mul_one] at this;exact .inr U
    ·exact .inl J
   ·split
    ·have:0<=t.W*(c/t.W):=Int.mul_nonneg U hq;exact .inr U
    ·exact .inl J
abbrev cL:Int:=1099511627776
structure Ar (s:df) (n:Nat) (key c:Int) (j:Nat) (q:df):Prop where
 t_:q.t=s.t
 td:q.todo=s.todo
 ds:q.aQ=s.aQ
 ring:iB q.wait (n+j)
 at_:q.wait.a_=s.wait.a_
 len_:q.wait.len<=s.wait.len+j
 ua: ∀k i,Has s.wait k i->Has q.wait k i
 new: ∀k i,Has q.wait k i->Has s.wait k i∨(k=key/\ ∃d:Int,0<=d/\d<j/\i=eN s.t c d/\0<=i/\i<s.t.C.length/\rd s.t.C i≠255/\rd s.aQ i=cL)
 all:s.wait.a_<=key->key<s.wait.a_+256-> ∀d:Int,0<=d->d<j->0<=eN s.t c d->rd s.t.C (eN s.t c d)≠255->rd s.aQ (eN s.t c d)=cL->Has q.wait key (eN s.t c d)
section
variable {s q : df} {n : Nat} {key c : Int} {j : Nat}
theorem ID (h:Ar s n key c j q) (hn:n+j+1<=1000000000) (hj:eN s.t c j= -1):Ar s n key c (j+1) q:=by
 refine⟨h.t_,h.td,h.ds,h.ring.mono U U,h.at_,by have:=h.len_;omega,h.ua,λk i hh=>?_,λa b d d0 d1 d2 d3 d4=>?_⟩
 ·rcases h.new k i hh with z |⟨z,d,a,b,r⟩
  ·exact .inl z
  ·exact .inr ⟨z,d,a,by omega,r⟩
 ·by_cases z:d=j
  ·subst z;omega
  ·exact h.all a b d d0 U d2 d3 d4
theorem IC (ht:l8 s.t) (hd:s.aQ.length=s.t.C.length) (h:Ar s n key c j q) (hn:n+j+1<=1000000000) (k0:0<=key) (k1:key<=8796093022208) (c0:0<=c) (c1:c<s.t.C.length) {p:Int} (hj:eN s.t c j=p) (hp:p≠ -1):
 Ok (kC.f q p key) (Ar s n key c (j+1)):=by
 have cu:=KP ht.1 (s:=j) c0 c1;rw[hj] at cu;have cu:0<=p/\p<s.t.C.length:=cu.resolve_left hp;unfold kC.f;rw[h.t_,h.ds,h.td];have e:(if(0<=p/\p<(List.length s.t.C:Int)) then(if((rd s.t.C p)!=255)=true then(if(0<=p/\p<(List.length s.aQ:Int)) then(some ((rd s.aQ p)==1099511627776)) else none) else(some false)) else none)=some (decide (rd s.t.C p≠255/\rd s.aQ p=cL)):=by
  rw[af cu,af (c:=0<=p/\p<(List.length s.aQ:Int)) U]
  by_cases z:rd s.t.C p=255
  ·simp[z]
  ·rw[af (by simpa using z)];congr 1;rw[Bool.eq_iff_iff];simp[z]
 refine Ok.eq e (Ok.ite (λz=>?_) λz=>Ok.pure ?_)
 ·have z:=of_decide_eq_true z;refine(V8 h.ring U k1 k0 p).bind λv hv=>Ok.pure ?_
  obtain⟨a1,a2,a3⟩:=hv;rcases a3 with⟨b1,b2,b3,b4,b5⟩ |⟨b1,b2,b3⟩
  ·refine⟨J,J,J,a2,by rw[a1,h.at_],by have:=h.len_;simp only;omega,λk i hh=>(b5 k i).2 (.inl (h.ua k i hh)),λk i hh=>?_,λa b d d0 d1 d2 d3 d4=>?_⟩
   ·rcases(b5 k i).1 hh with y |⟨rfl,rfl⟩
    ·rcases h.new k i y with y |⟨y,d,a,b,r⟩
     ·exact .inl y
     ·exact .inr ⟨y,d,a,by omega,r⟩
    ·exact .inr ⟨J,j,by omega,by omega,hj.symm,cu.1,cu.2,z⟩
   ·by_cases y:d=j
    ·subst y;rw[hj];exact(b5 _ _).2 (.inr ⟨rfl,rfl⟩)
    ·exact(b5 _ _).2 (.inl (h.all a b d d0 U d2 d3 d4))
  ·refine⟨J,J,J,a2,by rw[a1,h.at_],by have:=h.len_;simp only;rw[b3];omega,λk i hh=>by simp only;rw[b3];exact h.ua k i hh,λk i hh=>?_,λa b=>?_⟩
   ·simp only at hh;rw[b3] at hh;rcases h.new k i hh with y |⟨y,d,a,b,r⟩
    ·exact .inl y
    ·exact .inr ⟨y,d,a,by omega,r⟩
   ·have:=h.at_;omega
 ·have z: ¬(rd s.t.C p≠255/\rd s.aQ p=cL):=by simpa using z
  refine⟨h.t_,h.td,h.ds,h.ring.mono U U,h.at_,by have:=h.len_;omega,h.ua,λk i hh=>?_,λa b d d0 d1 d2 d3 d4=>?_⟩
  ·rcases h.new k i hh with y |⟨y,d,a,b,r⟩
   ·exact .inl y
   ·exact .inr ⟨y,d,a,by omega,r⟩
  ·by_cases y:d=j
   ·subst y;rw[hj] at d3 d4;exact absurd ⟨d3,d4⟩ z
   ·exact h.all a b d d0 U d2 d3 d4
end
theorem IB {q s:df} (e:q.t=s.t):df.mk (aJ.mk q.t.W q.t.H s.t.C) q.wait q.todo q.aQ=q:=by
 obtain⟨t,a,b,d⟩:=q;simp only at e;subst e;rfl
theorem X9 (s:df) (ht:l8 s.t) (hd:s.aQ.length=s.t.C.length) {n:Nat} (h:iB s.wait n) (hn:n+4<=1000000000) {c:Int} (c0:0<=c) (c1:c<s.t.C.length) (d0:0<=rd s.aQ c) (d1:rd s.aQ c<=2000000000):
 Ok (xN.f s c) (Ar s n (rd s.aQ c+rd s.t.C c) c 4):=by
 have hC:=ht.2 c c0 c1;have hl:=ox ht.1;obtain⟨a1,a2,a3,a4,a5,_⟩:=ht.1;have hq:0<=c/s.t.W/\c/s.t.W<=c:=⟨Int.ediv_nonneg c0 U,Int.ediv_le_self _ c0⟩;unfold xN.f;rw[wi (x:=rd s.t.C c) U U,wi (x:=rd s.aQ c+rd s.t.C c) U U,qQ c0,mM c0,wi (x:=c/s.t.W) U U,wi (x:=c-s.t.W) U U,wi (x:=c+1) U U,wi (x:=c-1) U U];generalize hk:rd s.aQ c+rd s.t.C c=key;have k0:0<=key:=U;have k1:key<=8796093022208:=U;have A0:Ar s n key c 0 s:=⟨J,J,J,h,J,by omega,λ_ _ z=>z,λ_ _ z=> .inl z,λ_ _ d d0 d1=>by omega⟩
 refine Ok.cx U (Ok.cx U (Ok.cx U (Ok.cx U ?_)));have n0:eN s.t c (0:Nat)=if c/s.t.W>0 then c-s.t.W else-1:=rfl
 have n1:eN s.t c (1:Nat)=if c%s.t.W<s.t.W-1 then c+1 else-1:=rfl
 have n2:eN s.t c (2:Nat)=if c/s.t.W<s.t.H-1 then c+s.t.W else-1:=rfl
 have n3:eN s.t c (3:Nat)=if c%s.t.W>0 then c-1 else-1:=rfl
 have FY:=Int.mul_ediv_add_emod c s.t.W;have s0:Ok (if c/s.t.W>0 then(kC.f s (c-s.t.W) key).bind λv7=>some (v7.t.W,v7.t.H,v7.wait,v7.todo,v7.aQ) else some (s.t.W,s.t.H,s.wait,s.todo,s.aQ)) (λp=>Ar s n key c 1 ⟨⟨p.1,p.2.1,s.t.C⟩,p.2.2.1,p.2.2.2.1,p.2.2.2.2⟩):=by
  refine Ok.ite (λz=>?_) λz=>Ok.pure (ID (j:=0) A0 U (by rw[n0,ah z]))
  have cu:=KP ht.1 (s:=(0:Nat)) c0 c1;rw[n0,af z] at cu;refine(IC (j:=0) ht hd A0 U k0 k1 c0 c1 (by rw[n0,af z]) (λy=>?_)).bind λv hv=>Ok.pure ?_
  ·have:s.t.W*1<=s.t.W*(c/s.t.W):=Int.mul_le_mul_of_nonneg_left U U;have:=Int.emod_nonneg c (show s.t.W≠0 by omega)
   omega
  ·simp only;rw[IB hv.t_];exact hv
 refine s0.bind λp hp=>?_
 obtain⟨x1,x2,x3,x4,x5⟩:=p;simp only at hp⊢;have et:=hp.t_;simp only at et;have e1:x1=s.t.W:=by rw[<-et]
 have e2:x2=s.t.H:=by rw[<-et]
 subst e1;subst e2;rw[wi (x:=s.t.W-1) U U];have s1:Ok (if c%s.t.W<s.t.W-1 then(kC.f (df.mk (aJ.mk s.t.W s.t.H s.t.C) x3 x4 x5) (c+1) key).bind λbZ=>some (bZ.t.W,bZ.t.H,bZ.wait,bZ.todo,bZ.aQ) else some (s.t.W,s.t.H,x3,x4,x5)) (λp=>Ar s n key c 2 ⟨⟨p.1,p.2.1,s.t.C⟩,p.2.2.1,p.2.2.2.1,p.2.2.2.2⟩):=by
  refine Ok.ite (λz=>?_) λz=>Ok.pure (ID (j:=1) hp U (by rw[n1,ah z]))
  refine(IC (j:=1) ht hd hp U k0 k1 c0 c1 (by rw[n1,af z]) U).bind λv hv=>Ok.pure ?_
  simp only;rw[IB hv.t_];exact hv
 refine s1.bind λp hp=>?_
 obtain⟨x1,x2,x3,x4,x5⟩:=p;simp only at hp⊢;have et:=hp.t_;simp only at et;have e1:x1=s.t.W:=by rw[<-et]
 have e2:x2=s.t.H:=by rw[<-et]
 subst e1;subst e2;rw[wi (x:=s.t.H-1) U U];have s3: ∀v:df,Ar s n key c 3 v->Ok (if c%s.t.W>0 then(kC.f v (c-1) key).bind λdU=>some (df.mk (aJ.mk dU.t.W dU.t.H s.t.C) dU.wait dU.todo dU.aQ) else some v) (Ar s n key c 4):=λv hv=>by
  refine Ok.ite (λz=>?_) λz=>Ok.pure (ID (j:=3) hv U (by rw[n3,ah z]))
  refine(IC (j:=3) ht hd hv U k0 k1 c0 c1 (by rw[n3,af z]) (λy=>?_)).bind λv hv=>Ok.pure ?_
  ·have:c=0:=U;subst this;simp at z
  ·rw[IB hv.t_];exact hv
 refine Ok.ite (λz=>?_) λz=>?_
 ·rw[wi (x:=c+s.t.W) U U];refine(IC (j:=2) ht hd hp U k0 k1 c0 c1 (by rw[n2,af z]) U).bind λv hv=>?_
  rw[IB hv.t_];exact s3 v hv
 ·exact s3 _ (ID (j:=2) hp U (by rw[n2,ah z]))
def ET (t:aJ) (l:List aZ) (D:List Int) (i k:Int):Prop:=
 (∃x∈l,x.Cell=i/\x.Key=k)∨ ∃c d:Int,0<=c/\c<t.C.length/\0<=d/\d<=3/\rd D c≠cL/\eN t c d=i/\rd D c+rd t.C c=k
def uw (t:aJ) (D:List Int):Nat:=eH (λc=>rd D c==cL) t.C.length
structure Bl (t:aJ) (l:List aZ) (K:Int) (r:eB) (todo:List aZ) (D:List Int) (n:Nat):Prop where
 ring:iB r n
 room:n+todo.length+4*uw t D<=2000000
 dl:D.length=t.C.length
 dv: ∀c:Int,0<=c->c<t.C.length->rd D c≠cL->0<=rd D c/\rd D c<=r.a_/\rd D c+254*(uw t D:Int)<=K/\rd t.C c≠255/\ET t l D c (rd D c)
 hs: ∀k i,Has r k i->0<=i/\i<t.C.length/\rd t.C i≠255/\k+254*(uw t D:Int)<=K/\ET t l D i k
 nb: ∀c d:Int,0<=c->c<t.C.length->rd D c≠cL->0<=d->d<=3->0<=eN t c d->rd t.C (eN t c d)≠255->(rd D (eN t c d)≠cL/\rd D (eN t c d)<=rd D c+rd t.C c)∨Has r (rd D c+rd t.C c) (eN t c d)
 sd: ∀x∈l,x∈todo∨Has r x.Key x.Cell∨(rd D x.Cell≠cL/\rd D x.Cell<=x.Key)
 td: ∀x∈todo,x∈l/\r.a_<=x.Key
 so:todo.Pairwise (λa b=>a.Key<=b.Key)
def Full (r:eB) (todo:List aZ):Prop:=todo=[]∨(r.len≠0/\ ∀x∈todo,r.a_+256<=x.Key)
section
variable {t : aJ} {l : List aZ} {K : Int}
theorem OL (hl: ∀x∈l,qk t x/\x.Key+254*256<=K) (ht:l8 t) (s:df) (hs:s.t=t) {n:Nat} (h:Bl t l K s.wait s.todo s.aQ n):
 Ok (jR.f s) (λq=>q.t=t/\q.aQ=s.aQ/\q.wait.len+2*q.todo.length<=s.wait.len+2*s.todo.length/\Full q.wait q.todo/\ ∃n',Bl t l K q.wait q.todo s.aQ n'):=by
 have hk: ∀x∈s.todo,0<=x.Key/\x.Key<=1073741824:=λx hx=>by have:=(hl x (h.td x hx).1).1;exact⟨this.2.2.2.1,this.2.2.2.2.1⟩
 have hu:uw t s.aQ<=256:=by unfold uw;have:=Ft (λc=>rd s.aQ c==cL) t.C.length;have:=ox ht.1;omega
 refine(aa_ s h.ring (by have:=h.room;omega) hk).mono λq hq=>?_
 obtain⟨q1,q2,r,q3,q4,q5⟩:=hq;obtain⟨n',f1,f2⟩:=q5.ring;obtain⟨A,g1,g2⟩:=q5.WE;have sF:s.wait.a_<=r.a_/\(∀x∈s.todo,r.a_<=x.Key)/\r.len=s.wait.len:=by
  rcases q3 with⟨rfl,_⟩ |⟨z0,z,x,m,e,e2⟩
  ·exact⟨Int.le_refl _,λx hx=>(h.td x hx).2,J⟩
  ·have hx:=(h.td x (by rw[e];exact List.mem_cons_self ..)).2
   rw[ah U] at e2;refine⟨by omega,λy hy=>?_,by omega⟩
   have so:=h.so;rw[e] at hy so;rcases List.mem_cons.1 hy with rfl |hy
   ·omega
   ·have:=(List.pairwise_cons.1 so).1 y hy;omega
 have ad7:Full q.wait q.todo:=by
  cases JL:q.todo with
  |nil=>exact .inl J
  |cons y m=>
   have hy:=q5.end_ y m JL;have NQ:y∈s.todo:=by rw[g1,JL];simp
   have:=sF.2.1 y NQ;have ha:=q5.at_;refine .inr ⟨λz0=>?_,λx hx=>?_⟩
   ·have gz:=f1.none z0;rcases q3 with⟨rfl,z |z⟩ |⟨_,z,x,m',e,e2⟩
    ·obtain⟨k,i,hh⟩:=h.ring.some z;exact gz k i (q5.ua k i hh)
    ·rw[z] at NQ;simp at NQ
    ·rw[ah (by have:=(h.td x (by rw[e];exact List.mem_cons_self ..)).2;omega)] at e2
     cases A with
     |nil=>
      rw[List.nil_append,JL] at g1;rw[e] at g1;simp only[List.cons.injEq] at g1;rw[<-g1.1] at hy;omega
     |cons a A=>exact gz _ _ (g2 a (List.mem_cons_self ..))
   ·have so:=h.so;rw[g1,JL] at so;have so:=(List.pairwise_append.1 so).2.1;rcases List.mem_cons.1 hx with rfl |hx
    ·omega
    ·have:=(List.pairwise_cons.1 so).1 x hx;omega
 refine⟨q1.trans hs,q2,by have:=q5.len_;omega,ad7,n',⟨f1,by have:=h.room;omega,h.dl,λc c0 c1 hc=>?_,λk i hh=>?_,λc d c0 c1 hc d0 d3 p0 p1=>?_,λx hx=>?_,λx hx=>?_,?_⟩⟩
 ·obtain⟨a,b,c,d⟩:=h.dv c c0 c1 hc;exact⟨a,by rw[q5.at_];omega,c,d⟩
 ·rcases q5.new k i hh with z |⟨x,hx,rfl,rfl⟩
  ·exact h.hs k i ((q4 k i).1 z)
  ·have pS:=(h.td x hx).1;obtain⟨⟨a,b,c,d⟩,e⟩:=hl x pS;exact⟨a,b,c,by omega,.inl ⟨x,pS,J,J⟩⟩
 ·rcases h.nb c d c0 c1 hc d0 d3 p0 p1 with z |z
  ·exact .inl z
  ·exact .inr (q5.ua _ _ ((q4 _ _).2 z))
 ·rcases h.sd x hx with z |z |z
  ·rw[g1] at z;rcases List.mem_append.1 z with z |z
   ·exact .inr (.inl (g2 x z))
   ·exact .inl z
  ·exact .inr (.inl (q5.ua _ _ ((q4 _ _).2 z)))
  ·exact .inr (.inr z)
 ·have pS:x∈s.todo:=by rw[g1];exact List.mem_append_right _ hx
  exact⟨(h.td x pS).1,by rw[q5.at_];exact sF.2.1 x pS⟩
 ·have so:=h.so;rw[g1] at so;exact(List.pairwise_append.1 so).2.1
theorem Ov {D D':List Int} (h: ∀c:Int,0<=c->c<t.C.length->rd D c≠cL->rd D' c=rd D c) {i k:Int} (hp:ET t l D i k):ET t l D' i k:=by
 rcases hp with z |⟨c,d,c0,c1,d0,d3,e,f,g⟩
 ·exact .inl z
 ·have:=h c c0 c1 e;exact .inr ⟨c,d,c0,c1,d0,d3,by rw[this];exact e,f,by rw[this];exact g⟩
structure ql (t:aJ) (l:List aZ) (K:Int) (D:List Int):Prop where
 dl:D.length=t.C.length
 dv: ∀c:Int,0<=c->c<t.C.length->rd D c≠cL->0<=rd D c/\rd D c<=K/\rd t.C c≠255/\ET t l D c (rd D c)
 nb: ∀c d:Int,0<=c->c<t.C.length->rd D c≠cL->0<=d->d<=3->0<=eN t c d->rd t.C (eN t c d)≠255->rd D (eN t c d)≠cL/\rd D (eN t c d)<=rd D c+rd t.C c
 sd: ∀x∈l,rd D x.Cell≠cL/\rd D x.Cell<=x.Key
theorem ahz (hl: ∀x∈l,qk t x/\x.Key+254*256<=K) (hK:K<=1100000000) (ht:l8 t) (s:df) (hs:s.t=t): ∀(m k:Nat) (r:eB) (todo:List aZ) (D:List Int) (n:Nat),(5*uw t D+2*todo.length+r.len).toNat<=m->m<k->Bl t l K r todo D n->Full r todo->
 Ok (nL.l0 k s t.W t.H r todo D) (λq=>ql t l K q.aQ):=by
 have oe:=ox ht.1;have hI:cL=1099511627776:=rfl;have fin: ∀(k:Nat) (r:eB) (todo:List aZ) (D:List Int) (n:Nat),Bl t l K r todo D n->Full r todo->r.len=0->Ok (nL.l0 (k+1) s t.W t.H r todo D) (λq=>ql t l K q.aQ):=by
  intro k r todo D n h hf h0;rw[nL.l0];refine Ok.eq (v:=r.len) J (Ok.neg U (Ok.pure ?_));have gz:=h.ring.none h0;have JO:todo=[]:=hf.resolve_right λz=>z.1 h0
  refine⟨h.dl,λc c0 c1 hc=>?_,λc d c0 c1 hc d0 d3 p0 p1=>?_,λx hx=>?_⟩
  ·obtain⟨a1,a2,a3,a4⟩:=h.dv c c0 c1 hc;exact⟨a1,by show rd D c<=K;omega,a4⟩
  ·exact(h.nb c d c0 c1 hc d0 d3 p0 p1).resolve_right (gz _ _)
  ·rcases h.sd x hx with z |z |z
   ·rw[JO] at z;simp at z
   ·exact absurd z (gz _ _)
   ·exact z
 intro m
 induction m with
 |zero=>
  intro k r todo D n hm hk h hf;obtain⟨k,rfl⟩:=bh hk;have:=h.ring.Ce;exact fin k r todo D n h hf U
 |succ m ih=>
  intro k r todo D n hm hk h hf;obtain⟨k,rfl⟩:=bh hk;have hlen:=h.ring.Ce
  by_cases h0:r.len=0
  ·exact fin k r todo D n h hf h0
  obtain⟨x,y,B4⟩:=h.ring.some h0;rw[nL.l0];refine Ok.eq (v:=r.len) J (Ok.pos U ((aht h.ring (by have:=(h.hs x y B4).2.2.2.1;omega) B4).bind λv hv=>?_))
  obtain⟨v1,v2,v3,v4,v5,v6,v7,v8⟩:=hv;obtain⟨i0,i1,i2,i3,i4⟩:=h.hs _ _ v5;have sF:=v5.1;have ajv:=v5.2.1;have JO: ∀x∈todo,v.1<=x.Key:=λx hx=>by
   rcases hf with z |⟨_,z⟩
   ·rw[z] at hx;simp at hx
   ·have:=z x hx;omega
  refine Ok.cx (by rw[h.dl];exact⟨i0,i1⟩) (Ok.ite (λq=>?_) λq=>?_)
  ·have q:rd D v.2.1=cL:=by simpa using q
   have hi:=ht.2 _ i0 i1;have dI: ∀c:Int,0<=c->rd (List.set D v.2.1.toNat v.1) c=if c=v.2.1 then v.1 else rd D c:=λc c0=>kV i0 (by rw[h.dl];exact i1) c0
   have yM:0<=v.1:=by have:=h.ring.at_;omega
   have hu:uw t D=uw t (List.set D v.2.1.toNat v.1)+1:=by
    unfold uw;refine L1 (c:=v.2.1) i0 i1 (by simp[q]) ?_ λi a b hi=>?_
    ·rw[dI _ i0,af J];simp;omega
    ·rw[dI _ a,ah hi]
   have hold: ∀c:Int,0<=c->c<t.C.length->rd D c≠cL->rd (List.set D v.2.1.toNat v.1) c=rd D c:=λc c0 c1 hc=>by
    rw[dI c c0,ah (λz=>hc (by rw[z];exact q))]
   have e:(df.mk (aJ.mk t.W t.H s.t.C) v.2.2.2 todo (List.set D (Int.toNat v.2.1) v.1))=df.mk t v.2.2.2 todo (List.set D (Int.toNat v.2.1) v.1):=by rw[hs]
   rw[e];have hr:=h.room;refine(X9 (df.mk t v.2.2.2 todo (List.set D (Int.toNat v.2.1) v.1)) ht (by simp[h.dl]) v2 U i0 i1 (by simp only;rw[dI _ i0,af J];exact yM) (by simp only;rw[dI _ i0,af J];omega)).bind λa ha=>?_
   have u7:rd (List.set D v.2.1.toNat v.1) v.2.1=v.1:=by rw[dI _ i0,af J]
   have Lt:=ha.td;have Ll:=ha.ds;have Ls:=ha.t_;have XM:=ha.len_;have Lj:=ha.at_;simp only at Lt Ll Ls XM Lj;have aC:a.t.C=s.t.C:=by rw[Ls,hs]
   have ea:df.mk (aJ.mk a.t.W a.t.H s.t.C) a.wait a.todo a.aQ=a:=by rw[<-aC]
   rw[ea];have nn:Bl t l K a.wait a.todo a.aQ (n+4):=by
    rw[Lt,Ll];refine⟨ha.ring,by omega,by simp[h.dl],λc c0 c1 hc=>?_,λk i hh=>?_,λc d c0 c1 hc d0 d3 p0 p1=>?_,λx hx=>?_,λx hx=>⟨(h.td x hx).1,by rw[Lj,v3];exact JO x hx⟩,h.so⟩
    ·rw[Lj,v3]
     by_cases z:c=v.2.1
     ·subst z;rw[u7];exact⟨yM,Int.le_refl _,by omega,i2,Ov hold i4⟩
     ·rw[dI c c0,ah z] at hc⊢;obtain⟨b1,b2,b3,b4,b5⟩:=h.dv c c0 c1 hc;exact⟨b1,by omega,by omega,b4,Ov hold b5⟩
    ·rcases ha.new k i hh with z |⟨rfl,d,d0,d4,rfl,w0,w1,w2,w3⟩
     ·obtain⟨b1,b2,b3,b4,b5⟩:=h.hs k i (v7 k i z);exact⟨b1,b2,b3,by omega,Ov hold b5⟩
     ·simp only at w0 w1 w2 u7⊢;rw[u7];exact⟨w0,w1,w2,by omega,.inr ⟨v.2.1,d,i0,i1,d0,by omega,by rw[u7];omega,J,by rw[u7]⟩⟩
    ·have hn:0<=eN t c d/\eN t c d<t.C.length:=(KP ht.1 c0 c1).resolve_left U
     by_cases z:c=v.2.1
     ·subst z;rw[u7]
      by_cases w:rd (List.set D v.2.1.toNat v.1) (eN t v.2.1 d)=cL
      ·refine .inr ?_;have:=ha.all (by simp only;rw[u7,v3];omega) (by simp only;rw[u7,v3];omega) d d0 U p0 p1 w
       simp only at this;rw[u7] at this;exact this
      ·refine .inl ⟨w,?_⟩;rw[dI _ hn.1] at w⊢;split
       ·omega
       ·rename_i y;rw[ah y] at w;have:=(h.dv _ hn.1 hn.2 w).2.1;omega
     ·rw[dI c c0,ah z] at hc⊢;rcases h.nb c d c0 c1 hc d0 d3 p0 p1 with⟨w1,w2⟩ |w
      ·exact .inl (by rw[hold _ hn.1 hn.2 w1];exact⟨w1,w2⟩)
      ·rcases v8 _ _ w with⟨y1,y2⟩ |y
       ·refine .inl ?_;rw[y2,u7];exact⟨by omega,by omega⟩
       ·exact .inr (ha.ua _ _ y)
    ·have TV:=(hl x hx).1;rcases h.sd x hx with z |z |⟨z1,z2⟩
     ·exact .inl z
     ·rcases v8 _ _ z with⟨y1,y2⟩ |y
      ·exact .inr (.inr (by rw[y2,u7];exact⟨by omega,by omega⟩))
      ·exact .inr (.inl (ha.ua _ _ y))
     ·exact .inr (.inr (by rw[hold _ TV.1 TV.2.1 z1];exact⟨z1,z2⟩))
   refine(OL hl ht a Ls nn).bind λw hw=>?_
   obtain⟨w1,w2,w3,w4,n',w5⟩:=hw;rw[w1,w2];refine ih k w.wait w.todo a.aQ n' ?_ U w5 w4;rw[Ll] at*;rw[Lt] at w3;omega
  ·have q:rd D v.2.1≠cL:=by simpa using q
   have hd:=(h.dv _ i0 i1 q).2.1;have nn:Bl t l K v.2.2.2 todo D n:=by
    refine⟨v2,h.room,h.dl,λc c0 c1 hc=>?_,λk i hh=>h.hs k i (v7 k i hh),λc d c0 c1 hc d0 d3 p0 p1=>?_,λx hx=>?_,λx hx=>⟨(h.td x hx).1,by rw[v3];exact JO x hx⟩,h.so⟩
    ·obtain⟨b1,b2,b3⟩:=h.dv c c0 c1 hc;exact⟨b1,by omega,b3⟩
    ·rcases h.nb c d c0 c1 hc d0 d3 p0 p1 with w |w
     ·exact .inl w
     ·rcases v8 _ _ w with⟨y1,y2⟩ |y
      ·exact .inl (by rw[y2];exact⟨q,by omega⟩)
      ·exact .inr y
    ·rcases h.sd x hx with z |z |z
     ·exact .inl z
     ·rcases v8 _ _ z with⟨y1,y2⟩ |y
      ·exact .inr (.inr (by rw[y2];exact⟨q,by omega⟩))
      ·exact .inr (.inl y)
     ·exact .inr (.inr z)
   have e:(df.mk (aJ.mk t.W t.H s.t.C) v.2.2.2 todo D)=df.mk t v.2.2.2 todo D:=by rw[hs]
   rw[e];refine(OL hl ht (df.mk t v.2.2.2 todo D) J nn).bind λw hw=>?_
   obtain⟨w1,w2,w3,w4,n',w5⟩:=hw;rw[w1,w2];exact ih k w.wait w.todo D n' (by simp only at w3;omega) U w5 w4
theorem Wz (ht:l8 t) (hb:l.length<=1000000) (hK:K<=1100000000) (hl: ∀x∈l,qk t x/\x.Key+254*256<=K):Ok (tn.f t l) (λr=>r.2=0/\ql t l K r.1):=by
 have oe:=ox ht.1;unfold tn.f;refine(Wv ht l hb).bind λb jw=>?_
 have:b=true:=jw.2 λx hx=>(hl x hx).1;subst this;refine Ok.neg bk ?_;obtain⟨r,e1,e2,e3,e4⟩:=ahn;refine Ok.bind (P:=λp=> ∃S:List aZ,p=(t.W,t.H,t.C,r,S,List.replicate t.C.length cL)/\S.length<=l.length/\(∀e,e∈S↔e∈l)/\S.Pairwise (λa b=> ¬sZ b a)) (Ok.eq e1 ((O7 l hb).bind λS hS=>Ok.eq (VZ U U) (Ok.pure ⟨S,J,hS⟩))) λp hp=>?_
 obtain⟨S,rfl,s1,s2,s3⟩:=hp;simp only;have Ak: ∀x∈S,qk t x/\x.Key+254*256<=K:=λx hx=>hl x ((s2 x).1 hx);have Gd: ∀c:Int,0<=c->c<t.C.length->rd (List.replicate t.C.length cL) c=cL:=λc c0 c1=>vD c0 U
 have hu:uw t (List.replicate t.C.length cL)<=256:=by unfold uw;have:=Ft (λc=>rd (List.replicate t.C.length cL) c==cL) t.C.length;omega
 have nn:Bl t S K r S (List.replicate t.C.length cL) 0:=by
  refine⟨e3,by omega,by simp,λc c0 c1 hc=>absurd (Gd c c0 c1) hc,λk i hh=>absurd hh (e4 k i),λc d c0 c1 hc=>absurd (Gd c c0 c1) hc,λx hx=> .inl hx,λx hx=>⟨hx,by rw[e2];exact(Ak x hx).1.2.2.2.1⟩,s3.imp λ{a b} h=>?_⟩
  unfold sZ at h;omega
 unfold nL.f;refine Ok.bind (P:=λq=>ql t l K q.aQ) ?_ λq hq=>Ok.pure ⟨J,hq⟩
 refine(OL Ak ht ⟨t,r,S,List.replicate t.C.length cL⟩ J nn).bind λw hw=>?_
 obtain⟨w1,w2,w3,w4,n',w5⟩:=hw;rw[w1,w2];have hlen:=e3.Ce;have Ga:r.len=0:=Classical.byContradiction λz=>by obtain⟨k,i,hh⟩:=e3.some z;exact e4 k i hh
 refine(ahz Ak hK ht ⟨⟨t.W,t.H,t.C⟩,r,S,List.replicate t.C.length cL⟩ J 3000000 fuel w.wait w.todo _ n' (by show(5*uw t (List.replicate t.C.length cL)+2*w.todo.length+w.wait.len).toNat<=3000000;have w3:w.wait.len+2*w.todo.length<=r.len+2*S.length:=w3;omega) (by rw[cH];omega) w5 w4).mono λq hq=>⟨hq.dl,λc c0 c1 hc=>?_,hq.nb,λx hx=>hq.sd x ((s2 x).2 hx)⟩
 obtain⟨b1,b2,b3,b4⟩:=hq.dv c c0 c1 hc;refine⟨b1,b2,b3,?_⟩;rcases b4 with⟨x,hx,z⟩ |z
 ·exact .inl ⟨x,(s2 x).1 hx,z⟩
 ·exact .inr z
theorem O9 (ht:l8 t) {K':Int} {D D':List Int} (h:ql t l K D) (h':ql t l K' D'): ∀(n:Nat) (c:Int),0<=c->c<t.C.length->rd D c≠cL->rd D c<=n->rd D' c≠cL/\rd D' c<=rd D c:=by
 intro n
 induction n with
 |zero=>
  intro c c0 c1 hc hn;obtain⟨a1,a2,a3,a4⟩:=h.dv c c0 c1 hc;rcases a4 with⟨x,hx,e1,e2⟩ |⟨q,d,q0,q1,d0,d3,e1,e2,e3⟩
  ·have:=h'.sd x hx;rw[e1] at this;exact⟨this.1,by omega⟩
  ·have:=(h.dv q q0 q1 e1).1;have:=ht.2 q q0 q1;omega
 |succ n ih=>
  intro c c0 c1 hc hn;obtain⟨a1,a2,a3,a4⟩:=h.dv c c0 c1 hc;rcases a4 with⟨x,hx,e1,e2⟩ |⟨q,d,q0,q1,d0,d3,e1,e2,e3⟩
  ·have:=h'.sd x hx;rw[e1] at this;exact⟨this.1,by omega⟩
  ·have hC:=ht.2 q q0 q1;obtain⟨b1,b2⟩:=ih q q0 q1 e1 U;have:=h'.nb q d q0 q1 b1 d0 d3 U (by rw[e2];exact a3)
   rw[e2] at this;exact⟨this.1,by omega⟩
theorem air (ht:l8 t) {K':Int} {D D':List Int} (h:ql t l K D) (h':ql t l K' D') {c:Int} (c0:0<=c) (c1:c<t.C.length):rd D c=rd D' c:=by
 by_cases z:rd D c=cL
 ·by_cases z':rd D' c=cL
  ·rw[z,z']
  ·exact absurd z (O9 ht h' h (rd D' c).toNat c c0 c1 z' (by have:=(h'.dv c c0 c1 z').1;omega)).1
 ·have q:=O9 ht h h' (rd D c).toNat c c0 c1 z (by have:=(h.dv c c0 c1 z).1;omega)
  have:=O9 ht h' h (rd D' c).toNat c c0 c1 q.1 (by have:=(h'.dv c c0 c1 q.1).1;omega)
  omega
theorem ais (ht:l8 t) {D:List Int} (h:ql t l K D) {c:Int} (c0:0<=c) (c1:c<t.C.length) (hc:rd D c=0): ∃x∈l,x.Cell=c/\x.Key=0:=by
 have hI:cL=1099511627776:=rfl;obtain⟨a1,a2,a3,a4⟩:=h.dv c c0 c1 U;rcases a4 with⟨x,hx,e1,e2⟩ |⟨q,d,q0,q1,d0,d3,e1,e2,e3⟩
 ·exact⟨x,hx,e1,by omega⟩
 ·have:=(h.dv q q0 q1 e1).1;have:=ht.2 q q0 q1;omega
end
section
variable {t : aJ} {l : List aZ} {K : Int} {D : List Int}
def uL (l:List aZ) (c s:Int):Int:=(kA.f l c s).getD 0
theorem Qs (hb:l.length<=1000000) (c s:Int):kA.f l c s=some (uL l c s):=by
 obtain⟨r,e⟩:=Zr l c s hb;unfold uL;rw[e];rfl
theorem afZ (ht:l8 t) {c s:Int} (c0:0<=c) (c1:c<t.C.length) (s0:0<=s) (s3:s<=3):CY.f ⟨t,l,D⟩ c s=some (eN t c s):=by
 have hl:=ox ht.1;obtain⟨a1,a2,a3,a4,a5,_⟩:=ht.1;have hq:0<=c/t.W/\c/t.W<=c:=⟨Int.ediv_nonneg c0 U,Int.ediv_le_self _ c0⟩;unfold CY.f eN;simp only;rw[af (show ¬t.W=0 by omega),af (show ¬t.W=0 by omega),qQ c0,mM c0,wi (x:=c/t.W) U U,wi (x:=t.W-1) U U,wi (x:=t.H-1) U U,wi (x:=c-t.W) U U,wi (x:=c+1) U U,wi (x:=c+t.W) U U,wi (x:=c-1) U U]
 have hs:s=0∨s=1∨s=2∨s=3:=U;rcases hs with rfl |rfl |rfl |rfl
 ·by_cases z:0<c/t.W<;>simp[z]
 ·by_cases z:c%t.W<t.W-1<;>simp[z]
 ·by_cases z:c/t.W<t.H-1<;>simp[z]
 ·by_cases z:0<c%t.W<;>simp[z]
def zR (t:aJ) (l:List aZ) (D:List Int) (c s:Int):Bool:=
 if eN t c s<0 then uL l c s==rd D c else decide (rd t.C (eN t c s)≠255/\rd t.C (eN t c s)+rd D (eN t c s)=rd D c)
theorem ait (hK:K<=1100000000) (h:ql t l K D) {c:Int} (c0:0<=c) (c1:c<t.C.length):0<=rd D c/\rd D c<=1099511627776:=by
 have hI:cL=1099511627776:=rfl
 by_cases z:rd D c=cL
 ·omega
 ·have:=h.dv c c0 c1 z;omega
theorem KB (ht:l8 t) (hb:l.length<=1000000) (hK:K<=1100000000) (h:ql t l K D) {c s:Int} (c0:0<=c) (c1:c<t.C.length) (s0:0<=s) (s3:s<=3):kB.f ⟨t,l,D⟩ c s=some (zR t l D c s):=by
 have BT:=h.dl;unfold kB.f zR;rw[afZ ht c0 c1 s0 s3];simp only[aK]
 by_cases z:eN t c s<0
 ·rw[af z,af z,Qs hb];simp only[aK];rw[af U]
 ·have hn:=(KP ht.1 (s:=s) c0 c1).resolve_left U;have hC:=ht.2 _ hn.1 hn.2;have hD:=ait hK h hn.1 hn.2;rw[ah z,ah z,af hn]
  by_cases y:rd t.C (eN t c s)=255
  ·rw[ah (by simp[y])];simp[y]
  ·rw[af (by simpa using y),af U,af U,wi (x:=rd t.C (eN t c s)) U U,wi U U]
   simp only[aK,Option.some.injEq];rw[Bool.eq_iff_iff];simp[y]
def Hi (t:aJ) (l:List aZ) (D:List Int) (c:Int):Int:=
 if zR t l D c 0=true then 0 else if zR t l D c 1=true then 1 else if zR t l D c 2=true then 2 else if zR t l D c 3=true then 3 else 5
def yv (t:aJ) (l:List aZ) (D:List Int) (c:Int):Int:=if rd D c=cL then 5 else if rd D c=uL l c 4 then 4 else Hi t l D c
theorem aaS (c:Int):0<=yv t l D c/\yv t l D c<=5:=by
 unfold yv Hi
 repeat' split
 all_goals omega
theorem ahQ (ht:l8 t) (hb:l.length<=1000000) (hK:K<=1100000000) (h:ql t l K D) {c:Int} (c0:0<=c) (c1:c<t.C.length):CX.f ⟨t,l,D⟩ c=some (yv t l D c):=by
 have BT:=h.dl;unfold CX.f Ez.f yv Hi;simp only[KB ht hb hK h c0 c1 (Int.le_refl 0) (by omega:(0:Int)<=3),KB ht hb hK h c0 c1 (by omega:(0:Int)<=1) U,KB ht hb hK h c0 c1 (by omega:(0:Int)<=2) U,KB ht hb hK h c0 c1 (by omega:(0:Int)<=3) U,Qs hb,aK,beq_self_eq_true,if_true]
 rw[af U]
 by_cases z:rd D c=cL
 ·rw[af (by simpa using z),af z]
 ·rw[ah (by simpa using z),ah z]
  by_cases y:rd D c=uL l c 4
  ·rw[af (by simpa using y),af y]
  ·rw[ah (by simpa using y),ah y]
   repeat' split
   all_goals rfl
structure wo (t:aJ) (l:List aZ) (K:Int) (f:fX):Prop where
 aQ:ql t l K f.fa
 dl:f.cz.length=t.C.length
 dir: ∀c:Int,0<=c->c<t.C.length->rd f.cz c=yv t l f.fa c
theorem aa9 (ht:l8 t) (hb:l.length<=1000000) (hK:K<=1100000000) (h:ql t l K D) (z:Int): ∀(n k:Nat) (x:List Int) (i:Int),(t.C.length-i).toNat<=n->n<k->0<=i->i<=t.C.length->(x.length:Int)=i->(∀c:Int,0<=c->c<i->rd x c=yv t l D c)->
 Ok (nK.l0 k t l (D,z) x i) (λr=>r.2=0/\wo t l K r.1):=by
 have oe:=ox ht.1;have BT:=h.dl;have fin: ∀(k:Nat) (x:List Int) (i:Int),¬i<t.C.length->i<=t.C.length->(x.length:Int)=i->(∀c:Int,0<=c->c<i->rd x c=yv t l D c)->Ok (nK.l0 (k+1) t l (D,z) x i) (λr=>r.2=0/\wo t l K r.1):=λk x i hi dT hx ha=>by
  rw[nK.l0,ah (by simp only;omega)]
  exact Ok.pure ⟨J,h,by simp only;omega,λc c0 c1=>ha c c0 U⟩
 intro n
 induction n with
 |zero=>
  intro k x i hn hk hi dT hx ha;obtain⟨k,rfl⟩:=bh hk;exact fin k x i U dT hx ha
 |succ n ih=>
  intro k x i hn hk hi dT hx ha;obtain⟨k,rfl⟩:=bh hk
  by_cases aP:i<t.C.length
  ·rw[nK.l0,wi U U];refine Ok.pos (by simp only;omega) (Ok.eq (ahQ ht hb hK h hi aP) (Ok.cx U (ih k _ (i+1) U U U U bl λc c0 c1=>?_)))
   rw[OC c0 U];split
   ·rename_i q;rw[q,hx]
   ·exact ha c c0 U
  ·exact fin k x i aP dT hx ha
theorem aa8 (ht:l8 t) (hb:l.length<=1000000) (hK:K<=1100000000) (hl: ∀x∈l,qk t x/\x.Key+254*256<=K):Ok (nK.f t l) (λr=>r.2=0/\wo t l K r.1):=by
 have oe:=ox ht.1;unfold nK.f;refine(Wz ht hb hK hl).bind λv hv=>?_
 obtain⟨D,z⟩:=v;simp only at hv⊢;exact Ok.neg (by simp[hv.1]) (aa9 ht hb hK hv.2 z t.C.length fuel [] 0 U (by rw[cH];omega) U U J (λc c0 c1=>by omega))
end
def kD (m:aJ) (s:Int) (n:Nat):List Int:=(List.range n).map λl:Nat=>rd m.C (de m.W m.H s (l:Int))
theorem C4 (m:aJ) (s:Int) (n:Nat):(kD m s n).length=n:=by simp[kD]
theorem aiT (m:aJ) (s:Int) (n:Nat):kD m s (n+1)=kD m s n++[rd m.C (de m.W m.H s (n:Int))]:=by
 simp[kD,List.range_succ]
theorem aiS (m:aJ) (s:Int) (n a:Nat):kD m s (n+a)=kD m s n++(List.range a).map λx:Nat=>rd m.C (de m.W m.H s ((n+x:Nat):Int)):=by
 simp only[kD,List.range_add,List.map_append,List.map_map];rfl
theorem Aa {w h s l:Int} (hs:bG w h s) (h0:0<=l) (h1:l<(ax w h s).1*(ax w h s).2):0<=de w h s l/\de w h s l<w*h:=by
 obtain⟨a1,a2,a3,a4,a5,a6⟩:=wO hs h0 h1;obtain⟨p1,p2,p3,p4⟩:=uo hs;have e:de w h s l=(16*(s/(bn w h).1)+l/(ax w h s).1)*w+(16*(s%(bn w h).1)+l%(ax w h s).1):=by
  unfold de;rw[af ⟨hs,h0,h1⟩]
 rw[e];exact sm U a5 U a6
theorem global_row {w h s y x:Int} (hs:bG w h s) (y0:0<=y) (y1:y<(ax w h s).2) (x0:0<=x) (x1:x<(ax w h s).1):de w h s (y*(ax w h s).1+x)=de w h s (y*(ax w h s).1)+x:=by
 obtain⟨z1,z2,z3,z4⟩:=p7 hs;have hl:=sm (w:=(ax w h s).1) (h:=(ax w h s).2) x0 x1 y0 y1;have Al:=sm (w:=(ax w h s).1) (h:=(ax w h s).2) (x:=0) U U y0 y1;have n1:=qD (a:=(ax w h s).1) (x:=x) (y:=y) x0 x1;have n0:=qD (a:=(ax w h s).1) (x:=0) (y:=y) U U;rw[Int.add_zero] at n0 Al;unfold de;rw[af ⟨hs,hl⟩,af ⟨hs,Al⟩,n1.1,n1.2,n0.1,n0.2];omega
theorem aiM {L:List Int} {lo:Int} {a:Nat} (h0:0<=lo) (h1:lo+a<=L.length):aA L lo (lo+a)=(List.range a).map λx:Nat=>rd L (lo+(x:Int)):=by
 apply List.ext_getElem
 ·simp[aA];omega
 ·intro i h2 h3;have hi:i<a:=by simpa using h3
  simp only[aA,List.getElem_take,List.getElem_drop,List.getElem_map,List.getElem_range];rw[jl U]
  congr 1;omega
theorem aiU {m:aJ} (hm:tA m) (s:Int):nC.f m s=some (aJ.mk (ax m.W m.H s).1 (ax m.W m.H s).2 (kD m s ((ax m.W m.H s).1*(ax m.W m.H s).2).toNat)):=by
 unfold nC.f;rw[Wd,aK];have hz:=size_le m.W m.H s;have hpr:(ax m.W m.H s).1*(ax m.W m.H s).2<=16*16:=kt hz.1 hz.2.2.1 hz.2.1 hz.2.2.2;have hp0:0<=(ax m.W m.H s).1*(ax m.W m.H s).2:=nu hz.1 hz.2.2.1;have key: ∀(n k:Nat) (i:Int),i+n=(ax m.W m.H s).1*(ax m.W m.H s).2->0<=i->n<k->
  nC.l0 k m s (ax m.W m.H s) (kD m s i.toNat) i=some (aJ.mk (ax m.W m.H s).1 (ax m.W m.H s).2 (kD m s ((ax m.W m.H s).1*(ax m.W m.H s).2).toNat)):=by
  intro n
  induction n with
  |zero=>
   intro k i hi h0 hk;obtain⟨k,rfl⟩: ∃q,k=q+1:=⟨k-1,by omega⟩
   rw[nC.l0,bj (x:=_*_) U U,ah U];have:i=(ax m.W m.H s).1*(ax m.W m.H s).2:=U;rw[this]
  |succ n ih=>
   intro k i hi h0 hk;obtain⟨k,rfl⟩: ∃q,k=q+1:=⟨k-1,by omega⟩
   have hs:bG m.W m.H s:=by
    by_cases hs:bG m.W m.H s
    ·exact hs
    ·have:ax m.W m.H s=(0,0):=by unfold ax;rw[ah hs]
     rw[this] at hi;simp at hi;omega
   have hg:=Aa hs h0 (by omega:i<_)
   have hl:=hm.2.1;rw[nC.l0,bj (x:=_*_) U U,af U,ahm,aK,af U,af (by rw[C4];omega),bj U U]
   have:=ih k (i+1) U U U;rw[show(i+1).toNat=i.toNat+1 by omega,aiT,show((i.toNat:Nat):Int)=i by omega] at this
   exact this
 exact key ((ax m.W m.H s).1*(ax m.W m.H s).2).toNat fuel 0 U U (by rw[tL];omega)
def FA (g:bt) (s:Int):aJ×Bool:=if bG g.m.W g.m.H s then(aJ.mk (ax g.m.W g.m.H s).1 (ax g.m.W g.m.H s).2 (kD g.m s ((ax g.m.W g.m.H s).1*(ax g.m.W g.m.H s).2).toNat),true) else(aJ.mk 0 0 [],false)
theorem Pf {g:bt} {more:Int} (h:dA g more) (s:Int):lO.f g s=some (FA g s):=by
 have hl:=h.ok.2.1;unfold lO.f FA;have e0:iE.f g=some (g.m.W,g.m.H):=rfl;rw[e0,aK,Hk,aK]
 by_cases hs:bG g.m.W g.m.H s
 ·have hz:=p7 hs;rw[ah bl,af hs];have hpr:(ax g.m.W g.m.H s).1*(ax g.m.W g.m.H s).2<=16*16:=kt U U hz.2.1 hz.2.2.2;have key: ∀(n k:Nat) (i:Int),i+n=(ax g.m.W g.m.H s).2->0<=i->n<k->
   lO.l0 k g s (g.m.W,g.m.H) (ax g.m.W g.m.H s) (kD g.m s (i*(ax g.m.W g.m.H s).1).toNat) i=some (aJ.mk (ax g.m.W g.m.H s).1 (ax g.m.W g.m.H s).2 (kD g.m s ((ax g.m.W g.m.H s).1*(ax g.m.W g.m.H s).2).toNat),true):=by
   intro n
   induction n with
   |zero=>
    intro k i hi h0 hk;obtain⟨k,rfl⟩: ∃q,k=q+1:=⟨k-1,by omega⟩
    rw[lO.l0,ah U];have:i=(ax g.m.W g.m.H s).2:=U;rw[this,Int.mul_comm]
   |succ n ih=>
    intro k i hi h0 hk;obtain⟨k,rfl⟩: ∃q,k=q+1:=⟨k-1,by omega⟩
    have rD:i<(ax g.m.W g.m.H s).2:=U;have b0:0<=i*(ax g.m.W g.m.H s).1:=nu h0 U;have b1:i*(ax g.m.W g.m.H s).1+(ax g.m.W g.m.H s).1<=(ax g.m.W g.m.H s).1*(ax g.m.W g.m.H s).2:=by
     have:(i+1)*(ax g.m.W g.m.H s).1<=(ax g.m.W g.m.H s).2*(ax g.m.W g.m.H s).1:=Int.mul_le_mul_of_nonneg_right U U;rw[Int.add_mul,Int.one_mul,Int.mul_comm (ax g.m.W g.m.H s).2] at this;exact this
    have lo:=Aa hs b0 U;have hi3:=Aa (l:=i*(ax g.m.W g.m.H s).1+((ax g.m.W g.m.H s).1-1)) hs U U;rw[global_row hs h0 rD U U] at hi3;have hc:=xf h.ok.1;rw[lO.l0,af rD,bj (x:=_*_) U U,I',aK];simp only[bj (x:=de g.m.W g.m.H s (i*(ax g.m.W g.m.H s).1)+(ax g.m.W g.m.H s).1) U U];rw[af U];have jH:(((ax g.m.W g.m.H s).1.toNat:Nat):Int)=(ax g.m.W g.m.H s).1:=U;have DW:=aiM (L:=g.m.C) (lo:=de g.m.W g.m.H s (i*(ax g.m.W g.m.H s).1)) (a:=(ax g.m.W g.m.H s).1.toNat) U U;rw[jH] at DW;rw[DW,af (by rw[C4];simp;omega),bj U U]
    have wV:kD g.m s (i*(ax g.m.W g.m.H s).1).toNat++(List.range (ax g.m.W g.m.H s).1.toNat).map (λx:Nat=>rd g.m.C (de g.m.W g.m.H s (i*(ax g.m.W g.m.H s).1)+(x:Int)))=kD g.m s ((i+1)*(ax g.m.W g.m.H s).1).toNat:=by
     rw[show((i+1)*(ax g.m.W g.m.H s).1).toNat=(i*(ax g.m.W g.m.H s).1).toNat+(ax g.m.W g.m.H s).1.toNat by rw[Int.add_mul,Int.one_mul];omega,aiS]
     congr 1
     apply List.map_congr_left;intro x hx;have vn:=List.mem_range.mp hx;rw[show(((i*(ax g.m.W g.m.H s).1).toNat+x:Nat):Int)=i*(ax g.m.W g.m.H s).1+(x:Int) by omega,global_row hs h0 rD U U]
    rw[wV];exact ih k (i+1) U U U
  have:=key (ax g.m.W g.m.H s).2.toNat fuel 0 U U (by rw[tL];omega)
  rw[show((0:Int)*(ax g.m.W g.m.H s).1).toNat=0 by simp] at this
  exact this
 ·have:ax g.m.W g.m.H s=(0,0):=by unfold ax;rw[ah hs]
  rw[this,af bk,ah hs]
theorem abz (g:bt) (hb:g.m.C.length<=1099511627776):wQ.f g=some g.m:=by
 unfold wQ.f;rw[QK _ hb];rfl
theorem Gx (w h c:Int):qR.f w h c=some (du w h c):=by
 unfold qR.f du;simp only[Ou,aK,tj,Hk]
 by_cases hc:bU w h c
 ·rw[ah (by rw[Ed];simp[hc]),af hc]
  simp only[AR];rw[af hc];simp only;have hp:=vB hc;have hw:=N6 hc;have hz:=size_le w h (aX w h c);have h5:0<=c/w%16*(ax w h (aX w h c)).1:=nu U U;have h6:c/w%16*(ax w h (aX w h c)).1<=16*16:=kt U U U U;rw[mM hp.2.2.1,mM hp.1,bj (x:=_*_) U U,bj U U]
 ·rw[af (by rw[Ed];exact hc),ah hc]
theorem D4 {w h c:Int} (hc:bU w h c):0<=du w h c/\du w h c<(ax w h (aX w h c)).1*(ax w h (aX w h c)).2:=by
 have lR:=N6 hc;have mB:=vB hc;have h1:=sm (w:=(ax w h (aX w h c)).1) (h:=(ax w h (aX w h c)).2) (x:=c%w%16) (y:=c/w%16) U lR.1 U lR.2;have e4:du w h c=c/w%16*(ax w h (aX w h c)).1+c%w%16:=by unfold du;rw[af hc]
 rw[e4];exact h1
theorem vS {w h c:Int} (hc:bU w h c):bG w h (aX w h c):=by
 unfold aX;rw[af hc];exact Et hc
theorem DB {w h c:Int} (hc:bU w h c):de w h (aX w h c) (du w h c)=c:=by
 have lR:=N6 hc;have mB:=vB hc;have TM:=Es hc;have cu:=D4 hc;unfold de;rw[af ⟨vS hc,cu⟩];have e3:aX w h c=c/w/16*(bn w h).1+c%w/16:=by unfold aX;rw[af hc]
 have e4:du w h c=c/w%16*(ax w h (aX w h c)).1+c%w%16:=by unfold du;rw[af hc]
 have n1:=qD (a:=(bn w h).1) (x:=c%w/16) (y:=c/w/16) TM.1 TM.2.1;have n2:=qD (a:=(ax w h (aX w h c)).1) (x:=c%w%16) (y:=c/w%16) U lR.1;rw[<-e3] at n1;rw[<-e4] at n2;rw[n1.1,n1.2,n2.1,n2.2];have a1:16*(c/w/16)+c/w%16=c/w:=U;have a2:16*(c%w/16)+c%w%16=c%w:=U;rw[a1,a2];have e:=QH hc;unfold po at e;rw[af ⟨hc.1,mB.1,mB.2.1,mB.2.2.1,mB.2.2.2⟩] at e;exact e
theorem RG {w h s l k:Int} (hs:bG w h s) (h0:0<=l) (h1:l<k) (h2:k<(ax w h s).1*(ax w h s).2):de w h s l<de w h s k:=by
 obtain⟨a1,a2,a3,a4,a5,a6⟩:=wO hs h0 (by omega:l<_)
 obtain⟨b1,b2,b3,b4,b5,b6⟩:=wO (l:=k) hs U h2;have e1:de w h s l=(16*(s/(bn w h).1)+l/(ax w h s).1)*w+(16*(s%(bn w h).1)+l%(ax w h s).1):=by unfold de;rw[af ⟨hs,h0,by omega⟩]
 have e2:de w h s k=(16*(s/(bn w h).1)+k/(ax w h s).1)*w+(16*(s%(bn w h).1)+k%(ax w h s).1):=by unfold de;rw[af ⟨hs,by omega,h2⟩]
 have p:=uo hs;have hz:=p7 hs;have m1:=Int.mul_ediv_add_emod l (ax w h s).1;have m2:=Int.mul_ediv_add_emod k (ax w h s).1;rw[e1,e2];have hle:l/(ax w h s).1<=k/(ax w h s).1:=Int.ediv_le_ediv U U
 by_cases hq:l/(ax w h s).1=k/(ax w h s).1
 ·rw[<-hq] at m2⊢;omega
 ·have:=Int.mul_le_mul_of_nonneg_right (show 16*(s/(bn w h).1)+l/(ax w h s).1+1<=16*(s/(bn w h).1)+k/(ax w h s).1 by omega) (show 0<=w by omega)
  rw[Int.add_mul (16*(s/(bn w h).1)+l/(ax w h s).1),Int.one_mul] at this;omega
theorem aai (w h s:Int):(qJ w h s).Pairwise (· < ·):=by
 unfold qJ vM;have hz:=zq w h s;rw[List.pairwise_map];have h1:((List.range ((ax w h s).1*(ax w h s).2).toNat).filter (λl:Nat=>CK w h s (l:Int))).Pairwise (· < ·):=List.Pairwise.sublist List.filter_sublist List.pairwise_lt_range;refine List.Pairwise.imp_of_mem ?_ h1;intro a b ha hb u6;have kb:=List.mem_range.mp (List.mem_filter.mp hb).1;exact RG (O1 (w:=w) (h:=h) (s:=s) (l:=(b:Int)) U U) U U U
theorem Oi (m:aJ) (s:Int):(bI m s).Pairwise (· < ·):=(aai m.W m.H s).sublist List.filter_sublist
theorem uf {m:aJ} {s c:Int} (h:c∈bI m s):lV m c=true/\cO m c/\bG m.W m.H s/\aX m.W m.H c=s:=by
 obtain⟨h1,h2⟩:=List.mem_filter.mp h;unfold qJ vM at h1;obtain⟨l,hl,rfl⟩:=List.mem_map.mp h1;have hz:=zq m.W m.H s;have kl:=List.mem_range.mp (List.mem_filter.mp hl).1;have hs:=O1 (w:=m.W) (h:=m.H) (s:=s) (l:=(l:Int)) U U;exact⟨h2,(A1.mp h2).1,hs,KC hs U U⟩
theorem vz (m:aJ) (s:Int):(bI m s).length<=256:=by
 have:=QJ m.W m.H s;have:=List.length_filter_le (lV m) (qJ m.W m.H s);unfold bI;omega
theorem N5 {w h a b:Int} (ha:bU w h a) (hb:bU w h b) (e:aX w h a=aX w h b) (u6:a<b):du w h a<du w h b:=by
 have ia:=D4 ha;have ga:=DB ha;have ib:=D4 hb;have gb:=DB hb;rw[e] at ia ga;rcases Int.lt_trichotomy (du w h a) (du w h b) with q |q |q
 ·exact q
 ·rw[q] at ga;omega
 ·have:=RG (vS hb) ib.1 q ia.2;omega
abbrev fD (m:aJ) (s:Int):aJ:=aJ.mk (ax m.W m.H s).1 (ax m.W m.H s).2 (kD m s ((ax m.W m.H s).1*(ax m.W m.H s).2).toNat)
theorem RO {g:bt} {s:Int} (hs:bG g.m.W g.m.H s):FA g s=(fD g.m s,true):=by unfold FA;rw[af hs]
theorem Pe {m:aJ} {s l:Int} {n:Nat} (h0:0<=l) (h1:l<n):rd (kD m s n) l=rd m.C (de m.W m.H s l):=by
 unfold kD;rw[jl bl];simp only[List.getElem_map,List.getElem_range];rw[show((l.toNat:Nat):Int)=l by omega]
variable {g : bt} {more : Int}
theorem OV (h:dA g more) {s:Int} (hs:bG g.m.W g.m.H s):l8 (fD g.m s):=by
 obtain⟨z1,z2,z3,z4⟩:=p7 hs;have hz:=zq g.m.W g.m.H s;have hv: ∀c:Int,0<=c->c<((ax g.m.W g.m.H s).1*(ax g.m.W g.m.H s).2).toNat->1<=rd (fD g.m s).C c/\rd (fD g.m s).C c<=255:=λc c0 c1=>by
  show 1<=rd (kD _ _ _) c/\rd (kD _ _ _) c<=255
  rw[Pe c0 c1];have:=Aa hs c0 U;exact h.sj _ this.1 this.2
 refine⟨⟨z1,z2,z3,z4,by simp[C4];omega,λhm=>?_⟩,λc c0 c1=>hv c c0 (by rw[C4] at c1;exact c1)⟩
 obtain⟨c,c0,c1,e⟩:=jJ hm;have:=hv c c0 (by rw[C4] at c1;exact c1)
 simp only at this;rw[e] at this;omega
theorem CM (h:dA g more) {c:Int} (hc:cO g.m c):0<=du g.m.W g.m.H c/\du g.m.W g.m.H c<(fD g.m (aX g.m.W g.m.H c)).C.length/\rd (fD g.m (aX g.m.W g.m.H c)).C (du g.m.W g.m.H c)=fI g c:=by
 have ez:=o0 h.ok hc;have cu:=D4 ez;refine⟨cu.1,by rw[C4];omega,?_⟩
 show rd (kD _ _ _) _=_
 rw[Pe cu.1 U,DB ez];unfold fI;rw[af hc]
variable {t : aJ} {l : List Int}
structure ES (t:aJ) (l:List Int):Prop where
 C3:l8 t
 mem: ∀c∈l,0<=c/\c<t.C.length/\rd t.C c≠255
 up:l.Pairwise (· < ·)
 jd:l.length<=256
abbrev KT:Int:=65024
def EV (t:aJ) (c:Int) (D:List Int):Prop:=ql t [⟨c,4,0⟩] KT D
theorem aiW (ht:l8 t) {c:Int} (c0:0<=c) (c1:c<t.C.length) (c2:rd t.C c≠255):Ok (xO.f t c) (λr=>EV t c r.1/\r.2=0):=by
 unfold xO.f;refine(Wz (K:=KT) ht bk (by decide) (λx hx=>?_)).bind λr hr=>Ok.pure ⟨hr.2,hr.1⟩
 simp only[List.mem_cons,List.not_mem_nil,or_false] at hx;subst hx;exact⟨⟨c0,c1,c2,Int.le_refl _,by show(0:Int)<=1073741824;decide,.inl J⟩,by show(0:Int)+254*256<=65024;decide⟩
theorem aiV (h:ES t l): ∀(n k:Nat) (i:Int),(l.length-i).toNat<=n->n<k->0<=i->p9.l0 k t l i=some true:=by
 have hf:=h.jd;have hl:=ox h.C3.1;have fin: ∀(k:Nat) (i:Int),¬i<l.length->p9.l0 (k+1) t l i=some true:=λk i hi=>by
  rw[p9.l0,ah hi,KO _ U,decide_eq_true h.C3.1];rfl
 intro n
 induction n with
 |zero=>
  intro k i hn hk hi;obtain⟨k,rfl⟩:=bh hk;exact fin k i U
 |succ n ih=>
  intro k i hn hk hi;obtain⟨k,rfl⟩:=bh hk
  by_cases aP:i<l.length
  ·have hm:=h.mem _ (dN hi aP);have hc:=h.C3.2 _ hm.1 hm.2.1;have et:A6.f t (rd l i)=some (rd t.C (rd l i)):=by rw[aiQ h.C3,af ⟨hm.1,hm.2.1⟩]
   rw[p9.l0,af aP,af (c:=0<=i/\i<(List.length l:Int)) ⟨hi,aP⟩,et,aK,ah (c:=(rd t.C (rd l i)==0||rd t.C (rd l i)==255)=true) bl]
   have e:(if i>0 then(if(0<=(aa (i-1))/\(aa (i-1))<(List.length l:Int)) then(some (decide ((rd l i)<=(rd l (aa (i-1)))))) else none) else(some false))=some false:=by
    by_cases z:i>0
    ·rw[af z,wi U U,af U,decide_eq_false (by have:=sT h.up (i:=i-1) (j:=i) U U aP;omega)]
    ·rw[ah z]
   rw[e,aK];simp only[Bool.false_eq_true,if_false];rw[wi U U];exact ih k (i+1) U U U
  ·exact fin k i aP
theorem Gl {n i j:Int} (i0:0<=i) (i1:i<n) (j0:0<=j) (j1:j<n):0<=i*n/\i*n+j<n*n:=by
 have h1:=Int.mul_le_mul_of_nonneg_right (show i+1<=n by omega) (show 0<=n by omega)
 have h2:=Int.mul_nonneg i0 (show 0<=n by omega)
 rw[Int.add_mul,Int.one_mul] at h1;omega
theorem T7 {n i j i' j':Int} (j0:0<=j) (j1:j<n) (j0':0<=j') (j1':j'<n) (e:i*n+j=i'*n+j'):i=i'/\j=j':=by
 have a:=qD (y:=i) j0 j1;have b:=qD (y:=i') j0' j1';rw[e] at a;exact⟨a.2.symm.trans b.2,a.1.symm.trans b.1⟩
def wm (t:aJ) (l:List Int) (j:Int) (x:List Int):Prop:=(x.length:Int)=l.length*l.length/\ ∀q:Int,0<=q->q<j-> ∃D,EV t (rd l q) D/\ ∀i:Int,0<=i->i<l.length->rd x (i*l.length+q)=rd D (rd l i)
theorem afv (h:ES t l) {j:Int} (j0:0<=j) (j1:j<l.length) {D:List Int×Int} (hD:EV t (rd l j) D.1): ∀(n k:Nat) (x:List Int) (i:Int),(l.length-i).toNat<=n->n<k->0<=i->wm t l j x->(∀q:Int,0<=q->q<i->rd x (q*l.length+j)=rd D.1 (rd l q))->
 Ok (jE.l1 k l j D x i) (wm t l (j+1)):=by
 have hf:=h.jd;have fin: ∀(k:Nat) (x:List Int) (i:Int),¬i<l.length->wm t l j x->(∀q:Int,0<=q->q<i->rd x (q*l.length+j)=rd D.1 (rd l q))->Ok (jE.l1 (k+1) l j D x i) (wm t l (j+1)):=λk x i hi hx hq=>by
  rw[jE.l1,ah hi];refine Ok.pure ⟨hx.1,λq q0 q1=>?_⟩
  by_cases z:q=j
  ·rw[z];exact⟨D.1,hD,λi i0 i1=>hq i i0 U⟩
  ·exact hx.2 q q0 U
 intro n
 induction n with
 |zero=>
  intro k x i hn hk hi hx hq;obtain⟨k,rfl⟩:=bh hk;exact fin k x i U hx hq
 |succ n ih=>
  intro k x i hn hk hi hx hq;obtain⟨k,rfl⟩:=bh hk
  by_cases aP:i<l.length
  ·have hm:=h.mem _ (dN hi aP);have cu:=Gl hi aP j0 j1;have Am:(l.length:Int)*l.length<=256*256:=kt U U U U;rw[jE.l1,wi (x:=i*(l.length:Int)) U U,wi (x:=i*(l.length:Int)+j) U U,wi (x:=i+1) U U];refine Ok.pos aP (Ok.cx ⟨hi,aP⟩ (Ok.cx (by rw[hD.dl];exact⟨hm.1,hm.2.1⟩) (Ok.cx (by rw[hx.1];omega) ?_)))
   have dI: ∀c:Int,0<=c->rd (List.set x (i*(l.length:Int)+j).toNat (rd D.1 (rd l i))) c=if c=i*(l.length:Int)+j then rd D.1 (rd l i) else rd x c:=λc c0=>kV U (by rw[hx.1];omega) c0
   refine ih k _ (i+1) U U U ⟨by simpa using hx.1,λq q0 q1=>?_⟩ (λq q0 q1=>?_)
   ·obtain⟨E,e1,e2⟩:=hx.2 q q0 q1;refine⟨E,e1,λr r0 r1=>?_⟩
    have:=Gl r0 r1 q0 (show q<l.length by omega)
    rw[dI _ U,ah (λz=>by have:=T7 q0 U j0 j1 z;omega)]
    exact e2 r r0 r1
   ·have:=Gl q0 (show q<l.length by omega) j0 j1
    rw[dI _ U]
    by_cases z:q=i
    ·rw[af (by rw[z]),z]
    ·rw[ah (λy=>z (T7 j0 j1 j0 j1 y).1)];exact hq q q0 U
  ·exact fin k x i aP hx hq
theorem afu (h:ES t l): ∀(n k:Nat) (x:List Int) (j:Int),(l.length-j).toNat<=n->n<k->0<=j->j<=l.length->wm t l j x->Ok (jE.l0 k t l x j) (λr=>r.2=0/\wm t l l.length r.1):=by
 have hf:=h.jd;have fin: ∀(k:Nat) (x:List Int) (j:Int),j<=l.length-> ¬j<l.length->wm t l j x->Ok (jE.l0 (k+1) t l x j) (λr=>r.2=0/\wm t l l.length r.1):=λk x j hj hi hx=>by
  rw[jE.l0,ah hi];have:j=l.length:=U;subst this;exact Ok.pure ⟨J,hx⟩
 intro n
 induction n with
 |zero=>
  intro k x j hn hk hj iG hx;obtain⟨k,rfl⟩:=bh hk;exact fin k x j iG U hx
 |succ n ih=>
  intro k x j hn hk hj iG hx;obtain⟨k,rfl⟩:=bh hk
  by_cases aP:j<l.length
  ·have hm:=h.mem _ (dN hj aP);rw[jE.l0,wi U U];refine Ok.pos aP (Ok.bind (P:=wm t l (j+1)) (Ok.cx ⟨hj,aP⟩ ((aiW h.C3 hm.1 hm.2.1 hm.2.2).bind λD hD=>?_)) λr hr=>ih k r (j+1) U U U U hr);exact afv h hj aP hD.1 l.length fuel x 0 U (by rw[cH];omega) U hx (λq q0 q1=>by omega)
  ·exact fin k x j iG aP hx
theorem aft (h:ES t l):Ok (jE.f t l) (λr=>r.2=0/\wm t l l.length r.1):=by
 have hf:=h.jd;unfold jE.f p9.f;have Am:(l.length:Int)*l.length<=256*256:=kt U U U U;have F6:0<=(l.length:Int)*l.length:=Int.mul_nonneg U U;rw[aiV h l.length fuel 0 U (by rw[cH];omega) U,wi U U]
 refine Ok.eq J (Ok.neg bk (Ok.cx U (afu h l.length fuel _ 0 U (by rw[cH];omega) U U ⟨by simp;omega,λq q0 q1=>by omega⟩)))
variable {g : bt} {more : Int}
theorem Po (h:dA g more) (s:Int):pP.f g s=some (fA g s):=by
 unfold pP.f fA;have hv:=h.vs
 by_cases hs:0<=s/\s<dP g.m.W g.m.H
 ·rw[ah U,aK,ah bl,af U,af hs]
 ·by_cases h0:s<0
  ·rw[af h0,ah hs];rfl
  ·rw[ah h0,aK,af bl,ah hs]
abbrev Az (m:aJ) (s:Int):List Int:=(bI m s).map (du m.W m.H)
theorem J6 (h:dA g more) {s:Int} (hs:bG g.m.W g.m.H s):ES (fD g.m s) (Az g.m s):=by
 refine⟨OV h hs,λc hc=>?_,?_,by simpa using vz g.m s⟩
 ·obtain⟨x,hx,rfl⟩:=List.mem_map.1 hc;obtain⟨n1,n2,n3,n4⟩:=uf hx;have:=CM h n2;rw[n4] at this;refine⟨this.1,this.2.1,?_⟩;rw[this.2.2];unfold fI;rw[af n2];exact(A1.1 n1).2
 ·rw[List.pairwise_map];refine(Oi g.m s).imp_of_mem λ{a b} ha hb u6=>?_
  obtain⟨_,a2,_,a4⟩:=uf ha;obtain⟨_,b2,_,b4⟩:=uf hb;exact N5 (o0 h.ok a2) (o0 h.ok b2) (a4.trans b4.symm) u6
def enc (d:Int):Int:=if d=cL then-1 else d
structure Bk (m:aJ) (s:Int) (p:pd):Prop where
 nodes:p.nodes=bI m s
 len_:(p.aQ.length:Int)=(bI m s).length*(bI m s).length
 QQ: ∀j:Int,0<=j->j<(bI m s).length-> ∃D,EV (fD m s) (du m.W m.H (rd (bI m s) j)) D/\ ∀i:Int,0<=i->i<(bI m s).length->rd p.aQ (i*(bI m s).length+j)=enc (rd D (du m.W m.H (rd (bI m s) i)))
theorem TZ {x:Int} (h0: -2147483648<=x) (h1:x<=2147483647):IntKind.i32.wrap x=x:=by
 unfold IntKind.wrap IntKind.signed IntKind.bits;simp;omega
theorem afH (v:Int) (nodes:List Int) (T:List Int×Int) (hT: ∀c:Int,0<=c->c<T.1.length->rd T.1 c=cL∨(0<=rd T.1 c/\rd T.1 c<=KT)) (hb:T.1.length<=65536): ∀(n k:Nat) (x:List Int) (i:Int),(T.1.length-i).toNat<=n->n<k->0<=i->x.length=T.1.length->(∀c:Int,0<=c->c<i->rd x c=enc (rd T.1 c))->
 Ok (jj.l1 k v nodes T x i) (λp=>p.version=v/\p.nodes=nodes/\p.aQ.length=T.1.length/\ ∀c:Int,0<=c->c<T.1.length->rd p.aQ c=enc (rd T.1 c)):=by
 have hI:cL=1099511627776:=rfl;have MG:KT=65024:=rfl;have fin: ∀(k:Nat) (x:List Int) (i:Int),¬i<T.1.length->x.length=T.1.length->(∀c:Int,0<=c->c<i->rd x c=enc (rd T.1 c))->Ok (jj.l1 (k+1) v nodes T x i) (λp=>p.version=v/\p.nodes=nodes/\p.aQ.length=T.1.length/\ ∀c:Int,0<=c->c<T.1.length->rd p.aQ c=enc (rd T.1 c)):=λk x i hi hx ha=>by
  rw[jj.l1,ah hi];exact Ok.pure ⟨J,J,hx,λc c0 c1=>ha c c0 U⟩
 intro n
 induction n with
 |zero=>
  intro k x i hn hk hi hx ha;obtain⟨k,rfl⟩:=bh hk;exact fin k x i U hx ha
 |succ n ih=>
  intro k x i hn hk hi hx ha;obtain⟨k,rfl⟩:=bh hk
  by_cases aP:i<T.1.length
  ·rw[jj.l1,wi (x:=i+1) U U];have s1: ∀(y:List Int) (u c:Int),y.length=T.1.length->0<=c->rd (List.set y i.toNat u) c=if c=i then u else rd y c:=λy u c hy c0=>kV hi U c0
   refine Ok.pos aP (Ok.cx ⟨hi,aP⟩ (Ok.cx U (Ok.ite (λq=>Ok.cx bl ?_) λq=>?_)))
   ·have q:rd T.1 i≠cL:=by simpa using q
    have hd:=(hT i hi aP).resolve_left q;rw[TZ U U];refine ih k _ (i+1) U U U (by simpa using hx) λc c0 c1=>?_
    rw[s1 _ _ c (by simpa using hx) c0,s1 _ _ c hx c0]
    by_cases z:c=i
    ·rw[af z,z];unfold enc;rw[ah q]
    ·rw[ah z,ah z];exact ha c c0 U
   ·have q:rd T.1 i=cL:=by simpa using q
    refine ih k _ (i+1) U U U (by simpa using hx) λc c0 c1=>?_
    rw[s1 _ _ c hx c0]
    by_cases z:c=i
    ·rw[af z,z];unfold enc;rw[af q]
    ·rw[ah z];exact ha c c0 U
  ·exact fin k x i aP hx ha
theorem afG (h:dA g more) {s:Int} (hs:bG g.m.W g.m.H s) (v:Int): ∀(n k:Nat) (x:List Int) (i:Int),((bI g.m s).length-i).toNat<=n->n<k->0<=i->i<=(bI g.m s).length->x=(Az g.m s).take i.toNat->
 Ok (jj.l0 k (g.m.W,g.m.H) (fD g.m s,true) v (bI g.m s) x i) (λp=>p.version=v/\Bk g.m s p):=by
 have hl:=vz g.m s;have fin: ∀(k:Nat) (x:List Int) (i:Int),¬i<(bI g.m s).length->i<=(bI g.m s).length->x=(Az g.m s).take i.toNat->Ok (jj.l0 (k+1) (g.m.W,g.m.H) (fD g.m s,true) v (bI g.m s) x i) (λp=>p.version=v/\Bk g.m s p):=λk x i hi dT hx=>by
  rw[jj.l0,ah hi];have hx:x=Az g.m s:=by rw[hx,List.take_of_length_le bl]
  subst hx;refine(aft (J6 h hs)).bind λT hT=>?_
  obtain⟨_,t1,t2⟩:=hT;have hlen:((Az g.m s).length:Int)=(bI g.m s).length:=by simp
  have Am:((bI g.m s).length:Int)*(bI g.m s).length<=256*256:=kt U U U U;rw[hlen] at t1 t2;have hT': ∀c:Int,0<=c->c<T.1.length->rd T.1 c=cL∨(0<=rd T.1 c/\rd T.1 c<=KT):=λc c0 c1=>by
   have hp:0<((bI g.m s).length:Int):=by
    apply Classical.byContradiction;intro z;have:((bI g.m s).length:Int)=0:=U;rw[this] at t1;omega
   have hm:=Int.emod_nonneg c (show((bI g.m s).length:Int)≠0 by omega)
   have wU:=Int.emod_lt_of_pos c hp;have FY:=Int.mul_ediv_add_emod c (bI g.m s).length;have hq:c/(bI g.m s).length<(bI g.m s).length:=Int.ediv_lt_of_lt_mul hp U;have F8:0<=c/(bI g.m s).length:=Int.ediv_nonneg c0 U;obtain⟨D,d1,d2⟩:=t2 _ hm wU;have:=d2 _ F8 hq;rw[Int.mul_comm,FY] at this;rw[this];have jg:=(J6 h hs).mem _ (dN (a:=Az g.m s) F8 U)
   by_cases z:rd D (rd (Az g.m s) (c/(bI g.m s).length))=cL
   ·exact .inl z
   ·have:=d1.dv _ jg.1 jg.2.1 z;exact .inr ⟨this.1,this.2.1⟩
  refine Ok.cx U ((afH v _ T hT' U T.1.length fuel _ 0 U (by rw[cH];omega) U bk (λc c0 c1=>by omega)).mono λp hp=>⟨hp.1,hp.2.1,by rw[hp.2.2.1];exact t1,λj j0 j1=>?_⟩)
  obtain⟨D,d1,d2⟩:=t2 j j0 j1;have hr: ∀i:Int,0<=i->i<(bI g.m s).length->rd (Az g.m s) i=du g.m.W g.m.H (rd (bI g.m s) i):=λi i0 i1=>ze i0 i1
  rw[hr j j0 j1] at d1;refine⟨D,d1,λi i0 i1=>?_⟩
  have:=Gl i0 i1 j0 j1;rw[hp.2.2.2 _ U (by rw[t1];omega),d2 i i0 i1,hr i i0 i1]
 intro n
 induction n with
 |zero=>
  intro k x i hn hk hi dT hx;obtain⟨k,rfl⟩:=bh hk;exact fin k x i U dT hx
 |succ n ih=>
  intro k x i hn hk hi dT hx;obtain⟨k,rfl⟩:=bh hk
  by_cases aP:i<(bI g.m s).length
  ·rw[jj.l0,wi (x:=i+1) U U];refine Ok.pos aP (Ok.cx ⟨hi,aP⟩ (Ok.eq (Gx ..) (Ok.cx (by rw[hx];simp;omega) (ih k _ (i+1) U U U U ?_))))
   rw[hx,HE hi (by simpa using aP),ze hi aP]
  ·exact fin k x i aP dT hx
theorem afJ (h:dA g more) {s:Int} (hs:bG g.m.W g.m.H s) (M:dz):Ok (jj.f M s g) (λp=>p.version=fA g s/\Bk g.m s p):=by
 have hl:=vz g.m s;unfold jj.f;refine Ok.eq (CQ g) (Ok.eq ((Pf h s).trans (by rw[RO hs])) ?_)
 rw[Po h,UQ h];exact Ok.eq J (afG h hs _ (bI g.m s).length fuel [] 0 U (by rw[cH];omega) U U J)
structure zN (g:bt) (M:dz):Prop where
 len_:(M.parts.length:Int)=dP g.m.W g.m.H
 le: ∀s:Int,bG g.m.W g.m.H s->(rd M.parts s).version<=g.bL
 ok: ∀s:Int,bG g.m.W g.m.H s->(rd M.parts s).version=fA g s->Bk g.m s (rd M.parts s)
 cl:M.clean=g.bL-> ∀s:Int,bG g.m.W g.m.H s->(rd M.parts s).version=fA g s
 LZ:M.clean<=g.bL
 eH:0<=M.count/\M.count<=1000000000000
def z_ (g:bt) (M:dz) (s:Nat):Bool:=(rd M.parts (s:Int)).version !=fA g s
def pK (g:bt) (M:dz) (n:Nat):List Int:=((List.range n).filter (z_ g M)).map Int.ofNat
theorem aaR (g:bt) (M:dz) (n:Nat):pK g M (n+1)=if z_ g M n=true then pK g M n++[(n:Int)] else pK g M n:=by
 unfold pK;rw[List.range_succ,List.filter_append,List.map_append]
 by_cases h:z_ g M n=true
 ·rw[af h,List.filter_cons_of_pos h];rfl
 ·rw[ah h,List.filter_cons_of_neg h];simp
theorem Ma (g:bt) (M:dz) (n:Nat):(pK g M n).length<=n:=by
 unfold pK;simp only[List.length_map];have:=List.length_filter_le (z_ g M) (List.range n);simpa using this
theorem Mb {M:dz} {n:Nat} {s:Int}:s∈pK g M n↔0<=s/\s<n/\(rd M.parts s).version≠fA g s:=by
 unfold pK;simp only[List.mem_map,List.mem_filter,List.mem_range];constructor
 ·rintro⟨a,⟨a1,a2⟩,rfl⟩;exact⟨by simp,by simpa using a1,by simpa[z_] using a2⟩
 ·rintro⟨h0,h1,h2⟩;refine⟨s.toNat,⟨by omega,?_⟩,by simp;omega⟩
  unfold z_;rw[show((s.toNat:Nat):Int)=s by omega];simpa using h2
theorem aaQ (h:dA g more) (M:dz) (hb:M.parts.length<=4096): ∀(n k:Nat) (i:Nat),i+n=M.parts.length->n<k->nq.l0 k M g (pK g M i) (i:Int)=some (pK g M M.parts.length):=by
 intro n
 induction n with
 |zero=>
  intro k i hi hk;obtain⟨k,rfl⟩:=bh hk;rw[nq.l0,ah U];have:i=M.parts.length:=U;rw[this]
 |succ n ih=>
  intro k i hi hk;obtain⟨k,rfl⟩:=bh hk;have hl:=Ma g M i;have:=ih k (i+1) U U;rw[aaR] at this;rw[nq.l0,af U,af U,Po h,aK,wi U U];have ed:((rd M.parts (i:Int)).version !=fA g i)=z_ g M i:=rfl;rw[ed]
  by_cases z:z_ g M i=true
  ·rw[af z] at this;rw[af z,af U];exact this
  ·rw[ah z] at this;rw[ah z];exact this
variable {M : dz}
theorem aaP (h:dA g more) (hM:zN g M):nq.f M g=some (pK g M M.parts.length):=by
 unfold nq.f;have hl:=hM.len_;have hc:=oQ g.m.W g.m.H;rw[Fx,aK]
 by_cases z:M.clean=g.bL
 ·rw[af (by simpa using z)]
  congr 1
  refine(List.eq_nil_iff_forall_not_mem.2 λs hs=>?_).symm;obtain⟨a,b,c⟩:=Mb.1 hs;exact c (hM.cl z s ⟨a,by omega⟩)
 ·rw[ah (by simpa using z)]
  exact aaQ h M U M.parts.length fuel 0 U (by rw[cH];omega)
structure qh (g:bt) (M:dz):Prop where
 ms:zN g M
 all: ∀s:Int,bG g.m.W g.m.H s->(rd M.parts s).version=fA g s
theorem qh.part (h:qh g M) {s:Int} (hs:bG g.m.W g.m.H s):Bk g.m s (rd M.parts s):=h.ms.ok s hs (h.all s hs)
theorem W5 {x:Int} (h1:0<=x) (h2:x<=18446744073709551615):eF x=x:=qT h1 h2
theorem zu {a b:Int} (a0:0<=a) (a1:a<=4611686018427387904) (b0:0<=b) (b1:b<=4611686018427387904):rR.f a b=some (a+b):=by
 unfold rR.f;rw[W5 U U,ah U,W5 U U]
theorem ahe (h:dA g more) (hv: ∀s:Int,bG g.m.W g.m.H s->fA g s<=g.bL) (L:List Int) (hL: ∀s∈L,bG g.m.W g.m.H s) (hb:L.length<=4096) (N:Int): ∀(n k:Nat) (i:Int) (M:dz),(L.length-i).toNat<=n->n<k->0<=i->i<=L.length->zN g M->M.count+(L.length-i)=N->
 (∀s:Int,bG g.m.W g.m.H s->(rd M.parts s).version=fA g s∨ ∃j:Int,i<=j/\j<L.length/\rd L j=s)->N<=1000000000000->
 Ok (nt.l0 k g L M i) (λr=>r.1=L.length/\qh g r.2/\r.2.clean=g.bL/\r.2.count=N):=by
 have fin: ∀(k:Nat) (i:Int) (M:dz),¬i<L.length->i<=L.length->zN g M->M.count+(L.length-i)=N->(∀s:Int,bG g.m.W g.m.H s->(rd M.parts s).version=fA g s∨ ∃j:Int,i<=j/\j<L.length/\rd L j=s)->Ok (nt.l0 (k+1) g L M i) (λr=>r.1=L.length/\qh g r.2/\r.2.clean=g.bL/\r.2.count=N):=λk i M hi dT hM hN ha=>by
  rw[nt.l0,ah hi];have tN: ∀s:Int,bG g.m.W g.m.H s->(rd M.parts s).version=fA g s:=λs hs=>(ha s hs).resolve_right λ⟨j,j0,j1,_⟩=>by omega
  refine Ok.eq (Fx g) (Ok.pure ⟨J,⟨⟨hM.len_,hM.le,hM.ok,λ_=>tN,Int.le_refl _,hM.eH⟩,tN⟩,J,?_⟩);simp only;omega
 intro n
 induction n with
 |zero=>
  intro k i M hn hk hi dT hM hN ha RY;obtain⟨k,rfl⟩:=bh hk;exact fin k i M U dT hM hN ha
 |succ n ih=>
  intro k i M hn hk hi dT hM hN ha RY;obtain⟨k,rfl⟩:=bh hk
  by_cases aP:i<L.length
  ·have hs:=hL _ (dN hi aP);have hc:=hM.eH;rw[nt.l0,wi (x:=i+1) U U];refine Ok.pos aP (Ok.cx ⟨hi,aP⟩ ((afJ h hs M).bind λp hp=>Ok.cx (by rw[hM.len_];exact hs) (Ok.eq (zu hc.1 U U U) ?_)))
   have dI: ∀s:Int,0<=s->rd (List.set M.parts (rd L i).toNat p) s=if s=rd L i then p else rd M.parts s:=λs s0=>kV hs.1 (by rw[hM.len_];exact hs.2) s0
   refine ih k (i+1) _ U U U U ⟨by simpa using hM.len_,λs fJ=>?_,λs fJ e=>?_,λe s fJ=>?_,hM.LZ,by simp only;omega⟩ (by simp only;omega) (λs fJ=>?_) RY
   ·rw[dI s fJ.1];split
    ·rw[hp.1];exact hv _ hs
    ·exact hM.le s fJ
   ·rw[dI s fJ.1] at e⊢;split
    ·rename_i z;rw[z];exact hp.2
    ·rename_i z;rw[ah z] at e;exact hM.ok s fJ e
   ·rw[dI s fJ.1];split
    ·rename_i z;rw[z];exact hp.1
    ·exact hM.cl e s fJ
   ·simp only;rw[dI s fJ.1]
    by_cases z:s=rd L i
    ·rw[af z,z];exact .inl hp.1
    ·rw[ah z];rcases ha s fJ with y |⟨j,j0,j1,y⟩
     ·exact .inl y
     ·refine .inr ⟨j,?_,j1,y⟩;have:j≠i:=λw=>z (by rw[<-y,w])
      omega
  ·exact fin k i M aP dT hM hN ha
theorem ahd (h:dA g more) (hv: ∀s:Int,bG g.m.W g.m.H s->fA g s<=g.bL) (hM:zN g M) (hc:M.count+4096<=1000000000000):
 Ok (nt.f M g) (λr=>qh g r.2/\r.2.clean=g.bL/\r.2.count=M.count+(pK g M M.parts.length).length):=by
 unfold nt.f;have hl:=hM.len_;have Nf:=oQ g.m.W g.m.H;have BT:=Ma g M M.parts.length;refine Ok.eq (aaP h hM) ((ahe h hv _ (λs hs=>?_) U (M.count+(pK g M M.parts.length).length) (pK g M M.parts.length).length fuel 0 M U (by rw[cH];omega) U U hM U (λs hs=>?_) U).mono λr hr=>hr.2)
 ·obtain⟨a,b,_⟩:=Mb.1 hs;exact⟨a,by omega⟩
 ·by_cases z:(rd M.parts s).version=fA g s
  ·exact .inl z
  ·obtain⟨j,j0,j1,e⟩:=jJ ((Mb (n:=M.parts.length)).2 ⟨hs.1,by have:=hs.2;omega,z⟩)
   exact .inr ⟨j,j0,j1,e⟩
theorem afK (h:dA g more) (hv: ∀s:Int,bG g.m.W g.m.H s->1<=fA g s): ∃M,rI.f g=some (some M)/\zN g M/\M.count=0/\M.clean=0/\ ∀s:Int,bG g.m.W g.m.H s->(rd M.parts s).version=0:=by
 unfold rI.f;have Nf:=oQ g.m.W g.m.H;have e:(bn g.m.W g.m.H).1*(bn g.m.W g.m.H).2=dP g.m.W g.m.H:=rfl;rw[CQ,aK,Eu,aK,e,wi U U,af U];have h0: ∀s:Int,bG g.m.W g.m.H s->(rd (List.replicate (dP g.m.W g.m.H).toNat (default:pd)) s).version=0:=λs hs=>by
  rw[vD hs.1 (by have:=hs.2;omega)];rfl
 have Nn:=h.ep;refine⟨_,J,⟨by simp;omega,λs hs=>by simp only;rw[h0 s hs];omega,λs hs e=>?_,λe=>by simp only at e;omega,by simp only;omega,by simp⟩,J,J,h0⟩
 simp only at e;rw[h0 s hs] at e;have:=hv s hs;omega
section
variable {g : bt} {more : Int} {s : iU} {k : Int} {ord : List Int}
abbrev KF:Int:=104603678
abbrev CB:Int:=1000000000000
structure qg (c:gv) (b:Int):Prop where
 re:0<=c.bC/\c.bC<=b
 se:0<=c.bD/\c.bD<=b
 bu:0<=c.bA/\c.bA<=b
 hi:0<=c.bx/\c.bx<=b
 st:0<=c.bM/\c.bM<=b
 ev:0<=c.bE/\c.bE<=b
theorem qg.mono {c:gv} {b b':Int} (h:qg c b) (hb:b<=b'):qg c b':=by
 obtain⟨a1,a2,a3,a4,a5,a6⟩:=h;exact⟨by omega,by omega,by omega,by omega,by omega,by omega⟩
structure Bm (g:bt) (s:iU) (k:Int) (ord:List Int):Prop where
 mC:pA s.keys k ord
 fl:s.fields.length=s.keys.ak.length
 ok: ∀c:Int,0<=c->c<s.fields.length->cO g.m (rd s.keys.ak c).key.1/\bG g.m.W g.m.H (rd s.keys.ak c).key.2/\(rd s.fields c).version<=g.bL/\
  ((rd s.fields c).version=fA g (rd s.keys.ak c).key.2->(rd s.fields c).tk.length<=1000000/\wo (fD g.m (rd s.keys.ak c).key.2) (rd s.fields c).tk KF (rd s.fields c).field)
def QD (s:iU) (a b v:Int) (l:List aZ):Prop:= ∃c,cY s.keys.ft (a,b)=some c/\(rd s.fields c).version=v/\(rd s.fields c).tk=l
theorem Va (f:fX) (h1:f.fa.length<=1000) (h2:f.cz.length<=1000):tl.f f=some f:=by
 unfold tl.f p8.f;rw[af bl,aK,af bl,aK]
 cases f;rfl
theorem Kk {c:Int} (h0:0<=c) (h1:c<=1000000000000):mg.f c=some (c+1):=by
 unfold mg.f;rw[zu h0 U U U];rfl
theorem aal (l:List aZ) (hb:l.length<=1000000):rP.f l=some l:=by
 unfold rP.f;rw[af bl];rfl
theorem Mp (h:dA g more) {b:Int} (hb:bG g.m.W g.m.H b) {l:List aZ} {f:fX} (hf:wo (fD g.m b) l KF f):f.fa.length<=1000/\f.cz.length<=1000:=by
 have:=ox (OV h hb).1;rw[hf.aQ.dl,hf.dl];omega
structure Px (g:bt) (s:iU) (k:Int) (ord:List Int) (a b:Int) (l:List aZ) (r:fX×Int×iU):Prop where
 code:r.2.1=0
 Dy:wo (fD g.m b) l KF r.1
 sh: ∃c A B,Bm g r.2.2 k (c::(A++B))/\(rd r.2.2.keys.ak c).key=(a,b)/\(ord=A++c::B∨ord=A++B)/\
  ∀d∈A++B,(rd r.2.2.keys.ak d).key=(rd s.keys.ak d).key/\rd r.2.2.fields d=rd s.fields d
 now:QD r.2.2 a b (fA g b) l
 hit:QD s a b (fA g b) l->r.2.2.count=⟨s.count.bC,s.count.bD,s.count.bA,s.count.bx+1,s.count.bM,s.count.bE⟩
 eH:r.2.2.count.bC=s.count.bC/\r.2.2.count.bD=s.count.bD/\s.count.bA<=r.2.2.count.bA/\s.count.bx<=r.2.2.count.bx/\r.2.2.count.bA+r.2.2.count.bx=s.count.bA+s.count.bx+1/\s.count.bM<=r.2.2.count.bM/\s.count.bE<=r.2.2.count.bE/\r.2.2.count.bM<=s.count.bM+1/\r.2.2.count.bE<=s.count.bE+1
theorem ah8 (h:dA g more) (hv: ∀b:Int,bG g.m.W g.m.H b->fA g b<=g.bL) (hs:Bm g s k ord) (hc:qg s.count CB) {a b:Int} (ha:cO g.m a) (hb:bG g.m.W g.m.H b) (l:List aZ) (JF:l.length<=1000000) (hl: ∀x∈l,qk (fD g.m b) x/\x.Key+254*256<=KF):
 Ok (mf.f s a b (fA g b) (fD g.m b) l) (Px g s k ord a b l):=by
 have ht:=OV h hb;have JD:=hs.mC.kb;have JA:=hs.mC.jd;obtain⟨c1,c2,c3,c4,c5,c6⟩:=hc;unfold mf.f;refine(Wv ht l JF).bind λm hm=>?_
 have:m=true:=hm.2 λx hx=>(hl x hx).1;subst this;refine Ok.neg bk ((ai4 hs.mC a b).bind λv NM=>?_);obtain⟨A,B,hL,Af⟩:=NM;have hfl:=hs.fl;have qu:=(hL.mem v.1).1 (List.mem_cons_self ..);obtain⟨TP,TQ⟩:v.1∉A/\v.1∉B:=by
  have:=(List.nodup_cons.1 hL.nd).1;simpa using this
 obtain⟨X,hX,R7,BN⟩: ∃X,(if(v.1==(List.length s.fields:Int))=true then(if(List.length s.fields+1<=1099511627776) then(some (s.fields++[(pZ.mk 0 [] (fX.mk [] []))])) else none) else(some s.fields))=some X/\X.length=v.2.2.2.ak.length/\ ∀d:Int,0<=d->d<s.fields.length->rd X d=rd s.fields d:=by
  rcases Af with⟨_,_,_,B0,h5,_⟩ |⟨_,_,_,_,h4,h5,_⟩ |⟨_,_,_,B0,_,h4,h5,_⟩
  ·rw[ah bl];exact⟨_,J,by omega,λ_ _ _=>rfl⟩
  ·rw[af bl,af U];exact⟨_,J,by simp;omega,λd d0 d1=>zd d0 d1⟩
  ·rw[ah bl];exact⟨_,J,by omega,λ_ _ _=>rfl⟩
 rw[hX,aK];refine Ok.cx U ?_;have hKF:KF<=1100000000:=by decide
 have BV:(rd v.2.2.2.ak v.1).key=(a,b):=by
  rcases Af with⟨_,_,h3,_,_,h6⟩ |⟨_,_,_,_,_,_,_,h6⟩ |⟨_,_,_,_,_,_,_,_,h6⟩
  ·rw[h6 _ qu.1];exact((hs.mC.sl _ _).1 h3).2.2
  ·exact h6
  ·exact h6
 have Nv: ∀d∈A++B,0<=d/\d<s.fields.length/\(rd v.2.2.2.ak d).key=(rd s.keys.ak d).key:=λd hd=>by
  have tU:d≠v.1:=λz=>by rw[z] at hd;exact(List.mem_append.1 hd).elim TP TQ
  have Nj:d∈ord:=by
   rcases Af with⟨_,_,_,e,_⟩ |⟨_,_,_,e,_⟩ |⟨_,_,_,e,_⟩<;>rw[e]
   ·rcases List.mem_append.1 hd with q |q
    ·exact List.mem_append_left _ q
    ·exact List.mem_append_right _ (List.mem_cons_of_mem _ q)
   ·exact hd
   ·rcases List.mem_append.1 hd with q |q
    ·exact List.mem_append_left _ q
    ·exact List.mem_append_right _ (List.mem_cons_of_mem _ q)
  have hr:=(hs.mC.mem d).1 Nj;refine⟨hr.1,by omega,?_⟩
  rcases Af with⟨_,_,_,_,_,h6⟩ |⟨_,_,_,_,_,_,h6,_⟩ |⟨_,_,_,_,_,_,_,h6,_⟩
  ·exact h6 d hr.1
  ·exact h6 d hr.1 hr.2
  ·exact h6 d hr.1 tU
 have TF:ord=A++v.1::B∨ord=A++B:=by
  rcases Af with⟨_,_,_,e,_⟩ |⟨_,_,_,e,_⟩ |⟨_,_,_,e,_⟩
  ·exact .inl e
  ·exact .inr e
  ·exact .inl e
 have hq:(if v.2.1=true then(if((rd X v.1).version==fA g b)=true then((AU.f ((rd X v.1).tk) l).bind λv7=>some v7) else(some false)) else(some false))=some (decide (v.2.1=true/\(rd X v.1).version=fA g b/\(rd X v.1).tk=l)):=by
  by_cases z:v.2.1=true
  ·rw[af z]
   by_cases y:(rd X v.1).version=fA g b
   ·rw[af (by simpa using y)]
    have hlen:(rd X v.1).tk.length<=1000000:=by
     rcases Af with⟨_,_,h3,B0,h5,h6⟩ |⟨h1,_⟩ |⟨h1,_⟩
     ·have aP:v.1<s.fields.length:=U;rw[BN _ qu.1 aP] at y⊢;have:=(hs.ok _ qu.1 aP).2.2.2;rw[<-h6 _ qu.1,BV] at this;exact(this y).1
     ·rw[h1] at z;simp at z
     ·rw[h1] at z;simp at z
    rw[aix _ _ hlen];simp[z,y]
   ·rw[ah (by simpa using y)];simp[y]
  ·rw[ah z];simp[z]
 rw[hq,aK];refine Ok.ite (λq=>?_) λq=>?_
 ·obtain⟨q1,q2,q3⟩:=of_decide_eq_true q;rcases Af with⟨h1,h2,h3,B0,h5,h6⟩ |⟨h1,_⟩ |⟨h1,_⟩
  rotate_left
  ·rw[h1] at q1;simp at q1
  ·rw[h1] at q1;simp at q1
  have aP:v.1<s.fields.length:=U;have Tr:wo (fD g.m b) l KF (rd X v.1).field:=by
   have:=(hs.ok _ qu.1 aP).2.2.2;rw[<-h6 _ qu.1,BV] at this;rw[BN _ qu.1 aP] at q2 q3⊢;have:=(this q2).2;rw[q3] at this;exact this
  have hlen:=Mp h hb Tr;refine Ok.eq (Kk c4.1 c4.2) (Ok.eq (Va _ hlen.1 hlen.2) (Ok.pure ⟨J,Tr,⟨v.1,A,B,⟨hL,R7,λd d0 d1=>?_⟩,BV,TF,λd hd=>?_⟩,⟨v.1,(hL.sl _ _).2 ⟨qu.1,qu.2,BV⟩,q2,q3⟩,λ_=>rfl,⟨J,J,Int.le_refl _,by show s.count.bx<=s.count.bx+1;omega,by show s.count.bA+(s.count.bx+1)=s.count.bA+s.count.bx+1;omega,Int.le_refl _,Int.le_refl _,by show s.count.bM<=s.count.bM+1;omega,by show s.count.bE<=s.count.bE+1;omega⟩⟩))
  ·simp only at d1⊢;have Tf:d<s.fields.length:=U;rw[h6 d d0,BN d d0 Tf];exact hs.ok d d0 Tf
  ·obtain⟨e0,e1,e2⟩:=Nv d hd;exact⟨e2,BN d e0 e1⟩
 ·have mc: ∃S,(if v.2.1=true then((mg.f s.count.bM).bind λv12=>some v12) else(some s.count.bM))=some S/\s.count.bM<=S/\S<=s.count.bM+1:=by
   split
   ·rw[Kk c5.1 c5.2];exact⟨_,J,by omega,Int.le_refl _⟩
   ·exact⟨_,J,Int.le_refl _,by omega⟩
  have hev: ∃S,(if v.2.2.1=true then((mg.f s.count.bE).bind λv12=>some v12) else(some s.count.bE))=some S/\s.count.bE<=S/\S<=s.count.bE+1:=by
   split
   ·rw[Kk c6.1 c6.2];exact⟨_,J,by omega,Int.le_refl _⟩
   ·exact⟨_,J,Int.le_refl _,by omega⟩
  obtain⟨S,eS,S1,S2⟩:=mc;obtain⟨E,eE,E1,E2⟩:=hev;rw[eS,aK,eE,aK,Kk c3.1 c3.2,aK];refine(aa8 ht JF hKF hl).bind λf hf=>Ok.eq (aal l JF) (Ok.eq (Va _ (Mp h hb hf.2).1 (Mp h hb hf.2).2) (Ok.pure ?_));have dI: ∀d:Int,0<=d->rd (List.set X (Int.toNat v.1) (pZ.mk (fA g b) l f.1)) d=if d=v.1 then pZ.mk (fA g b) l f.1 else rd X d:=λd d0=>kV qu.1 U d0
  refine⟨rfl,hf.2,⟨v.1,A,B,⟨hL,by simpa using R7,λd d0 d1=>?_⟩,BV,TF,λd hd=>?_⟩,⟨v.1,(hL.sl _ _).2 ⟨qu.1,qu.2,BV⟩,?_,?_⟩,λ⟨c,k1,k2,k3⟩=>?_,⟨rfl,rfl,by show s.count.bA<=s.count.bA+1;omega,Int.le_refl _,by show s.count.bA+1+s.count.bx=s.count.bA+s.count.bx+1;omega,S1,E1,S2,E2⟩⟩
  ·simp only[List.length_set] at d1⊢;rw[dI d d0]
   by_cases z:d=v.1
   ·rw[af z,z,BV];exact⟨ha,hb,hv b hb,λ_=>⟨JF,hf.2⟩⟩
   ·rw[ah z];have Nj:d∈A++B:=by
     have:=(hL.mem d).2 ⟨d0,by omega⟩
     exact(List.mem_cons.1 this).resolve_left z
    obtain⟨e0,e1,e2⟩:=Nv d Nj;rw[e2,BN d e0 e1];exact hs.ok d e0 e1
  ·obtain⟨e0,e1,e2⟩:=Nv d hd;have tU:d≠v.1:=λz=>by rw[z] at hd;exact(List.mem_append.1 hd).elim TP TQ
   refine⟨e2,?_⟩;simp only;rw[dI d e0,ah tU];exact BN d e0 e1
  ·simp only;rw[dI _ qu.1,af J]
  ·simp only;rw[dI _ qu.1,af J]
  ·exfalso;rcases Af with⟨h1,h2,h3,B0,h5,h6⟩ |⟨_,_,h3,_⟩ |⟨_,_,h3,_⟩
   ·rw[h3] at k1;simp only[Option.some.injEq] at k1;subst k1;have aP:v.1<s.fields.length:=U;have q: ¬(v.2.1=true/\(rd X v.1).version=fA g b/\(rd X v.1).tk=l):=by simpa using q
    rw[BN _ qu.1 aP] at q;exact q ⟨h1,k2,k3⟩
   ·rw[h3] at k1;simp at k1
   ·rw[h3] at k1;simp at k1
theorem aii {k:Int} (h1:1<=k) (h2:k<=1000000): ∃s,xE.f k=some (some s)/\pA s.keys k []/\s.fields=[]/\s.count=⟨0,0,0,0,0,0⟩:=by
 obtain⟨l,e,hl⟩:=afo h1 h2;unfold xE.f;rw[ah U,e];exact⟨_,J,hl,J,J⟩
theorem Rq (h:pA s.keys k ord): ∃s',pw.f s=some s'/\pA s'.keys k []/\s'.fields=[]/\s'.count=s.count:=by
 obtain⟨l,e,hl⟩:=aaj h;unfold pw.f;rw[e];exact⟨_,J,hl,J,J⟩
theorem Bm.empty (g:bt) (h:pA s.keys k []) (hf:s.fields=[]):Bm g s k []:=by
 have hl:s.keys.ak.length=0:=by
  apply Classical.byContradiction;intro z;have:=(h.mem 0).2 U;simp at this
 exact⟨h,by rw[hf,hl];rfl,λc c0 c1=>by rw[hf] at c1;simp at c1;omega⟩
end
variable {g : bt} {more : Int} {M : dz}
theorem afl (x y:Int):cmp_Less_int.f x y=some (decide (x<y)):=by
 unfold cmp_Less_int.f cmp_isNaN_int.f;simp
theorem Zz (x:List Int) (t:Int) (hx:x.Pairwise (· < ·)) (hb:x.length<=1000000): ∀(n k:Nat) (i j:Int),(j-i).toNat<=n->n<k->0<=i->i<=j->j<=x.length->(∀c:Int,0<=c->c<i->rd x c<t)->(∀c:Int,j<=c->c<x.length->t<=rd x c)->
 Ok (ov.l0 k x t i j) (λr=>0<=r/\r<=x.length/\(∀c:Int,0<=c->c<r->rd x c<t)/\(∀c:Int,r<=c->c<x.length->t<=rd x c)):=by
 have fin: ∀(k:Nat) (i j:Int),¬i<j->0<=i->i<=j->j<=x.length->(∀c:Int,0<=c->c<i->rd x c<t)->(∀c:Int,j<=c->c<x.length->t<=rd x c)->Ok (ov.l0 (k+1) x t i j) (λr=>0<=r/\r<=x.length/\(∀c:Int,0<=c->c<r->rd x c<t)/\(∀c:Int,r<=c->c<x.length->t<=rd x c)):=λk i j rE h0 h1 h2 ha hb=>by
  rw[ov.l0,ah rE];exact Ok.pure ⟨h0,by omega,ha,λc c0 c1=>hb c U c1⟩
 intro n
 induction n with
 |zero=>
  intro k i j hn hk h0 h1 h2 ha hb;obtain⟨k,rfl⟩:=bh hk;exact fin k i j U h0 h1 h2 ha hb
 |succ n ih=>
  intro k i j hn hk h0 h1 h2 ha hb;obtain⟨k,rfl⟩:=bh hk
  by_cases aP:i<j
  ·have e:aa (Int.fdiv (eF (aa (i+j))) (2^1))=(i+j)/2:=by
    rw[wi (x:=i+j) U U,qT U U,Int.fdiv_eq_ediv_of_nonneg _ (by decide),show(2:Int)^1=2 from rfl,wi U U]
   rw[ov.l0,e,wi (x:=(i+j)/2+1) U U];refine Ok.pos aP (Ok.cx U (Ok.eq (afl ..) (Ok.ite (λq=>?_) λq=>?_)))
   ·have q:=of_decide_eq_true q;refine ih k _ j U U U U h2 (λc c0 c1=>?_) hb
    by_cases z:c=(i+j)/2
    ·rw[z];exact q
    ·have:=sT hx (i:=c) (j:=(i+j)/2) c0 U U;omega
   ·have q: ¬rd x ((i+j)/2)<t:=by simpa using q
    refine ih k i _ U U h0 U U ha (λc c0 c1=>?_)
    by_cases z:c=(i+j)/2
    ·rw[z];omega
    ·have:=sT hx (i:=(i+j)/2) (j:=c) U U c1;omega
  ·exact fin k i j aP h0 h1 h2 ha hb
theorem Zy (x:List Int) (t:Int) (hx:x.Pairwise (· < ·)) (hb:x.length<=1000000):Ok (ov.f x t) (λr=>(r.2=true↔t∈x)/\(r.2=true->0<=r.1/\r.1<x.length/\rd x r.1=t)):=by
 unfold ov.f AX.f;refine(Zz x t hx hb x.length fuel 0 x.length U (by rw[cH];omega) U U U (λc c0 c1=>by omega) (λc c0 c1=>by omega)).bind λr hr=>?_
 obtain⟨r0,r1,r2,r3⟩:=hr;have gz:(r<x.length->rd x r≠t)->t∉x:=λh hm=>by
  obtain⟨c,c0,c1,e⟩:=jJ hm;rcases Int.lt_trichotomy c r with q |q |q
  ·have:=r2 c c0 q;omega
  ·subst q;exact h c1 e
  ·have:=sT hx r0 q c1;have:=r3 r U U;omega
 by_cases h1:r<x.length
 ·rw[af h1,af ⟨r0,h1⟩]
  by_cases h2:rd x r=t
  ·rw[af (by simpa using h2)]
   exact Ok.pure ⟨⟨λ_=>by rw[<-h2];exact dN r0 h1,λ_=>rfl⟩,λ_=>⟨r0,h1,h2⟩⟩
  ·rw[ah (by simpa using h2)]
   have:=gz λ_=>h2
   simp only[aK,bne_self_eq_false,Bool.false_eq_true,if_false];exact Ok.pure ⟨by simpa using this,by simp⟩
 ·rw[ah h1];have:=gz λq=>absurd q h1
  exact Ok.pure ⟨by simpa using this,by simp⟩
def node (m:aJ) (c:Int):Prop:=c∈bI m (aX m.W m.H c)
theorem Cr {m:aJ} {c:Int} (h:node m c):lV m c=true/\cO m c:=⟨(uf h).1,(uf h).2.1⟩
theorem Kh {m:aJ} {s c:Int} (h:c∈bI m s):node m c:=by
 unfold node;rw[(uf h).2.2.2];exact h
theorem Rk (h:dA g more) (hF:qh g M) (c:Int):Ok (sK.f M c g) (λr=>(¬bU g.m.W g.m.H c/\r=(none,0,false))∨(bU g.m.W g.m.H c/\r.1=some (aX g.m.W g.m.H c)/\(r.2.2=true↔node g.m c)/\(r.2.2=true->0<=r.2.1/\r.2.1<(bI g.m (aX g.m.W g.m.H c)).length/\rd (bI g.m (aX g.m.W g.m.H c)) r.2.1=c))):=by
 unfold sK.f D6.f;refine Ok.eq (CQ g) (Ok.eq (tj ..) (Ok.ite (λq=>Ok.pure (.inl ⟨zn.1 q,J⟩)) λq=>?_));have hc:bU g.m.W g.m.H c:=Classical.byContradiction λz=>q (zn.2 z);have hs:=vS hc;have hp:=hF.part hs;refine Ok.cx (by rw[hF.ms.len_];exact hs) ?_
 rw[hp.nodes];refine Ok.bind (Ok.bind (Zy _ c (Oi ..) (by have:=vz g.m (aX g.m.W g.m.H c);omega)) λr hr=>Ok.pure (P:=λr:Int×Bool=>(r.2=true↔node g.m c)/\(r.2=true->0<=r.1/\r.1<(bI g.m (aX g.m.W g.m.H c)).length/\rd (bI g.m (aX g.m.W g.m.H c)) r.1=c)) hr) λr hr=>Ok.pure (.inr ⟨hc,J,hr⟩)
theorem agf (hF:qh g M) (s:Int) (hs:bG g.m.W g.m.H s):xg.f M s g=some (bI g.m s):=by
 have hp:=hF.part hs;have hl:=vz g.m s;unfold xg.f p8.f;have:=hs.1;have:=hs.2;rw[hF.ms.len_,ah U,hp.nodes];simp only[aK];rw[ah bl,af hs,af bl];rfl
def Comes (m:aJ) (b:Int) (e:dR):Prop:=
 (e.To∈bI m (aX m.W m.H b)/\e.To≠b/\e.kE≠cL/\ ∃D,EV (fD m (aX m.W m.H b)) (du m.W m.H b) D/\e.kE=rd D (du m.W m.H e.To))∨
 (node m e.To/\aX m.W m.H e.To≠aX m.W m.H b/\(∃d:Int,0<=d/\d<=3/\e.To=cD m.W m.H b d)/\e.kE=rd m.C b)
theorem aa0 {d:Int} (h:d=cL∨(0<=d/\d<=KT)):(if(enc d != -1)=true then some (aa (enc d)) else some 1099511627776)=some d:=by
 have hI:cL=1099511627776:=rfl;have hK:KT=65024:=rfl;unfold enc
 by_cases z:d=cL
 ·simp[z]
 ·have:=h.resolve_left z;rw[ah z,af bl,wi U U]
theorem aeA (h:dA g more) (hF:qh g M) {b:Int} (hb:node g.m b) (v:Option Int×Int×Bool) (hv:0<=v.2.1/\v.2.1<(bI g.m (aX g.m.W g.m.H b)).length/\rd (bI g.m (aX g.m.W g.m.H b)) v.2.1=b)
 (Q:List dR->Prop) (DP: ∀x:List dR,x.length<=256->(∀e,e∈x↔Comes g.m b e/\aX g.m.W g.m.H e.To=aX g.m.W g.m.H b)->Ok (gO.l1 fuel M b g (aX g.m.W g.m.H b) (g.m.W,g.m.H) x 0) Q):
 ∀(n k:Nat) (i:Int) (x:List dR),((bI g.m (aX g.m.W g.m.H b)).length-i).toNat<=n->n<k->0<=i->i<=(bI g.m (aX g.m.W g.m.H b)).length->x.length<=i->
 (∀e,e∈x↔Comes g.m b e/\aX g.m.W g.m.H e.To=aX g.m.W g.m.H b/\ ∃j:Int,0<=j/\j<i/\rd (bI g.m (aX g.m.W g.m.H b)) j=e.To)->
 Ok (gO.l0 k M b g v (aX g.m.W g.m.H b) x i) Q:=by
 have cu:=(Cr hb).2;have hs:=vS (o0 h.ok cu);have hp:=hF.part hs;have hN:=vz g.m (aX g.m.W g.m.H b);have BW:=J6 h hs;have hI:cL=1099511627776:=rfl;have MG:KT=65024:=rfl;generalize hS:aX g.m.W g.m.H b=s at*;have TK:=Oi g.m s;have fin: ∀(k:Nat) (i:Int) (x:List dR),¬i<(bI g.m s).length->i<=(bI g.m s).length->x.length<=i->(∀e,e∈x↔Comes g.m b e/\aX g.m.W g.m.H e.To=s/\ ∃j:Int,0<=j/\j<i/\rd (bI g.m s) j=e.To)->Ok (gO.l0 (k+1) M b g v s x i) Q:=λk i x hi dT hx he=>by
  rw[gO.l0,hp.nodes,ah hi];refine Ok.eq (CQ g) (DP x U λe=>(he e).trans ⟨λq=>⟨q.1,q.2.1⟩,λq=>⟨q.1,q.2,?_⟩⟩);rcases q.1 with⟨y,_⟩ |⟨_,y,_⟩
  ·rw[hS] at y;obtain⟨j,j0,j1,z⟩:=jJ y;exact⟨j,j0,by omega,z⟩
  ·rw[hS] at y;exact absurd q.2 y
 intro n
 induction n with
 |zero=>
  intro k i x hn hk hi dT hx he;obtain⟨k,rfl⟩:=bh hk;exact fin k i x U dT hx he
 |succ n ih=>
  intro k i x hn hk hi dT hx he;obtain⟨k,rfl⟩:=bh hk
  by_cases aP:i<(bI g.m s).length
  ·obtain⟨D,d1,d2⟩:=hp.QQ v.2.1 hv.1 hv.2.1;rw[hv.2.2] at d1;have ajB:=Gl hi aP hv.1 hv.2.1;have Am:((bI g.m s).length:Int)*(bI g.m s).length<=256*256:=kt U U U U;have NG:=dN hi aP;have jg:=BW.mem _ (List.mem_map_of_mem NG);have hd:rd D (du g.m.W g.m.H (rd (bI g.m s) i))=cL∨(0<=rd D (du g.m.W g.m.H (rd (bI g.m s) i))/\rd D (du g.m.W g.m.H (rd (bI g.m s) i))<=KT):=by
    by_cases z:rd D (du g.m.W g.m.H (rd (bI g.m s) i))=cL
    ·exact .inl z
    ·have:=d1.dv _ jg.1 jg.2.1 z;exact .inr ⟨this.1,this.2.1⟩
   have eb:Ch.f (rd M.parts s) i v.2.1=some (rd D (du g.m.W g.m.H (rd (bI g.m s) i))):=by
    unfold Ch.f;rw[hp.nodes,wi (x:=i*((bI g.m s).length:Int)) U U,wi U U,af (by rw[hp.len_];omega),d2 i hi aP]
    exact aa0 hd
   rw[gO.l0,hp.nodes,af aP,af (c:=0<=i/\i<_) ⟨hi,aP⟩,eb,aK,wi U U];have bH:(i≠v.2.1)↔rd (bI g.m s) i≠b:=by
    constructor
    ·intro z y;rw[<-hv.2.2] at y;rcases Int.lt_or_gt_of_ne z with w |w
     ·have:=sT TK hi w hv.2.1;omega
     ·have:=sT TK hv.1 w aP;omega
    ·intro z y;rw[y] at z;exact z hv.2.2
   have yL:aX g.m.W g.m.H (rd (bI g.m s) i)=s:=(uf NG).2.2.2;generalize hV:rd D (du g.m.W g.m.H (rd (bI g.m s) i))=V at*;have Ag: ∀e:dR,e.To=rd (bI g.m s) i->(Comes g.m b e↔i≠v.2.1/\V≠cL/\e=⟨rd (bI g.m s) i,V⟩):=λe ee=>by
    obtain⟨a,c⟩:=e;simp only at ee;subst ee;unfold Comes;rw[hS];constructor
    ·rintro(⟨_,z2,z3,E,z4,z5⟩ |⟨_,z2,_⟩)
     ·have:=air BW.C3 z4 d1 jg.1 jg.2.1;simp only at z2 z3 z5;rw[this,hV] at z5;exact⟨bH.2 z2,by omega,by rw[z5]⟩
     ·exact absurd yL z2
    ·rintro⟨z1,z2,z3⟩;simp only[dR.mk.injEq,true_and] at z3;subst z3;exact .inl ⟨NG,bH.1 z1,z2,D,d1,hV.symm⟩
   have wV: ∀e:dR,(Comes g.m b e/\aX g.m.W g.m.H e.To=s/\ ∃j:Int,0<=j/\j<i+1/\rd (bI g.m s) j=e.To)↔(e∈x∨(i≠v.2.1/\V≠cL/\e=⟨rd (bI g.m s) i,V⟩)):=λe=>by
    rw[he e];constructor
    ·rintro⟨a,b',j,j0,j1,ej⟩
     by_cases z:j=i
     ·subst z;exact .inr ((Ag e ej.symm).1 a)
     ·exact .inl ⟨a,b',j,j0,by omega,ej⟩
    ·rintro(⟨a,b',j,j0,j1,ej⟩ |w)
     ·exact⟨a,b',j,j0,by omega,ej⟩
     ·have ee:e.To=rd (bI g.m s) i:=by rw[w.2.2]
      exact⟨(Ag e ee).2 w,by rw[ee];exact yL,i,hi,by omega,ee.symm⟩
   by_cases q:i≠v.2.1/\V≠cL
   ·rw[af (by simp;exact q),af U]
    refine Ok.eq J (ih k (i+1) _ U U U U bl λe=>?_);rw[wV e];simp[q.1,q.2]
   ·rw[ah (by simp only[Bool.and_eq_true,bne_iff_ne];exact q)]
    refine Ok.eq J (ih k (i+1) x U U U U U λe=>?_);rw[wV e];exact⟨.inl,λw=>w.resolve_right λy=>q ⟨y.1,y.2.1⟩⟩
  ·exact fin k i x aP dT hx he
theorem aeB (h:dA g more) (hF:qh g M) {b:Int} (hb:node g.m b): ∀(n k:Nat) (j:Int) (x:List dR),(4-j).toNat<=n->n<k->0<=j->j<=4->x.length<=256+j->
 (∀e,e∈x↔Comes g.m b e/\(aX g.m.W g.m.H e.To=aX g.m.W g.m.H b∨ ∃d:Int,0<=d/\d<j/\e.To=cD g.m.W g.m.H b d))->
 Ok (gO.l1 k M b g (aX g.m.W g.m.H b) (g.m.W,g.m.H) x j) (λr=>r.length<=260/\ ∀e,e∈r↔Comes g.m b e):=by
 have fin: ∀(k:Nat) (j:Int) (x:List dR),¬j<=3->x.length<=256+j->j<=4->(∀e,e∈x↔Comes g.m b e/\(aX g.m.W g.m.H e.To=aX g.m.W g.m.H b∨ ∃d:Int,0<=d/\d<j/\e.To=cD g.m.W g.m.H b d))->Ok (gO.l1 (k+1) M b g (aX g.m.W g.m.H b) (g.m.W,g.m.H) x j) (λr=>r.length<=260/\ ∀e,e∈r↔Comes g.m b e):=λk j x hj hx iG he=>by
  rw[gO.l1,ah hj];refine Ok.pure ⟨by omega,λe=>(he e).trans ⟨λq=>q.1,λq=>⟨q,?_⟩⟩⟩
  rcases q with⟨y,_⟩ |⟨_,_,⟨d,d0,d3,y⟩,_⟩
  ·exact .inl (uf y).2.2.2
  ·exact .inr ⟨d,d0,by omega,y⟩
 intro n
 induction n with
 |zero=>
  intro k j x hn hk hj iG hx he;obtain⟨k,rfl⟩:=bh hk;exact fin k j x U hx iG he
 |succ n ih=>
  intro k j x hn hk hj iG hx he;obtain⟨k,rfl⟩:=bh hk
  by_cases aP:j<=3
  ·rw[gO.l1,wi (x:=j+1) U U];have cu:=(Cr hb).2;have DL:fI g b=rd g.m.C b:=by unfold fI;rw[af cu]
   have wV: ∀(P:Prop),(P↔node g.m (cD g.m.W g.m.H b j)/\aX g.m.W g.m.H (cD g.m.W g.m.H b j)≠aX g.m.W g.m.H b)-> ∀e:dR,(Comes g.m b e/\(aX g.m.W g.m.H e.To=aX g.m.W g.m.H b∨ ∃d:Int,0<=d/\d<j+1/\e.To=cD g.m.W g.m.H b d))↔(e∈x∨(P/\e=⟨cD g.m.W g.m.H b j,fI g b⟩)):=λP hP e=>by
    rw[he e];constructor
    ·rintro⟨a,c |⟨d,d0,d1,c⟩⟩
     ·exact .inl ⟨a,.inl c⟩
     ·by_cases z:d=j
      ·subst z;rcases a with⟨y1,y2⟩ |⟨y1,y2,y3,y4⟩
       ·exact .inl ⟨.inl ⟨y1,y2⟩,.inl (uf y1).2.2.2⟩
       ·obtain⟨e1,e2⟩:=e;simp only at c y1 y2 y4;rw[c] at y1 y2;exact .inr ⟨hP.2 ⟨y1,y2⟩,by rw[c,y4,DL]⟩
      ·exact .inl ⟨a,.inr ⟨d,d0,by omega,c⟩⟩
    ·rintro(⟨a,c |⟨d,d0,d1,c⟩⟩ |⟨p,rfl⟩)
     ·exact⟨a,.inl c⟩
     ·exact⟨a,.inr ⟨d,d0,by omega,c⟩⟩
     ·obtain⟨y1,y2⟩:=hP.1 p;exact⟨.inr ⟨y1,y2,⟨j,hj,aP,J⟩,DL⟩,.inr ⟨j,hj,by omega,J⟩⟩
   have skip: ¬(node g.m (cD g.m.W g.m.H b j)/\aX g.m.W g.m.H (cD g.m.W g.m.H b j)≠aX g.m.W g.m.H b)->Ok (gO.l1 k M b g (aX g.m.W g.m.H b) (g.m.W,g.m.H) x (j+1)) (λr=>r.length<=260/\ ∀e,e∈r↔Comes g.m b e):=λz=>by
    refine ih k (j+1) x U U U U U λe=>?_
    rw[wV False ⟨False.elim,z⟩ e];simp
   refine Ok.pos aP (Ok.eq (Hz ..) ((Rk h hF _).bind λr hr=>?_));rcases hr with⟨r1,rfl⟩ |⟨r1,r2,r3,r4⟩
   ·exact skip λz=>r1 (o0 h.ok (Cr z.1).2)
   ·rw[r2]
    show Ok (if r.2.2=true then _ else _) _
    refine Ok.ite (λq=>Ok.ite (λq'=>Ok.eq (uP h _) (Ok.cx U ?_)) λq'=>?_) λq=>?_
    ·have q':aX g.m.W g.m.H (cD g.m.W g.m.H b j)≠aX g.m.W g.m.H b:=by simpa using q'
     refine ih k (j+1) _ U U U U bl λe=>?_
     rw[wV True ⟨λ_=>⟨r3.1 q,q'⟩,λ_=>trivial⟩ e];simp
    ·exact skip λz=>z.2 (by simpa using q')
    ·exact skip λz=>q (r3.2 z.1)
  ·exact fin k j x aP hx iG he
theorem aez (h:dA g more) (hF:qh g M) (b:Int):Ok (gO.f M b g) (λr=>r.length<=260/\((node g.m b/\ ∀e,e∈r↔Comes g.m b e)∨(¬node g.m b/\r=[]))):=by
 unfold gO.f;refine(Rk h hF b).bind λr hr=>?_
 rcases hr with⟨r1,rfl⟩ |⟨r1,r2,r3,r4⟩
 ·exact Ok.of (r:=[]) J (⟨by simp,.inr ⟨λz=>r1 (o0 h.ok (Cr z).2),J⟩⟩)
 ·rw[r2]
  show Ok (if(!r.2.2)=true then some [] else _) (λr=>r.length<=260/\((node g.m b/\ ∀e,e∈r↔Comes g.m b e)∨(¬node g.m b/\r=[])))
  by_cases q:r.2.2=true
  rotate_left
  ·refine Ok.pos (by simpa using q) (Ok.pure ⟨by simp,.inr ⟨λz=>q (r3.2 z),J⟩⟩)
  refine Ok.neg (by simp[q]) ?_
  have q:r.2.2=true:=by simpa using q
  have hb:=r3.1 q;have hs:=vS r1;have hp:=hF.part hs;have hN:=vz g.m (aX g.m.W g.m.H b);refine Ok.cx (by rw[hp.nodes,wi U U];omega) ((aeA h hF hb r (r4 q) (λr=>r.length<=260/\ ∀e,e∈r↔Comes g.m b e) (λx hx he=>aeB h hF hb 4 fuel 0 x bk (by rw[cH];omega) U U U λe=>(he e).trans ⟨λq=>⟨q.1,.inl q.2⟩,λq=>⟨q.1,q.2.resolve_right λ⟨d,d0,d1,_⟩=>by omega⟩⟩) 256 fuel 0 _ U (by rw[cH];omega) U U bk (λe=>⟨λq=>by simp at q,λ⟨_,_,j,j0,j1,_⟩=>by omega⟩)).mono λr hr=>⟨hr.1,.inl ⟨hb,hr.2⟩⟩)
theorem L3 (h:dA g more) {b:Int} (hb:node g.m b) {e:dR} (he:Comes g.m b e):node g.m e.To/\e.To≠b/\1<=e.kE/\e.kE<=KT:=by
 have MG:KT=65024:=rfl;have cu:=Cr hb;have hs:=vS (o0 h.ok cu.2);rcases he with⟨a1,a2,a3,D,a4,a5⟩ |⟨a1,a2,a3,a4⟩
 ·have BW:=J6 h hs;have hm:=BW.mem _ (List.mem_map_of_mem (f:=du g.m.W g.m.H) a1);have hd:=a4.dv _ hm.1 hm.2.1 (by rw[<-a5];exact a3)
  refine⟨Kh a1,a2,?_,by omega⟩
  apply Classical.byContradiction;intro z;obtain⟨x,hx,e1,_⟩:=ais BW.C3 a4 hm.1 hm.2.1 U;simp only[List.mem_cons,List.not_mem_nil,or_false] at hx;subst hx;have hE:=uf a1;rcases Int.lt_or_gt_of_ne a2 with w |w
  ·have:=N5 (o0 h.ok hE.2.1) (o0 h.ok cu.2) hE.2.2.2 w;simp only at e1;omega
  ·have:=N5 (o0 h.ok cu.2) (o0 h.ok hE.2.1) hE.2.2.2.symm w;simp only at e1;omega
 ·have:=h.sj b cu.2.1 cu.2.2;exact⟨a1,λz=>a2 (by rw[z]),by omega,by omega⟩
def Q8 (a b:dC):Bool:=decide (a.key<b.key)||(a.key==b.key&&decide (a.item<b.item))
theorem Q9 (a b:dC):yG.f a b=some (Q8 a b):=by
 unfold yG.f Q8
 by_cases h:a.key<b.key
 ·simp[h]
 ·by_cases g:a.key=b.key<;>simp[h,g]
theorem ai2: ∀(n k:Nat) (l:List dC) (i:Int),i.toNat<=n->n<k->i<l.length->l.length<=1099511627776->
 Ok (oX.l0 k l i) (λh=>h.l.length=l.length/\ ∀e,e∈h.l↔e∈l):=by
 intro n
 induction n with
 |zero=>
  intro k l i hn hk hi hb;obtain⟨k,rfl⟩: ∃q,k=q+1:=⟨k-1,by omega⟩
  rw[oX.l0,ah U];exact Ok.pure ⟨J,λ_=>Iff.rfl⟩
 |succ n ih=>
  intro k l i hn hk hi hb;obtain⟨k,rfl⟩: ∃q,k=q+1:=⟨k-1,by omega⟩
  rw[oX.l0];refine Ok.ite (λhp=>?_) (λ_=>Ok.pure ⟨J,λ_=>Iff.rfl⟩);have ew:aa (Int.tdiv (aa (i-1)) 2)=(i-1)/2:=by rw[wi (x:=i-1) U U,qQ U,wi U U]
  simp only[ew];refine Ok.cx U (Ok.cx U (Ok.eq (Q9 _ _) (Ok.ite (λ_=>Ok.pure ⟨J,λ_=>Iff.rfl⟩) λ_=>Ok.cx bl ?_)));refine(ih k _ ((i-1)/2) U U bl (by simpa using hb)).mono λh hh=>⟨by simpa using hh.1,λe=>(hh.2 e).trans (Pc U hi U U e)⟩
theorem Kr (h:eO) (k i:Int) (hb:h.l.length<1099511627776):
 Ok (nk.f h k i) (λr=>r.l.length=h.l.length+1/\ ∀e,e∈r.l↔e∈h.l∨e=⟨k,i⟩):=by
 unfold nk.f oX.f;refine Ok.cx U ((ai2 h.l.length fuel _ _ ?_ (by rw[cH];omega) ?_ bl).bind λr hr=>Ok.pure ⟨by simpa using hr.1,λe=>by rw[hr.2 e];simp⟩)
 ·simp only[List.length_append,List.length_cons,List.length_nil];rw[wi U U];omega
 ·simp only[List.length_append,List.length_cons,List.length_nil];rw[wi U U];omega
theorem aaU: ∀(n k:Nat) (l:List dC) (i m j:Int),(2*i+3-j).toNat<=n->n<k->0<=i->i<l.length->(m=i∨i<m)->m<l.length->i<j->l.length<=1099511627776->
 Ok (jf.l1 k l i m j) (λr=>r=Sum.inl ⟨l⟩∨ ∃l' m',r=Sum.inr (l',m')/\l'.length=l.length/\(∀e,e∈l'↔e∈l)/\i<m'/\m'<l.length):=by
 intro n
 induction n with
 |zero=>
  intro k l i m j hn hk i0 i1 hm m1 hj hb;obtain⟨k,rfl⟩: ∃q,k=q+1:=⟨k-1,by omega⟩
  rw[jf.l1,wi (x:=2*i) U U,wi (x:=2*i+2) U U,ah U];simp only[aK,Bool.false_eq_true,if_false];refine Ok.ite (λ_=>Ok.pure (.inl J)) λq=>Ok.cx U (Ok.cx U (Ok.cx bl (Ok.pure (.inr ⟨_,_,J,by simp,λe=>Pc i0 i1 U m1 e,?_,m1⟩))))
  have:m≠i:=λz=>q (by simp[z])
  omega
 |succ n ih=>
  intro k l i m j hn hk i0 i1 hm m1 hj hb;obtain⟨k,rfl⟩: ∃q,k=q+1:=⟨k-1,by omega⟩
  rw[jf.l1,wi (x:=2*i) U U,wi (x:=2*i+2) U U];have hx:(if j<=2*i+2 then some (decide (j<(l.length:Int))) else some false)=some (decide (j<=2*i+2/\j<l.length)):=by
   by_cases a:j<=2*i+2<;>simp[a]
  rw[hx];simp only[aK];refine Ok.ite (λq=>?_) λq=>?_
  ·have q':=of_decide_eq_true q;refine Ok.cx U (Ok.cx U (Ok.eq (Q9 _ _) (Ok.ite (λ_=>?_) λ_=>?_)))
   ·rw[wi U U];exact ih k l i j (j+1) U U i0 i1 (.inr hj) q'.2 U hb
   ·rw[wi U U];exact ih k l i m (j+1) U U i0 i1 hm m1 U hb
  ·refine Ok.ite (λ_=>Ok.pure (.inl J)) λq=>Ok.cx U (Ok.cx U (Ok.cx bl (Ok.pure (.inr ⟨_,_,J,by simp,λe=>Pc i0 i1 U m1 e,?_,m1⟩))))
   have:m≠i:=λz=>q (by simp[z])
   omega
theorem aaT: ∀(n k:Nat) (l:List dC) (i:Int),l.length-i.toNat<=n->n<k->0<=i->i<l.length->l.length<=1099511627776->
 Ok (jf.l0 k l i) (λh=>h.l.length=l.length/\ ∀e,e∈h.l↔e∈l):=by
 intro n
 induction n with
 |zero=>intro k l i hn hk i0 i1;omega
 |succ n ih=>
  intro k l i hn hk i0 i1 hb;obtain⟨k,rfl⟩: ∃q,k=q+1:=⟨k-1,by omega⟩
  rw[jf.l0,wi (x:=2*i) U U,wi (x:=2*i+1) U U];refine(aaU (i.toNat+3) fuel l i i (2*i+1) U (by rw[cH];omega) i0 i1 (.inl J) i1 U hb).bind λr hr=>?_
  rcases hr with rfl |⟨l',m',rfl,e1,e2,e3,e4⟩
  ·exact Ok.pure ⟨J,λ_=>Iff.rfl⟩
  ·exact(ih k l' m' U U U U U).mono λh hh=>⟨by omega,λe=>(hh.2 e).trans (e2 e)⟩
def XC (l:List dC) (r:Int×Int×Bool×eO):Prop:=
 (l=[]/\r=(0,0,false,⟨[]⟩))∨(l≠[]/\r.2.2.1=true/\⟨r.1,r.2.1⟩=rd l 0/\r.2.2.2.l.length+1=l.length/\(∀e∈r.2.2.2.l,e∈l)/\ ∀e∈l,e=rd l 0∨e∈r.2.2.2.l)
theorem Km (h:eO) (hb:h.l.length<=1099511627776):Ok (nj.f h) (XC h.l):=by
 obtain⟨l⟩:=h;unfold nj.f DO.f DN.f jf.f
 by_cases hl:l=[]
 ·subst hl;exact Ok.pure (.inl ⟨rfl,rfl⟩)
 have hp:0<l.length:=List.length_pos_iff.2 hl;simp only at hb⊢;simp only[aK];rw[ah (by simpa using hl),af U,wi (x:=(l.length:Int)-1) U U]
 simp only[aK,if_true];refine Ok.cx U (Ok.cx U (Ok.cx bl ?_));have hs: ∀(L:List dC),L.length=l.length->aA L 0 ((l.length:Int)-1)=L.take (l.length-1):=by
  intro L hL;unfold aA;simp
 rw[hs _ bk];have jg: ∀e∈(List.set l 0 (rd l ((l.length:Int)-1))).take (l.length-1),e∈l:=by
  intro e he;rcases List.mem_or_eq_of_mem_set (List.mem_of_mem_take he) with h |h
  ·exact h
  ·rw[h];exact uh U U
 have Ny: ∀e∈l,e=rd l 0∨e∈(List.set l 0 (rd l ((l.length:Int)-1))).take (l.length-1):=by
  intro e he;obtain⟨c,c0,c1,rfl⟩:=J9.1 he
  by_cases z:c=0
  ·exact .inl (by rw[z])
  ·refine .inr (J9.2 ?_);have ht: ∀d:Int,0<=d->d<(l.length:Int)-1->rd ((List.set l 0 (rd l ((l.length:Int)-1))).take (l.length-1)) d=if d=0 then rd l ((l.length:Int)-1) else rd l d:=by
    intro d d0 d1;have:=G1 (L:=l) (i:=0) (c:=d) (v:=rd l ((l.length:Int)-1)) U U d0;rw[<-this];simp only[Int.toNat_zero];rw[jl (xs:=List.take _ _) bl,List.getElem_take,jl (xs:=List.set _ _ _) bl]
   have hlen:((List.set l 0 (rd l ((l.length:Int)-1))).take (l.length-1)).length=l.length-1:=by simp
   by_cases y:c=(l.length:Int)-1
   ·exact⟨0,by omega,by omega,by rw[ht 0 U U,af J,y]⟩
   ·exact⟨c,c0,by omega,by rw[ht c c0 U,ah z]⟩
 by_cases h1:l.length=1
 ·have e0:(List.set l 0 (rd l ((l.length:Int)-1))).take (l.length-1)=[]:=by rw[h1];rfl
  simp only[Int.toNat_zero];rw[e0] at jg Ny⊢;have hd:jf.l0 fuel [] 0=some ⟨[]⟩:=by
   obtain⟨k,hk⟩: ∃q,fuel=q+1+1:=⟨fuel-2,by rw[cH]⟩
   rw[hk,jf.l0,hk,jf.l1];rfl
  rw[hd];exact Ok.pure (.inr ⟨hl,J,J,by simp[h1],jg,Ny⟩)
 ·refine(aaT l.length fuel _ 0 bk (by rw[cH];omega) U bl bl).bind λr hr=>Ok.pure (.inr ⟨hl,J,J,?_,λe he=>jg e ((hr.2 e).1 he),λe he=>(Ny e he).imp id λx=>(hr.2 e).2 x⟩)
  have:=hr.1;simp at this;simp only;omega
variable {g : bt} {more : Int}
def AE (g:bt) (c:Int):Prop:=cO g.m c/\fI g c≠255
theorem Mu (h:dA g more) {c:Int} (hc:cO g.m c):1<=fI g c/\fI g c<=255:=by
 unfold fI;rw[af hc];exact h.sj c hc.1 hc.2
theorem ai' (h:dA g more) (goal cell key:Int) (m:List (Int×Int)) (hc:AE g cell) (k0:0<=key) (k1:key<=1000000000): ∀(n k:Nat) (l:List dC) (s:Int),(4-s).toNat<=n->n<k->0<=s->l.length<=10000000-4+s->
 Ok (jm.l1 k goal g (g.m.W,g.m.H) m cell key l s) (λr=>r.1=cC m cell key/\r.2.length<=l.length+(4-s).toNat/\ ∀e∈r.2,e∈l∨(AE g e.item/\0<=e.key/\e.key<=key+254)):=by
 have gy:=Mu h hc.1;intro n
 induction n with
 |zero=>
  intro k l s hn hk s0 hl;obtain⟨k,rfl⟩:=bh hk;rw[jm.l1,ah U];exact Ok.pure ⟨J,by simp,λe he=> .inl he⟩
 |succ n ih=>
  intro k l s hn hk s0 hl;obtain⟨k,rfl⟩:=bh hk;rw[jm.l1];refine Ok.ite (λhs=>?_) λhs=>Ok.pure ⟨J,by simp only;omega,λe he=> .inl he⟩
  refine Ok.eq (Hz ..) ?_;have hsk:Ok (if cD g.m.W g.m.H cell s<0 then some true else(gD.f g.m.W g.m.H (cD g.m.W g.m.H cell s)).bind λv28=>(gD.f g.m.W g.m.H goal).bind λrS=>if(v28 !=rS)=true then some true else(je.f g (cD g.m.W g.m.H cell s)).bind λv30=>some (v30==255)) (λb=>b=false->AE g (cD g.m.W g.m.H cell s)):=by
   refine Ok.ite (λ_=>Ok.pure bk) λq=>Ok.eq (tj ..) (Ok.eq (tj ..) (Ok.ite (λ_=>Ok.pure bk) λ_=>Ok.eq (uP h _) (Ok.pure λz=>⟨aiG q,by simpa using z⟩)))
  refine hsk.bind λb hb=>Ok.ite (λ_=>?_) λq=>?_
  ·rw[wi U U];exact(ih k l (s+1) U U U U).mono λr hr=>⟨hr.1,by have:=hr.2.1;omega,hr.2.2⟩
  ·have ho:=hb (by simpa using q)
   refine Ok.eq (uP h _) ((Kr _ _ _ (by simp only;omega)).bind λr hr=>?_)
   simp only at hr;rw[wi (x:=s+1) U U];refine(ih k r.l (s+1) U U U U).mono λr' vj=>⟨vj.1,by have:=vj.2.1;omega,λe he=>?_⟩
   rcases vj.2.2 e he with z |z
   ·rcases(hr.2 e).1 z with y |rfl
    ·exact .inl y
    ·refine .inr ⟨ho,?_⟩;have:fI g cell≠255:=hc.2;rw[wi U U];simp only;omega
   ·exact .inr z
def uv (g:bt) (m:List (Int×Int)):Nat:=eH (λc=>!bQ m c) (g.m.W*g.m.H).toNat
theorem ajX (m:List (Int×Int)) (x y v:Int):bQ (cC m x v) y=if x=y then true else bQ m y:=by
 unfold bQ;rw[yY];split<;>rfl
theorem ai1 {m:List (Int×Int)} {c v:Int} (hc:cO g.m c) (hn:bQ m c=false):uv g m=uv g (cC m c v)+1:=by
 unfold uv;refine L1 (c:=c) hc.1 (by have:=hc.1;have:=hc.2;omega) (by simp[hn]) (by simp[ajX]) (λi _ _ hi=>?_)
 rw[ajX,ah (λz=>hi z.symm)]
theorem ai_ (h:dA g more) (hN:g.m.W*g.m.H<=1600) (goal:Int): ∀(n k:Nat) (m:List (Int×Int)) (l:List dC) (key cell:Int) (ok:Bool),
 5*uv g m+l.length+(if ok then 1 else 0)<=n->n<k->l.length+5*uv g m<=9000->
 (∀c,bQ m c=true->0<=aO m c/\aO m c<=500000)->
 (∀e∈l,AE g e.item/\0<=e.key/\e.key+254*(uv g m:Int)<=254*1600)->(ok=true->AE g cell/\0<=key/\key+254*(uv g m:Int)<=254*1600)->(ok=false->l=[])->
 Ok (jm.l0 k goal g (g.m.W,g.m.H) m l key cell ok) (λr=> ∀c,bQ r c=true->0<=aO r c/\aO r c<=500000):=by
 intro n
 induction n with
 |zero=>
  intro k m l key cell ok hn hk hb hm hl hp hf;obtain⟨k,rfl⟩:=bh hk;have:ok=false:=by cases ok<;>simp_all
  subst this;rw[jm.l0];exact Ok.pure hm
 |succ n ih=>
  intro k m l key cell ok hn hk hb hm hl hp hf;obtain⟨k,rfl⟩:=bh hk;rw[jm.l0];refine Ok.ite (λq=>?_) λ_=>Ok.pure hm
  obtain⟨p1,p2,p3⟩:=hp q;subst q;simp only[if_true] at hn;have aed:Ok (if bQ m cell=true then some (m,l) else jm.l1 fuel goal g (g.m.W,g.m.H) m cell key l 0) (λr=>5*uv g r.1+r.2.length<=n/\r.2.length+5*uv g r.1<=9000/\(∀c,bQ r.1 c=true->0<=aO r.1 c/\aO r.1 c<=500000)/\ ∀e∈r.2,AE g e.item/\0<=e.key/\e.key+254*(uv g r.1:Int)<=254*1600):=by
   refine Ok.ite (λ_=>Ok.pure ⟨by simp only;omega,hb,hm,hl⟩) λz=>?_
   have z:bQ m cell=false:=by simpa using z
   have hu:=ai1 (v:=key) p1.1 z;refine(ai' h goal cell key m p1 p2 U 4 fuel l 0 bk (by rw[cH];omega) U U).mono λr hr=>?_
   obtain⟨e1,e2,e3⟩:=hr;rw[e1];have:(4-(0:Int)).toNat=4:=rfl;refine⟨by omega,by omega,λc hc=>?_,λe he=>?_⟩
   ·rw[sM];rw[ajX] at hc;split
    ·omega
    ·rename_i q;rw[ah q] at hc;exact hm c hc
   ·rcases e3 e he with y |y
    ·have:=hl e y;exact⟨this.1,this.2.1,by omega⟩
    ·exact⟨y.1,y.2.1,by omega⟩
  refine aed.bind λr hr=>?_
  obtain⟨h1,h2,h3,h4⟩:=hr;refine(Km ⟨r.2⟩ (by simp only;omega)).bind λv hv=>?_
  rcases hv with⟨e1,e2⟩ |⟨e1,e2,e3,e4,e5,e6⟩
  ·subst e2;simp only at e1;exact ih k r.1 [] 0 0 false bl U bl h3 bk bk bk
  ·simp only at e1 e3 e4 e5;have Ga:=h4 (rd r.2 0) (dN U (by have:=List.length_pos_iff.2 e1;omega))
   rw[<-e3] at Ga;refine ih k r.1 v.2.2.2.l v.1 v.2.1 v.2.2.1 (by rw[e2];simp;omega) U U h3 (λe he=>h4 e (e5 e he)) (λ_=>Ga) (by rw[e2];simp)
theorem ahF (h:dA g more) (hN:g.m.W*g.m.H<=1600) (f:jN) (M:dz) {goal:Int} (hg:cO g.m goal):Ok (jm.f f goal M g) (λr=> ∀c,bQ r c=true->0<=aO r c/\aO r c<=500000):=by
 unfold jm.f;refine Ok.eq (CQ g) (Ok.eq (uP h _) (Ok.ite (λ_=>Ok.pure (by simp[bQ,cY])) λq=>?_))
 have hu:uv g []<=1600:=by unfold uv;have:=Ft (λc=>!bQ ([]:List (Int×Int)) c) (g.m.W*g.m.H).toNat;omega
 refine(Kr ⟨[]⟩ 0 goal bk).bind λr hr=>(Km r (by simp at hr;omega)).bind λv hv=>?_
 have ho:AE g goal:=⟨hg,by simpa using q⟩
 have tN: ∀e∈r.l,e=⟨0,goal⟩:=λe he=>by simpa using(hr.2 e).1 he
 have hlen:r.l.length=1:=by simpa using hr.1
 rcases hv with⟨e1,e2⟩ |⟨e1,e2,e3,e4,e5,e6⟩
 ·rw[e1] at hlen;simp at hlen
 ·have h0:=tN _ (dN (a:=r.l) (i:=0) U U);rw[h0] at e3;simp only[dC.mk.injEq] at e3;have Al:v.2.2.2.l=[]:=List.length_eq_zero_iff.1 U;rw[Al,e3.1,e3.2,e2];exact ai_ h hN goal 9000 fuel [] [] 0 goal true bl (by rw[cH];omega) bl (by simp[bQ,cY]) bk (λ_=>⟨ho,by omega,by omega⟩) bk
end Go.Proofs.YthodkonhneebbaaGreatDoor
