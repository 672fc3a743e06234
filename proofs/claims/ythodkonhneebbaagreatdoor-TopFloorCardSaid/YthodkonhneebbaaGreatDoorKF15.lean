/- What the functions do, in plain Lean, on the objects that are kept in order. -/
import Derived.Test.YthodkonhneebbaaGreatDoorKF14
import Derived.Test.YthodkonhneebbaaGreatDoorKF10
import Derived.Test.YthodkonhneebbaaGreatDoorKF11
import Derived.Test.YthodkonhneebbaaGreatDoorKF8
namespace Go.Proofs.YthodkonhneebbaaGreatDoor
open Go.Hx
set_option linter.unusedVariables false
set_option linter.unusedSimpArgs false
theorem iF.mono {r:ez} {n n':Nat} (h:iF r n) (hn:n<=n') (hb:n'<=1000000000):iF r n':=⟨h.len_,h.at_,λb hb=>by have:=h.gone b hb;omega,h.A6,hb⟩
structure HX (r:ez) (todo:List a_) (n:Nat) (r':ez) (KL:List a_):Prop where
 ring: ∃n',iF r' n'/\n'+KL.length<=n+todo.length
 tR: ∀k i,Has r k i->Has r' k i
 new: ∀k i,Has r' k i->Has r k i∨ ∃x∈todo,x.Key=k/\x.Cell=i
 Wv: ∃a,todo=a++KL/\ ∀x∈a,Has r' x.Key x.Cell
 len_:r'.len+2*KL.length<=r.len+2*todo.length
 at_:r'.ba=r.ba
 end_: ∀x l,KL=x::l->x.Key<r'.ba∨r'.ba+256<=x.Key
theorem aa5 (s:de): ∀(m k:Nat) (r:ez) (todo:List a_) (n:Nat),todo.length<=m->m<k->iF r n->n+todo.length<=2000000->(∀x∈todo,0<=x.Key/\x.Key<=1073741824)->
 Ok (jT.l0 k s r todo) (λq=>q.t=s.t/\q.aR=s.aR/\HX r todo n q.wait q.todo):=by
 have nil: ∀(k:Nat) (r:ez) (n:Nat),iF r n->Ok (jT.l0 (k+1) s r []) (λq=>q.t=s.t/\q.aR=s.aR/\HX r [] n q.wait q.todo):=by
  intro k r n h;rw[jT.l0,ah bk];exact Ok.pure ⟨J,J,⟨⟨n,h,by simp⟩,λ_ _ q=>q,λ_ _ q=> .inl q,⟨[],J,by simp⟩,Int.le_refl _,J,by simp⟩⟩
 intro m
 induction m with
 |zero=>
  intro k r todo n hm hk h hn hx;obtain⟨k,rfl⟩:=bl hk;have:todo=[]:=List.length_eq_zero_iff.1 U;subst this;exact nil k r n h
 |succ m ih=>
  intro k r todo n hm hk h hn hx;obtain⟨k,rfl⟩:=bl hk
  cases todo with
  |nil=>exact nil k r n h
  |cons x l=>
   simp only[List.length_cons] at hm hn;have tP:=hx x (List.mem_cons_self ..);have e0:rd (x::l) 0=x:=rfl;have e1:aA (x::l) 1 ((x::l).length:Int)=l:=by unfold aA;simp
   rw[jT.l0,af bk,af bk,e0,e1];refine(VS h U U tP.1 x.Cell).bind' λv hv=>?_
   obtain⟨h1,h2,h3⟩:=hv;simp only;rcases h3 with⟨a,b,c,d,e⟩ |⟨a,b,c⟩
   ·rw[a];refine Ok.pos J (Ok.cw bm ((ih k v.2 l (n+1) U U h2 U (λy hy=>hx y (List.mem_cons_of_mem _ hy))).mono λq hq=>?_));obtain⟨q1,q2,q3⟩:=hq;obtain⟨n',f1,f2⟩:=q3.ring;obtain⟨A,g1,g2⟩:=q3.Wv;refine⟨q1,q2,⟨⟨n',f1,by simp only[List.length_cons];omega⟩,λk i hh=>q3.tR k i ((e k i).2 (.inl hh)),λk i hh=>?_,⟨x::A,by rw[g1];rfl,λy hy=>?_⟩,?_,by rw[q3.at_,h1],q3.end_⟩⟩
    ·rcases q3.new k i hh with z |⟨y,hy,z⟩
     ·rcases(e k i).1 z with z |⟨rfl,rfl⟩
      ·exact .inl z
      ·exact .inr ⟨x,List.mem_cons_self ..,J,J⟩
     ·exact .inr ⟨y,List.mem_cons_of_mem _ hy,z⟩
    ·rcases List.mem_cons.1 hy with rfl |hy
     ·exact q3.tR _ _ ((e _ _).2 (.inr ⟨J,J⟩))
     ·exact g2 y hy
    ·have:=q3.len_;simp only[List.length_cons];omega
   ·rw[a];refine Ok.neg bk (Ok.pure ⟨J,J,?_⟩);simp only;rw[c];exact⟨⟨n,h,by simp⟩,λ_ _ q=>q,λ_ _ q=> .inl q,⟨[],J,by simp⟩,Int.le_refl _,J,λy l' hy=>by simp only[List.cons.injEq] at hy;rw[<-hy.1];exact b⟩
theorem aa4 (s:de) {n:Nat} (h:iF s.wait n) (hn:n+s.todo.length<=2000000) (hx: ∀x∈s.todo,0<=x.Key/\x.Key<=1073741824):
 Ok (jT.f s) (λq=>q.t=s.t/\q.aR=s.aR/\ ∃r,((r=s.wait/\(s.wait.len≠0∨s.todo=[]))∨(s.wait.len=0/\r.len=0/\ ∃x l,s.todo=x::l/\r.ba=if x.Key<s.wait.ba then s.wait.ba else x.Key))/\(∀k i,Has r k i↔Has s.wait k i)/\HX r s.todo n q.wait q.todo):=by
 unfold jT.f;have key: ∀r,iF r n->Ok (jT.l0 fuel s r s.todo) (λq=>q.t=s.t/\q.aR=s.aR/\HX r s.todo n q.wait q.todo):=λr hr=>aa5 s s.todo.length fuel r s.todo n (Nat.le_refl _) (by rw[cM];omega) hr hn hx
 by_cases hl:s.todo=[]
 ·rw[ah (by simp[hl])]
  exact Ok.eq J ((key s.wait h).mono λq hq=>⟨hq.1,hq.2.1,s.wait,.inl ⟨J,.inr hl⟩,λ_ _=>Iff.rfl,hq.2.2⟩)
 ·obtain⟨x,l,e⟩:=List.exists_cons_of_ne_nil hl;have tP:=hx x (by rw[e];exact List.mem_cons_self ..)
  rw[af (by rw[e];simp)]
  unfold vD.f
  by_cases z:s.wait.len=0
  ·have e0:rd s.todo 0=x:=by rw[e];rfl
   rw[show((some s.wait.len).bind λv5=>some (v5==0))=some true by simp[z]]
   simp only[aL,if_true,e0];rw[af (by rw[e];simp)]
   refine((aeC h tP.1 U z).bind λv hv=>Ok.pure (P:=λr=>iF r n/\r.len=0/\r.ba=if x.Key<s.wait.ba then s.wait.ba else x.Key) hv).bind λr hr=>(key r hr.1).mono λq hq=>⟨hq.1,hq.2.1,r,.inr ⟨z,hr.2.1,x,l,e,hr.2.2⟩,λk i=>⟨λy=>absurd y (hr.1.none hr.2.1 k i),λy=>absurd y (h.none z k i)⟩,hq.2.2⟩
  ·simp only[aL];rw[ah (by simpa using z)]
   exact Ok.eq J ((key s.wait h).mono λq hq=>⟨hq.1,hq.2.1,s.wait,.inl ⟨J,.inl z⟩,λ_ _=>Iff.rfl,hq.2.2⟩)
def eJ (t:aJ) (c s:Int):Int:=
 if s=0 then(if c/t.W>0 then c-t.W else-1) else if s=1 then(if c%t.W<t.W-1 then c+1 else-1) else if s=2 then(if c/t.W<t.H-1 then c+t.W else-1) else if c%t.W>0 then c-1 else-1
theorem KJ {t:aJ} (h:rV t) {c s:Int} (c0:0<=c) (c1:c<t.C.length):eJ t c s= -1∨(0<=eJ t c s/\eJ t c s<t.C.length):=by
 obtain⟨a,b,d,e,f,_⟩:=h;rw[f] at c1⊢;have FX:=Int.mul_ediv_add_emod c t.W;have hm:=Int.emod_nonneg c (show t.W≠0 by omega)
 have wO:=Int.emod_lt_of_pos c (show 0<t.W by omega)
 have hq:0<=c/t.W:=Int.ediv_nonneg c0 U;have hq':c/t.W<t.H:=Int.ediv_lt_of_lt_mul U (by rw[Int.mul_comm];exact c1)
 unfold eJ;split
 ·split
  ·have:t.W*1<=t.W*(c/t.W):=Int.mul_le_mul_of_nonneg_left U U;exact .inr U
  ·exact .inl J
 ·split
  ·split
   ·have:t.W*(c/t.W)<=t.W*(t.H-1):=Int.mul_le_mul_of_nonneg_left U U;rw[Int.mul_sub,Int.mul_one] at this;exact .inr U
   ·exact .inl J
  ·split
   ·split
    ·have:t.W*(c/t.W)<=t.W*(t.H-1-1):=Int.mul_le_mul_of_nonneg_left U U;rw[Int.mul_sub,Int.mul_sub,Int.mul_one] at this;exact .inr U
    ·exact .inl J
   ·split
    ·have:0<=t.W*(c/t.W):=Int.mul_nonneg U hq;exact .inr U
    ·exact .inl J
abbrev cK:Int:=1099511627776
structure Ar (s:de) (n:Nat) (key c:Int) (j:Nat) (q:de):Prop where
 t_:q.t=s.t
 td:q.todo=s.todo
 ds:q.aR=s.aR
 ring:iF q.wait (n+j)
 at_:q.wait.ba=s.wait.ba
 len_:q.wait.len<=s.wait.len+j
 tR: ∀k i,Has s.wait k i->Has q.wait k i
 new: ∀k i,Has q.wait k i->Has s.wait k i∨(k=key/\ ∃d:Int,0<=d/\d<j/\i=eJ s.t c d/\0<=i/\i<s.t.C.length/\rd s.t.C i≠255/\rd s.aR i=cK)
 all:s.wait.ba<=key->key<s.wait.ba+256-> ∀d:Int,0<=d->d<j->0<=eJ s.t c d->rd s.t.C (eJ s.t c d)≠255->rd s.aR (eJ s.t c d)=cK->Has q.wait key (eJ s.t c d)
section
variable {s q : de} {n : Nat} {key c : Int} {j : Nat}
theorem Ix (h:Ar s n key c j q) (hn:n+j+1<=1000000000) (hj:eJ s.t c j= -1):Ar s n key c (j+1) q:=by
 refine⟨h.t_,h.td,h.ds,h.ring.mono U U,h.at_,by have:=h.len_;omega,h.tR,λk i hh=>?_,λa b d d0 d1 d2 d3 d4=>?_⟩
 ·rcases h.new k i hh with z |⟨z,d,a,b,r⟩
  ·exact .inl z
  ·exact .inr ⟨z,d,a,by omega,r⟩
 ·by_cases z:d=j
  ·subst z;omega
  ·exact h.all a b d d0 U d2 d3 d4
theorem Iw (ht:ma s.t) (hd:s.aR.length=s.t.C.length) (h:Ar s n key c j q) (hn:n+j+1<=1000000000) (k0:0<=key) (k1:key<=8796093022208) (c0:0<=c) (c1:c<s.t.C.length) {p:Int} (hj:eJ s.t c j=p) (hp:p≠ -1):
 Ok (kG.f q p key) (Ar s n key c (j+1)):=by
 have cu:=KJ ht.1 (s:=j) c0 c1;rw[hj] at cu;have cu:0<=p/\p<s.t.C.length:=cu.resolve_left hp;unfold kG.f;rw[h.t_,h.ds,h.td];have e:(if(0<=p/\p<(List.length s.t.C:Int)) then(if((rd s.t.C p)!=255)=true then(if(0<=p/\p<(List.length s.aR:Int)) then(some ((rd s.aR p)==1099511627776)) else none) else(some false)) else none)=some (decide (rd s.t.C p≠255/\rd s.aR p=cK)):=by
  rw[af cu,af (c:=0<=p/\p<(List.length s.aR:Int)) U]
  by_cases z:rd s.t.C p=255
  ·simp[z]
  ·rw[af (by simpa using z)];congr 1;rw[Bool.eq_iff_iff];simp[z]
 refine Ok.eq e (Ok.ite (λz=>?_) λz=>Ok.pure ?_)
 ·have z:=of_decide_eq_true z;refine(VS h.ring U k1 k0 p).bind λv hv=>Ok.pure ?_
  obtain⟨a1,a2,a3⟩:=hv;rcases a3 with⟨b1,b2,b3,b4,b5⟩ |⟨b1,b2,b3⟩
  ·refine⟨J,J,J,a2,by rw[a1,h.at_],by have:=h.len_;simp only;omega,λk i hh=>(b5 k i).2 (.inl (h.tR k i hh)),λk i hh=>?_,λa b d d0 d1 d2 d3 d4=>?_⟩
   ·rcases(b5 k i).1 hh with y |⟨rfl,rfl⟩
    ·rcases h.new k i y with y |⟨y,d,a,b,r⟩
     ·exact .inl y
     ·exact .inr ⟨y,d,a,by omega,r⟩
    ·exact .inr ⟨J,j,by omega,by omega,hj.symm,cu.1,cu.2,z⟩
   ·by_cases y:d=j
    ·subst y;rw[hj];exact(b5 _ _).2 (.inr ⟨rfl,rfl⟩)
    ·exact(b5 _ _).2 (.inl (h.all a b d d0 U d2 d3 d4))
  ·refine⟨J,J,J,a2,by rw[a1,h.at_],by have:=h.len_;simp only;rw[b3];omega,λk i hh=>by simp only;rw[b3];exact h.tR k i hh,λk i hh=>?_,λa b=>?_⟩
   ·simp only at hh;rw[b3] at hh;rcases h.new k i hh with y |⟨y,d,a,b,r⟩
    ·exact .inl y
    ·exact .inr ⟨y,d,a,by omega,r⟩
   ·have:=h.at_;omega
 ·have z: ¬(rd s.t.C p≠255/\rd s.aR p=cK):=by simpa using z
  refine⟨h.t_,h.td,h.ds,h.ring.mono U U,h.at_,by have:=h.len_;omega,h.tR,λk i hh=>?_,λa b d d0 d1 d2 d3 d4=>?_⟩
  ·rcases h.new k i hh with y |⟨y,d,a,b,r⟩
   ·exact .inl y
   ·exact .inr ⟨y,d,a,by omega,r⟩
  ·by_cases y:d=j
   ·subst y;rw[hj] at d3 d4;exact absurd ⟨d3,d4⟩ z
   ·exact h.all a b d d0 U d2 d3 d4
end
theorem Iv {q s:de} (e:q.t=s.t):de.mk (aJ.mk q.t.W q.t.H s.t.C) q.wait q.todo q.aR=q:=by
 obtain⟨t,a,b,d⟩:=q;simp only at e;subst e;rfl
theorem XY (s:de) (ht:ma s.t) (hd:s.aR.length=s.t.C.length) {n:Nat} (h:iF s.wait n) (hn:n+4<=1000000000) {c:Int} (c0:0<=c) (c1:c<s.t.C.length) (d0:0<=rd s.aR c) (d1:rd s.aR c<=2000000000):
 Ok (xD.f s c) (Ar s n (rd s.aR c+rd s.t.C c) c 4):=by
 have hC:=ht.2 c c0 c1;have hl:=ou ht.1;obtain⟨a1,a2,a3,a4,a5,_⟩:=ht.1;have hq:0<=c/s.t.W/\c/s.t.W<=c:=⟨Int.ediv_nonneg c0 U,Int.ediv_le_self _ c0⟩;unfold xD.f;rw[wi (x:=rd s.t.C c) U U,wi (x:=rd s.aR c+rd s.t.C c) U U,qP c0,mS c0,wi (x:=c/s.t.W) U U,wi (x:=c-s.t.W) U U,wi (x:=c+1) U U,wi (x:=c-1) U U];generalize hk:rd s.aR c+rd s.t.C c=key;have k0:0<=key:=U;have k1:key<=8796093022208:=U;have A0:Ar s n key c 0 s:=⟨J,J,J,h,J,by omega,λ_ _ z=>z,λ_ _ z=> .inl z,λ_ _ d d0 d1=>by omega⟩
 refine Ok.cw U (Ok.cw U (Ok.cw U (Ok.cw U ?_)));have n0:eJ s.t c (0:Nat)=if c/s.t.W>0 then c-s.t.W else-1:=rfl
 have n1:eJ s.t c (1:Nat)=if c%s.t.W<s.t.W-1 then c+1 else-1:=rfl
 have n2:eJ s.t c (2:Nat)=if c/s.t.W<s.t.H-1 then c+s.t.W else-1:=rfl
 have n3:eJ s.t c (3:Nat)=if c%s.t.W>0 then c-1 else-1:=rfl
 have FX:=Int.mul_ediv_add_emod c s.t.W;have s0:Ok (if c/s.t.W>0 then(kG.f s (c-s.t.W) key).bind λv7=>some (v7.t.W,v7.t.H,v7.wait,v7.todo,v7.aR) else some (s.t.W,s.t.H,s.wait,s.todo,s.aR)) (λp=>Ar s n key c 1 ⟨⟨p.1,p.2.1,s.t.C⟩,p.2.2.1,p.2.2.2.1,p.2.2.2.2⟩):=by
  refine Ok.ite (λz=>?_) λz=>Ok.pure (Ix (j:=0) A0 U (by rw[n0,ah z]))
  have cu:=KJ ht.1 (s:=(0:Nat)) c0 c1;rw[n0,af z] at cu;refine(Iw (j:=0) ht hd A0 U k0 k1 c0 c1 (by rw[n0,af z]) (λy=>?_)).bind λv hv=>Ok.pure ?_
  ·have:s.t.W*1<=s.t.W*(c/s.t.W):=Int.mul_le_mul_of_nonneg_left U U;have:=Int.emod_nonneg c (show s.t.W≠0 by omega)
   omega
  ·simp only;rw[Iv hv.t_];exact hv
 refine s0.bind λp hp=>?_
 obtain⟨x1,x2,x3,x4,x5⟩:=p;simp only at hp⊢;have et:=hp.t_;simp only at et;have e1:x1=s.t.W:=by rw[<-et]
 have e2:x2=s.t.H:=by rw[<-et]
 subst e1;subst e2;rw[wi (x:=s.t.W-1) U U];have s1:Ok (if c%s.t.W<s.t.W-1 then(kG.f (de.mk (aJ.mk s.t.W s.t.H s.t.C) x3 x4 x5) (c+1) key).bind λbY=>some (bY.t.W,bY.t.H,bY.wait,bY.todo,bY.aR) else some (s.t.W,s.t.H,x3,x4,x5)) (λp=>Ar s n key c 2 ⟨⟨p.1,p.2.1,s.t.C⟩,p.2.2.1,p.2.2.2.1,p.2.2.2.2⟩):=by
  refine Ok.ite (λz=>?_) λz=>Ok.pure (Ix (j:=1) hp U (by rw[n1,ah z]))
  refine(Iw (j:=1) ht hd hp U k0 k1 c0 c1 (by rw[n1,af z]) U).bind λv hv=>Ok.pure ?_
  simp only;rw[Iv hv.t_];exact hv
 refine s1.bind λp hp=>?_
 obtain⟨x1,x2,x3,x4,x5⟩:=p;simp only at hp⊢;have et:=hp.t_;simp only at et;have e1:x1=s.t.W:=by rw[<-et]
 have e2:x2=s.t.H:=by rw[<-et]
 subst e1;subst e2;rw[wi (x:=s.t.H-1) U U];have s3: ∀v:de,Ar s n key c 3 v->Ok (if c%s.t.W>0 then(kG.f v (c-1) key).bind λd_=>some (de.mk (aJ.mk d_.t.W d_.t.H s.t.C) d_.wait d_.todo d_.aR) else some v) (Ar s n key c 4):=λv hv=>by
  refine Ok.ite (λz=>?_) λz=>Ok.pure (Ix (j:=3) hv U (by rw[n3,ah z]))
  refine(Iw (j:=3) ht hd hv U k0 k1 c0 c1 (by rw[n3,af z]) (λy=>?_)).bind λv hv=>Ok.pure ?_
  ·have:c=0:=U;subst this;simp at z
  ·rw[Iv hv.t_];exact hv
 refine Ok.ite (λz=>?_) λz=>?_
 ·rw[wi (x:=c+s.t.W) U U];refine(Iw (j:=2) ht hd hp U k0 k1 c0 c1 (by rw[n2,af z]) U).bind λv hv=>?_
  rw[Iv hv.t_];exact s3 v hv
 ·exact s3 _ (Ix (j:=2) hp U (by rw[n2,ah z]))
def EP (t:aJ) (l:List a_) (D:List Int) (i k:Int):Prop:=
 (∃x∈l,x.Cell=i/\x.Key=k)∨ ∃c d:Int,0<=c/\c<t.C.length/\0<=d/\d<=3/\rd D c≠cK/\eJ t c d=i/\rd D c+rd t.C c=k
def uk (t:aJ) (D:List Int):Nat:=eG (λc=>rd D c==cK) t.C.length
structure Bl (t:aJ) (l:List a_) (K:Int) (r:ez) (todo:List a_) (D:List Int) (n:Nat):Prop where
 ring:iF r n
 room:n+todo.length+4*uk t D<=2000000
 dl:D.length=t.C.length
 dv: ∀c:Int,0<=c->c<t.C.length->rd D c≠cK->0<=rd D c/\rd D c<=r.ba/\rd D c+254*(uk t D:Int)<=K/\rd t.C c≠255/\EP t l D c (rd D c)
 hs: ∀k i,Has r k i->0<=i/\i<t.C.length/\rd t.C i≠255/\k+254*(uk t D:Int)<=K/\EP t l D i k
 nb: ∀c d:Int,0<=c->c<t.C.length->rd D c≠cK->0<=d->d<=3->0<=eJ t c d->rd t.C (eJ t c d)≠255->(rd D (eJ t c d)≠cK/\rd D (eJ t c d)<=rd D c+rd t.C c)∨Has r (rd D c+rd t.C c) (eJ t c d)
 sd: ∀x∈l,x∈todo∨Has r x.Key x.Cell∨(rd D x.Cell≠cK/\rd D x.Cell<=x.Key)
 td: ∀x∈todo,x∈l/\r.ba<=x.Key
 so:todo.Pairwise (λa b=>a.Key<=b.Key)
def Full (r:ez) (todo:List a_):Prop:=todo=[]∨(r.len≠0/\ ∀x∈todo,r.ba+256<=x.Key)
section
variable {t : aJ} {l : List a_} {K : Int}
theorem OH (hl: ∀x∈l,qf t x/\x.Key+254*256<=K) (ht:ma t) (s:de) (hs:s.t=t) {n:Nat} (h:Bl t l K s.wait s.todo s.aR n):
 Ok (jT.f s) (λq=>q.t=t/\q.aR=s.aR/\q.wait.len+2*q.todo.length<=s.wait.len+2*s.todo.length/\Full q.wait q.todo/\ ∃n',Bl t l K q.wait q.todo s.aR n'):=by
 have hk: ∀x∈s.todo,0<=x.Key/\x.Key<=1073741824:=λx hx=>by have:=(hl x (h.td x hx).1).1;exact⟨this.2.2.2.1,this.2.2.2.2.1⟩
 have hu:uk t s.aR<=256:=by unfold uk;have:=Ft (λc=>rd s.aR c==cK) t.C.length;have:=ou ht.1;omega
 refine(aa4 s h.ring (by have:=h.room;omega) hk).mono λq hq=>?_
 obtain⟨q1,q2,r,q3,q4,q5⟩:=hq;obtain⟨n',f1,f2⟩:=q5.ring;obtain⟨A,g1,g2⟩:=q5.Wv;have sw:s.wait.ba<=r.ba/\(∀x∈s.todo,r.ba<=x.Key)/\r.len=s.wait.len:=by
  rcases q3 with⟨rfl,_⟩ |⟨z0,z,x,m,e,e2⟩
  ·exact⟨Int.le_refl _,λx hx=>(h.td x hx).2,J⟩
  ·have hx:=(h.td x (by rw[e];exact List.mem_cons_self ..)).2
   rw[ah U] at e2;refine⟨by omega,λy hy=>?_,by omega⟩
   have so:=h.so;rw[e] at hy so;rcases List.mem_cons.1 hy with rfl |hy
   ·omega
   ·have:=(List.pairwise_cons.1 so).1 y hy;omega
 have adZ:Full q.wait q.todo:=by
  cases JD:q.todo with
  |nil=>exact .inl J
  |cons y m=>
   have hy:=q5.end_ y m JD;have NL:y∈s.todo:=by rw[g1,JD];simp
   have:=sw.2.1 y NL;have ha:=q5.at_;refine .inr ⟨λz0=>?_,λx hx=>?_⟩
   ·have gD:=f1.none z0;rcases q3 with⟨rfl,z |z⟩ |⟨_,z,x,m',e,e2⟩
    ·obtain⟨k,i,hh⟩:=h.ring.some z;exact gD k i (q5.tR k i hh)
    ·rw[z] at NL;simp at NL
    ·rw[ah (by have:=(h.td x (by rw[e];exact List.mem_cons_self ..)).2;omega)] at e2
     cases A with
     |nil=>
      rw[List.nil_append,JD] at g1;rw[e] at g1;simp only[List.cons.injEq] at g1;rw[<-g1.1] at hy;omega
     |cons a A=>exact gD _ _ (g2 a (List.mem_cons_self ..))
   ·have so:=h.so;rw[g1,JD] at so;have so:=(List.pairwise_append.1 so).2.1;rcases List.mem_cons.1 hx with rfl |hx
    ·omega
    ·have:=(List.pairwise_cons.1 so).1 x hx;omega
 refine⟨q1.trans hs,q2,by have:=q5.len_;omega,adZ,n',⟨f1,by have:=h.room;omega,h.dl,λc c0 c1 hc=>?_,λk i hh=>?_,λc d c0 c1 hc d0 d3 p0 p1=>?_,λx hx=>?_,λx hx=>?_,?_⟩⟩
 ·obtain⟨a,b,c,d⟩:=h.dv c c0 c1 hc;exact⟨a,by rw[q5.at_];omega,c,d⟩
 ·rcases q5.new k i hh with z |⟨x,hx,rfl,rfl⟩
  ·exact h.hs k i ((q4 k i).1 z)
  ·have pa:=(h.td x hx).1;obtain⟨⟨a,b,c,d⟩,e⟩:=hl x pa;exact⟨a,b,c,by omega,.inl ⟨x,pa,J,J⟩⟩
 ·rcases h.nb c d c0 c1 hc d0 d3 p0 p1 with z |z
  ·exact .inl z
  ·exact .inr (q5.tR _ _ ((q4 _ _).2 z))
 ·rcases h.sd x hx with z |z |z
  ·rw[g1] at z;rcases List.mem_append.1 z with z |z
   ·exact .inr (.inl (g2 x z))
   ·exact .inl z
  ·exact .inr (.inl (q5.tR _ _ ((q4 _ _).2 z)))
  ·exact .inr (.inr z)
 ·have pa:x∈s.todo:=by rw[g1];exact List.mem_append_right _ hx
  exact⟨(h.td x pa).1,by rw[q5.at_];exact sw.2.1 x pa⟩
 ·have so:=h.so;rw[g1] at so;exact(List.pairwise_append.1 so).2.1
theorem On {D D':List Int} (h: ∀c:Int,0<=c->c<t.C.length->rd D c≠cK->rd D' c=rd D c) {i k:Int} (hp:EP t l D i k):EP t l D' i k:=by
 rcases hp with z |⟨c,d,c0,c1,d0,d3,e,f,g⟩
 ·exact .inl z
 ·have:=h c c0 c1 e;exact .inr ⟨c,d,c0,c1,d0,d3,by rw[this];exact e,f,by rw[this];exact g⟩
structure qg (t:aJ) (l:List a_) (K:Int) (D:List Int):Prop where
 dl:D.length=t.C.length
 dv: ∀c:Int,0<=c->c<t.C.length->rd D c≠cK->0<=rd D c/\rd D c<=K/\rd t.C c≠255/\EP t l D c (rd D c)
 nb: ∀c d:Int,0<=c->c<t.C.length->rd D c≠cK->0<=d->d<=3->0<=eJ t c d->rd t.C (eJ t c d)≠255->rd D (eJ t c d)≠cK/\rd D (eJ t c d)<=rd D c+rd t.C c
 sd: ∀x∈l,rd D x.Cell≠cK/\rd D x.Cell<=x.Key
theorem ahl (hl: ∀x∈l,qf t x/\x.Key+254*256<=K) (hK:K<=1100000000) (ht:ma t) (s:de) (hs:s.t=t): ∀(m k:Nat) (r:ez) (todo:List a_) (D:List Int) (n:Nat),(5*uk t D+2*todo.length+r.len).toNat<=m->m<k->Bl t l K r todo D n->Full r todo->
 Ok (nO.l0 k s t.W t.H r todo D) (λq=>qg t l K q.aR):=by
 have oe:=ou ht.1;have hI:cK=1099511627776:=rfl;have fin: ∀(k:Nat) (r:ez) (todo:List a_) (D:List Int) (n:Nat),Bl t l K r todo D n->Full r todo->r.len=0->Ok (nO.l0 (k+1) s t.W t.H r todo D) (λq=>qg t l K q.aR):=by
  intro k r todo D n h hf h0;rw[nO.l0];refine Ok.eq (v:=r.len) J (Ok.neg U (Ok.pure ?_));have gD:=h.ring.none h0;have JG:todo=[]:=hf.resolve_right λz=>z.1 h0
  refine⟨h.dl,λc c0 c1 hc=>?_,λc d c0 c1 hc d0 d3 p0 p1=>?_,λx hx=>?_⟩
  ·obtain⟨a1,a2,a3,a4⟩:=h.dv c c0 c1 hc;exact⟨a1,by show rd D c<=K;omega,a4⟩
  ·exact(h.nb c d c0 c1 hc d0 d3 p0 p1).resolve_right (gD _ _)
  ·rcases h.sd x hx with z |z |z
   ·rw[JG] at z;simp at z
   ·exact absurd z (gD _ _)
   ·exact z
 intro m
 induction m with
 |zero=>
  intro k r todo D n hm hk h hf;obtain⟨k,rfl⟩:=bl hk;have:=h.ring.Cc;exact fin k r todo D n h hf U
 |succ m ih=>
  intro k r todo D n hm hk h hf;obtain⟨k,rfl⟩:=bl hk;have hlen:=h.ring.Cc
  by_cases h0:r.len=0
  ·exact fin k r todo D n h hf h0
  obtain⟨x,y,B2⟩:=h.ring.some h0;rw[nO.l0];refine Ok.eq (v:=r.len) J (Ok.pos U ((ahf h.ring (by have:=(h.hs x y B2).2.2.2.1;omega) B2).bind λv hv=>?_))
  obtain⟨v1,v2,v3,v4,v5,v6,v7,v8⟩:=hv;obtain⟨i0,i1,i2,i3,i4⟩:=h.hs _ _ v5;have sw:=v5.1;have aji:=v5.2.1;have JG: ∀x∈todo,v.1<=x.Key:=λx hx=>by
   rcases hf with z |⟨_,z⟩
   ·rw[z] at hx;simp at hx
   ·have:=z x hx;omega
  refine Ok.cw (by rw[h.dl];exact⟨i0,i1⟩) (Ok.ite (λq=>?_) λq=>?_)
  ·have q:rd D v.2.1=cK:=by simpa using q
   have hi:=ht.2 _ i0 i1;have dN: ∀c:Int,0<=c->rd (List.set D v.2.1.toNat v.1) c=if c=v.2.1 then v.1 else rd D c:=λc c0=>kX i0 (by rw[h.dl];exact i1) c0
   have yF:0<=v.1:=by have:=h.ring.at_;omega
   have hu:uk t D=uk t (List.set D v.2.1.toNat v.1)+1:=by
    unfold uk;refine LV (c:=v.2.1) i0 i1 (by simp[q]) ?_ λi a b hi=>?_
    ·rw[dN _ i0,af J];simp;omega
    ·rw[dN _ a,ah hi]
   have hold: ∀c:Int,0<=c->c<t.C.length->rd D c≠cK->rd (List.set D v.2.1.toNat v.1) c=rd D c:=λc c0 c1 hc=>by
    rw[dN c c0,ah (λz=>hc (by rw[z];exact q))]
   have e:(de.mk (aJ.mk t.W t.H s.t.C) v.2.2.2 todo (List.set D (Int.toNat v.2.1) v.1))=de.mk t v.2.2.2 todo (List.set D (Int.toNat v.2.1) v.1):=by rw[hs]
   rw[e];have hr:=h.room;refine(XY (de.mk t v.2.2.2 todo (List.set D (Int.toNat v.2.1) v.1)) ht (by simp[h.dl]) v2 U i0 i1 (by simp only;rw[dN _ i0,af J];exact yF) (by simp only;rw[dN _ i0,af J];omega)).bind λa ha=>?_
   have uY:rd (List.set D v.2.1.toNat v.1) v.2.1=v.1:=by rw[dN _ i0,af J]
   have Lo:=ha.td;have Lg:=ha.ds;have Lm:=ha.t_;have XD:=ha.len_;have Le:=ha.at_;simp only at Lo Lg Lm XD Le;have aC:a.t.C=s.t.C:=by rw[Lm,hs]
   have ea:de.mk (aJ.mk a.t.W a.t.H s.t.C) a.wait a.todo a.aR=a:=by rw[<-aC]
   rw[ea];have nq:Bl t l K a.wait a.todo a.aR (n+4):=by
    rw[Lo,Lg];refine⟨ha.ring,by omega,by simp[h.dl],λc c0 c1 hc=>?_,λk i hh=>?_,λc d c0 c1 hc d0 d3 p0 p1=>?_,λx hx=>?_,λx hx=>⟨(h.td x hx).1,by rw[Le,v3];exact JG x hx⟩,h.so⟩
    ·rw[Le,v3]
     by_cases z:c=v.2.1
     ·subst z;rw[uY];exact⟨yF,Int.le_refl _,by omega,i2,On hold i4⟩
     ·rw[dN c c0,ah z] at hc⊢;obtain⟨b1,b2,b3,b4,b5⟩:=h.dv c c0 c1 hc;exact⟨b1,by omega,by omega,b4,On hold b5⟩
    ·rcases ha.new k i hh with z |⟨rfl,d,d0,d4,rfl,w0,w1,w2,w3⟩
     ·obtain⟨b1,b2,b3,b4,b5⟩:=h.hs k i (v7 k i z);exact⟨b1,b2,b3,by omega,On hold b5⟩
     ·simp only at w0 w1 w2 uY⊢;rw[uY];exact⟨w0,w1,w2,by omega,.inr ⟨v.2.1,d,i0,i1,d0,by omega,by rw[uY];omega,J,by rw[uY]⟩⟩
    ·have hn:0<=eJ t c d/\eJ t c d<t.C.length:=(KJ ht.1 c0 c1).resolve_left U
     by_cases z:c=v.2.1
     ·subst z;rw[uY]
      by_cases w:rd (List.set D v.2.1.toNat v.1) (eJ t v.2.1 d)=cK
      ·refine .inr ?_;have:=ha.all (by simp only;rw[uY,v3];omega) (by simp only;rw[uY,v3];omega) d d0 U p0 p1 w
       simp only at this;rw[uY] at this;exact this
      ·refine .inl ⟨w,?_⟩;rw[dN _ hn.1] at w⊢;split
       ·omega
       ·rename_i y;rw[ah y] at w;have:=(h.dv _ hn.1 hn.2 w).2.1;omega
     ·rw[dN c c0,ah z] at hc⊢;rcases h.nb c d c0 c1 hc d0 d3 p0 p1 with⟨w1,w2⟩ |w
      ·exact .inl (by rw[hold _ hn.1 hn.2 w1];exact⟨w1,w2⟩)
      ·rcases v8 _ _ w with⟨y1,y2⟩ |y
       ·refine .inl ?_;rw[y2,uY];exact⟨by omega,by omega⟩
       ·exact .inr (ha.tR _ _ y)
    ·have TS:=(hl x hx).1;rcases h.sd x hx with z |z |⟨z1,z2⟩
     ·exact .inl z
     ·rcases v8 _ _ z with⟨y1,y2⟩ |y
      ·exact .inr (.inr (by rw[y2,uY];exact⟨by omega,by omega⟩))
      ·exact .inr (.inl (ha.tR _ _ y))
     ·exact .inr (.inr (by rw[hold _ TS.1 TS.2.1 z1];exact⟨z1,z2⟩))
   refine(OH hl ht a Lm nq).bind λw hw=>?_
   obtain⟨w1,w2,w3,w4,n',w5⟩:=hw;rw[w1,w2];refine ih k w.wait w.todo a.aR n' ?_ U w5 w4;rw[Lg] at*;rw[Lo] at w3;omega
  ·have q:rd D v.2.1≠cK:=by simpa using q
   have hd:=(h.dv _ i0 i1 q).2.1;have nq:Bl t l K v.2.2.2 todo D n:=by
    refine⟨v2,h.room,h.dl,λc c0 c1 hc=>?_,λk i hh=>h.hs k i (v7 k i hh),λc d c0 c1 hc d0 d3 p0 p1=>?_,λx hx=>?_,λx hx=>⟨(h.td x hx).1,by rw[v3];exact JG x hx⟩,h.so⟩
    ·obtain⟨b1,b2,b3⟩:=h.dv c c0 c1 hc;exact⟨b1,by omega,b3⟩
    ·rcases h.nb c d c0 c1 hc d0 d3 p0 p1 with w |w
     ·exact .inl w
     ·rcases v8 _ _ w with⟨y1,y2⟩ |y
      ·exact .inl (by rw[y2];exact⟨q,by omega⟩)
      ·exact .inr y
    ·rcases h.sd x hx with z |z |z
     ·exact .inl z
     ·rcases v8 _ _ z with⟨y1,y2⟩ |y
      ·exact .inr (.inr (by rw[y2];exact⟨q,by omega⟩))
      ·exact .inr (.inl y)
     ·exact .inr (.inr z)
   have e:(de.mk (aJ.mk t.W t.H s.t.C) v.2.2.2 todo D)=de.mk t v.2.2.2 todo D:=by rw[hs]
   rw[e];refine(OH hl ht (de.mk t v.2.2.2 todo D) J nq).bind λw hw=>?_
   obtain⟨w1,w2,w3,w4,n',w5⟩:=hw;rw[w1,w2];exact ih k w.wait w.todo D n' (by simp only at w3;omega) U w5 w4
theorem Wq (ht:ma t) (hb:l.length<=1000000) (hK:K<=1100000000) (hl: ∀x∈l,qf t x/\x.Key+254*256<=K):Ok (tf.f t l) (λr=>r.2=0/\qg t l K r.1):=by
 have oe:=ou ht.1;unfold tf.f;refine(Wm ht l hb).bind λb jv=>?_
 have:b=true:=jv.2 λx hx=>(hl x hx).1;subst this;refine Ok.neg bk ?_;obtain⟨r,e1,e2,e3,e4⟩:=ag';refine Ok.bind (P:=λp=> ∃S:List a_,p=(t.W,t.H,t.C,r,S,List.replicate t.C.length cK)/\S.length<=l.length/\(∀e,e∈S↔e∈l)/\S.Pairwise (λa b=> ¬sQ b a)) (Ok.eq e1 ((OY l hb).bind λS hS=>Ok.eq (VQ U U) (Ok.pure ⟨S,J,hS⟩))) λp hp=>?_
 obtain⟨S,rfl,s1,s2,s3⟩:=hp;simp only;have Ah: ∀x∈S,qf t x/\x.Key+254*256<=K:=λx hx=>hl x ((s2 x).1 hx);have Gd: ∀c:Int,0<=c->c<t.C.length->rd (List.replicate t.C.length cK) c=cK:=λc c0 c1=>vy c0 U
 have hu:uk t (List.replicate t.C.length cK)<=256:=by unfold uk;have:=Ft (λc=>rd (List.replicate t.C.length cK) c==cK) t.C.length;omega
 have nq:Bl t S K r S (List.replicate t.C.length cK) 0:=by
  refine⟨e3,by omega,by simp,λc c0 c1 hc=>absurd (Gd c c0 c1) hc,λk i hh=>absurd hh (e4 k i),λc d c0 c1 hc=>absurd (Gd c c0 c1) hc,λx hx=> .inl hx,λx hx=>⟨hx,by rw[e2];exact(Ah x hx).1.2.2.2.1⟩,s3.imp λ{a b} h=>?_⟩
  unfold sQ at h;omega
 unfold nO.f;refine Ok.bind (P:=λq=>qg t l K q.aR) ?_ λq hq=>Ok.pure ⟨J,hq⟩
 refine(OH Ah ht ⟨t,r,S,List.replicate t.C.length cK⟩ J nq).bind λw hw=>?_
 obtain⟨w1,w2,w3,w4,n',w5⟩:=hw;rw[w1,w2];have hlen:=e3.Cc;have Ga:r.len=0:=Classical.byContradiction λz=>by obtain⟨k,i,hh⟩:=e3.some z;exact e4 k i hh
 refine(ahl Ah hK ht ⟨⟨t.W,t.H,t.C⟩,r,S,List.replicate t.C.length cK⟩ J 3000000 fuel w.wait w.todo _ n' (by show(5*uk t (List.replicate t.C.length cK)+2*w.todo.length+w.wait.len).toNat<=3000000;have w3:w.wait.len+2*w.todo.length<=r.len+2*S.length:=w3;omega) (by rw[cM];omega) w5 w4).mono λq hq=>⟨hq.dl,λc c0 c1 hc=>?_,hq.nb,λx hx=>hq.sd x ((s2 x).2 hx)⟩
 obtain⟨b1,b2,b3,b4⟩:=hq.dv c c0 c1 hc;refine⟨b1,b2,b3,?_⟩;rcases b4 with⟨x,hx,z⟩ |z
 ·exact .inl ⟨x,(s2 x).1 hx,z⟩
 ·exact .inr z
theorem OZ (ht:ma t) {K':Int} {D D':List Int} (h:qg t l K D) (h':qg t l K' D'): ∀(n:Nat) (c:Int),0<=c->c<t.C.length->rd D c≠cK->rd D c<=n->rd D' c≠cK/\rd D' c<=rd D c:=by
 intro n
 induction n with
 |zero=>
  intro c c0 c1 hc hn;obtain⟨a1,a2,a3,a4⟩:=h.dv c c0 c1 hc;rcases a4 with⟨x,hx,e1,e2⟩ |⟨q,d,q0,q1,d0,d3,e1,e2,e3⟩
  ·have:=h'.sd x hx;rw[e1] at this;exact⟨this.1,by omega⟩
  ·have:=(h.dv q q0 q1 e1).1;have:=ht.2 q q0 q1;omega
 |succ n ih=>
  intro c c0 c1 hc hn;obtain⟨a1,a2,a3,a4⟩:=h.dv c c0 c1 hc;rcases a4 with⟨x,hx,e1,e2⟩ |⟨q,d,q0,q1,d0,d3,e1,e2,e3⟩
  ·have:=h'.sd x hx;rw[e1] at this;exact⟨this.1,by omega⟩
  ·have hC:=ht.2 q q0 q1;obtain⟨b1,b2⟩:=ih q q0 q1 e1 U;have:=h'.nb q d q0 q1 b1 d0 d3 U (by rw[e2];exact a3)
   rw[e2] at this;exact⟨this.1,by omega⟩
theorem ah' (ht:ma t) {K':Int} {D D':List Int} (h:qg t l K D) (h':qg t l K' D') {c:Int} (c0:0<=c) (c1:c<t.C.length):rd D c=rd D' c:=by
 by_cases z:rd D c=cK
 ·by_cases z':rd D' c=cK
  ·rw[z,z']
  ·exact absurd z (OZ ht h' h (rd D' c).toNat c c0 c1 z' (by have:=(h'.dv c c0 c1 z').1;omega)).1
 ·have q:=OZ ht h h' (rd D c).toNat c c0 c1 z (by have:=(h.dv c c0 c1 z).1;omega)
  have:=OZ ht h' h (rd D' c).toNat c c0 c1 q.1 (by have:=(h'.dv c c0 c1 q.1).1;omega)
  omega
theorem aia (ht:ma t) {D:List Int} (h:qg t l K D) {c:Int} (c0:0<=c) (c1:c<t.C.length) (hc:rd D c=0): ∃x∈l,x.Cell=c/\x.Key=0:=by
 have hI:cK=1099511627776:=rfl;obtain⟨a1,a2,a3,a4⟩:=h.dv c c0 c1 U;rcases a4 with⟨x,hx,e1,e2⟩ |⟨q,d,q0,q1,d0,d3,e1,e2,e3⟩
 ·exact⟨x,hx,e1,by omega⟩
 ·have:=(h.dv q q0 q1 e1).1;have:=ht.2 q q0 q1;omega
end
section
variable {t : aJ} {l : List a_} {K : Int} {D : List Int}
def uH (l:List a_) (c s:Int):Int:=(kE.f l c s).getD 0
theorem Qp (hb:l.length<=1000000) (c s:Int):kE.f l c s=some (uH l c s):=by
 obtain⟨r,e⟩:=Zi l c s hb;unfold uH;rw[e];rfl
theorem afM (ht:ma t) {c s:Int} (c0:0<=c) (c1:c<t.C.length) (s0:0<=s) (s3:s<=3):CW.f ⟨t,l,D⟩ c s=some (eJ t c s):=by
 have hl:=ou ht.1;obtain⟨a1,a2,a3,a4,a5,_⟩:=ht.1;have hq:0<=c/t.W/\c/t.W<=c:=⟨Int.ediv_nonneg c0 U,Int.ediv_le_self _ c0⟩;unfold CW.f eJ;simp only;rw[af (show ¬t.W=0 by omega),af (show ¬t.W=0 by omega),qP c0,mS c0,wi (x:=c/t.W) U U,wi (x:=t.W-1) U U,wi (x:=t.H-1) U U,wi (x:=c-t.W) U U,wi (x:=c+1) U U,wi (x:=c+t.W) U U,wi (x:=c-1) U U]
 have hs:s=0∨s=1∨s=2∨s=3:=U;rcases hs with rfl |rfl |rfl |rfl
 ·by_cases z:0<c/t.W<;>simp[z]
 ·by_cases z:c%t.W<t.W-1<;>simp[z]
 ·by_cases z:c/t.W<t.H-1<;>simp[z]
 ·by_cases z:0<c%t.W<;>simp[z]
def zK (t:aJ) (l:List a_) (D:List Int) (c s:Int):Bool:=
 if eJ t c s<0 then uH l c s==rd D c else decide (rd t.C (eJ t c s)≠255/\rd t.C (eJ t c s)+rd D (eJ t c s)=rd D c)
theorem aib (hK:K<=1100000000) (h:qg t l K D) {c:Int} (c0:0<=c) (c1:c<t.C.length):0<=rd D c/\rd D c<=1099511627776:=by
 have hI:cK=1099511627776:=rfl
 by_cases z:rd D c=cK
 ·omega
 ·have:=h.dv c c0 c1 z;omega
theorem Kv (ht:ma t) (hb:l.length<=1000000) (hK:K<=1100000000) (h:qg t l K D) {c s:Int} (c0:0<=c) (c1:c<t.C.length) (s0:0<=s) (s3:s<=3):kF.f ⟨t,l,D⟩ c s=some (zK t l D c s):=by
 have BR:=h.dl;unfold kF.f zK;rw[afM ht c0 c1 s0 s3];simp only[aL]
 by_cases z:eJ t c s<0
 ·rw[af z,af z,Qp hb];simp only[aL];rw[af U]
 ·have hn:=(KJ ht.1 (s:=s) c0 c1).resolve_left U;have hC:=ht.2 _ hn.1 hn.2;have hD:=aib hK h hn.1 hn.2;rw[ah z,ah z,af hn]
  by_cases y:rd t.C (eJ t c s)=255
  ·rw[ah (by simp[y])];simp[y]
  ·rw[af (by simpa using y),af U,af U,wi (x:=rd t.C (eJ t c s)) U U,wi U U]
   simp only[aL,Option.some.injEq];rw[Bool.eq_iff_iff];simp[y]
def Hf (t:aJ) (l:List a_) (D:List Int) (c:Int):Int:=
 if zK t l D c 0=true then 0 else if zK t l D c 1=true then 1 else if zK t l D c 2=true then 2 else if zK t l D c 3=true then 3 else 5
def yi (t:aJ) (l:List a_) (D:List Int) (c:Int):Int:=if rd D c=cK then 5 else if rd D c=uH l c 4 then 4 else Hf t l D c
theorem aaJ (c:Int):0<=yi t l D c/\yi t l D c<=5:=by
 unfold yi Hf
 repeat' split
 all_goals omega
theorem ahB (ht:ma t) (hb:l.length<=1000000) (hK:K<=1100000000) (h:qg t l K D) {c:Int} (c0:0<=c) (c1:c<t.C.length):CV.f ⟨t,l,D⟩ c=some (yi t l D c):=by
 have BR:=h.dl;unfold CV.f Ew.f yi Hf;simp only[Kv ht hb hK h c0 c1 (Int.le_refl 0) (by omega:(0:Int)<=3),Kv ht hb hK h c0 c1 (by omega:(0:Int)<=1) U,Kv ht hb hK h c0 c1 (by omega:(0:Int)<=2) U,Kv ht hb hK h c0 c1 (by omega:(0:Int)<=3) U,Qp hb,aL,beq_self_eq_true,if_true]
 rw[af U]
 by_cases z:rd D c=cK
 ·rw[af (by simpa using z),af z]
 ·rw[ah (by simpa using z),ah z]
  by_cases y:rd D c=uH l c 4
  ·rw[af (by simpa using y),af y]
  ·rw[ah (by simpa using y),ah y]
   repeat' split
   all_goals rfl
structure we (t:aJ) (l:List a_) (K:Int) (f:fZ):Prop where
 aR:qg t l K f.fb
 dl:f.cA.length=t.C.length
 dir: ∀c:Int,0<=c->c<t.C.length->rd f.cA c=yi t l f.fb c
theorem aa3 (ht:ma t) (hb:l.length<=1000000) (hK:K<=1100000000) (h:qg t l K D) (z:Int): ∀(n k:Nat) (x:List Int) (i:Int),(t.C.length-i).toNat<=n->n<k->0<=i->i<=t.C.length->(x.length:Int)=i->(∀c:Int,0<=c->c<i->rd x c=yi t l D c)->
 Ok (nM.l0 k t l (D,z) x i) (λr=>r.2=0/\we t l K r.1):=by
 have oe:=ou ht.1;have BR:=h.dl;have fin: ∀(k:Nat) (x:List Int) (i:Int),¬i<t.C.length->i<=t.C.length->(x.length:Int)=i->(∀c:Int,0<=c->c<i->rd x c=yi t l D c)->Ok (nM.l0 (k+1) t l (D,z) x i) (λr=>r.2=0/\we t l K r.1):=λk x i hi dZ hx ha=>by
  rw[nM.l0,ah (by simp only;omega)]
  exact Ok.pure ⟨J,h,by simp only;omega,λc c0 c1=>ha c c0 U⟩
 intro n
 induction n with
 |zero=>
  intro k x i hn hk hi dZ hx ha;obtain⟨k,rfl⟩:=bl hk;exact fin k x i U dZ hx ha
 |succ n ih=>
  intro k x i hn hk hi dZ hx ha;obtain⟨k,rfl⟩:=bl hk
  by_cases aQ:i<t.C.length
  ·rw[nM.l0,wi U U];refine Ok.pos (by simp only;omega) (Ok.eq (ahB ht hb hK h hi aQ) (Ok.cw U (ih k _ (i+1) U U U U bm λc c0 c1=>?_)))
   rw[Oy c0 U];split
   ·rename_i q;rw[q,hx]
   ·exact ha c c0 U
  ·exact fin k x i aQ dZ hx ha
theorem aa2 (ht:ma t) (hb:l.length<=1000000) (hK:K<=1100000000) (hl: ∀x∈l,qf t x/\x.Key+254*256<=K):Ok (nM.f t l) (λr=>r.2=0/\we t l K r.1):=by
 have oe:=ou ht.1;unfold nM.f;refine(Wq ht hb hK hl).bind λv hv=>?_
 obtain⟨D,z⟩:=v;simp only at hv⊢;exact Ok.neg (by simp[hv.1]) (aa3 ht hb hK hv.2 z t.C.length fuel [] 0 U (by rw[cM];omega) U U J (λc c0 c1=>by omega))
end
def kH (m:aJ) (s:Int) (n:Nat):List Int:=(List.range n).map λl:Nat=>rd m.C (db m.W m.H s (l:Int))
theorem C1 (m:aJ) (s:Int) (n:Nat):(kH m s n).length=n:=by simp[kH]
theorem aiD (m:aJ) (s:Int) (n:Nat):kH m s (n+1)=kH m s n++[rd m.C (db m.W m.H s (n:Int))]:=by
 simp[kH,List.range_succ]
theorem aiC (m:aJ) (s:Int) (n a:Nat):kH m s (n+a)=kH m s n++(List.range a).map λx:Nat=>rd m.C (db m.W m.H s ((n+x:Nat):Int)):=by
 simp only[kH,List.range_add,List.map_append,List.map_map];rfl
theorem zZ {w h s l:Int} (hs:bI w h s) (h0:0<=l) (h1:l<(ax w h s).1*(ax w h s).2):0<=db w h s l/\db w h s l<w*h:=by
 obtain⟨a1,a2,a3,a4,a5,a6⟩:=wI hs h0 h1;obtain⟨p1,p2,p3,p4⟩:=ug hs;have e:db w h s l=(16*(s/(bo w h).1)+l/(ax w h s).1)*w+(16*(s%(bo w h).1)+l%(ax w h s).1):=by
  unfold db;rw[af ⟨hs,h0,h1⟩]
 rw[e];exact r_ U a5 U a6
theorem global_row {w h s y x:Int} (hs:bI w h s) (y0:0<=y) (y1:y<(ax w h s).2) (x0:0<=x) (x1:x<(ax w h s).1):db w h s (y*(ax w h s).1+x)=db w h s (y*(ax w h s).1)+x:=by
 obtain⟨z1,z2,z3,z4⟩:=pY hs;have hl:=r_ (w:=(ax w h s).1) (h:=(ax w h s).2) x0 x1 y0 y1;have Ai:=r_ (w:=(ax w h s).1) (h:=(ax w h s).2) (x:=0) U U y0 y1;have n1:=qC (a:=(ax w h s).1) (x:=x) (y:=y) x0 x1;have n0:=qC (a:=(ax w h s).1) (x:=0) (y:=y) U U;rw[Int.add_zero] at n0 Ai;unfold db;rw[af ⟨hs,hl⟩,af ⟨hs,Ai⟩,n1.1,n1.2,n0.1,n0.2];omega
theorem aiu {L:List Int} {lo:Int} {a:Nat} (h0:0<=lo) (h1:lo+a<=L.length):aA L lo (lo+a)=(List.range a).map λx:Nat=>rd L (lo+(x:Int)):=by
 apply List.ext_getElem
 ·simp[aA];omega
 ·intro i h2 h3;have hi:i<a:=by simpa using h3
  simp only[aA,List.getElem_take,List.getElem_drop,List.getElem_map,List.getElem_range];rw[jm U]
  congr 1;omega
theorem aiE {m:aJ} (hm:tq m) (s:Int):nF.f m s=some (aJ.mk (ax m.W m.H s).1 (ax m.W m.H s).2 (kH m s ((ax m.W m.H s).1*(ax m.W m.H s).2).toNat)):=by
 unfold nF.f;rw[VX,aL];have hz:=size_le m.W m.H s;have hpr:(ax m.W m.H s).1*(ax m.W m.H s).2<=16*16:=kA hz.1 hz.2.2.1 hz.2.1 hz.2.2.2;have hp0:0<=(ax m.W m.H s).1*(ax m.W m.H s).2:=nz hz.1 hz.2.2.1;have key: ∀(n k:Nat) (i:Int),i+n=(ax m.W m.H s).1*(ax m.W m.H s).2->0<=i->n<k->
  nF.l0 k m s (ax m.W m.H s) (kH m s i.toNat) i=some (aJ.mk (ax m.W m.H s).1 (ax m.W m.H s).2 (kH m s ((ax m.W m.H s).1*(ax m.W m.H s).2).toNat)):=by
  intro n
  induction n with
  |zero=>
   intro k i hi h0 hk;obtain⟨k,rfl⟩: ∃q,k=q+1:=⟨k-1,by omega⟩
   rw[nF.l0,bj (x:=_*_) U U,ah U];have:i=(ax m.W m.H s).1*(ax m.W m.H s).2:=U;rw[this]
  |succ n ih=>
   intro k i hi h0 hk;obtain⟨k,rfl⟩: ∃q,k=q+1:=⟨k-1,by omega⟩
   have hs:bI m.W m.H s:=by
    by_cases hs:bI m.W m.H s
    ·exact hs
    ·have:ax m.W m.H s=(0,0):=by unfold ax;rw[ah hs]
     rw[this] at hi;simp at hi;omega
   have hg:=zZ hs h0 (by omega:i<_)
   have hl:=hm.2.1;rw[nF.l0,bj (x:=_*_) U U,af U,ag_,aL,af U,af (by rw[C1];omega),bj U U]
   have:=ih k (i+1) U U U;rw[show(i+1).toNat=i.toNat+1 by omega,aiD,show((i.toNat:Nat):Int)=i by omega] at this
   exact this
 exact key ((ax m.W m.H s).1*(ax m.W m.H s).2).toNat fuel 0 U U (by rw[tD];omega)
def FA (g:bw) (s:Int):aJ×Bool:=if bI g.m.W g.m.H s then(aJ.mk (ax g.m.W g.m.H s).1 (ax g.m.W g.m.H s).2 (kH g.m s ((ax g.m.W g.m.H s).1*(ax g.m.W g.m.H s).2).toNat),true) else(aJ.mk 0 0 [],false)
theorem Pb {g:bw} {more:Int} (h:dE g more) (s:Int):lR.f g s=some (FA g s):=by
 have hl:=h.ok.2.1;unfold lR.f FA;have e0:iJ.f g=some (g.m.W,g.m.H):=rfl;rw[e0,aL,Hg,aL]
 by_cases hs:bI g.m.W g.m.H s
 ·have hz:=pY hs;rw[ah bm,af hs];have hpr:(ax g.m.W g.m.H s).1*(ax g.m.W g.m.H s).2<=16*16:=kA U U hz.2.1 hz.2.2.2;have key: ∀(n k:Nat) (i:Int),i+n=(ax g.m.W g.m.H s).2->0<=i->n<k->
   lR.l0 k g s (g.m.W,g.m.H) (ax g.m.W g.m.H s) (kH g.m s (i*(ax g.m.W g.m.H s).1).toNat) i=some (aJ.mk (ax g.m.W g.m.H s).1 (ax g.m.W g.m.H s).2 (kH g.m s ((ax g.m.W g.m.H s).1*(ax g.m.W g.m.H s).2).toNat),true):=by
   intro n
   induction n with
   |zero=>
    intro k i hi h0 hk;obtain⟨k,rfl⟩: ∃q,k=q+1:=⟨k-1,by omega⟩
    rw[lR.l0,ah U];have:i=(ax g.m.W g.m.H s).2:=U;rw[this,Int.mul_comm]
   |succ n ih=>
    intro k i hi h0 hk;obtain⟨k,rfl⟩: ∃q,k=q+1:=⟨k-1,by omega⟩
    have ry:i<(ax g.m.W g.m.H s).2:=U;have b0:0<=i*(ax g.m.W g.m.H s).1:=nz h0 U;have b1:i*(ax g.m.W g.m.H s).1+(ax g.m.W g.m.H s).1<=(ax g.m.W g.m.H s).1*(ax g.m.W g.m.H s).2:=by
     have:(i+1)*(ax g.m.W g.m.H s).1<=(ax g.m.W g.m.H s).2*(ax g.m.W g.m.H s).1:=Int.mul_le_mul_of_nonneg_right U U;rw[Int.add_mul,Int.one_mul,Int.mul_comm (ax g.m.W g.m.H s).2] at this;exact this
    have lo:=zZ hs b0 U;have hi3:=zZ (l:=i*(ax g.m.W g.m.H s).1+((ax g.m.W g.m.H s).1-1)) hs U U;rw[global_row hs h0 ry U U] at hi3;have hc:=tX h.ok.1;rw[lR.l0,af ry,bj (x:=_*_) U U,I4,aL];simp only[bj (x:=db g.m.W g.m.H s (i*(ax g.m.W g.m.H s).1)+(ax g.m.W g.m.H s).1) U U];rw[af U];have jJ:(((ax g.m.W g.m.H s).1.toNat:Nat):Int)=(ax g.m.W g.m.H s).1:=U;have DT:=aiu (L:=g.m.C) (lo:=db g.m.W g.m.H s (i*(ax g.m.W g.m.H s).1)) (a:=(ax g.m.W g.m.H s).1.toNat) U U;rw[jJ] at DT;rw[DT,af (by rw[C1];simp;omega),bj U U]
    have wP:kH g.m s (i*(ax g.m.W g.m.H s).1).toNat++(List.range (ax g.m.W g.m.H s).1.toNat).map (λx:Nat=>rd g.m.C (db g.m.W g.m.H s (i*(ax g.m.W g.m.H s).1)+(x:Int)))=kH g.m s ((i+1)*(ax g.m.W g.m.H s).1).toNat:=by
     rw[show((i+1)*(ax g.m.W g.m.H s).1).toNat=(i*(ax g.m.W g.m.H s).1).toNat+(ax g.m.W g.m.H s).1.toNat by rw[Int.add_mul,Int.one_mul];omega,aiC]
     congr 1
     apply List.map_congr_left;intro x hx;have vh:=List.mem_range.mp hx;rw[show(((i*(ax g.m.W g.m.H s).1).toNat+x:Nat):Int)=i*(ax g.m.W g.m.H s).1+(x:Int) by omega,global_row hs h0 ry U U]
    rw[wP];exact ih k (i+1) U U U
  have:=key (ax g.m.W g.m.H s).2.toNat fuel 0 U U (by rw[tD];omega)
  rw[show((0:Int)*(ax g.m.W g.m.H s).1).toNat=0 by simp] at this
  exact this
 ·have:ax g.m.W g.m.H s=(0,0):=by unfold ax;rw[ah hs]
  rw[this,af bk,ah hs]
theorem abv (g:bw) (hb:g.m.C.length<=1099511627776):wK.f g=some g.m:=by
 unfold wK.f;rw[QH _ hb];rfl
theorem Gv (w h c:Int):qQ.f w h c=some (dx w h c):=by
 unfold qQ.f dx;simp only[Om,aL,sX,Hg]
 by_cases hc:bT w h c
 ·rw[ah (by rw[Ea];simp[hc]),af hc]
  simp only[AQ];rw[af hc];simp only;have hp:=vw hc;have hw:=N1 hc;have hz:=size_le w h (aY w h c);have h5:0<=c/w%16*(ax w h (aY w h c)).1:=nz U U;have h6:c/w%16*(ax w h (aY w h c)).1<=16*16:=kA U U U U;rw[mS hp.2.2.1,mS hp.1,bj (x:=_*_) U U,bj U U]
 ·rw[af (by rw[Ea];exact hc),ah hc]
theorem D2 {w h c:Int} (hc:bT w h c):0<=dx w h c/\dx w h c<(ax w h (aY w h c)).1*(ax w h (aY w h c)).2:=by
 have lU:=N1 hc;have mL:=vw hc;have h1:=r_ (w:=(ax w h (aY w h c)).1) (h:=(ax w h (aY w h c)).2) (x:=c%w%16) (y:=c/w%16) U lU.1 U lU.2;have e4:dx w h c=c/w%16*(ax w h (aY w h c)).1+c%w%16:=by unfold dx;rw[af hc]
 rw[e4];exact h1
theorem vO {w h c:Int} (hc:bT w h c):bI w h (aY w h c):=by
 unfold aY;rw[af hc];exact Eo hc
theorem Dz {w h c:Int} (hc:bT w h c):db w h (aY w h c) (dx w h c)=c:=by
 have lU:=N1 hc;have mL:=vw hc;have TK:=En hc;have cu:=D2 hc;unfold db;rw[af ⟨vO hc,cu⟩];have e3:aY w h c=c/w/16*(bo w h).1+c%w/16:=by unfold aY;rw[af hc]
 have e4:dx w h c=c/w%16*(ax w h (aY w h c)).1+c%w%16:=by unfold dx;rw[af hc]
 have n1:=qC (a:=(bo w h).1) (x:=c%w/16) (y:=c/w/16) TK.1 TK.2.1;have n2:=qC (a:=(ax w h (aY w h c)).1) (x:=c%w%16) (y:=c/w%16) U lU.1;rw[<-e3] at n1;rw[<-e4] at n2;rw[n1.1,n1.2,n2.1,n2.2];have a1:16*(c/w/16)+c/w%16=c/w:=U;have a2:16*(c%w/16)+c%w%16=c%w:=U;rw[a1,a2];have e:=QE hc;unfold pt at e;rw[af ⟨hc.1,mL.1,mL.2.1,mL.2.2.1,mL.2.2.2⟩] at e;exact e
theorem RD {w h s l k:Int} (hs:bI w h s) (h0:0<=l) (h1:l<k) (h2:k<(ax w h s).1*(ax w h s).2):db w h s l<db w h s k:=by
 obtain⟨a1,a2,a3,a4,a5,a6⟩:=wI hs h0 (by omega:l<_)
 obtain⟨b1,b2,b3,b4,b5,b6⟩:=wI (l:=k) hs U h2;have e1:db w h s l=(16*(s/(bo w h).1)+l/(ax w h s).1)*w+(16*(s%(bo w h).1)+l%(ax w h s).1):=by unfold db;rw[af ⟨hs,h0,by omega⟩]
 have e2:db w h s k=(16*(s/(bo w h).1)+k/(ax w h s).1)*w+(16*(s%(bo w h).1)+k%(ax w h s).1):=by unfold db;rw[af ⟨hs,by omega,h2⟩]
 have p:=ug hs;have hz:=pY hs;have m1:=Int.mul_ediv_add_emod l (ax w h s).1;have m2:=Int.mul_ediv_add_emod k (ax w h s).1;rw[e1,e2];have hle:l/(ax w h s).1<=k/(ax w h s).1:=Int.ediv_le_ediv U U
 by_cases hq:l/(ax w h s).1=k/(ax w h s).1
 ·rw[<-hq] at m2⊢;omega
 ·have:=Int.mul_le_mul_of_nonneg_right (show 16*(s/(bo w h).1)+l/(ax w h s).1+1<=16*(s/(bo w h).1)+k/(ax w h s).1 by omega) (show 0<=w by omega)
  rw[Int.add_mul (16*(s/(bo w h).1)+l/(ax w h s).1),Int.one_mul] at this;omega
theorem Z_ (w h s:Int):(qI w h s).Pairwise (· < ·):=by
 unfold qI vH;have hz:=zi w h s;rw[List.pairwise_map];have h1:((List.range ((ax w h s).1*(ax w h s).2).toNat).filter (λl:Nat=>CI w h s (l:Int))).Pairwise (· < ·):=List.Pairwise.sublist List.filter_sublist List.pairwise_lt_range;refine List.Pairwise.imp_of_mem ?_ h1;intro a b ha hb yv;have kb:=List.mem_range.mp (List.mem_filter.mp hb).1;exact RD (OX (w:=w) (h:=h) (s:=s) (l:=(b:Int)) U U) U U U
theorem Od (m:aJ) (s:Int):(bH m s).Pairwise (· < ·):=(Z_ m.W m.H s).sublist List.filter_sublist
theorem ua {m:aJ} {s c:Int} (h:c∈bH m s):lY m c=true/\cN m c/\bI m.W m.H s/\aY m.W m.H c=s:=by
 obtain⟨h1,h2⟩:=List.mem_filter.mp h;unfold qI vH at h1;obtain⟨l,hl,rfl⟩:=List.mem_map.mp h1;have hz:=zi m.W m.H s;have kl:=List.mem_range.mp (List.mem_filter.mp hl).1;have hs:=OX (w:=m.W) (h:=m.H) (s:=s) (l:=(l:Int)) U U;exact⟨h2,(AZ.mp h2).1,hs,Kw hs U U⟩
theorem vu (m:aJ) (s:Int):(bH m s).length<=256:=by
 have:=QG m.W m.H s;have:=List.length_filter_le (lY m) (qI m.W m.H s);unfold bH;omega
theorem N0 {w h a b:Int} (ha:bT w h a) (hb:bT w h b) (e:aY w h a=aY w h b) (yv:a<b):dx w h a<dx w h b:=by
 have ia:=D2 ha;have ga:=Dz ha;have ib:=D2 hb;have gb:=Dz hb;rw[e] at ia ga;rcases Int.lt_trichotomy (dx w h a) (dx w h b) with q |q |q
 ·exact q
 ·rw[q] at ga;omega
 ·have:=RD (vO hb) ib.1 q ia.2;omega
abbrev fC (m:aJ) (s:Int):aJ:=aJ.mk (ax m.W m.H s).1 (ax m.W m.H s).2 (kH m s ((ax m.W m.H s).1*(ax m.W m.H s).2).toNat)
theorem RL {g:bw} {s:Int} (hs:bI g.m.W g.m.H s):FA g s=(fC g.m s,true):=by unfold FA;rw[af hs]
theorem Pa {m:aJ} {s l:Int} {n:Nat} (h0:0<=l) (h1:l<n):rd (kH m s n) l=rd m.C (db m.W m.H s l):=by
 unfold kH;rw[jm bm];simp only[List.getElem_map,List.getElem_range];rw[show((l.toNat:Nat):Int)=l by omega]
variable {g : bw} {more : Int}
theorem OR (h:dE g more) {s:Int} (hs:bI g.m.W g.m.H s):ma (fC g.m s):=by
 obtain⟨z1,z2,z3,z4⟩:=pY hs;have hz:=zi g.m.W g.m.H s;have hv: ∀c:Int,0<=c->c<((ax g.m.W g.m.H s).1*(ax g.m.W g.m.H s).2).toNat->1<=rd (fC g.m s).C c/\rd (fC g.m s).C c<=255:=λc c0 c1=>by
  show 1<=rd (kH _ _ _) c/\rd (kH _ _ _) c<=255
  rw[Pa c0 c1];have:=zZ hs c0 U;exact h.rZ _ this.1 this.2
 refine⟨⟨z1,z2,z3,z4,by simp[C1];omega,λhm=>?_⟩,λc c0 c1=>hv c c0 (by rw[C1] at c1;exact c1)⟩
 obtain⟨c,c0,c1,e⟩:=jK hm;have:=hv c c0 (by rw[C1] at c1;exact c1)
 simp only at this;rw[e] at this;omega
theorem CK (h:dE g more) {c:Int} (hc:cN g.m c):0<=dx g.m.W g.m.H c/\dx g.m.W g.m.H c<(fC g.m (aY g.m.W g.m.H c)).C.length/\rd (fC g.m (aY g.m.W g.m.H c)).C (dx g.m.W g.m.H c)=fx g c:=by
 have eo:=pc h.ok hc;have cu:=D2 eo;refine⟨cu.1,by rw[C1];omega,?_⟩
 show rd (kH _ _ _) _=_
 rw[Pa cu.1 U,Dz eo];unfold fx;rw[af hc]
variable {t : aJ} {l : List Int}
structure EO (t:aJ) (l:List Int):Prop where
 C0:ma t
 mem: ∀c∈l,0<=c/\c<t.C.length/\rd t.C c≠255
 up:l.Pairwise (· < ·)
 jI:l.length<=256
abbrev KT:Int:=65024
def ES (t:aJ) (c:Int) (D:List Int):Prop:=qg t [⟨c,4,0⟩] KT D
theorem aiG (ht:ma t) {c:Int} (c0:0<=c) (c1:c<t.C.length) (c2:rd t.C c≠255):Ok (xE.f t c) (λr=>ES t c r.1/\r.2=0):=by
 unfold xE.f;refine(Wq (K:=KT) ht bk (by decide) (λx hx=>?_)).bind λr hr=>Ok.pure ⟨hr.2,hr.1⟩
 simp only[List.mem_cons,List.not_mem_nil,or_false] at hx;subst hx;exact⟨⟨c0,c1,c2,Int.le_refl _,by show(0:Int)<=1073741824;decide,.inl J⟩,by show(0:Int)+254*256<=65024;decide⟩
theorem aiF (h:EO t l): ∀(n k:Nat) (i:Int),(l.length-i).toNat<=n->n<k->0<=i->p7.l0 k t l i=some true:=by
 have hf:=h.jI;have hl:=ou h.C0.1;have fin: ∀(k:Nat) (i:Int),¬i<l.length->p7.l0 (k+1) t l i=some true:=λk i hi=>by
  rw[p7.l0,ah hi,KI _ U,decide_eq_true h.C0.1];rfl
 intro n
 induction n with
 |zero=>
  intro k i hn hk hi;obtain⟨k,rfl⟩:=bl hk;exact fin k i U
 |succ n ih=>
  intro k i hn hk hi;obtain⟨k,rfl⟩:=bl hk
  by_cases aQ:i<l.length
  ·have hm:=h.mem _ (dS hi aQ);have hc:=h.C0.2 _ hm.1 hm.2.1;have et:A4.f t (rd l i)=some (rd t.C (rd l i)):=by rw[aiA h.C0,af ⟨hm.1,hm.2.1⟩]
   rw[p7.l0,af aQ,af (c:=0<=i/\i<(List.length l:Int)) ⟨hi,aQ⟩,et,aL,ah (c:=(rd t.C (rd l i)==0||rd t.C (rd l i)==255)=true) bm]
   have e:(if i>0 then(if(0<=(aa (i-1))/\(aa (i-1))<(List.length l:Int)) then(some (decide ((rd l i)<=(rd l (aa (i-1)))))) else none) else(some false))=some false:=by
    by_cases z:i>0
    ·rw[af z,wi U U,af U,decide_eq_false (by have:=uc h.up (i:=i-1) (j:=i) U U aQ;omega)]
    ·rw[ah z]
   rw[e,aL];simp only[Bool.false_eq_true,if_false];rw[wi U U];exact ih k (i+1) U U U
  ·exact fin k i aQ
theorem Gj {n i j:Int} (i0:0<=i) (i1:i<n) (j0:0<=j) (j1:j<n):0<=i*n/\i*n+j<n*n:=by
 have h1:=Int.mul_le_mul_of_nonneg_right (show i+1<=n by omega) (show 0<=n by omega)
 have h2:=Int.mul_nonneg i0 (show 0<=n by omega)
 rw[Int.add_mul,Int.one_mul] at h1;omega
theorem TY {n i j i' j':Int} (j0:0<=j) (j1:j<n) (j0':0<=j') (j1':j'<n) (e:i*n+j=i'*n+j'):i=i'/\j=j':=by
 have a:=qC (y:=i) j0 j1;have b:=qC (y:=i') j0' j1';rw[e] at a;exact⟨a.2.symm.trans b.2,a.1.symm.trans b.1⟩
def wc (t:aJ) (l:List Int) (j:Int) (x:List Int):Prop:=(x.length:Int)=l.length*l.length/\ ∀q:Int,0<=q->q<j-> ∃D,ES t (rd l q) D/\ ∀i:Int,0<=i->i<l.length->rd x (i*l.length+q)=rd D (rd l i)
theorem afh (h:EO t l) {j:Int} (j0:0<=j) (j1:j<l.length) {D:List Int×Int} (hD:ES t (rd l j) D.1): ∀(n k:Nat) (x:List Int) (i:Int),(l.length-i).toNat<=n->n<k->0<=i->wc t l j x->(∀q:Int,0<=q->q<i->rd x (q*l.length+j)=rd D.1 (rd l q))->
 Ok (jD.l1 k l j D x i) (wc t l (j+1)):=by
 have hf:=h.jI;have fin: ∀(k:Nat) (x:List Int) (i:Int),¬i<l.length->wc t l j x->(∀q:Int,0<=q->q<i->rd x (q*l.length+j)=rd D.1 (rd l q))->Ok (jD.l1 (k+1) l j D x i) (wc t l (j+1)):=λk x i hi hx hq=>by
  rw[jD.l1,ah hi];refine Ok.pure ⟨hx.1,λq q0 q1=>?_⟩
  by_cases z:q=j
  ·rw[z];exact⟨D.1,hD,λi i0 i1=>hq i i0 U⟩
  ·exact hx.2 q q0 U
 intro n
 induction n with
 |zero=>
  intro k x i hn hk hi hx hq;obtain⟨k,rfl⟩:=bl hk;exact fin k x i U hx hq
 |succ n ih=>
  intro k x i hn hk hi hx hq;obtain⟨k,rfl⟩:=bl hk
  by_cases aQ:i<l.length
  ·have hm:=h.mem _ (dS hi aQ);have cu:=Gj hi aQ j0 j1;have Aj:(l.length:Int)*l.length<=256*256:=kA U U U U;rw[jD.l1,wi (x:=i*(l.length:Int)) U U,wi (x:=i*(l.length:Int)+j) U U,wi (x:=i+1) U U];refine Ok.pos aQ (Ok.cw ⟨hi,aQ⟩ (Ok.cw (by rw[hD.dl];exact⟨hm.1,hm.2.1⟩) (Ok.cw (by rw[hx.1];omega) ?_)))
   have dN: ∀c:Int,0<=c->rd (List.set x (i*(l.length:Int)+j).toNat (rd D.1 (rd l i))) c=if c=i*(l.length:Int)+j then rd D.1 (rd l i) else rd x c:=λc c0=>kX U (by rw[hx.1];omega) c0
   refine ih k _ (i+1) U U U ⟨by simpa using hx.1,λq q0 q1=>?_⟩ (λq q0 q1=>?_)
   ·obtain⟨E,e1,e2⟩:=hx.2 q q0 q1;refine⟨E,e1,λr r0 r1=>?_⟩
    have:=Gj r0 r1 q0 (show q<l.length by omega)
    rw[dN _ U,ah (λz=>by have:=TY q0 U j0 j1 z;omega)]
    exact e2 r r0 r1
   ·have:=Gj q0 (show q<l.length by omega) j0 j1
    rw[dN _ U]
    by_cases z:q=i
    ·rw[af (by rw[z]),z]
    ·rw[ah (λy=>z (TY j0 j1 j0 j1 y).1)];exact hq q q0 U
  ·exact fin k x i aQ hx hq
theorem afg (h:EO t l): ∀(n k:Nat) (x:List Int) (j:Int),(l.length-j).toNat<=n->n<k->0<=j->j<=l.length->wc t l j x->Ok (jD.l0 k t l x j) (λr=>r.2=0/\wc t l l.length r.1):=by
 have hf:=h.jI;have fin: ∀(k:Nat) (x:List Int) (j:Int),j<=l.length-> ¬j<l.length->wc t l j x->Ok (jD.l0 (k+1) t l x j) (λr=>r.2=0/\wc t l l.length r.1):=λk x j hj hi hx=>by
  rw[jD.l0,ah hi];have:j=l.length:=U;subst this;exact Ok.pure ⟨J,hx⟩
 intro n
 induction n with
 |zero=>
  intro k x j hn hk hj iM hx;obtain⟨k,rfl⟩:=bl hk;exact fin k x j iM U hx
 |succ n ih=>
  intro k x j hn hk hj iM hx;obtain⟨k,rfl⟩:=bl hk
  by_cases aQ:j<l.length
  ·have hm:=h.mem _ (dS hj aQ);rw[jD.l0,wi U U];refine Ok.pos aQ (Ok.bind (P:=wc t l (j+1)) (Ok.cw ⟨hj,aQ⟩ ((aiG h.C0 hm.1 hm.2.1 hm.2.2).bind λD hD=>?_)) λr hr=>ih k r (j+1) U U U U hr);exact afh h hj aQ hD.1 l.length fuel x 0 U (by rw[cM];omega) U hx (λq q0 q1=>by omega)
  ·exact fin k x j iM aQ hx
theorem aff (h:EO t l):Ok (jD.f t l) (λr=>r.2=0/\wc t l l.length r.1):=by
 have hf:=h.jI;unfold jD.f p7.f;have Aj:(l.length:Int)*l.length<=256*256:=kA U U U U;have F6:0<=(l.length:Int)*l.length:=Int.mul_nonneg U U;rw[aiF h l.length fuel 0 U (by rw[cM];omega) U,wi U U]
 refine Ok.eq J (Ok.neg bk (Ok.cw U (afg h l.length fuel _ 0 U (by rw[cM];omega) U U ⟨by simp;omega,λq q0 q1=>by omega⟩)))
variable {g : bw} {more : Int}
theorem Pm (h:dE g more) (s:Int):pO.f g s=some (fy g s):=by
 unfold pO.f fy;have hv:=h.vs
 by_cases hs:0<=s/\s<dT g.m.W g.m.H
 ·rw[ah U,aL,ah bm,af U,af hs]
 ·by_cases h0:s<0
  ·rw[af h0,ah hs];rfl
  ·rw[ah h0,aL,af bm,ah hs]
abbrev Ay (m:aJ) (s:Int):List Int:=(bH m s).map (dx m.W m.H)
theorem JZ (h:dE g more) {s:Int} (hs:bI g.m.W g.m.H s):EO (fC g.m s) (Ay g.m s):=by
 refine⟨OR h hs,λc hc=>?_,?_,by simpa using vu g.m s⟩
 ·obtain⟨x,hx,rfl⟩:=List.mem_map.1 hc;obtain⟨n1,n2,n3,n4⟩:=ua hx;have:=CK h n2;rw[n4] at this;refine⟨this.1,this.2.1,?_⟩;rw[this.2.2];unfold fx;rw[af n2];exact(AZ.1 n1).2
 ·rw[List.pairwise_map];refine(Od g.m s).imp_of_mem λ{a b} ha hb yv=>?_
  obtain⟨_,a2,_,a4⟩:=ua ha;obtain⟨_,b2,_,b4⟩:=ua hb;exact N0 (pc h.ok a2) (pc h.ok b2) (a4.trans b4.symm) yv
def enc (d:Int):Int:=if d=cK then-1 else d
structure Bk (m:aJ) (s:Int) (p:ph):Prop where
 nodes:p.nodes=bH m s
 len_:(p.aR.length:Int)=(bH m s).length*(bH m s).length
 QN: ∀j:Int,0<=j->j<(bH m s).length-> ∃D,ES (fC m s) (dx m.W m.H (rd (bH m s) j)) D/\ ∀i:Int,0<=i->i<(bH m s).length->rd p.aR (i*(bH m s).length+j)=enc (rd D (dx m.W m.H (rd (bH m s) i)))
theorem TW {x:Int} (h0: -2147483648<=x) (h1:x<=2147483647):IntKind.i32.wrap x=x:=by
 unfold IntKind.wrap IntKind.signed IntKind.bits;simp;omega
theorem afu (v:Int) (nodes:List Int) (T:List Int×Int) (hT: ∀c:Int,0<=c->c<T.1.length->rd T.1 c=cK∨(0<=rd T.1 c/\rd T.1 c<=KT)) (hb:T.1.length<=65536): ∀(n k:Nat) (x:List Int) (i:Int),(T.1.length-i).toNat<=n->n<k->0<=i->x.length=T.1.length->(∀c:Int,0<=c->c<i->rd x c=enc (rd T.1 c))->
 Ok (jk.l1 k v nodes T x i) (λp=>p.version=v/\p.nodes=nodes/\p.aR.length=T.1.length/\ ∀c:Int,0<=c->c<T.1.length->rd p.aR c=enc (rd T.1 c)):=by
 have hI:cK=1099511627776:=rfl;have MA:KT=65024:=rfl;have fin: ∀(k:Nat) (x:List Int) (i:Int),¬i<T.1.length->x.length=T.1.length->(∀c:Int,0<=c->c<i->rd x c=enc (rd T.1 c))->Ok (jk.l1 (k+1) v nodes T x i) (λp=>p.version=v/\p.nodes=nodes/\p.aR.length=T.1.length/\ ∀c:Int,0<=c->c<T.1.length->rd p.aR c=enc (rd T.1 c)):=λk x i hi hx ha=>by
  rw[jk.l1,ah hi];exact Ok.pure ⟨J,J,hx,λc c0 c1=>ha c c0 U⟩
 intro n
 induction n with
 |zero=>
  intro k x i hn hk hi hx ha;obtain⟨k,rfl⟩:=bl hk;exact fin k x i U hx ha
 |succ n ih=>
  intro k x i hn hk hi hx ha;obtain⟨k,rfl⟩:=bl hk
  by_cases aQ:i<T.1.length
  ·rw[jk.l1,wi (x:=i+1) U U];have s1: ∀(y:List Int) (u c:Int),y.length=T.1.length->0<=c->rd (List.set y i.toNat u) c=if c=i then u else rd y c:=λy u c hy c0=>kX hi U c0
   refine Ok.pos aQ (Ok.cw ⟨hi,aQ⟩ (Ok.cw U (Ok.ite (λq=>Ok.cw bm ?_) λq=>?_)))
   ·have q:rd T.1 i≠cK:=by simpa using q
    have hd:=(hT i hi aQ).resolve_left q;rw[TW U U];refine ih k _ (i+1) U U U (by simpa using hx) λc c0 c1=>?_
    rw[s1 _ _ c (by simpa using hx) c0,s1 _ _ c hx c0]
    by_cases z:c=i
    ·rw[af z,z];unfold enc;rw[ah q]
    ·rw[ah z,ah z];exact ha c c0 U
   ·have q:rd T.1 i=cK:=by simpa using q
    refine ih k _ (i+1) U U U (by simpa using hx) λc c0 c1=>?_
    rw[s1 _ _ c hx c0]
    by_cases z:c=i
    ·rw[af z,z];unfold enc;rw[af q]
    ·rw[ah z];exact ha c c0 U
  ·exact fin k x i aQ hx ha
theorem aft (h:dE g more) {s:Int} (hs:bI g.m.W g.m.H s) (v:Int): ∀(n k:Nat) (x:List Int) (i:Int),((bH g.m s).length-i).toNat<=n->n<k->0<=i->i<=(bH g.m s).length->x=(Ay g.m s).take i.toNat->
 Ok (jk.l0 k (g.m.W,g.m.H) (fC g.m s,true) v (bH g.m s) x i) (λp=>p.version=v/\Bk g.m s p):=by
 have hl:=vu g.m s;have fin: ∀(k:Nat) (x:List Int) (i:Int),¬i<(bH g.m s).length->i<=(bH g.m s).length->x=(Ay g.m s).take i.toNat->Ok (jk.l0 (k+1) (g.m.W,g.m.H) (fC g.m s,true) v (bH g.m s) x i) (λp=>p.version=v/\Bk g.m s p):=λk x i hi dZ hx=>by
  rw[jk.l0,ah hi];have hx:x=Ay g.m s:=by rw[hx,List.take_of_length_le bm]
  subst hx;refine(aff (JZ h hs)).bind λT hT=>?_
  obtain⟨_,t1,t2⟩:=hT;have hlen:((Ay g.m s).length:Int)=(bH g.m s).length:=by simp
  have Aj:((bH g.m s).length:Int)*(bH g.m s).length<=256*256:=kA U U U U;rw[hlen] at t1 t2;have hT': ∀c:Int,0<=c->c<T.1.length->rd T.1 c=cK∨(0<=rd T.1 c/\rd T.1 c<=KT):=λc c0 c1=>by
   have hp:0<((bH g.m s).length:Int):=by
    apply Classical.byContradiction;intro z;have:((bH g.m s).length:Int)=0:=U;rw[this] at t1;omega
   have hm:=Int.emod_nonneg c (show((bH g.m s).length:Int)≠0 by omega)
   have wO:=Int.emod_lt_of_pos c hp;have FX:=Int.mul_ediv_add_emod c (bH g.m s).length;have hq:c/(bH g.m s).length<(bH g.m s).length:=Int.ediv_lt_of_lt_mul hp U;have F8:0<=c/(bH g.m s).length:=Int.ediv_nonneg c0 U;obtain⟨D,d1,d2⟩:=t2 _ hm wO;have:=d2 _ F8 hq;rw[Int.mul_comm,FX] at this;rw[this];have jh:=(JZ h hs).mem _ (dS (a:=Ay g.m s) F8 U)
   by_cases z:rd D (rd (Ay g.m s) (c/(bH g.m s).length))=cK
   ·exact .inl z
   ·have:=d1.dv _ jh.1 jh.2.1 z;exact .inr ⟨this.1,this.2.1⟩
  refine Ok.cw U ((afu v _ T hT' U T.1.length fuel _ 0 U (by rw[cM];omega) U bk (λc c0 c1=>by omega)).mono λp hp=>⟨hp.1,hp.2.1,by rw[hp.2.2.1];exact t1,λj j0 j1=>?_⟩)
  obtain⟨D,d1,d2⟩:=t2 j j0 j1;have hr: ∀i:Int,0<=i->i<(bH g.m s).length->rd (Ay g.m s) i=dx g.m.W g.m.H (rd (bH g.m s) i):=λi i0 i1=>yX i0 i1
  rw[hr j j0 j1] at d1;refine⟨D,d1,λi i0 i1=>?_⟩
  have:=Gj i0 i1 j0 j1;rw[hp.2.2.2 _ U (by rw[t1];omega),d2 i i0 i1,hr i i0 i1]
 intro n
 induction n with
 |zero=>
  intro k x i hn hk hi dZ hx;obtain⟨k,rfl⟩:=bl hk;exact fin k x i U dZ hx
 |succ n ih=>
  intro k x i hn hk hi dZ hx;obtain⟨k,rfl⟩:=bl hk
  by_cases aQ:i<(bH g.m s).length
  ·rw[jk.l0,wi (x:=i+1) U U];refine Ok.pos aQ (Ok.cw ⟨hi,aQ⟩ (Ok.eq (Gv ..) (Ok.cw (by rw[hx];simp;omega) (ih k _ (i+1) U U U U ?_))))
   rw[hx,HB hi (by simpa using aQ),yX hi aQ]
  ·exact fin k x i aQ dZ hx
theorem afw (h:dE g more) {s:Int} (hs:bI g.m.W g.m.H s) (M:dH):Ok (jk.f M s g) (λp=>p.version=fy g s/\Bk g.m s p):=by
 have hl:=vu g.m s;unfold jk.f;refine Ok.eq (CO g) (Ok.eq ((Pb h s).trans (by rw[RL hs])) ?_)
 rw[Pm h,UL h];exact Ok.eq J (aft h hs _ (bH g.m s).length fuel [] 0 U (by rw[cM];omega) U U J)
structure zF (g:bw) (M:dH):Prop where
 len_:(M.parts.length:Int)=dT g.m.W g.m.H
 le: ∀s:Int,bI g.m.W g.m.H s->(rd M.parts s).version<=g.bK
 ok: ∀s:Int,bI g.m.W g.m.H s->(rd M.parts s).version=fy g s->Bk g.m s (rd M.parts s)
 cl:M.clean=g.bK-> ∀s:Int,bI g.m.W g.m.H s->(rd M.parts s).version=fy g s
 LS:M.clean<=g.bK
 eG:0<=M.count/\M.count<=1000000000000
def zV (g:bw) (M:dH) (s:Nat):Bool:=(rd M.parts (s:Int)).version !=fy g s
def pJ (g:bw) (M:dH) (n:Nat):List Int:=((List.range n).filter (zV g M)).map Int.ofNat
theorem aaI (g:bw) (M:dH) (n:Nat):pJ g M (n+1)=if zV g M n=true then pJ g M n++[(n:Int)] else pJ g M n:=by
 unfold pJ;rw[List.range_succ,List.filter_append,List.map_append]
 by_cases h:zV g M n=true
 ·rw[af h,List.filter_cons_of_pos h];rfl
 ·rw[ah h,List.filter_cons_of_neg h];simp
theorem L4 (g:bw) (M:dH) (n:Nat):(pJ g M n).length<=n:=by
 unfold pJ;simp only[List.length_map];have:=List.length_filter_le (zV g M) (List.range n);simpa using this
theorem L7 {M:dH} {n:Nat} {s:Int}:s∈pJ g M n↔0<=s/\s<n/\(rd M.parts s).version≠fy g s:=by
 unfold pJ;simp only[List.mem_map,List.mem_filter,List.mem_range];constructor
 ·rintro⟨a,⟨a1,a2⟩,rfl⟩;exact⟨by simp,by simpa using a1,by simpa[zV] using a2⟩
 ·rintro⟨h0,h1,h2⟩;refine⟨s.toNat,⟨by omega,?_⟩,by simp;omega⟩
  unfold zV;rw[show((s.toNat:Nat):Int)=s by omega];simpa using h2
theorem aaH (h:dE g more) (M:dH) (hb:M.parts.length<=4096): ∀(n k:Nat) (i:Nat),i+n=M.parts.length->n<k->nu.l0 k M g (pJ g M i) (i:Int)=some (pJ g M M.parts.length):=by
 intro n
 induction n with
 |zero=>
  intro k i hi hk;obtain⟨k,rfl⟩:=bl hk;rw[nu.l0,ah U];have:i=M.parts.length:=U;rw[this]
 |succ n ih=>
  intro k i hi hk;obtain⟨k,rfl⟩:=bl hk;have hl:=L4 g M i;have:=ih k (i+1) U U;rw[aaI] at this;rw[nu.l0,af U,af U,Pm h,aL,wi U U];have ed:((rd M.parts (i:Int)).version !=fy g i)=zV g M i:=rfl;rw[ed]
  by_cases z:zV g M i=true
  ·rw[af z] at this;rw[af z,af U];exact this
  ·rw[ah z] at this;rw[ah z];exact this
variable {M : dH}
theorem aaG (h:dE g more) (hM:zF g M):nu.f M g=some (pJ g M M.parts.length):=by
 unfold nu.f;have hl:=hM.len_;have hc:=oR g.m.W g.m.H;rw[Fx,aL]
 by_cases z:M.clean=g.bK
 ·rw[af (by simpa using z)]
  congr 1
  refine(List.eq_nil_iff_forall_not_mem.2 λs hs=>?_).symm;obtain⟨a,b,c⟩:=L7.1 hs;exact c (hM.cl z s ⟨a,by omega⟩)
 ·rw[ah (by simpa using z)]
  exact aaH h M U M.parts.length fuel 0 U (by rw[cM];omega)
structure qe (g:bw) (M:dH):Prop where
 ms:zF g M
 all: ∀s:Int,bI g.m.W g.m.H s->(rd M.parts s).version=fy g s
theorem qe.part (h:qe g M) {s:Int} (hs:bI g.m.W g.m.H s):Bk g.m s (rd M.parts s):=h.ms.ok s hs (h.all s hs)
theorem WW {x:Int} (h1:0<=x) (h2:x<=18446744073709551615):eB x=x:=qS h1 h2
theorem zm {a b:Int} (a0:0<=a) (a1:a<=4611686018427387904) (b0:0<=b) (b1:b<=4611686018427387904):rM.f a b=some (a+b):=by
 unfold rM.f;rw[WW U U,ah U,WW U U]
theorem ag2 (h:dE g more) (hv: ∀s:Int,bI g.m.W g.m.H s->fy g s<=g.bK) (L:List Int) (hL: ∀s∈L,bI g.m.W g.m.H s) (hb:L.length<=4096) (N:Int): ∀(n k:Nat) (i:Int) (M:dH),(L.length-i).toNat<=n->n<k->0<=i->i<=L.length->zF g M->M.count+(L.length-i)=N->
 (∀s:Int,bI g.m.W g.m.H s->(rd M.parts s).version=fy g s∨ ∃j:Int,i<=j/\j<L.length/\rd L j=s)->N<=1000000000000->
 Ok (ny.l0 k g L M i) (λr=>r.1=L.length/\qe g r.2/\r.2.clean=g.bK/\r.2.count=N):=by
 have fin: ∀(k:Nat) (i:Int) (M:dH),¬i<L.length->i<=L.length->zF g M->M.count+(L.length-i)=N->(∀s:Int,bI g.m.W g.m.H s->(rd M.parts s).version=fy g s∨ ∃j:Int,i<=j/\j<L.length/\rd L j=s)->Ok (ny.l0 (k+1) g L M i) (λr=>r.1=L.length/\qe g r.2/\r.2.clean=g.bK/\r.2.count=N):=λk i M hi dZ hM hN ha=>by
  rw[ny.l0,ah hi];have tG: ∀s:Int,bI g.m.W g.m.H s->(rd M.parts s).version=fy g s:=λs hs=>(ha s hs).resolve_right λ⟨j,j0,j1,_⟩=>by omega
  refine Ok.eq (Fx g) (Ok.pure ⟨J,⟨⟨hM.len_,hM.le,hM.ok,λ_=>tG,Int.le_refl _,hM.eG⟩,tG⟩,J,?_⟩);simp only;omega
 intro n
 induction n with
 |zero=>
  intro k i M hn hk hi dZ hM hN ha RV;obtain⟨k,rfl⟩:=bl hk;exact fin k i M U dZ hM hN ha
 |succ n ih=>
  intro k i M hn hk hi dZ hM hN ha RV;obtain⟨k,rfl⟩:=bl hk
  by_cases aQ:i<L.length
  ·have hs:=hL _ (dS hi aQ);have hc:=hM.eG;rw[ny.l0,wi (x:=i+1) U U];refine Ok.pos aQ (Ok.cw ⟨hi,aQ⟩ ((afw h hs M).bind λp hp=>Ok.cw (by rw[hM.len_];exact hs) (Ok.eq (zm hc.1 U U U) ?_)))
   have dN: ∀s:Int,0<=s->rd (List.set M.parts (rd L i).toNat p) s=if s=rd L i then p else rd M.parts s:=λs s0=>kX hs.1 (by rw[hM.len_];exact hs.2) s0
   refine ih k (i+1) _ U U U U ⟨by simpa using hM.len_,λs fI=>?_,λs fI e=>?_,λe s fI=>?_,hM.LS,by simp only;omega⟩ (by simp only;omega) (λs fI=>?_) RV
   ·rw[dN s fI.1];split
    ·rw[hp.1];exact hv _ hs
    ·exact hM.le s fI
   ·rw[dN s fI.1] at e⊢;split
    ·rename_i z;rw[z];exact hp.2
    ·rename_i z;rw[ah z] at e;exact hM.ok s fI e
   ·rw[dN s fI.1];split
    ·rename_i z;rw[z];exact hp.1
    ·exact hM.cl e s fI
   ·simp only;rw[dN s fI.1]
    by_cases z:s=rd L i
    ·rw[af z,z];exact .inl hp.1
    ·rw[ah z];rcases ha s fI with y |⟨j,j0,j1,y⟩
     ·exact .inl y
     ·refine .inr ⟨j,?_,j1,y⟩;have:j≠i:=λw=>z (by rw[<-y,w])
      omega
  ·exact fin k i M aQ dZ hM hN ha
theorem ag1 (h:dE g more) (hv: ∀s:Int,bI g.m.W g.m.H s->fy g s<=g.bK) (hM:zF g M) (hc:M.count+4096<=1000000000000):
 Ok (ny.f M g) (λr=>qe g r.2/\r.2.clean=g.bK/\r.2.count=M.count+(pJ g M M.parts.length).length):=by
 unfold ny.f;have hl:=hM.len_;have M9:=oR g.m.W g.m.H;have BR:=L4 g M M.parts.length;refine Ok.eq (aaG h hM) ((ag2 h hv _ (λs hs=>?_) U (M.count+(pJ g M M.parts.length).length) (pJ g M M.parts.length).length fuel 0 M U (by rw[cM];omega) U U hM U (λs hs=>?_) U).mono λr hr=>hr.2)
 ·obtain⟨a,b,_⟩:=L7.1 hs;exact⟨a,by omega⟩
 ·by_cases z:(rd M.parts s).version=fy g s
  ·exact .inl z
  ·obtain⟨j,j0,j1,e⟩:=jK ((L7 (n:=M.parts.length)).2 ⟨hs.1,by have:=hs.2;omega,z⟩)
   exact .inr ⟨j,j0,j1,e⟩
theorem afx (h:dE g more) (hv: ∀s:Int,bI g.m.W g.m.H s->1<=fy g s): ∃M,rE.f g=some (some M)/\zF g M/\M.count=0/\M.clean=0/\ ∀s:Int,bI g.m.W g.m.H s->(rd M.parts s).version=0:=by
 unfold rE.f;have M9:=oR g.m.W g.m.H;have e:(bo g.m.W g.m.H).1*(bo g.m.W g.m.H).2=dT g.m.W g.m.H:=rfl;rw[CO,aL,Ep,aL,e,wi U U,af U];have h0: ∀s:Int,bI g.m.W g.m.H s->(rd (List.replicate (dT g.m.W g.m.H).toNat (default:ph)) s).version=0:=λs hs=>by
  rw[vy hs.1 (by have:=hs.2;omega)];rfl
 have Nf:=h.ep;refine⟨_,J,⟨by simp;omega,λs hs=>by simp only;rw[h0 s hs];omega,λs hs e=>?_,λe=>by simp only at e;omega,by simp only;omega,by simp⟩,J,J,h0⟩
 simp only at e;rw[h0 s hs] at e;have:=hv s hs;omega
section
variable {g : bw} {more : Int} {s : jo} {k : Int} {ord : List Int}
abbrev KF:Int:=104603678
abbrev CB:Int:=1000000000000
structure qc (c:gx) (b:Int):Prop where
 re:0<=c.bC/\c.bC<=b
 se:0<=c.bD/\c.bD<=b
 bu:0<=c.bA/\c.bA<=b
 hi:0<=c.bz/\c.bz<=b
 st:0<=c.bJ/\c.bJ<=b
 ev:0<=c.bF/\c.bF<=b
theorem qc.mono {c:gx} {b b':Int} (h:qc c b) (hb:b<=b'):qc c b':=by
 obtain⟨a1,a2,a3,a4,a5,a6⟩:=h;exact⟨by omega,by omega,by omega,by omega,by omega,by omega⟩
structure Bm (g:bw) (s:jo) (k:Int) (ord:List Int):Prop where
 og:ra s.keys k ord
 fl:s.fields.length=s.keys.au.length
 ok: ∀c:Int,0<=c->c<s.fields.length->cN g.m (rd s.keys.au c).key.1/\bI g.m.W g.m.H (rd s.keys.au c).key.2/\(rd s.fields c).version<=g.bK/\
  ((rd s.fields c).version=fy g (rd s.keys.au c).key.2->(rd s.fields c).sY.length<=1000000/\we (fC g.m (rd s.keys.au c).key.2) (rd s.fields c).sY KF (rd s.fields c).field)
def QA (s:jo) (a b v:Int) (l:List a_):Prop:= ∃c,cZ s.keys.fD (a,b)=some c/\(rd s.fields c).version=v/\(rd s.fields c).sY=l
theorem U5 (f:fZ) (h1:f.fb.length<=1000) (h2:f.cA.length<=1000):sZ.f f=some f:=by
 unfold sZ.f pZ.f;rw[af bm,aL,af bm,aL]
 cases f;rfl
theorem Kf {c:Int} (h0:0<=c) (h1:c<=1000000000000):mo.f c=some (c+1):=by
 unfold mo.f;rw[zm h0 U U U];rfl
theorem aab (l:List a_) (hb:l.length<=1000000):rK.f l=some l:=by
 unfold rK.f;rw[af bm];rfl
theorem Mk (h:dE g more) {b:Int} (hb:bI g.m.W g.m.H b) {l:List a_} {f:fZ} (hf:we (fC g.m b) l KF f):f.fb.length<=1000/\f.cA.length<=1000:=by
 have:=ou (OR h hb).1;rw[hf.aR.dl,hf.dl];omega
structure Pu (g:bw) (s:jo) (k:Int) (ord:List Int) (a b:Int) (l:List a_) (r:fZ×Int×jo):Prop where
 code:r.2.1=0
 Dw:we (fC g.m b) l KF r.1
 sh: ∃c A B,Bm g r.2.2 k (c::(A++B))/\(rd r.2.2.keys.au c).key=(a,b)/\(ord=A++c::B∨ord=A++B)/\
  ∀d∈A++B,(rd r.2.2.keys.au d).key=(rd s.keys.au d).key/\rd r.2.2.fields d=rd s.fields d
 now:QA r.2.2 a b (fy g b) l
 hit:QA s a b (fy g b) l->r.2.2.count=⟨s.count.bC,s.count.bD,s.count.bA,s.count.bz+1,s.count.bJ,s.count.bF⟩
 eG:r.2.2.count.bC=s.count.bC/\r.2.2.count.bD=s.count.bD/\s.count.bA<=r.2.2.count.bA/\s.count.bz<=r.2.2.count.bz/\r.2.2.count.bA+r.2.2.count.bz=s.count.bA+s.count.bz+1/\s.count.bJ<=r.2.2.count.bJ/\s.count.bF<=r.2.2.count.bF/\r.2.2.count.bJ<=s.count.bJ+1/\r.2.2.count.bF<=s.count.bF+1
theorem ahT (h:dE g more) (hv: ∀b:Int,bI g.m.W g.m.H b->fy g b<=g.bK) (hs:Bm g s k ord) (hc:qc s.count CB) {a b:Int} (ha:cN g.m a) (hb:bI g.m.W g.m.H b) (l:List a_) (Jx:l.length<=1000000) (hl: ∀x∈l,qf (fC g.m b) x/\x.Key+254*256<=KF):
 Ok (mm.f s a b (fy g b) (fC g.m b) l) (Pu g s k ord a b l):=by
 have ht:=OR h hb;have Jv:=hs.og.kb;have FY:=hs.og.jI;obtain⟨c1,c2,c3,c4,c5,c6⟩:=hc;unfold mm.f;refine(Wm ht l Jx).bind λm hm=>?_
 have:m=true:=hm.2 λx hx=>(hl x hx).1;subst this;refine Ok.neg bk ((aiO hs.og a b).bind λv NG=>?_);obtain⟨A,B,hL,Ac⟩:=NG;have hfl:=hs.fl;have qt:=(hL.mem v.1).1 (List.mem_cons_self ..);obtain⟨TN,TO⟩:v.1∉A/\v.1∉B:=by
  have:=(List.nodup_cons.1 hL.nd).1;simpa using this
 obtain⟨X,hX,R5,BL⟩: ∃X,(if(v.1==(List.length s.fields:Int))=true then(if(List.length s.fields+1<=1099511627776) then(some (s.fields++[(pX.mk 0 [] (fZ.mk [] []))])) else none) else(some s.fields))=some X/\X.length=v.2.2.2.au.length/\ ∀d:Int,0<=d->d<s.fields.length->rd X d=rd s.fields d:=by
  rcases Ac with⟨_,_,_,BX,h5,_⟩ |⟨_,_,_,_,h4,h5,_⟩ |⟨_,_,_,BX,_,h4,h5,_⟩
  ·rw[ah bm];exact⟨_,J,by omega,λ_ _ _=>rfl⟩
  ·rw[af bm,af U];exact⟨_,J,by simp;omega,λd d0 d1=>yW d0 d1⟩
  ·rw[ah bm];exact⟨_,J,by omega,λ_ _ _=>rfl⟩
 rw[hX,aL];refine Ok.cw U ?_;have hKF:KF<=1100000000:=by decide
 have BT:(rd v.2.2.2.au v.1).key=(a,b):=by
  rcases Ac with⟨_,_,h3,_,_,h6⟩ |⟨_,_,_,_,_,_,_,h6⟩ |⟨_,_,_,_,_,_,_,_,h6⟩
  ·rw[h6 _ qt.1];exact((hs.og.sl _ _).1 h3).2.2
  ·exact h6
  ·exact h6
 have Np: ∀d∈A++B,0<=d/\d<s.fields.length/\(rd v.2.2.2.au d).key=(rd s.keys.au d).key:=λd hd=>by
  have tM:d≠v.1:=λz=>by rw[z] at hd;exact(List.mem_append.1 hd).elim TN TO
  have Nc:d∈ord:=by
   rcases Ac with⟨_,_,_,e,_⟩ |⟨_,_,_,e,_⟩ |⟨_,_,_,e,_⟩<;>rw[e]
   ·rcases List.mem_append.1 hd with q |q
    ·exact List.mem_append_left _ q
    ·exact List.mem_append_right _ (List.mem_cons_of_mem _ q)
   ·exact hd
   ·rcases List.mem_append.1 hd with q |q
    ·exact List.mem_append_left _ q
    ·exact List.mem_append_right _ (List.mem_cons_of_mem _ q)
  have hr:=(hs.og.mem d).1 Nc;refine⟨hr.1,by omega,?_⟩
  rcases Ac with⟨_,_,_,_,_,h6⟩ |⟨_,_,_,_,_,_,h6,_⟩ |⟨_,_,_,_,_,_,_,h6,_⟩
  ·exact h6 d hr.1
  ·exact h6 d hr.1 hr.2
  ·exact h6 d hr.1 tM
 have TD:ord=A++v.1::B∨ord=A++B:=by
  rcases Ac with⟨_,_,_,e,_⟩ |⟨_,_,_,e,_⟩ |⟨_,_,_,e,_⟩
  ·exact .inl e
  ·exact .inr e
  ·exact .inl e
 have hq:(if v.2.1=true then(if((rd X v.1).version==fy g b)=true then((AR.f ((rd X v.1).sY) l).bind λv7=>some v7) else(some false)) else(some false))=some (decide (v.2.1=true/\(rd X v.1).version=fy g b/\(rd X v.1).sY=l)):=by
  by_cases z:v.2.1=true
  ·rw[af z]
   by_cases y:(rd X v.1).version=fy g b
   ·rw[af (by simpa using y)]
    have hlen:(rd X v.1).sY.length<=1000000:=by
     rcases Ac with⟨_,_,h3,BX,h5,h6⟩ |⟨h1,_⟩ |⟨h1,_⟩
     ·have aQ:v.1<s.fields.length:=U;rw[BL _ qt.1 aQ] at y⊢;have:=(hs.ok _ qt.1 aQ).2.2.2;rw[<-h6 _ qt.1,BT] at this;exact(this y).1
     ·rw[h1] at z;simp at z
     ·rw[h1] at z;simp at z
    rw[aie _ _ hlen];simp[z,y]
   ·rw[ah (by simpa using y)];simp[y]
  ·rw[ah z];simp[z]
 rw[hq,aL];refine Ok.ite (λq=>?_) λq=>?_
 ·obtain⟨q1,q2,q3⟩:=of_decide_eq_true q;rcases Ac with⟨h1,h2,h3,BX,h5,h6⟩ |⟨h1,_⟩ |⟨h1,_⟩
  rotate_left
  ·rw[h1] at q1;simp at q1
  ·rw[h1] at q1;simp at q1
  have aQ:v.1<s.fields.length:=U;have Tn:we (fC g.m b) l KF (rd X v.1).field:=by
   have:=(hs.ok _ qt.1 aQ).2.2.2;rw[<-h6 _ qt.1,BT] at this;rw[BL _ qt.1 aQ] at q2 q3⊢;have:=(this q2).2;rw[q3] at this;exact this
  have hlen:=Mk h hb Tn;refine Ok.eq (Kf c4.1 c4.2) (Ok.eq (U5 _ hlen.1 hlen.2) (Ok.pure ⟨J,Tn,⟨v.1,A,B,⟨hL,R5,λd d0 d1=>?_⟩,BT,TD,λd hd=>?_⟩,⟨v.1,(hL.sl _ _).2 ⟨qt.1,qt.2,BT⟩,q2,q3⟩,λ_=>rfl,⟨J,J,Int.le_refl _,by show s.count.bz<=s.count.bz+1;omega,by show s.count.bA+(s.count.bz+1)=s.count.bA+s.count.bz+1;omega,Int.le_refl _,Int.le_refl _,by show s.count.bJ<=s.count.bJ+1;omega,by show s.count.bF<=s.count.bF+1;omega⟩⟩))
  ·simp only at d1⊢;have Tf:d<s.fields.length:=U;rw[h6 d d0,BL d d0 Tf];exact hs.ok d d0 Tf
  ·obtain⟨e0,e1,e2⟩:=Np d hd;exact⟨e2,BL d e0 e1⟩
 ·have mh: ∃S,(if v.2.1=true then((mo.f s.count.bJ).bind λv12=>some v12) else(some s.count.bJ))=some S/\s.count.bJ<=S/\S<=s.count.bJ+1:=by
   split
   ·rw[Kf c5.1 c5.2];exact⟨_,J,by omega,Int.le_refl _⟩
   ·exact⟨_,J,Int.le_refl _,by omega⟩
  have hev: ∃S,(if v.2.2.1=true then((mo.f s.count.bF).bind λv12=>some v12) else(some s.count.bF))=some S/\s.count.bF<=S/\S<=s.count.bF+1:=by
   split
   ·rw[Kf c6.1 c6.2];exact⟨_,J,by omega,Int.le_refl _⟩
   ·exact⟨_,J,Int.le_refl _,by omega⟩
  obtain⟨S,eS,S1,S2⟩:=mh;obtain⟨E,eE,E1,E2⟩:=hev;rw[eS,aL,eE,aL,Kf c3.1 c3.2,aL];refine(aa2 ht Jx hKF hl).bind λf hf=>Ok.eq (aab l Jx) (Ok.eq (U5 _ (Mk h hb hf.2).1 (Mk h hb hf.2).2) (Ok.pure ?_));have dN: ∀d:Int,0<=d->rd (List.set X (Int.toNat v.1) (pX.mk (fy g b) l f.1)) d=if d=v.1 then pX.mk (fy g b) l f.1 else rd X d:=λd d0=>kX qt.1 U d0
  refine⟨rfl,hf.2,⟨v.1,A,B,⟨hL,by simpa using R5,λd d0 d1=>?_⟩,BT,TD,λd hd=>?_⟩,⟨v.1,(hL.sl _ _).2 ⟨qt.1,qt.2,BT⟩,?_,?_⟩,λ⟨c,k1,k2,k3⟩=>?_,⟨rfl,rfl,by show s.count.bA<=s.count.bA+1;omega,Int.le_refl _,by show s.count.bA+1+s.count.bz=s.count.bA+s.count.bz+1;omega,S1,E1,S2,E2⟩⟩
  ·simp only[List.length_set] at d1⊢;rw[dN d d0]
   by_cases z:d=v.1
   ·rw[af z,z,BT];exact⟨ha,hb,hv b hb,λ_=>⟨Jx,hf.2⟩⟩
   ·rw[ah z];have Nc:d∈A++B:=by
     have:=(hL.mem d).2 ⟨d0,by omega⟩
     exact(List.mem_cons.1 this).resolve_left z
    obtain⟨e0,e1,e2⟩:=Np d Nc;rw[e2,BL d e0 e1];exact hs.ok d e0 e1
  ·obtain⟨e0,e1,e2⟩:=Np d hd;have tM:d≠v.1:=λz=>by rw[z] at hd;exact(List.mem_append.1 hd).elim TN TO
   refine⟨e2,?_⟩;simp only;rw[dN d e0,ah tM];exact BL d e0 e1
  ·simp only;rw[dN _ qt.1,af J]
  ·simp only;rw[dN _ qt.1,af J]
  ·exfalso;rcases Ac with⟨h1,h2,h3,BX,h5,h6⟩ |⟨_,_,h3,_⟩ |⟨_,_,h3,_⟩
   ·rw[h3] at k1;simp only[Option.some.injEq] at k1;subst k1;have aQ:v.1<s.fields.length:=U;have q: ¬(v.2.1=true/\(rd X v.1).version=fy g b/\(rd X v.1).sY=l):=by simpa using q
    rw[BL _ qt.1 aQ] at q;exact q ⟨h1,k2,k3⟩
   ·rw[h3] at k1;simp at k1
   ·rw[h3] at k1;simp at k1
theorem ah2 {k:Int} (h1:1<=k) (h2:k<=1000000): ∃s,xu.f k=some (some s)/\ra s.keys k []/\s.fields=[]/\s.count=⟨0,0,0,0,0,0⟩:=by
 obtain⟨l,e,hl⟩:=afa h1 h2;unfold xu.f;rw[ah U,e];exact⟨_,J,hl,J,J⟩
theorem Rm (h:ra s.keys k ord): ∃s',pz.f s=some s'/\ra s'.keys k []/\s'.fields=[]/\s'.count=s.count:=by
 obtain⟨l,e,hl⟩:=Z' h;unfold pz.f;rw[e];exact⟨_,J,hl,J,J⟩
theorem Bm.empty (g:bw) (h:ra s.keys k []) (hf:s.fields=[]):Bm g s k []:=by
 have hl:s.keys.au.length=0:=by
  apply Classical.byContradiction;intro z;have:=(h.mem 0).2 U;simp at this
 exact⟨h,by rw[hf,hl];rfl,λc c0 c1=>by rw[hf] at c1;simp at c1;omega⟩
end
variable {g : bw} {more : Int} {M : dH}
theorem ae_ (x y:Int):cmp_Less_int.f x y=some (decide (x<y)):=by
 unfold cmp_Less_int.f cmp_isNaN_int.f;simp
theorem Zq (x:List Int) (t:Int) (hx:x.Pairwise (· < ·)) (hb:x.length<=1000000): ∀(n k:Nat) (i j:Int),(j-i).toNat<=n->n<k->0<=i->i<=j->j<=x.length->(∀c:Int,0<=c->c<i->rd x c<t)->(∀c:Int,j<=c->c<x.length->t<=rd x c)->
 Ok (ot.l0 k x t i j) (λr=>0<=r/\r<=x.length/\(∀c:Int,0<=c->c<r->rd x c<t)/\(∀c:Int,r<=c->c<x.length->t<=rd x c)):=by
 have fin: ∀(k:Nat) (i j:Int),¬i<j->0<=i->i<=j->j<=x.length->(∀c:Int,0<=c->c<i->rd x c<t)->(∀c:Int,j<=c->c<x.length->t<=rd x c)->Ok (ot.l0 (k+1) x t i j) (λr=>0<=r/\r<=x.length/\(∀c:Int,0<=c->c<r->rd x c<t)/\(∀c:Int,r<=c->c<x.length->t<=rd x c)):=λk i j rA h0 h1 h2 ha hb=>by
  rw[ot.l0,ah rA];exact Ok.pure ⟨h0,by omega,ha,λc c0 c1=>hb c U c1⟩
 intro n
 induction n with
 |zero=>
  intro k i j hn hk h0 h1 h2 ha hb;obtain⟨k,rfl⟩:=bl hk;exact fin k i j U h0 h1 h2 ha hb
 |succ n ih=>
  intro k i j hn hk h0 h1 h2 ha hb;obtain⟨k,rfl⟩:=bl hk
  by_cases aQ:i<j
  ·have e:aa (Int.fdiv (eB (aa (i+j))) (2^1))=(i+j)/2:=by
    rw[wi (x:=i+j) U U,qS U U,Int.fdiv_eq_ediv_of_nonneg _ (by decide),show(2:Int)^1=2 from rfl,wi U U]
   rw[ot.l0,e,wi (x:=(i+j)/2+1) U U];refine Ok.pos aQ (Ok.cw U (Ok.eq (ae_ ..) (Ok.ite (λq=>?_) λq=>?_)))
   ·have q:=of_decide_eq_true q;refine ih k _ j U U U U h2 (λc c0 c1=>?_) hb
    by_cases z:c=(i+j)/2
    ·rw[z];exact q
    ·have:=uc hx (i:=c) (j:=(i+j)/2) c0 U U;omega
   ·have q: ¬rd x ((i+j)/2)<t:=by simpa using q
    refine ih k i _ U U h0 U U ha (λc c0 c1=>?_)
    by_cases z:c=(i+j)/2
    ·rw[z];omega
    ·have:=uc hx (i:=(i+j)/2) (j:=c) U U c1;omega
  ·exact fin k i j aQ h0 h1 h2 ha hb
theorem Zp (x:List Int) (t:Int) (hx:x.Pairwise (· < ·)) (hb:x.length<=1000000):Ok (ot.f x t) (λr=>(r.2=true↔t∈x)/\(r.2=true->0<=r.1/\r.1<x.length/\rd x r.1=t)):=by
 unfold ot.f AW.f;refine(Zq x t hx hb x.length fuel 0 x.length U (by rw[cM];omega) U U U (λc c0 c1=>by omega) (λc c0 c1=>by omega)).bind λr hr=>?_
 obtain⟨r0,r1,r2,r3⟩:=hr;have gD:(r<x.length->rd x r≠t)->t∉x:=λh hm=>by
  obtain⟨c,c0,c1,e⟩:=jK hm;rcases Int.lt_trichotomy c r with q |q |q
  ·have:=r2 c c0 q;omega
  ·subst q;exact h c1 e
  ·have:=uc hx r0 q c1;have:=r3 r U U;omega
 by_cases h1:r<x.length
 ·rw[af h1,af ⟨r0,h1⟩]
  by_cases h2:rd x r=t
  ·rw[af (by simpa using h2)]
   exact Ok.pure ⟨⟨λ_=>by rw[<-h2];exact dS r0 h1,λ_=>rfl⟩,λ_=>⟨r0,h1,h2⟩⟩
  ·rw[ah (by simpa using h2)]
   have:=gD λ_=>h2
   simp only[aL,bne_self_eq_false,Bool.false_eq_true,if_false];exact Ok.pure ⟨by simpa using this,by simp⟩
 ·rw[ah h1];have:=gD λq=>absurd q h1
  exact Ok.pure ⟨by simpa using this,by simp⟩
def node (m:aJ) (c:Int):Prop:=c∈bH m (aY m.W m.H c)
theorem Cq {m:aJ} {c:Int} (h:node m c):lY m c=true/\cN m c:=⟨(ua h).1,(ua h).2.1⟩
theorem Kb {m:aJ} {s c:Int} (h:c∈bH m s):node m c:=by
 unfold node;rw[(ua h).2.2.2];exact h
theorem Rh (h:dE g more) (hF:qe g M) (c:Int):Ok (sE.f M c g) (λr=>(¬bT g.m.W g.m.H c/\r=(none,0,false))∨(bT g.m.W g.m.H c/\r.1=some (aY g.m.W g.m.H c)/\(r.2.2=true↔node g.m c)/\(r.2.2=true->0<=r.2.1/\r.2.1<(bH g.m (aY g.m.W g.m.H c)).length/\rd (bH g.m (aY g.m.W g.m.H c)) r.2.1=c))):=by
 unfold sE.f D4.f;refine Ok.eq (CO g) (Ok.eq (sX ..) (Ok.ite (λq=>Ok.pure (.inl ⟨zg.1 q,J⟩)) λq=>?_));have hc:bT g.m.W g.m.H c:=Classical.byContradiction λz=>q (zg.2 z);have hs:=vO hc;have hp:=hF.part hs;refine Ok.cw (by rw[hF.ms.len_];exact hs) ?_
 rw[hp.nodes];refine Ok.bind (Ok.bind (Zp _ c (Od ..) (by have:=vu g.m (aY g.m.W g.m.H c);omega)) λr hr=>Ok.pure (P:=λr:Int×Bool=>(r.2=true↔node g.m c)/\(r.2=true->0<=r.1/\r.1<(bH g.m (aY g.m.W g.m.H c)).length/\rd (bH g.m (aY g.m.W g.m.H c)) r.1=c)) hr) λr hr=>Ok.pure (.inr ⟨hc,J,hr⟩)
theorem af3 (hF:qe g M) (s:Int) (hs:bI g.m.W g.m.H s):wZ.f M s g=some (bH g.m s):=by
 have hp:=hF.part hs;have hl:=vu g.m s;unfold wZ.f pZ.f;have:=hs.1;have:=hs.2;rw[hF.ms.len_,ah U,hp.nodes];simp only[aL];rw[ah bm,af hs,af bm];rfl
def Comes (m:aJ) (b:Int) (e:dU):Prop:=
 (e.To∈bH m (aY m.W m.H b)/\e.To≠b/\e.kI≠cK/\ ∃D,ES (fC m (aY m.W m.H b)) (dx m.W m.H b) D/\e.kI=rd D (dx m.W m.H e.To))∨
 (node m e.To/\aY m.W m.H e.To≠aY m.W m.H b/\(∃d:Int,0<=d/\d<=3/\e.To=cD m.W m.H b d)/\e.kI=rd m.C b)
theorem aaR {d:Int} (h:d=cK∨(0<=d/\d<=KT)):(if(enc d != -1)=true then some (aa (enc d)) else some 1099511627776)=some d:=by
 have hI:cK=1099511627776:=rfl;have hK:KT=65024:=rfl;unfold enc
 by_cases z:d=cK
 ·simp[z]
 ·have:=h.resolve_left z;rw[ah z,af bm,wi U U]
theorem aes (h:dE g more) (hF:qe g M) {b:Int} (hb:node g.m b) (v:Option Int×Int×Bool) (hv:0<=v.2.1/\v.2.1<(bH g.m (aY g.m.W g.m.H b)).length/\rd (bH g.m (aY g.m.W g.m.H b)) v.2.1=b)
 (Q:List dU->Prop) (DM: ∀x:List dU,x.length<=256->(∀e,e∈x↔Comes g.m b e/\aY g.m.W g.m.H e.To=aY g.m.W g.m.H b)->Ok (gR.l1 fuel M b g (aY g.m.W g.m.H b) (g.m.W,g.m.H) x 0) Q):
 ∀(n k:Nat) (i:Int) (x:List dU),((bH g.m (aY g.m.W g.m.H b)).length-i).toNat<=n->n<k->0<=i->i<=(bH g.m (aY g.m.W g.m.H b)).length->x.length<=i->
 (∀e,e∈x↔Comes g.m b e/\aY g.m.W g.m.H e.To=aY g.m.W g.m.H b/\ ∃j:Int,0<=j/\j<i/\rd (bH g.m (aY g.m.W g.m.H b)) j=e.To)->
 Ok (gR.l0 k M b g v (aY g.m.W g.m.H b) x i) Q:=by
 have cu:=(Cq hb).2;have hs:=vO (pc h.ok cu);have hp:=hF.part hs;have hN:=vu g.m (aY g.m.W g.m.H b);have BU:=JZ h hs;have hI:cK=1099511627776:=rfl;have MA:KT=65024:=rfl;generalize hS:aY g.m.W g.m.H b=s at*;have TI:=Od g.m s;have fin: ∀(k:Nat) (i:Int) (x:List dU),¬i<(bH g.m s).length->i<=(bH g.m s).length->x.length<=i->(∀e,e∈x↔Comes g.m b e/\aY g.m.W g.m.H e.To=s/\ ∃j:Int,0<=j/\j<i/\rd (bH g.m s) j=e.To)->Ok (gR.l0 (k+1) M b g v s x i) Q:=λk i x hi dZ hx he=>by
  rw[gR.l0,hp.nodes,ah hi];refine Ok.eq (CO g) (DM x U λe=>(he e).trans ⟨λq=>⟨q.1,q.2.1⟩,λq=>⟨q.1,q.2,?_⟩⟩);rcases q.1 with⟨y,_⟩ |⟨_,y,_⟩
  ·rw[hS] at y;obtain⟨j,j0,j1,z⟩:=jK y;exact⟨j,j0,by omega,z⟩
  ·rw[hS] at y;exact absurd q.2 y
 intro n
 induction n with
 |zero=>
  intro k i x hn hk hi dZ hx he;obtain⟨k,rfl⟩:=bl hk;exact fin k i x U dZ hx he
 |succ n ih=>
  intro k i x hn hk hi dZ hx he;obtain⟨k,rfl⟩:=bl hk
  by_cases aQ:i<(bH g.m s).length
  ·obtain⟨D,d1,d2⟩:=hp.QN v.2.1 hv.1 hv.2.1;rw[hv.2.2] at d1;have ajo:=Gj hi aQ hv.1 hv.2.1;have Aj:((bH g.m s).length:Int)*(bH g.m s).length<=256*256:=kA U U U U;have Nz:=dS hi aQ;have jh:=BU.mem _ (List.mem_map_of_mem Nz);have hd:rd D (dx g.m.W g.m.H (rd (bH g.m s) i))=cK∨(0<=rd D (dx g.m.W g.m.H (rd (bH g.m s) i))/\rd D (dx g.m.W g.m.H (rd (bH g.m s) i))<=KT):=by
    by_cases z:rd D (dx g.m.W g.m.H (rd (bH g.m s) i))=cK
    ·exact .inl z
    ·have:=d1.dv _ jh.1 jh.2.1 z;exact .inr ⟨this.1,this.2.1⟩
   have eb:Cg.f (rd M.parts s) i v.2.1=some (rd D (dx g.m.W g.m.H (rd (bH g.m s) i))):=by
    unfold Cg.f;rw[hp.nodes,wi (x:=i*((bH g.m s).length:Int)) U U,wi U U,af (by rw[hp.len_];omega),d2 i hi aQ]
    exact aaR hd
   rw[gR.l0,hp.nodes,af aQ,af (c:=0<=i/\i<_) ⟨hi,aQ⟩,eb,aL,wi U U];have bL:(i≠v.2.1)↔rd (bH g.m s) i≠b:=by
    constructor
    ·intro z y;rw[<-hv.2.2] at y;rcases Int.lt_or_gt_of_ne z with w |w
     ·have:=uc TI hi w hv.2.1;omega
     ·have:=uc TI hv.1 w aQ;omega
    ·intro z y;rw[y] at z;exact z hv.2.2
   have yD:aY g.m.W g.m.H (rd (bH g.m s) i)=s:=(ua Nz).2.2.2;generalize hV:rd D (dx g.m.W g.m.H (rd (bH g.m s) i))=V at*;have Ad: ∀e:dU,e.To=rd (bH g.m s) i->(Comes g.m b e↔i≠v.2.1/\V≠cK/\e=⟨rd (bH g.m s) i,V⟩):=λe ee=>by
    obtain⟨a,c⟩:=e;simp only at ee;subst ee;unfold Comes;rw[hS];constructor
    ·rintro(⟨_,z2,z3,E,z4,z5⟩ |⟨_,z2,_⟩)
     ·have:=ah' BU.C0 z4 d1 jh.1 jh.2.1;simp only at z2 z3 z5;rw[this,hV] at z5;exact⟨bL.2 z2,by omega,by rw[z5]⟩
     ·exact absurd yD z2
    ·rintro⟨z1,z2,z3⟩;simp only[dU.mk.injEq,true_and] at z3;subst z3;exact .inl ⟨Nz,bL.1 z1,z2,D,d1,hV.symm⟩
   have wP: ∀e:dU,(Comes g.m b e/\aY g.m.W g.m.H e.To=s/\ ∃j:Int,0<=j/\j<i+1/\rd (bH g.m s) j=e.To)↔(e∈x∨(i≠v.2.1/\V≠cK/\e=⟨rd (bH g.m s) i,V⟩)):=λe=>by
    rw[he e];constructor
    ·rintro⟨a,b',j,j0,j1,ej⟩
     by_cases z:j=i
     ·subst z;exact .inr ((Ad e ej.symm).1 a)
     ·exact .inl ⟨a,b',j,j0,by omega,ej⟩
    ·rintro(⟨a,b',j,j0,j1,ej⟩ |w)
     ·exact⟨a,b',j,j0,by omega,ej⟩
     ·have ee:e.To=rd (bH g.m s) i:=by rw[w.2.2]
      exact⟨(Ad e ee).2 w,by rw[ee];exact yD,i,hi,by omega,ee.symm⟩
   by_cases q:i≠v.2.1/\V≠cK
   ·rw[af (by simp;exact q),af U]
    refine Ok.eq J (ih k (i+1) _ U U U U bm λe=>?_);rw[wP e];simp[q.1,q.2]
   ·rw[ah (by simp only[Bool.and_eq_true,bne_iff_ne];exact q)]
    refine Ok.eq J (ih k (i+1) x U U U U U λe=>?_);rw[wP e];exact⟨.inl,λw=>w.resolve_right λy=>q ⟨y.1,y.2.1⟩⟩
  ·exact fin k i x aQ dZ hx he
theorem aet (h:dE g more) (hF:qe g M) {b:Int} (hb:node g.m b): ∀(n k:Nat) (j:Int) (x:List dU),(4-j).toNat<=n->n<k->0<=j->j<=4->x.length<=256+j->
 (∀e,e∈x↔Comes g.m b e/\(aY g.m.W g.m.H e.To=aY g.m.W g.m.H b∨ ∃d:Int,0<=d/\d<j/\e.To=cD g.m.W g.m.H b d))->
 Ok (gR.l1 k M b g (aY g.m.W g.m.H b) (g.m.W,g.m.H) x j) (λr=>r.length<=260/\ ∀e,e∈r↔Comes g.m b e):=by
 have fin: ∀(k:Nat) (j:Int) (x:List dU),¬j<=3->x.length<=256+j->j<=4->(∀e,e∈x↔Comes g.m b e/\(aY g.m.W g.m.H e.To=aY g.m.W g.m.H b∨ ∃d:Int,0<=d/\d<j/\e.To=cD g.m.W g.m.H b d))->Ok (gR.l1 (k+1) M b g (aY g.m.W g.m.H b) (g.m.W,g.m.H) x j) (λr=>r.length<=260/\ ∀e,e∈r↔Comes g.m b e):=λk j x hj hx iM he=>by
  rw[gR.l1,ah hj];refine Ok.pure ⟨by omega,λe=>(he e).trans ⟨λq=>q.1,λq=>⟨q,?_⟩⟩⟩
  rcases q with⟨y,_⟩ |⟨_,_,⟨d,d0,d3,y⟩,_⟩
  ·exact .inl (ua y).2.2.2
  ·exact .inr ⟨d,d0,by omega,y⟩
 intro n
 induction n with
 |zero=>
  intro k j x hn hk hj iM hx he;obtain⟨k,rfl⟩:=bl hk;exact fin k j x U hx iM he
 |succ n ih=>
  intro k j x hn hk hj iM hx he;obtain⟨k,rfl⟩:=bl hk
  by_cases aQ:j<=3
  ·rw[gR.l1,wi (x:=j+1) U U];have cu:=(Cq hb).2;have DI:fx g b=rd g.m.C b:=by unfold fx;rw[af cu]
   have wP: ∀(P:Prop),(P↔node g.m (cD g.m.W g.m.H b j)/\aY g.m.W g.m.H (cD g.m.W g.m.H b j)≠aY g.m.W g.m.H b)-> ∀e:dU,(Comes g.m b e/\(aY g.m.W g.m.H e.To=aY g.m.W g.m.H b∨ ∃d:Int,0<=d/\d<j+1/\e.To=cD g.m.W g.m.H b d))↔(e∈x∨(P/\e=⟨cD g.m.W g.m.H b j,fx g b⟩)):=λP hP e=>by
    rw[he e];constructor
    ·rintro⟨a,c |⟨d,d0,d1,c⟩⟩
     ·exact .inl ⟨a,.inl c⟩
     ·by_cases z:d=j
      ·subst z;rcases a with⟨y1,y2⟩ |⟨y1,y2,y3,y4⟩
       ·exact .inl ⟨.inl ⟨y1,y2⟩,.inl (ua y1).2.2.2⟩
       ·obtain⟨e1,e2⟩:=e;simp only at c y1 y2 y4;rw[c] at y1 y2;exact .inr ⟨hP.2 ⟨y1,y2⟩,by rw[c,y4,DI]⟩
      ·exact .inl ⟨a,.inr ⟨d,d0,by omega,c⟩⟩
    ·rintro(⟨a,c |⟨d,d0,d1,c⟩⟩ |⟨p,rfl⟩)
     ·exact⟨a,.inl c⟩
     ·exact⟨a,.inr ⟨d,d0,by omega,c⟩⟩
     ·obtain⟨y1,y2⟩:=hP.1 p;exact⟨.inr ⟨y1,y2,⟨j,hj,aQ,J⟩,DI⟩,.inr ⟨j,hj,by omega,J⟩⟩
   have skip: ¬(node g.m (cD g.m.W g.m.H b j)/\aY g.m.W g.m.H (cD g.m.W g.m.H b j)≠aY g.m.W g.m.H b)->Ok (gR.l1 k M b g (aY g.m.W g.m.H b) (g.m.W,g.m.H) x (j+1)) (λr=>r.length<=260/\ ∀e,e∈r↔Comes g.m b e):=λz=>by
    refine ih k (j+1) x U U U U U λe=>?_
    rw[wP False ⟨False.elim,z⟩ e];simp
   refine Ok.pos aQ (Ok.eq (Hu ..) ((Rh h hF _).bind λr hr=>?_));rcases hr with⟨r1,rfl⟩ |⟨r1,r2,r3,r4⟩
   ·exact skip λz=>r1 (pc h.ok (Cq z.1).2)
   ·rw[r2]
    show Ok (if r.2.2=true then _ else _) _
    refine Ok.ite (λq=>Ok.ite (λq'=>Ok.eq (uK h _) (Ok.cw U ?_)) λq'=>?_) λq=>?_
    ·have q':aY g.m.W g.m.H (cD g.m.W g.m.H b j)≠aY g.m.W g.m.H b:=by simpa using q'
     refine ih k (j+1) _ U U U U bm λe=>?_
     rw[wP True ⟨λ_=>⟨r3.1 q,q'⟩,λ_=>trivial⟩ e];simp
    ·exact skip λz=>z.2 (by simpa using q')
    ·exact skip λz=>q (r3.2 z.1)
  ·exact fin k j x aQ hx iM he
theorem aer (h:dE g more) (hF:qe g M) (b:Int):Ok (gR.f M b g) (λr=>r.length<=260/\((node g.m b/\ ∀e,e∈r↔Comes g.m b e)∨(¬node g.m b/\r=[]))):=by
 unfold gR.f;refine(Rh h hF b).bind λr hr=>?_
 rcases hr with⟨r1,rfl⟩ |⟨r1,r2,r3,r4⟩
 ·exact Ok.of (r:=[]) J (⟨by simp,.inr ⟨λz=>r1 (pc h.ok (Cq z).2),J⟩⟩)
 ·rw[r2]
  show Ok (if(!r.2.2)=true then some [] else _) (λr=>r.length<=260/\((node g.m b/\ ∀e,e∈r↔Comes g.m b e)∨(¬node g.m b/\r=[])))
  by_cases q:r.2.2=true
  rotate_left
  ·refine Ok.pos (by simpa using q) (Ok.pure ⟨by simp,.inr ⟨λz=>q (r3.2 z),J⟩⟩)
  refine Ok.neg (by simp[q]) ?_
  have q:r.2.2=true:=by simpa using q
  have hb:=r3.1 q;have hs:=vO r1;have hp:=hF.part hs;have hN:=vu g.m (aY g.m.W g.m.H b);refine Ok.cw (by rw[hp.nodes,wi U U];omega) ((aes h hF hb r (r4 q) (λr=>r.length<=260/\ ∀e,e∈r↔Comes g.m b e) (λx hx he=>aet h hF hb 4 fuel 0 x bk (by rw[cM];omega) U U U λe=>(he e).trans ⟨λq=>⟨q.1,.inl q.2⟩,λq=>⟨q.1,q.2.resolve_right λ⟨d,d0,d1,_⟩=>by omega⟩⟩) 256 fuel 0 _ U (by rw[cM];omega) U U bk (λe=>⟨λq=>by simp at q,λ⟨_,_,j,j0,j1,_⟩=>by omega⟩)).mono λr hr=>⟨hr.1,.inl ⟨hb,hr.2⟩⟩)
theorem LX (h:dE g more) {b:Int} (hb:node g.m b) {e:dU} (he:Comes g.m b e):node g.m e.To/\e.To≠b/\1<=e.kI/\e.kI<=KT:=by
 have MA:KT=65024:=rfl;have cu:=Cq hb;have hs:=vO (pc h.ok cu.2);rcases he with⟨a1,a2,a3,D,a4,a5⟩ |⟨a1,a2,a3,a4⟩
 ·have BU:=JZ h hs;have hm:=BU.mem _ (List.mem_map_of_mem (f:=dx g.m.W g.m.H) a1);have hd:=a4.dv _ hm.1 hm.2.1 (by rw[<-a5];exact a3)
  refine⟨Kb a1,a2,?_,by omega⟩
  apply Classical.byContradiction;intro z;obtain⟨x,hx,e1,_⟩:=aia BU.C0 a4 hm.1 hm.2.1 U;simp only[List.mem_cons,List.not_mem_nil,or_false] at hx;subst hx;have hE:=ua a1;rcases Int.lt_or_gt_of_ne a2 with w |w
  ·have:=N0 (pc h.ok hE.2.1) (pc h.ok cu.2) hE.2.2.2 w;simp only at e1;omega
  ·have:=N0 (pc h.ok cu.2) (pc h.ok hE.2.1) hE.2.2.2.symm w;simp only at e1;omega
 ·have:=h.rZ b cu.2.1 cu.2.2;exact⟨a1,λz=>a2 (by rw[z]),by omega,by omega⟩
def Q5 (a b:dG):Bool:=decide (a.key<b.key)||(a.key==b.key&&decide (a.item<b.item))
theorem Q6 (a b:dG):yx.f a b=some (Q5 a b):=by
 unfold yx.f Q5
 by_cases h:a.key<b.key
 ·simp[h]
 ·by_cases g:a.key=b.key<;>simp[h,g]
theorem aiM: ∀(n k:Nat) (l:List dG) (i:Int),i.toNat<=n->n<k->i<l.length->l.length<=1099511627776->
 Ok (oZ.l0 k l i) (λh=>h.l.length=l.length/\ ∀e,e∈h.l↔e∈l):=by
 intro n
 induction n with
 |zero=>
  intro k l i hn hk hi hb;obtain⟨k,rfl⟩: ∃q,k=q+1:=⟨k-1,by omega⟩
  rw[oZ.l0,ah U];exact Ok.pure ⟨J,λ_=>Iff.rfl⟩
 |succ n ih=>
  intro k l i hn hk hi hb;obtain⟨k,rfl⟩: ∃q,k=q+1:=⟨k-1,by omega⟩
  rw[oZ.l0];refine Ok.ite (λhp=>?_) (λ_=>Ok.pure ⟨J,λ_=>Iff.rfl⟩);have ew:aa (Int.tdiv (aa (i-1)) 2)=(i-1)/2:=by rw[wi (x:=i-1) U U,qP U,wi U U]
  simp only[ew];refine Ok.cw U (Ok.cw U (Ok.eq (Q6 _ _) (Ok.ite (λ_=>Ok.pure ⟨J,λ_=>Iff.rfl⟩) λ_=>Ok.cw bm ?_)));refine(ih k _ ((i-1)/2) U U bm (by simpa using hb)).mono λh hh=>⟨by simpa using hh.1,λe=>(hh.2 e).trans (O_ U hi U U e)⟩
theorem Km (h:eK) (k i:Int) (hb:h.l.length<1099511627776):
 Ok (np.f h k i) (λr=>r.l.length=h.l.length+1/\ ∀e,e∈r.l↔e∈h.l∨e=⟨k,i⟩):=by
 unfold np.f oZ.f;refine Ok.cw U ((aiM h.l.length fuel _ _ ?_ (by rw[cM];omega) ?_ bm).bind λr hr=>Ok.pure ⟨by simpa using hr.1,λe=>by rw[hr.2 e];simp⟩)
 ·simp only[List.length_append,List.length_cons,List.length_nil];rw[wi U U];omega
 ·simp only[List.length_append,List.length_cons,List.length_nil];rw[wi U U];omega
theorem aaL: ∀(n k:Nat) (l:List dG) (i m j:Int),(2*i+3-j).toNat<=n->n<k->0<=i->i<l.length->(m=i∨i<m)->m<l.length->i<j->l.length<=1099511627776->
 Ok (jg.l1 k l i m j) (λr=>r=Sum.inl ⟨l⟩∨ ∃l' m',r=Sum.inr (l',m')/\l'.length=l.length/\(∀e,e∈l'↔e∈l)/\i<m'/\m'<l.length):=by
 intro n
 induction n with
 |zero=>
  intro k l i m j hn hk i0 i1 hm m1 hj hb;obtain⟨k,rfl⟩: ∃q,k=q+1:=⟨k-1,by omega⟩
  rw[jg.l1,wi (x:=2*i) U U,wi (x:=2*i+2) U U,ah U];simp only[aL,Bool.false_eq_true,if_false];refine Ok.ite (λ_=>Ok.pure (.inl J)) λq=>Ok.cw U (Ok.cw U (Ok.cw bm (Ok.pure (.inr ⟨_,_,J,by simp,λe=>O_ i0 i1 U m1 e,?_,m1⟩))))
  have:m≠i:=λz=>q (by simp[z])
  omega
 |succ n ih=>
  intro k l i m j hn hk i0 i1 hm m1 hj hb;obtain⟨k,rfl⟩: ∃q,k=q+1:=⟨k-1,by omega⟩
  rw[jg.l1,wi (x:=2*i) U U,wi (x:=2*i+2) U U];have hx:(if j<=2*i+2 then some (decide (j<(l.length:Int))) else some false)=some (decide (j<=2*i+2/\j<l.length)):=by
   by_cases a:j<=2*i+2<;>simp[a]
  rw[hx];simp only[aL];refine Ok.ite (λq=>?_) λq=>?_
  ·have q':=of_decide_eq_true q;refine Ok.cw U (Ok.cw U (Ok.eq (Q6 _ _) (Ok.ite (λ_=>?_) λ_=>?_)))
   ·rw[wi U U];exact ih k l i j (j+1) U U i0 i1 (.inr hj) q'.2 U hb
   ·rw[wi U U];exact ih k l i m (j+1) U U i0 i1 hm m1 U hb
  ·refine Ok.ite (λ_=>Ok.pure (.inl J)) λq=>Ok.cw U (Ok.cw U (Ok.cw bm (Ok.pure (.inr ⟨_,_,J,by simp,λe=>O_ i0 i1 U m1 e,?_,m1⟩))))
   have:m≠i:=λz=>q (by simp[z])
   omega
theorem aaK: ∀(n k:Nat) (l:List dG) (i:Int),l.length-i.toNat<=n->n<k->0<=i->i<l.length->l.length<=1099511627776->
 Ok (jg.l0 k l i) (λh=>h.l.length=l.length/\ ∀e,e∈h.l↔e∈l):=by
 intro n
 induction n with
 |zero=>intro k l i hn hk i0 i1;omega
 |succ n ih=>
  intro k l i hn hk i0 i1 hb;obtain⟨k,rfl⟩: ∃q,k=q+1:=⟨k-1,by omega⟩
  rw[jg.l0,wi (x:=2*i) U U,wi (x:=2*i+1) U U];refine(aaL (i.toNat+3) fuel l i i (2*i+1) U (by rw[cM];omega) i0 i1 (.inl J) i1 U hb).bind λr hr=>?_
  rcases hr with rfl |⟨l',m',rfl,e1,e2,e3,e4⟩
  ·exact Ok.pure ⟨J,λ_=>Iff.rfl⟩
  ·exact(ih k l' m' U U U U U).mono λh hh=>⟨by omega,λe=>(hh.2 e).trans (e2 e)⟩
def Xu (l:List dG) (r:Int×Int×Bool×eK):Prop:=
 (l=[]/\r=(0,0,false,⟨[]⟩))∨(l≠[]/\r.2.2.1=true/\⟨r.1,r.2.1⟩=rd l 0/\r.2.2.2.l.length+1=l.length/\(∀e∈r.2.2.2.l,e∈l)/\ ∀e∈l,e=rd l 0∨e∈r.2.2.2.l)
theorem Ki (h:eK) (hb:h.l.length<=1099511627776):Ok (nn.f h) (Xu h.l):=by
 obtain⟨l⟩:=h;unfold nn.f DL.f DK.f jg.f
 by_cases hl:l=[]
 ·subst hl;exact Ok.pure (.inl ⟨rfl,rfl⟩)
 have hp:0<l.length:=List.length_pos_iff.2 hl;simp only at hb⊢;simp only[aL];rw[ah (by simpa using hl),af U,wi (x:=(l.length:Int)-1) U U]
 simp only[aL,if_true];refine Ok.cw U (Ok.cw U (Ok.cw bm ?_));have hs: ∀(L:List dG),L.length=l.length->aA L 0 ((l.length:Int)-1)=L.take (l.length-1):=by
  intro L hL;unfold aA;simp
 rw[hs _ bk];have jh: ∀e∈(List.set l 0 (rd l ((l.length:Int)-1))).take (l.length-1),e∈l:=by
  intro e he;rcases List.mem_or_eq_of_mem_set (List.mem_of_mem_take he) with h |h
  ·exact h
  ·rw[h];exact ud U U
 have Ns: ∀e∈l,e=rd l 0∨e∈(List.set l 0 (rd l ((l.length:Int)-1))).take (l.length-1):=by
  intro e he;obtain⟨c,c0,c1,rfl⟩:=J3.1 he
  by_cases z:c=0
  ·exact .inl (by rw[z])
  ·refine .inr (J3.2 ?_);have ht: ∀d:Int,0<=d->d<(l.length:Int)-1->rd ((List.set l 0 (rd l ((l.length:Int)-1))).take (l.length-1)) d=if d=0 then rd l ((l.length:Int)-1) else rd l d:=by
    intro d d0 d1;have:=GX (L:=l) (i:=0) (c:=d) (v:=rd l ((l.length:Int)-1)) U U d0;rw[<-this];simp only[Int.toNat_zero];rw[jm (xs:=List.take _ _) bm,List.getElem_take,jm (xs:=List.set _ _ _) bm]
   have hlen:((List.set l 0 (rd l ((l.length:Int)-1))).take (l.length-1)).length=l.length-1:=by simp
   by_cases y:c=(l.length:Int)-1
   ·exact⟨0,by omega,by omega,by rw[ht 0 U U,af J,y]⟩
   ·exact⟨c,c0,by omega,by rw[ht c c0 U,ah z]⟩
 by_cases h1:l.length=1
 ·have e0:(List.set l 0 (rd l ((l.length:Int)-1))).take (l.length-1)=[]:=by rw[h1];rfl
  simp only[Int.toNat_zero];rw[e0] at jh Ns⊢;have hd:jg.l0 fuel [] 0=some ⟨[]⟩:=by
   obtain⟨k,hk⟩: ∃q,fuel=q+1+1:=⟨fuel-2,by rw[cM]⟩
   rw[hk,jg.l0,hk,jg.l1];rfl
  rw[hd];exact Ok.pure (.inr ⟨hl,J,J,by simp[h1],jh,Ns⟩)
 ·refine(aaK l.length fuel _ 0 bk (by rw[cM];omega) U bm bm).bind λr hr=>Ok.pure (.inr ⟨hl,J,J,?_,λe he=>jh e ((hr.2 e).1 he),λe he=>(Ns e he).imp id λx=>(hr.2 e).2 x⟩)
  have:=hr.1;simp at this;simp only;omega
variable {g : bw} {more : Int}
def AE (g:bw) (c:Int):Prop:=cN g.m c/\fx g c≠255
theorem Mp (h:dE g more) {c:Int} (hc:cN g.m c):1<=fx g c/\fx g c<=255:=by
 unfold fx;rw[af hc];exact h.rZ c hc.1 hc.2
theorem aiV (h:dE g more) (goal cell key:Int) (m:List (Int×Int)) (hc:AE g cell) (k0:0<=key) (k1:key<=1000000000): ∀(n k:Nat) (l:List dG) (s:Int),(4-s).toNat<=n->n<k->0<=s->l.length<=10000000-4+s->
 Ok (jn.l1 k goal g (g.m.W,g.m.H) m cell key l s) (λr=>r.1=cE m cell key/\r.2.length<=l.length+(4-s).toNat/\ ∀e∈r.2,e∈l∨(AE g e.item/\0<=e.key/\e.key<=key+254)):=by
 have gC:=Mp h hc.1;intro n
 induction n with
 |zero=>
  intro k l s hn hk s0 hl;obtain⟨k,rfl⟩:=bl hk;rw[jn.l1,ah U];exact Ok.pure ⟨J,by simp,λe he=> .inl he⟩
 |succ n ih=>
  intro k l s hn hk s0 hl;obtain⟨k,rfl⟩:=bl hk;rw[jn.l1];refine Ok.ite (λhs=>?_) λhs=>Ok.pure ⟨J,by simp only;omega,λe he=> .inl he⟩
  refine Ok.eq (Hu ..) ?_;have hsk:Ok (if cD g.m.W g.m.H cell s<0 then some true else(gG.f g.m.W g.m.H (cD g.m.W g.m.H cell s)).bind λv28=>(gG.f g.m.W g.m.H goal).bind λrN=>if(v28 !=rN)=true then some true else(jf.f g (cD g.m.W g.m.H cell s)).bind λv30=>some (v30==255)) (λb=>b=false->AE g (cD g.m.W g.m.H cell s)):=by
   refine Ok.ite (λ_=>Ok.pure bk) λq=>Ok.eq (sX ..) (Ok.eq (sX ..) (Ok.ite (λ_=>Ok.pure bk) λ_=>Ok.eq (uK h _) (Ok.pure λz=>⟨aio q,by simpa using z⟩)))
  refine hsk.bind λb hb=>Ok.ite (λ_=>?_) λq=>?_
  ·rw[wi U U];exact(ih k l (s+1) U U U U).mono λr hr=>⟨hr.1,by have:=hr.2.1;omega,hr.2.2⟩
  ·have ho:=hb (by simpa using q)
   refine Ok.eq (uK h _) ((Km _ _ _ (by simp only;omega)).bind λr hr=>?_)
   simp only at hr;rw[wi (x:=s+1) U U];refine(ih k r.l (s+1) U U U U).mono λr' ve=>⟨ve.1,by have:=ve.2.1;omega,λe he=>?_⟩
   rcases ve.2.2 e he with z |z
   ·rcases(hr.2 e).1 z with y |rfl
    ·exact .inl y
    ·refine .inr ⟨ho,?_⟩;have:fx g cell≠255:=hc.2;rw[wi U U];simp only;omega
   ·exact .inr z
def uj (g:bw) (m:List (Int×Int)):Nat:=eG (λc=>!bM m c) (g.m.W*g.m.H).toNat
theorem N5 (m:List (Int×Int)) (x y v:Int):bM (cE m x v) y=if x=y then true else bM m y:=by
 unfold bM;rw[AA];split<;>rfl
theorem aiL {m:List (Int×Int)} {c v:Int} (hc:cN g.m c) (hn:bM m c=false):uj g m=uj g (cE m c v)+1:=by
 unfold uj;refine LV (c:=c) hc.1 (by have:=hc.1;have:=hc.2;omega) (by simp[hn]) (by simp[N5]) (λi _ _ hi=>?_)
 rw[N5,ah (λz=>hi z.symm)]
theorem aiU (h:dE g more) (hN:g.m.W*g.m.H<=1600) (goal:Int): ∀(n k:Nat) (m:List (Int×Int)) (l:List dG) (key cell:Int) (ok:Bool),
 5*uj g m+l.length+(if ok then 1 else 0)<=n->n<k->l.length+5*uj g m<=9000->
 (∀c,bM m c=true->0<=aP m c/\aP m c<=500000)->
 (∀e∈l,AE g e.item/\0<=e.key/\e.key+254*(uj g m:Int)<=254*1600)->(ok=true->AE g cell/\0<=key/\key+254*(uj g m:Int)<=254*1600)->(ok=false->l=[])->
 Ok (jn.l0 k goal g (g.m.W,g.m.H) m l key cell ok) (λr=> ∀c,bM r c=true->0<=aP r c/\aP r c<=500000):=by
 intro n
 induction n with
 |zero=>
  intro k m l key cell ok hn hk hb hm hl hp hf;obtain⟨k,rfl⟩:=bl hk;have:ok=false:=by cases ok<;>simp_all
  subst this;rw[jn.l0];exact Ok.pure hm
 |succ n ih=>
  intro k m l key cell ok hn hk hb hm hl hp hf;obtain⟨k,rfl⟩:=bl hk;rw[jn.l0];refine Ok.ite (λq=>?_) λ_=>Ok.pure hm
  obtain⟨p1,p2,p3⟩:=hp q;subst q;simp only[if_true] at hn;have ad6:Ok (if bM m cell=true then some (m,l) else jn.l1 fuel goal g (g.m.W,g.m.H) m cell key l 0) (λr=>5*uj g r.1+r.2.length<=n/\r.2.length+5*uj g r.1<=9000/\(∀c,bM r.1 c=true->0<=aP r.1 c/\aP r.1 c<=500000)/\ ∀e∈r.2,AE g e.item/\0<=e.key/\e.key+254*(uj g r.1:Int)<=254*1600):=by
   refine Ok.ite (λ_=>Ok.pure ⟨by simp only;omega,hb,hm,hl⟩) λz=>?_
   have z:bM m cell=false:=by simpa using z
   have hu:=aiL (v:=key) p1.1 z;refine(aiV h goal cell key m p1 p2 U 4 fuel l 0 bk (by rw[cM];omega) U U).mono λr hr=>?_
   obtain⟨e1,e2,e3⟩:=hr;rw[e1];have:(4-(0:Int)).toNat=4:=rfl;refine⟨by omega,by omega,λc hc=>?_,λe he=>?_⟩
   ·rw[tY];rw[N5] at hc;split
    ·omega
    ·rename_i q;rw[ah q] at hc;exact hm c hc
   ·rcases e3 e he with y |y
    ·have:=hl e y;exact⟨this.1,this.2.1,by omega⟩
    ·exact⟨y.1,y.2.1,by omega⟩
  refine ad6.bind λr hr=>?_
  obtain⟨h1,h2,h3,h4⟩:=hr;refine(Ki ⟨r.2⟩ (by simp only;omega)).bind λv hv=>?_
  rcases hv with⟨e1,e2⟩ |⟨e1,e2,e3,e4,e5,e6⟩
  ·subst e2;simp only at e1;exact ih k r.1 [] 0 0 false bm U bm h3 bk bk bk
  ·simp only at e1 e3 e4 e5;have Ga:=h4 (rd r.2 0) (dS U (by have:=List.length_pos_iff.2 e1;omega))
   rw[<-e3] at Ga;refine ih k r.1 v.2.2.2.l v.1 v.2.1 v.2.2.1 (by rw[e2];simp;omega) U U h3 (λe he=>h4 e (e5 e he)) (λ_=>Ga) (by rw[e2];simp)
theorem ahq (h:dE g more) (hN:g.m.W*g.m.H<=1600) (f:j6) (M:dH) {goal:Int} (hg:cN g.m goal):Ok (jn.f f goal M g) (λr=> ∀c,bM r c=true->0<=aP r c/\aP r c<=500000):=by
 unfold jn.f;refine Ok.eq (CO g) (Ok.eq (uK h _) (Ok.ite (λ_=>Ok.pure (by simp[bM,cZ])) λq=>?_))
 have hu:uj g []<=1600:=by unfold uj;have:=Ft (λc=>!bM ([]:List (Int×Int)) c) (g.m.W*g.m.H).toNat;omega
 refine(Km ⟨[]⟩ 0 goal bk).bind λr hr=>(Ki r (by simp at hr;omega)).bind λv hv=>?_
 have ho:AE g goal:=⟨hg,by simpa using q⟩
 have tG: ∀e∈r.l,e=⟨0,goal⟩:=λe he=>by simpa using(hr.2 e).1 he
 have hlen:r.l.length=1:=by simpa using hr.1
 rcases hv with⟨e1,e2⟩ |⟨e1,e2,e3,e4,e5,e6⟩
 ·rw[e1] at hlen;simp at hlen
 ·have h0:=tG _ (dS (a:=r.l) (i:=0) U U);rw[h0] at e3;simp only[dG.mk.injEq] at e3;have Ai:v.2.2.2.l=[]:=List.length_eq_zero_iff.1 U;rw[Ai,e3.1,e3.2,e2];exact aiU h hN goal 9000 fuel [] [] 0 goal true bm (by rw[cM];omega) bm (by simp[bM,cZ]) bk (λ_=>⟨ho,by omega,by omega⟩) bk
end Go.Proofs.YthodkonhneebbaaGreatDoor
