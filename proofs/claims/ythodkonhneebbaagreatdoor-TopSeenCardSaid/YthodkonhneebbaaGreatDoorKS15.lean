/- What the functions do, in plain Lean, on the objects that are kept in order. -/
import Derived.Test.YthodkonhneebbaaGreatDoorKS14
import Derived.Test.YthodkonhneebbaaGreatDoorKS10
import Derived.Test.YthodkonhneebbaaGreatDoorKS11
import Derived.Test.YthodkonhneebbaaGreatDoorKS8
namespace Go.Proofs.YthodkonhneebbaaGreatDoor
open Go.Hx
set_option linter.unusedVariables false
set_option linter.unusedSimpArgs false
theorem iQ.mono {r:eO} {n n':Nat} (h:iQ r n) (hn:n<=n') (hb:n'<=1000000000):iQ r n':=⟨h.len_,h.at_,λb hb=>by have:=h.gone b hb;omega,h.BF,hb⟩
structure I0 (r:eO) (todo:List a_) (n:Nat) (r':eO) (Ly:List a_):Prop where
 ring: ∃n',iQ r' n'/\n'+Ly.length<=n+todo.length
 uU: ∀k i,Has r k i->Has r' k i
 new: ∀k i,Has r' k i->Has r k i∨ ∃x∈todo,x.Key=k/\x.Cell=i
 XB: ∃a,todo=a++Ly/\ ∀x∈a,Has r' x.Key x.Cell
 len_:r'.len+2*Ly.length<=r.len+2*todo.length
 at_:r'.ba=r.ba
 end_: ∀x l,Ly=x::l->x.Key<r'.ba∨r'.ba+256<=x.Key
theorem ab1 (s:dp): ∀(m k:Nat) (r:eO) (todo:List a_) (n:Nat),todo.length<=m->m<k->iQ r n->n+todo.length<=2000000->(∀x∈todo,0<=x.Key/\x.Key<=1073741824)->
 Ok (j5.l0 k s r todo) (λq=>q.t=s.t/\q.aQ=s.aQ/\I0 r todo n q.wait q.todo):=by
 have nil: ∀(k:Nat) (r:eO) (n:Nat),iQ r n->Ok (j5.l0 (k+1) s r []) (λq=>q.t=s.t/\q.aQ=s.aQ/\I0 r [] n q.wait q.todo):=by
  intro k r n h;rw[j5.l0,ah bd];exact Ok.pure ⟨J,J,⟨⟨n,h,by simp⟩,λ_ _ q=>q,λ_ _ q=> .inl q,⟨[],J,by simp⟩,Int.le_refl _,J,by simp⟩⟩
 intro m
 induction m with
 |zero=>
  intro k r todo n hm hk h hn hx;obtain⟨k,rfl⟩:=bl hk;have:todo=[]:=List.length_eq_zero_iff.1 U;subst this;exact nil k r n h
 |succ m ih=>
  intro k r todo n hm hk h hn hx;obtain⟨k,rfl⟩:=bl hk
  cases todo with
  |nil=>exact nil k r n h
  |cons x l=>
   simp only[List.length_cons] at hm hn;have uR:=hx x (List.mem_cons_self ..);have e0:rd (x::l) 0=x:=rfl;have e1:aA (x::l) 1 ((x::l).length:Int)=l:=by unfold aA;simp
   rw[j5.l0,af bd,af bd,e0,e1];refine(W1 h U U uR.1 x.Cell).bind' λv hv=>?_
   obtain⟨h1,h2,h3⟩:=hv;simp only;rcases h3 with⟨a,b,c,d,e⟩ |⟨a,b,c⟩
   ·rw[a];refine Ok.pos J (Ok.cx bm ((ih k v.2 l (n+1) U U h2 U (λy hy=>hx y (List.mem_cons_of_mem _ hy))).mono λq hq=>?_));obtain⟨q1,q2,q3⟩:=hq;obtain⟨n',f1,f2⟩:=q3.ring;obtain⟨A,g1,g2⟩:=q3.XB;refine⟨q1,q2,⟨⟨n',f1,by simp only[List.length_cons];omega⟩,λk i hh=>q3.uU k i ((e k i).2 (.inl hh)),λk i hh=>?_,⟨x::A,by rw[g1];rfl,λy hy=>?_⟩,?_,by rw[q3.at_,h1],q3.end_⟩⟩
    ·rcases q3.new k i hh with z |⟨y,hy,z⟩
     ·rcases(e k i).1 z with z |⟨rfl,rfl⟩
      ·exact .inl z
      ·exact .inr ⟨x,List.mem_cons_self ..,J,J⟩
     ·exact .inr ⟨y,List.mem_cons_of_mem _ hy,z⟩
    ·rcases List.mem_cons.1 hy with rfl |hy
     ·exact q3.uU _ _ ((e _ _).2 (.inr ⟨J,J⟩))
     ·exact g2 y hy
    ·have:=q3.len_;simp only[List.length_cons];omega
   ·rw[a];refine Ok.neg bd (Ok.pure ⟨J,J,?_⟩);simp only;rw[c];exact⟨⟨n,h,by simp⟩,λ_ _ q=>q,λ_ _ q=> .inl q,⟨[],J,by simp⟩,Int.le_refl _,J,λy l' hy=>by simp only[List.cons.injEq] at hy;rw[<-hy.1];exact b⟩
theorem ab0 (s:dp) {n:Nat} (h:iQ s.wait n) (hn:n+s.todo.length<=2000000) (hx: ∀x∈s.todo,0<=x.Key/\x.Key<=1073741824):
 Ok (j5.f s) (λq=>q.t=s.t/\q.aQ=s.aQ/\ ∃r,((r=s.wait/\(s.wait.len≠0∨s.todo=[]))∨(s.wait.len=0/\r.len=0/\ ∃x l,s.todo=x::l/\r.ba=if x.Key<s.wait.ba then s.wait.ba else x.Key))/\(∀k i,Has r k i↔Has s.wait k i)/\I0 r s.todo n q.wait q.todo):=by
 unfold j5.f;have key: ∀r,iQ r n->Ok (j5.l0 fuel s r s.todo) (λq=>q.t=s.t/\q.aQ=s.aQ/\I0 r s.todo n q.wait q.todo):=λr hr=>ab1 s s.todo.length fuel r s.todo n (Nat.le_refl _) (by rw[cI];omega) hr hn hx
 by_cases hl:s.todo=[]
 ·rw[ah (by simp[hl])]
  exact Ok.eq J ((key s.wait h).mono λq hq=>⟨hq.1,hq.2.1,s.wait,.inl ⟨J,.inr hl⟩,λ_ _=>Iff.rfl,hq.2.2⟩)
 ·obtain⟨x,l,e⟩:=List.exists_cons_of_ne_nil hl;have uR:=hx x (by rw[e];exact List.mem_cons_self ..)
  rw[af (by rw[e];simp)]
  unfold wy.f
  by_cases z:s.wait.len=0
  ·have e0:rd s.todo 0=x:=by rw[e];rfl
   rw[show((some s.wait.len).bind λv5=>some (v5==0))=some true by simp[z]]
   simp only[aI,if_true,e0];rw[af (by rw[e];simp)]
   refine((afF h uR.1 U z).bind λv hv=>Ok.pure (P:=λr=>iQ r n/\r.len=0/\r.ba=if x.Key<s.wait.ba then s.wait.ba else x.Key) hv).bind λr hr=>(key r hr.1).mono λq hq=>⟨hq.1,hq.2.1,r,.inr ⟨z,hr.2.1,x,l,e,hr.2.2⟩,λk i=>⟨λy=>absurd y (hr.1.none hr.2.1 k i),λy=>absurd y (h.none z k i)⟩,hq.2.2⟩
  ·simp only[aI];rw[ah (by simpa using z)]
   exact Ok.eq J ((key s.wait h).mono λq hq=>⟨hq.1,hq.2.1,s.wait,.inl ⟨J,.inl z⟩,λ_ _=>Iff.rfl,hq.2.2⟩)
def eY (t:aL) (c s:Int):Int:=
 if s=0 then(if c/t.W>0 then c-t.W else-1) else if s=1 then(if c%t.W<t.W-1 then c+1 else-1) else if s=2 then(if c/t.W<t.H-1 then c+t.W else-1) else if c%t.W>0 then c-1 else-1
theorem Lx {t:aL} (h:sH t) {c s:Int} (c0:0<=c) (c1:c<t.C.length):eY t c s= -1∨(0<=eY t c s/\eY t c s<t.C.length):=by
 obtain⟨a,b,d,e,f,_⟩:=h;rw[f] at c1⊢;have GD:=Int.mul_ediv_add_emod c t.W;have hm:=Int.emod_nonneg c (show t.W≠0 by omega)
 have xz:=Int.emod_lt_of_pos c (show 0<t.W by omega)
 have hq:0<=c/t.W:=Int.ediv_nonneg c0 U;have hq':c/t.W<t.H:=Int.ediv_lt_of_lt_mul U (by rw[Int.mul_comm];exact c1)
 unfold eY;split
 ·split
  ·have:t.W*1<=t.W*(c/t.W):=Int.mul_le_mul_of_nonneg_left U U;exact .inr U
  ·exact .inl J
 ·split
  ·split
   ·have:t.W*(c/t.W)<=t.W*(t.H-1):=Int.mul_le_mul_of_nonneg_left U U;rw[Int.mul_sub,Int.mul_one] at this;exact .inr U
   ·exact .inl J
  ·split
   ·split
    ·have:t.W*(c/t.W)<=t.W*(t.H-1-1):=Int.mul_le_mul_of_nonneg_left U U;rw[Int.mul_sub,Int.mul_sub,Int.mul_one] at this;exact .inr U
    ·exact .inl J
   ·split
    ·have:0<=t.W*(c/t.W):=Int.mul_nonneg U hq;exact .inr U
    ·exact .inl J
abbrev cN:Int:=1099511627776
structure Ar (s:dp) (n:Nat) (key c:Int) (j:Nat) (q:dp):Prop where
 t_:q.t=s.t
 td:q.todo=s.todo
 ds:q.aQ=s.aQ
 ring:iQ q.wait (n+j)
 at_:q.wait.ba=s.wait.ba
 len_:q.wait.len<=s.wait.len+j
 uU: ∀k i,Has s.wait k i->Has q.wait k i
 new: ∀k i,Has q.wait k i->Has s.wait k i∨(k=key/\ ∃d:Int,0<=d/\d<j/\i=eY s.t c d/\0<=i/\i<s.t.C.length/\rd s.t.C i≠255/\rd s.aQ i=cN)
 all:s.wait.ba<=key->key<s.wait.ba+256-> ∀d:Int,0<=d->d<j->0<=eY s.t c d->rd s.t.C (eY s.t c d)≠255->rd s.aQ (eY s.t c d)=cN->Has q.wait key (eY s.t c d)
section
variable {s q : dp} {n : Nat} {key c : Int} {j : Nat}
theorem Jk (h:Ar s n key c j q) (hn:n+j+1<=1000000000) (hj:eY s.t c j= -1):Ar s n key c (j+1) q:=by
 refine⟨h.t_,h.td,h.ds,h.ring.mono U U,h.at_,by have:=h.len_;omega,h.uU,λk i hh=>?_,λa b d d0 d1 d2 d3 d4=>?_⟩
 ·rcases h.new k i hh with z |⟨z,d,a,b,r⟩
  ·exact .inl z
  ·exact .inr ⟨z,d,a,by omega,r⟩
 ·by_cases z:d=j
  ·subst z;omega
  ·exact h.all a b d d0 U d2 d3 d4
theorem Jj (ht:lY s.t) (hd:s.aQ.length=s.t.C.length) (h:Ar s n key c j q) (hn:n+j+1<=1000000000) (k0:0<=key) (k1:key<=8796093022208) (c0:0<=c) (c1:c<s.t.C.length) {p:Int} (hj:eY s.t c j=p) (hp:p≠ -1):
 Ok (kP.f q p key) (Ar s n key c (j+1)):=by
 have cu:=Lx ht.1 (s:=j) c0 c1;rw[hj] at cu;have cu:0<=p/\p<s.t.C.length:=cu.resolve_left hp;unfold kP.f;rw[h.t_,h.ds,h.td];have e:(if(0<=p/\p<(List.length s.t.C:Int)) then(if((rd s.t.C p)!=255)=true then(if(0<=p/\p<(List.length s.aQ:Int)) then(some ((rd s.aQ p)==1099511627776)) else none) else(some false)) else none)=some (decide (rd s.t.C p≠255/\rd s.aQ p=cN)):=by
  rw[af cu,af (c:=0<=p/\p<(List.length s.aQ:Int)) U]
  by_cases z:rd s.t.C p=255
  ·simp[z]
  ·rw[af (by simpa using z)];congr 1;rw[Bool.eq_iff_iff];simp[z]
 refine Ok.eq e (Ok.ite (λz=>?_) λz=>Ok.pure ?_)
 ·have z:=of_decide_eq_true z;refine(W1 h.ring U k1 k0 p).bind λv hv=>Ok.pure ?_
  obtain⟨a1,a2,a3⟩:=hv;rcases a3 with⟨b1,b2,b3,b4,b5⟩ |⟨b1,b2,b3⟩
  ·refine⟨J,J,J,a2,by rw[a1,h.at_],by have:=h.len_;simp only;omega,λk i hh=>(b5 k i).2 (.inl (h.uU k i hh)),λk i hh=>?_,λa b d d0 d1 d2 d3 d4=>?_⟩
   ·rcases(b5 k i).1 hh with y |⟨rfl,rfl⟩
    ·rcases h.new k i y with y |⟨y,d,a,b,r⟩
     ·exact .inl y
     ·exact .inr ⟨y,d,a,by omega,r⟩
    ·exact .inr ⟨J,j,by omega,by omega,hj.symm,cu.1,cu.2,z⟩
   ·by_cases y:d=j
    ·subst y;rw[hj];exact(b5 _ _).2 (.inr ⟨rfl,rfl⟩)
    ·exact(b5 _ _).2 (.inl (h.all a b d d0 U d2 d3 d4))
  ·refine⟨J,J,J,a2,by rw[a1,h.at_],by have:=h.len_;simp only;rw[b3];omega,λk i hh=>by simp only;rw[b3];exact h.uU k i hh,λk i hh=>?_,λa b=>?_⟩
   ·simp only at hh;rw[b3] at hh;rcases h.new k i hh with y |⟨y,d,a,b,r⟩
    ·exact .inl y
    ·exact .inr ⟨y,d,a,by omega,r⟩
   ·have:=h.at_;omega
 ·have z: ¬(rd s.t.C p≠255/\rd s.aQ p=cN):=by simpa using z
  refine⟨h.t_,h.td,h.ds,h.ring.mono U U,h.at_,by have:=h.len_;omega,h.uU,λk i hh=>?_,λa b d d0 d1 d2 d3 d4=>?_⟩
  ·rcases h.new k i hh with y |⟨y,d,a,b,r⟩
   ·exact .inl y
   ·exact .inr ⟨y,d,a,by omega,r⟩
  ·by_cases y:d=j
   ·subst y;rw[hj] at d3 d4;exact absurd ⟨d3,d4⟩ z
   ·exact h.all a b d d0 U d2 d3 d4
end
theorem Ji {q s:dp} (e:q.t=s.t):dp.mk (aL.mk q.t.W q.t.H s.t.C) q.wait q.todo q.aQ=q:=by
 obtain⟨t,a,b,d⟩:=q;simp only at e;subst e;rfl
theorem Y8 (s:dp) (ht:lY s.t) (hd:s.aQ.length=s.t.C.length) {n:Nat} (h:iQ s.wait n) (hn:n+4<=1000000000) {c:Int} (c0:0<=c) (c1:c<s.t.C.length) (d0:0<=rd s.aQ c) (d1:rd s.aQ c<=2000000000):
 Ok (yb.f s c) (Ar s n (rd s.aQ c+rd s.t.C c) c 4):=by
 have hC:=ht.2 c c0 c1;have hl:=oS ht.1;obtain⟨a1,a2,a3,a4,a5,_⟩:=ht.1;have hq:0<=c/s.t.W/\c/s.t.W<=c:=⟨Int.ediv_nonneg c0 U,Int.ediv_le_self _ c0⟩;unfold yb.f;rw[wi (x:=rd s.t.C c) U U,wi (x:=rd s.aQ c+rd s.t.C c) U U,ru c0,nk c0,wi (x:=c/s.t.W) U U,wi (x:=c-s.t.W) U U,wi (x:=c+1) U U,wi (x:=c-1) U U];generalize hk:rd s.aQ c+rd s.t.C c=key;have k0:0<=key:=U;have k1:key<=8796093022208:=U;have A0:Ar s n key c 0 s:=⟨J,J,J,h,J,by omega,λ_ _ z=>z,λ_ _ z=> .inl z,λ_ _ d d0 d1=>by omega⟩
 refine Ok.cx U (Ok.cx U (Ok.cx U (Ok.cx U ?_)));have n0:eY s.t c (0:Nat)=if c/s.t.W>0 then c-s.t.W else-1:=rfl
 have n1:eY s.t c (1:Nat)=if c%s.t.W<s.t.W-1 then c+1 else-1:=rfl
 have n2:eY s.t c (2:Nat)=if c/s.t.W<s.t.H-1 then c+s.t.W else-1:=rfl
 have n3:eY s.t c (3:Nat)=if c%s.t.W>0 then c-1 else-1:=rfl
 have GD:=Int.mul_ediv_add_emod c s.t.W;have s0:Ok (if c/s.t.W>0 then(kP.f s (c-s.t.W) key).bind λv7=>some (v7.t.W,v7.t.H,v7.wait,v7.todo,v7.aQ) else some (s.t.W,s.t.H,s.wait,s.todo,s.aQ)) (λp=>Ar s n key c 1 ⟨⟨p.1,p.2.1,s.t.C⟩,p.2.2.1,p.2.2.2.1,p.2.2.2.2⟩):=by
  refine Ok.ite (λz=>?_) λz=>Ok.pure (Jk (j:=0) A0 U (by rw[n0,ah z]))
  have cu:=Lx ht.1 (s:=(0:Nat)) c0 c1;rw[n0,af z] at cu;refine(Jj (j:=0) ht hd A0 U k0 k1 c0 c1 (by rw[n0,af z]) (λy=>?_)).bind λv hv=>Ok.pure ?_
  ·have:s.t.W*1<=s.t.W*(c/s.t.W):=Int.mul_le_mul_of_nonneg_left U U;have:=Int.emod_nonneg c (show s.t.W≠0 by omega)
   omega
  ·simp only;rw[Ji hv.t_];exact hv
 refine s0.bind λp hp=>?_
 obtain⟨x1,x2,x3,x4,x5⟩:=p;simp only at hp⊢;have et:=hp.t_;simp only at et;have e1:x1=s.t.W:=by rw[<-et]
 have e2:x2=s.t.H:=by rw[<-et]
 subst e1;subst e2;rw[wi (x:=s.t.W-1) U U];have s1:Ok (if c%s.t.W<s.t.W-1 then(kP.f (dp.mk (aL.mk s.t.W s.t.H s.t.C) x3 x4 x5) (c+1) key).bind λek=>some (ek.t.W,ek.t.H,ek.wait,ek.todo,ek.aQ) else some (s.t.W,s.t.H,x3,x4,x5)) (λp=>Ar s n key c 2 ⟨⟨p.1,p.2.1,s.t.C⟩,p.2.2.1,p.2.2.2.1,p.2.2.2.2⟩):=by
  refine Ok.ite (λz=>?_) λz=>Ok.pure (Jk (j:=1) hp U (by rw[n1,ah z]))
  refine(Jj (j:=1) ht hd hp U k0 k1 c0 c1 (by rw[n1,af z]) U).bind λv hv=>Ok.pure ?_
  simp only;rw[Ji hv.t_];exact hv
 refine s1.bind λp hp=>?_
 obtain⟨x1,x2,x3,x4,x5⟩:=p;simp only at hp⊢;have et:=hp.t_;simp only at et;have e1:x1=s.t.W:=by rw[<-et]
 have e2:x2=s.t.H:=by rw[<-et]
 subst e1;subst e2;rw[wi (x:=s.t.H-1) U U];have s3: ∀v:dp,Ar s n key c 3 v->Ok (if c%s.t.W>0 then(kP.f v (c-1) key).bind λeG=>some (dp.mk (aL.mk eG.t.W eG.t.H s.t.C) eG.wait eG.todo eG.aQ) else some v) (Ar s n key c 4):=λv hv=>by
  refine Ok.ite (λz=>?_) λz=>Ok.pure (Jk (j:=3) hv U (by rw[n3,ah z]))
  refine(Jj (j:=3) ht hd hv U k0 k1 c0 c1 (by rw[n3,af z]) (λy=>?_)).bind λv hv=>Ok.pure ?_
  ·have:c=0:=U;subst this;simp at z
  ·rw[Ji hv.t_];exact hv
 refine Ok.ite (λz=>?_) λz=>?_
 ·rw[wi (x:=c+s.t.W) U U];refine(Jj (j:=2) ht hd hp U k0 k1 c0 c1 (by rw[n2,af z]) U).bind λv hv=>?_
  rw[Ji hv.t_];exact s3 v hv
 ·exact s3 _ (Jk (j:=2) hp U (by rw[n2,ah z]))
def FG (t:aL) (l:List a_) (D:List Int) (i k:Int):Prop:=
 (∃x∈l,x.Cell=i/\x.Key=k)∨ ∃c d:Int,0<=c/\c<t.C.length/\0<=d/\d<=3/\rd D c≠cN/\eY t c d=i/\rd D c+rd t.C c=k
def vh (t:aL) (D:List Int):Nat:=eV (λc=>rd D c==cN) t.C.length
structure BV (t:aL) (l:List a_) (K:Int) (r:eO) (todo:List a_) (D:List Int) (n:Nat):Prop where
 ring:iQ r n
 room:n+todo.length+4*vh t D<=2000000
 dl:D.length=t.C.length
 dv: ∀c:Int,0<=c->c<t.C.length->rd D c≠cN->0<=rd D c/\rd D c<=r.ba/\rd D c+254*(vh t D:Int)<=K/\rd t.C c≠255/\FG t l D c (rd D c)
 hs: ∀k i,Has r k i->0<=i/\i<t.C.length/\rd t.C i≠255/\k+254*(vh t D:Int)<=K/\FG t l D i k
 nb: ∀c d:Int,0<=c->c<t.C.length->rd D c≠cN->0<=d->d<=3->0<=eY t c d->rd t.C (eY t c d)≠255->(rd D (eY t c d)≠cN/\rd D (eY t c d)<=rd D c+rd t.C c)∨Has r (rd D c+rd t.C c) (eY t c d)
 sd: ∀x∈l,x∈todo∨Has r x.Key x.Cell∨(rd D x.Cell≠cN/\rd D x.Cell<=x.Key)
 td: ∀x∈todo,x∈l/\r.ba<=x.Key
 so:todo.Pairwise (λa b=>a.Key<=b.Key)
def Full (r:eO) (todo:List a_):Prop:=todo=[]∨(r.len≠0/\ ∀x∈todo,r.ba+256<=x.Key)
section
variable {t : aL} {l : List a_} {K : Int}
theorem PC (hl: ∀x∈l,qG t x/\x.Key+254*256<=K) (ht:lY t) (s:dp) (hs:s.t=t) {n:Nat} (h:BV t l K s.wait s.todo s.aQ n):
 Ok (j5.f s) (λq=>q.t=t/\q.aQ=s.aQ/\q.wait.len+2*q.todo.length<=s.wait.len+2*s.todo.length/\Full q.wait q.todo/\ ∃n',BV t l K q.wait q.todo s.aQ n'):=by
 have hk: ∀x∈s.todo,0<=x.Key/\x.Key<=1073741824:=λx hx=>by have:=(hl x (h.td x hx).1).1;exact⟨this.2.2.2.1,this.2.2.2.2.1⟩
 have hu:vh t s.aQ<=256:=by unfold vh;have:=F6 (λc=>rd s.aQ c==cN) t.C.length;have:=oS ht.1;omega
 refine(ab0 s h.ring (by have:=h.room;omega) hk).mono λq hq=>?_
 obtain⟨q1,q2,r,q3,q4,q5⟩:=hq;obtain⟨n',f1,f2⟩:=q5.ring;obtain⟨A,g1,g2⟩:=q5.XB;have tg:s.wait.ba<=r.ba/\(∀x∈s.todo,r.ba<=x.Key)/\r.len=s.wait.len:=by
  rcases q3 with⟨rfl,_⟩ |⟨z0,z,x,m,e,e2⟩
  ·exact⟨Int.le_refl _,λx hx=>(h.td x hx).2,J⟩
  ·have hx:=(h.td x (by rw[e];exact List.mem_cons_self ..)).2
   rw[ah U] at e2;refine⟨by omega,λy hy=>?_,by omega⟩
   have so:=h.so;rw[e] at hy so;rcases List.mem_cons.1 hy with rfl |hy
   ·omega
   ·have:=(List.pairwise_cons.1 so).1 y hy;omega
 have aeZ:Full q.wait q.todo:=by
  cases Kt:q.todo with
  |nil=>exact .inl J
  |cons y m=>
   have hy:=q5.end_ y m Kt;have Ow:y∈s.todo:=by rw[g1,Kt];simp
   have:=tg.2.1 y Ow;have ha:=q5.at_;refine .inr ⟨λz0=>?_,λx hx=>?_⟩
   ·have gO:=f1.none z0;rcases q3 with⟨rfl,z |z⟩ |⟨_,z,x,m',e,e2⟩
    ·obtain⟨k,i,hh⟩:=h.ring.some z;exact gO k i (q5.uU k i hh)
    ·rw[z] at Ow;simp at Ow
    ·rw[ah (by have:=(h.td x (by rw[e];exact List.mem_cons_self ..)).2;omega)] at e2
     cases A with
     |nil=>
      rw[List.nil_append,Kt] at g1;rw[e] at g1;simp only[List.cons.injEq] at g1;rw[<-g1.1] at hy;omega
     |cons a A=>exact gO _ _ (g2 a (List.mem_cons_self ..))
   ·have so:=h.so;rw[g1,Kt] at so;have so:=(List.pairwise_append.1 so).2.1;rcases List.mem_cons.1 hx with rfl |hx
    ·omega
    ·have:=(List.pairwise_cons.1 so).1 x hx;omega
 refine⟨q1.trans hs,q2,by have:=q5.len_;omega,aeZ,n',⟨f1,by have:=h.room;omega,h.dl,λc c0 c1 hc=>?_,λk i hh=>?_,λc d c0 c1 hc d0 d3 p0 p1=>?_,λx hx=>?_,λx hx=>?_,?_⟩⟩
 ·obtain⟨a,b,c,d⟩:=h.dv c c0 c1 hc;exact⟨a,by rw[q5.at_];omega,c,d⟩
 ·rcases q5.new k i hh with z |⟨x,hx,rfl,rfl⟩
  ·exact h.hs k i ((q4 k i).1 z)
  ·have qg:=(h.td x hx).1;obtain⟨⟨a,b,c,d⟩,e⟩:=hl x qg;exact⟨a,b,c,by omega,.inl ⟨x,qg,J,J⟩⟩
 ·rcases h.nb c d c0 c1 hc d0 d3 p0 p1 with z |z
  ·exact .inl z
  ·exact .inr (q5.uU _ _ ((q4 _ _).2 z))
 ·rcases h.sd x hx with z |z |z
  ·rw[g1] at z;rcases List.mem_append.1 z with z |z
   ·exact .inr (.inl (g2 x z))
   ·exact .inl z
  ·exact .inr (.inl (q5.uU _ _ ((q4 _ _).2 z)))
  ·exact .inr (.inr z)
 ·have qg:x∈s.todo:=by rw[g1];exact List.mem_append_right _ hx
  exact⟨(h.td x qg).1,by rw[q5.at_];exact tg.2.1 x qg⟩
 ·have so:=h.so;rw[g1] at so;exact(List.pairwise_append.1 so).2.1
theorem Pm {D D':List Int} (h: ∀c:Int,0<=c->c<t.C.length->rd D c≠cN->rd D' c=rd D c) {i k:Int} (hp:FG t l D i k):FG t l D' i k:=by
 rcases hp with z |⟨c,d,c0,c1,d0,d3,e,f,g⟩
 ·exact .inl z
 ·have:=h c c0 c1 e;exact .inr ⟨c,d,c0,c1,d0,d3,by rw[this];exact e,f,by rw[this];exact g⟩
structure qH (t:aL) (l:List a_) (K:Int) (D:List Int):Prop where
 dl:D.length=t.C.length
 dv: ∀c:Int,0<=c->c<t.C.length->rd D c≠cN->0<=rd D c/\rd D c<=K/\rd t.C c≠255/\FG t l D c (rd D c)
 nb: ∀c d:Int,0<=c->c<t.C.length->rd D c≠cN->0<=d->d<=3->0<=eY t c d->rd t.C (eY t c d)≠255->rd D (eY t c d)≠cN/\rd D (eY t c d)<=rd D c+rd t.C c
 sd: ∀x∈l,rd D x.Cell≠cN/\rd D x.Cell<=x.Key
theorem ais (hl: ∀x∈l,qG t x/\x.Key+254*256<=K) (hK:K<=1100000000) (ht:lY t) (s:dp) (hs:s.t=t): ∀(m k:Nat) (r:eO) (todo:List a_) (D:List Int) (n:Nat),(5*vh t D+2*todo.length+r.len).toNat<=m->m<k->BV t l K r todo D n->Full r todo->
 Ok (oc.l0 k s t.W t.H r todo D) (λq=>qH t l K q.aQ):=by
 have oH:=oS ht.1;have hI:cN=1099511627776:=rfl;have fin: ∀(k:Nat) (r:eO) (todo:List a_) (D:List Int) (n:Nat),BV t l K r todo D n->Full r todo->r.len=0->Ok (oc.l0 (k+1) s t.W t.H r todo D) (λq=>qH t l K q.aQ):=by
  intro k r todo D n h hf h0;rw[oc.l0];refine Ok.eq (v:=r.len) J (Ok.neg U (Ok.pure ?_));have gO:=h.ring.none h0;have Kw:todo=[]:=hf.resolve_right λz=>z.1 h0
  refine⟨h.dl,λc c0 c1 hc=>?_,λc d c0 c1 hc d0 d3 p0 p1=>?_,λx hx=>?_⟩
  ·obtain⟨a1,a2,a3,a4⟩:=h.dv c c0 c1 hc;exact⟨a1,by show rd D c<=K;omega,a4⟩
  ·exact(h.nb c d c0 c1 hc d0 d3 p0 p1).resolve_right (gO _ _)
  ·rcases h.sd x hx with z |z |z
   ·rw[Kw] at z;simp at z
   ·exact absurd z (gO _ _)
   ·exact z
 intro m
 induction m with
 |zero=>
  intro k r todo D n hm hk h hf;obtain⟨k,rfl⟩:=bl hk;have:=h.ring.CP;exact fin k r todo D n h hf U
 |succ m ih=>
  intro k r todo D n hm hk h hf;obtain⟨k,rfl⟩:=bl hk;have hlen:=h.ring.CP
  by_cases h0:r.len=0
  ·exact fin k r todo D n h hf h0
  obtain⟨x,y,G3⟩:=h.ring.some h0;rw[oc.l0];refine Ok.eq (v:=r.len) J (Ok.pos U ((ail h.ring (by have:=(h.hs x y G3).2.2.2.1;omega) G3).bind λv hv=>?_))
  obtain⟨v1,v2,v3,v4,v5,v6,v7,v8⟩:=hv;obtain⟨i0,i1,i2,i3,i4⟩:=h.hs _ _ v5;have tg:=v5.1;have akp:=v5.2.1;have Kw: ∀x∈todo,v.1<=x.Key:=λx hx=>by
   rcases hf with z |⟨_,z⟩
   ·rw[z] at hx;simp at hx
   ·have:=z x hx;omega
  refine Ok.cx (by rw[h.dl];exact⟨i0,i1⟩) (Ok.ite (λq=>?_) λq=>?_)
  ·have q:rd D v.2.1=cN:=by simpa using q
   have hi:=ht.2 _ i0 i1;have dS: ∀c:Int,0<=c->rd (List.set D v.2.1.toNat v.1) c=if c=v.2.1 then v.1 else rd D c:=λc c0=>lB i0 (by rw[h.dl];exact i1) c0
   have zi:0<=v.1:=by have:=h.ring.at_;omega
   have hu:vh t D=vh t (List.set D v.2.1.toNat v.1)+1:=by
    unfold vh;refine MJ (c:=v.2.1) i0 i1 (by simp[q]) ?_ λi a b hi=>?_
    ·rw[dS _ i0,af J];simp;omega
    ·rw[dS _ a,ah hi]
   have hold: ∀c:Int,0<=c->c<t.C.length->rd D c≠cN->rd (List.set D v.2.1.toNat v.1) c=rd D c:=λc c0 c1 hc=>by
    rw[dS c c0,ah (λz=>hc (by rw[z];exact q))]
   have e:(dp.mk (aL.mk t.W t.H s.t.C) v.2.2.2 todo (List.set D (Int.toNat v.2.1) v.1))=dp.mk t v.2.2.2 todo (List.set D (Int.toNat v.2.1) v.1):=by rw[hs]
   rw[e];have hr:=h.room;refine(Y8 (dp.mk t v.2.2.2 todo (List.set D (Int.toNat v.2.1) v.1)) ht (by simp[h.dl]) v2 U i0 i1 (by simp only;rw[dS _ i0,af J];exact zi) (by simp only;rw[dS _ i0,af J];omega)).bind λa ha=>?_
   have vM:rd (List.set D v.2.1.toNat v.1) v.2.1=v.1:=by rw[dS _ i0,af J]
   have Mf:=ha.td;have L9:=ha.ds;have Me:=ha.t_;have YM:=ha.len_;have L7:=ha.at_;simp only at Mf L9 Me YM L7;have aC:a.t.C=s.t.C:=by rw[Me,hs]
   have ea:dp.mk (aL.mk a.t.W a.t.H s.t.C) a.wait a.todo a.aQ=a:=by rw[<-aC]
   rw[ea];have nI:BV t l K a.wait a.todo a.aQ (n+4):=by
    rw[Mf,L9];refine⟨ha.ring,by omega,by simp[h.dl],λc c0 c1 hc=>?_,λk i hh=>?_,λc d c0 c1 hc d0 d3 p0 p1=>?_,λx hx=>?_,λx hx=>⟨(h.td x hx).1,by rw[L7,v3];exact Kw x hx⟩,h.so⟩
    ·rw[L7,v3]
     by_cases z:c=v.2.1
     ·subst z;rw[vM];exact⟨zi,Int.le_refl _,by omega,i2,Pm hold i4⟩
     ·rw[dS c c0,ah z] at hc⊢;obtain⟨b1,b2,b3,b4,b5⟩:=h.dv c c0 c1 hc;exact⟨b1,by omega,by omega,b4,Pm hold b5⟩
    ·rcases ha.new k i hh with z |⟨rfl,d,d0,d4,rfl,w0,w1,w2,w3⟩
     ·obtain⟨b1,b2,b3,b4,b5⟩:=h.hs k i (v7 k i z);exact⟨b1,b2,b3,by omega,Pm hold b5⟩
     ·simp only at w0 w1 w2 vM⊢;rw[vM];exact⟨w0,w1,w2,by omega,.inr ⟨v.2.1,d,i0,i1,d0,by omega,by rw[vM];omega,J,by rw[vM]⟩⟩
    ·have hn:0<=eY t c d/\eY t c d<t.C.length:=(Lx ht.1 c0 c1).resolve_left U
     by_cases z:c=v.2.1
     ·subst z;rw[vM]
      by_cases w:rd (List.set D v.2.1.toNat v.1) (eY t v.2.1 d)=cN
      ·refine .inr ?_;have:=ha.all (by simp only;rw[vM,v3];omega) (by simp only;rw[vM,v3];omega) d d0 U p0 p1 w
       simp only at this;rw[vM] at this;exact this
      ·refine .inl ⟨w,?_⟩;rw[dS _ hn.1] at w⊢;split
       ·omega
       ·rename_i y;rw[ah y] at w;have:=(h.dv _ hn.1 hn.2 w).2.1;omega
     ·rw[dS c c0,ah z] at hc⊢;rcases h.nb c d c0 c1 hc d0 d3 p0 p1 with⟨w1,w2⟩ |w
      ·exact .inl (by rw[hold _ hn.1 hn.2 w1];exact⟨w1,w2⟩)
      ·rcases v8 _ _ w with⟨y1,y2⟩ |y
       ·refine .inl ?_;rw[y2,vM];exact⟨by omega,by omega⟩
       ·exact .inr (ha.uU _ _ y)
    ·have UX:=(hl x hx).1;rcases h.sd x hx with z |z |⟨z1,z2⟩
     ·exact .inl z
     ·rcases v8 _ _ z with⟨y1,y2⟩ |y
      ·exact .inr (.inr (by rw[y2,vM];exact⟨by omega,by omega⟩))
      ·exact .inr (.inl (ha.uU _ _ y))
     ·exact .inr (.inr (by rw[hold _ UX.1 UX.2.1 z1];exact⟨z1,z2⟩))
   refine(PC hl ht a Me nI).bind λw hw=>?_
   obtain⟨w1,w2,w3,w4,n',w5⟩:=hw;rw[w1,w2];refine ih k w.wait w.todo a.aQ n' ?_ U w5 w4;rw[L9] at*;rw[Mf] at w3;omega
  ·have q:rd D v.2.1≠cN:=by simpa using q
   have hd:=(h.dv _ i0 i1 q).2.1;have nI:BV t l K v.2.2.2 todo D n:=by
    refine⟨v2,h.room,h.dl,λc c0 c1 hc=>?_,λk i hh=>h.hs k i (v7 k i hh),λc d c0 c1 hc d0 d3 p0 p1=>?_,λx hx=>?_,λx hx=>⟨(h.td x hx).1,by rw[v3];exact Kw x hx⟩,h.so⟩
    ·obtain⟨b1,b2,b3⟩:=h.dv c c0 c1 hc;exact⟨b1,by omega,b3⟩
    ·rcases h.nb c d c0 c1 hc d0 d3 p0 p1 with w |w
     ·exact .inl w
     ·rcases v8 _ _ w with⟨y1,y2⟩ |y
      ·exact .inl (by rw[y2];exact⟨q,by omega⟩)
      ·exact .inr y
    ·rcases h.sd x hx with z |z |z
     ·exact .inl z
     ·rcases v8 _ _ z with⟨y1,y2⟩ |y
      ·exact .inr (.inr (by rw[y2];exact⟨q,by omega⟩))
      ·exact .inr (.inl y)
     ·exact .inr (.inr z)
   have e:(dp.mk (aL.mk t.W t.H s.t.C) v.2.2.2 todo D)=dp.mk t v.2.2.2 todo D:=by rw[hs]
   rw[e];refine(PC hl ht (dp.mk t v.2.2.2 todo D) J nI).bind λw hw=>?_
   obtain⟨w1,w2,w3,w4,n',w5⟩:=hw;rw[w1,w2];exact ih k w.wait w.todo D n' (by simp only at w3;omega) U w5 w4
theorem Xw (ht:lY t) (hb:l.length<=1000000) (hK:K<=1100000000) (hl: ∀x∈l,qG t x/\x.Key+254*256<=K):Ok (ug.f t l) (λr=>r.2=0/\qH t l K r.1):=by
 have oH:=oS ht.1;unfold ug.f;refine(Xq ht l hb).bind λb gf=>?_
 have:b=true:=gf.2 λx hx=>(hl x hx).1;subst this;refine Ok.neg bd ?_;obtain⟨r,e1,e2,e3,e4⟩:=aie;refine Ok.bind (P:=λp=> ∃S:List a_,p=(t.W,t.H,t.C,r,S,List.replicate t.C.length cN)/\S.length<=l.length/\(∀e,e∈S↔e∈l)/\S.Pairwise (λa b=> ¬tQ b a)) (Ok.eq e1 ((PV l hb).bind λS hS=>Ok.eq (WZ U U) (Ok.pure ⟨S,J,hS⟩))) λp hp=>?_
 obtain⟨S,rfl,s1,s2,s3⟩:=hp;simp only;have AU: ∀x∈S,qG t x/\x.Key+254*256<=K:=λx hx=>hl x ((s2 x).1 hx);have GV: ∀c:Int,0<=c->c<t.C.length->rd (List.replicate t.C.length cN) c=cN:=λc c0 c1=>wq c0 U
 have hu:vh t (List.replicate t.C.length cN)<=256:=by unfold vh;have:=F6 (λc=>rd (List.replicate t.C.length cN) c==cN) t.C.length;omega
 have nI:BV t S K r S (List.replicate t.C.length cN) 0:=by
  refine⟨e3,by omega,by simp,λc c0 c1 hc=>absurd (GV c c0 c1) hc,λk i hh=>absurd hh (e4 k i),λc d c0 c1 hc=>absurd (GV c c0 c1) hc,λx hx=> .inl hx,λx hx=>⟨hx,by rw[e2];exact(AU x hx).1.2.2.2.1⟩,s3.imp λ{a b} h=>?_⟩
  unfold tQ at h;omega
 unfold oc.f;refine Ok.bind (P:=λq=>qH t l K q.aQ) ?_ λq hq=>Ok.pure ⟨J,hq⟩
 refine(PC AU ht ⟨t,r,S,List.replicate t.C.length cN⟩ J nI).bind λw hw=>?_
 obtain⟨w1,w2,w3,w4,n',w5⟩:=hw;rw[w1,w2];have hlen:=e3.CP;have GS:r.len=0:=Classical.byContradiction λz=>by obtain⟨k,i,hh⟩:=e3.some z;exact e4 k i hh
 refine(ais AU hK ht ⟨⟨t.W,t.H,t.C⟩,r,S,List.replicate t.C.length cN⟩ J 3000000 fuel w.wait w.todo _ n' (by show(5*vh t (List.replicate t.C.length cN)+2*w.todo.length+w.wait.len).toNat<=3000000;have w3:w.wait.len+2*w.todo.length<=r.len+2*S.length:=w3;omega) (by rw[cI];omega) w5 w4).mono λq hq=>⟨hq.dl,λc c0 c1 hc=>?_,hq.nb,λx hx=>hq.sd x ((s2 x).2 hx)⟩
 obtain⟨b1,b2,b3,b4⟩:=hq.dv c c0 c1 hc;refine⟨b1,b2,b3,?_⟩;rcases b4 with⟨x,hx,z⟩ |z
 ·exact .inl ⟨x,(s2 x).1 hx,z⟩
 ·exact .inr z
theorem PW (ht:lY t) {K':Int} {D D':List Int} (h:qH t l K D) (h':qH t l K' D'): ∀(n:Nat) (c:Int),0<=c->c<t.C.length->rd D c≠cN->rd D c<=n->rd D' c≠cN/\rd D' c<=rd D c:=by
 intro n
 induction n with
 |zero=>
  intro c c0 c1 hc hn;obtain⟨a1,a2,a3,a4⟩:=h.dv c c0 c1 hc;rcases a4 with⟨x,hx,e1,e2⟩ |⟨q,d,q0,q1,d0,d3,e1,e2,e3⟩
  ·have:=h'.sd x hx;rw[e1] at this;exact⟨this.1,by omega⟩
  ·have:=(h.dv q q0 q1 e1).1;have:=ht.2 q q0 q1;omega
 |succ n ih=>
  intro c c0 c1 hc hn;obtain⟨a1,a2,a3,a4⟩:=h.dv c c0 c1 hc;rcases a4 with⟨x,hx,e1,e2⟩ |⟨q,d,q0,q1,d0,d3,e1,e2,e3⟩
  ·have:=h'.sd x hx;rw[e1] at this;exact⟨this.1,by omega⟩
  ·have hC:=ht.2 q q0 q1;obtain⟨b1,b2⟩:=ih q q0 q1 e1 U;have:=h'.nb q d q0 q1 b1 d0 d3 U (by rw[e2];exact a3)
   rw[e2] at this;exact⟨this.1,by omega⟩
theorem Xv (ht:lY t) {K':Int} {D D':List Int} (h:qH t l K D) (h':qH t l K' D') {c:Int} (c0:0<=c) (c1:c<t.C.length):rd D c=rd D' c:=by
 by_cases z:rd D c=cN
 ·by_cases z':rd D' c=cN
  ·rw[z,z']
  ·exact absurd z (PW ht h' h (rd D' c).toNat c c0 c1 z' (by have:=(h'.dv c c0 c1 z').1;omega)).1
 ·have q:=PW ht h h' (rd D c).toNat c c0 c1 z (by have:=(h.dv c c0 c1 z).1;omega)
  have:=PW ht h' h (rd D' c).toNat c c0 c1 q.1 (by have:=(h'.dv c c0 c1 q.1).1;omega)
  omega
theorem ajf (ht:lY t) {D:List Int} (h:qH t l K D) {c:Int} (c0:0<=c) (c1:c<t.C.length) (hc:rd D c=0): ∃x∈l,x.Cell=c/\x.Key=0:=by
 have hI:cN=1099511627776:=rfl;obtain⟨a1,a2,a3,a4⟩:=h.dv c c0 c1 U;rcases a4 with⟨x,hx,e1,e2⟩ |⟨q,d,q0,q1,d0,d3,e1,e2,e3⟩
 ·exact⟨x,hx,e1,by omega⟩
 ·have:=(h.dv q q0 q1 e1).1;have:=ht.2 q q0 q1;omega
end
section
variable {t : aL} {l : List a_} {K : Int} {D : List Int}
def vw (l:List a_) (c s:Int):Int:=(kN.f l c s).getD 0
theorem Rc (hb:l.length<=1000000) (c s:Int):kN.f l c s=some (vw l c s):=by
 obtain⟨r,e⟩:=aat l c s hb;unfold vw;rw[e];rfl
theorem agW (ht:lY t) {c s:Int} (c0:0<=c) (c1:c<t.C.length) (s0:0<=s) (s3:s<=3):DA.f ⟨t,l,D⟩ c s=some (eY t c s):=by
 have hl:=oS ht.1;obtain⟨a1,a2,a3,a4,a5,_⟩:=ht.1;have hq:0<=c/t.W/\c/t.W<=c:=⟨Int.ediv_nonneg c0 U,Int.ediv_le_self _ c0⟩;unfold DA.f eY;simp only;rw[af (show ¬t.W=0 by omega),af (show ¬t.W=0 by omega),ru c0,nk c0,wi (x:=c/t.W) U U,wi (x:=t.W-1) U U,wi (x:=t.H-1) U U,wi (x:=c-t.W) U U,wi (x:=c+1) U U,wi (x:=c+t.W) U U,wi (x:=c-1) U U]
 have hs:s=0∨s=1∨s=2∨s=3:=U;rcases hs with rfl |rfl |rfl |rfl
 ·by_cases z:0<c/t.W<;>simp[z]
 ·by_cases z:c%t.W<t.W-1<;>simp[z]
 ·by_cases z:c/t.W<t.H-1<;>simp[z]
 ·by_cases z:0<c%t.W<;>simp[z]
def Aq (t:aL) (l:List a_) (D:List Int) (c s:Int):Bool:=
 if eY t c s<0 then vw l c s==rd D c else decide (rd t.C (eY t c s)≠255/\rd t.C (eY t c s)+rd D (eY t c s)=rd D c)
theorem ajg (hK:K<=1100000000) (h:qH t l K D) {c:Int} (c0:0<=c) (c1:c<t.C.length):0<=rd D c/\rd D c<=1099511627776:=by
 have hI:cN=1099511627776:=rfl
 by_cases z:rd D c=cN
 ·omega
 ·have:=h.dv c c0 c1 z;omega
theorem Lk (ht:lY t) (hb:l.length<=1000000) (hK:K<=1100000000) (h:qH t l K D) {c s:Int} (c0:0<=c) (c1:c<t.C.length) (s0:0<=s) (s3:s<=3):kO.f ⟨t,l,D⟩ c s=some (Aq t l D c s):=by
 have Cs:=h.dl;unfold kO.f Aq;rw[agW ht c0 c1 s0 s3];simp only[aI]
 by_cases z:eY t c s<0
 ·rw[af z,af z,Rc hb];simp only[aI];rw[af U]
 ·have hn:=(Lx ht.1 (s:=s) c0 c1).resolve_left U;have hC:=ht.2 _ hn.1 hn.2;have hD:=ajg hK h hn.1 hn.2;rw[ah z,ah z,af hn]
  by_cases y:rd t.C (eY t c s)=255
  ·rw[ah (by simp[y])];simp[y]
  ·rw[af (by simpa using y),af U,af U,wi (x:=rd t.C (eY t c s)) U U,wi U U]
   simp only[aI,Option.some.injEq];rw[Bool.eq_iff_iff];simp[y]
def Ii (t:aL) (l:List a_) (D:List Int) (c:Int):Int:=
 if Aq t l D c 0=true then 0 else if Aq t l D c 1=true then 1 else if Aq t l D c 2=true then 2 else if Aq t l D c 3=true then 3 else 5
def yO (t:aL) (l:List a_) (D:List Int) (c:Int):Int:=if rd D c=cN then 5 else if rd D c=vw l c 4 then 4 else Ii t l D c
theorem RR (c:Int):0<=yO t l D c/\yO t l D c<=5:=by
 unfold yO Ii
 repeat' split
 all_goals omega
theorem aiI (ht:lY t) (hb:l.length<=1000000) (hK:K<=1100000000) (h:qH t l K D) {c:Int} (c0:0<=c) (c1:c<t.C.length):Dz.f ⟨t,l,D⟩ c=some (yO t l D c):=by
 have Cs:=h.dl;unfold Dz.f Fh.f yO Ii;simp only[Lk ht hb hK h c0 c1 (Int.le_refl 0) (by omega:(0:Int)<=3),Lk ht hb hK h c0 c1 (by omega:(0:Int)<=1) U,Lk ht hb hK h c0 c1 (by omega:(0:Int)<=2) U,Lk ht hb hK h c0 c1 (by omega:(0:Int)<=3) U,Rc hb,aI,beq_self_eq_true,if_true]
 rw[af U]
 by_cases z:rd D c=cN
 ·rw[af (by simpa using z),af z]
 ·rw[ah (by simpa using z),ah z]
  by_cases y:rd D c=vw l c 4
  ·rw[af (by simpa using y),af y]
  ·rw[ah (by simpa using y),ah y]
   repeat' split
   all_goals rfl
structure uo (t:aL) (l:List a_) (K:Int) (f:fR):Prop where
 aQ:qH t l K f.fc
 dl:f.bX.length=t.C.length
 dir: ∀c:Int,0<=c->c<t.C.length->rd f.bX c=yO t l f.fc c
theorem abZ (ht:lY t) (hb:l.length<=1000000) (hK:K<=1100000000) (h:qH t l K D) (z:Int): ∀(n k:Nat) (x:List Int) (i:Int),(t.C.length-i).toNat<=n->n<k->0<=i->i<=t.C.length->(x.length:Int)=i->(∀c:Int,0<=c->c<i->rd x c=yO t l D c)->
 Ok (nY.l0 k t l (D,z) x i) (λr=>r.2=0/\uo t l K r.1):=by
 have oH:=oS ht.1;have Cs:=h.dl;have fin: ∀(k:Nat) (x:List Int) (i:Int),¬i<t.C.length->i<=t.C.length->(x.length:Int)=i->(∀c:Int,0<=c->c<i->rd x c=yO t l D c)->Ok (nY.l0 (k+1) t l (D,z) x i) (λr=>r.2=0/\uo t l K r.1):=λk x i hi dZ hx ha=>by
  rw[nY.l0,ah (by simp only;omega)]
  exact Ok.pure ⟨J,h,by simp only;omega,λc c0 c1=>ha c c0 U⟩
 intro n
 induction n with
 |zero=>
  intro k x i hn hk hi dZ hx ha;obtain⟨k,rfl⟩:=bl hk;exact fin k x i U dZ hx ha
 |succ n ih=>
  intro k x i hn hk hi dZ hx ha;obtain⟨k,rfl⟩:=bl hk
  by_cases aS:i<t.C.length
  ·rw[nY.l0,wi U U];refine Ok.pos (by simp only;omega) (Ok.eq (aiI ht hb hK h hi aS) (Ok.cx U (ih k _ (i+1) U U U U bm λc c0 c1=>?_)))
   rw[Pt c0 U];split
   ·rename_i q;rw[q,hx]
   ·exact ha c c0 U
  ·exact fin k x i aS dZ hx ha
theorem abY (ht:lY t) (hb:l.length<=1000000) (hK:K<=1100000000) (hl: ∀x∈l,qG t x/\x.Key+254*256<=K):Ok (nY.f t l) (λr=>r.2=0/\uo t l K r.1):=by
 have oH:=oS ht.1;unfold nY.f;refine(Xw ht hb hK hl).bind λv hv=>?_
 obtain⟨D,z⟩:=v;simp only at hv⊢;exact Ok.neg (by simp[hv.1]) (abZ ht hb hK hv.2 z t.C.length fuel [] 0 U (by rw[cI];omega) U U J (λc c0 c1=>by omega))
theorem Sb (ht:lY t) {K':Int} {f f':fR} (h:uo t l K f) (h':uo t l K' f'):f=f':=by
 have e:f.fc=f'.fc:=zC (by rw[h.aQ.dl,h'.aQ.dl]) λi i0 i1=>Xv ht h.aQ h'.aQ i0 (by rw[h.aQ.dl] at i1;exact i1)
 have e2:f.bX=f'.bX:=zC (by rw[h.dl,h'.dl]) λi i0 i1=>by
  rw[h.dl] at i1;rw[h.dir i i0 i1,h'.dir i i0 i1,e]
 cases f;cases f';simp only at e e2;rw[e,e2]
end
def kQ (m:aL) (s:Int) (n:Nat):List Int:=(List.range n).map λl:Nat=>rd m.C (dn m.W m.H s (l:Int))
theorem DF (m:aL) (s:Int) (n:Nat):(kQ m s n).length=n:=by simp[kQ]
theorem ajH (m:aL) (s:Int) (n:Nat):kQ m s (n+1)=kQ m s n++[rd m.C (dn m.W m.H s (n:Int))]:=by
 simp[kQ,List.range_succ]
theorem ajG (m:aL) (s:Int) (n a:Nat):kQ m s (n+a)=kQ m s n++(List.range a).map λx:Nat=>rd m.C (dn m.W m.H s ((n+x:Nat):Int)):=by
 simp only[kQ,List.range_add,List.map_append,List.map_map];rfl
theorem AH {w h s l:Int} (hs:bK w h s) (h0:0<=l) (h1:l<(ax w h s).1*(ax w h s).2):0<=dn w h s l/\dn w h s l<w*h:=by
 obtain⟨a1,a2,a3,a4,a5,a6⟩:=xt hs h0 h1;obtain⟨p1,p2,p3,p4⟩:=ve hs;have e:dn w h s l=(16*(s/(bp w h).1)+l/(ax w h s).1)*w+(16*(s%(bp w h).1)+l%(ax w h s).1):=by
  unfold dn;rw[af ⟨hs,h0,h1⟩]
 rw[e];exact sS U a5 U a6
theorem global_row {w h s y x:Int} (hs:bK w h s) (y0:0<=y) (y1:y<(ax w h s).2) (x0:0<=x) (x1:x<(ax w h s).1):dn w h s (y*(ax w h s).1+x)=dn w h s (y*(ax w h s).1)+x:=by
 obtain⟨z1,z2,z3,z4⟩:=qv hs;have hl:=sS (w:=(ax w h s).1) (h:=(ax w h s).2) x0 x1 y0 y1;have AV:=sS (w:=(ax w h s).1) (h:=(ax w h s).2) (x:=0) U U y0 y1;have n1:=qY (a:=(ax w h s).1) (x:=x) (y:=y) x0 x1;have n0:=qY (a:=(ax w h s).1) (x:=0) (y:=y) U U;rw[Int.add_zero] at n0 AV;unfold dn;rw[af ⟨hs,hl⟩,af ⟨hs,AV⟩,n1.1,n1.2,n0.1,n0.2];omega
theorem ajA {L:List Int} {lo:Int} {a:Nat} (h0:0<=lo) (h1:lo+a<=L.length):aA L lo (lo+a)=(List.range a).map λx:Nat=>rd L (lo+(x:Int)):=by
 apply List.ext_getElem
 ·simp[aA];omega
 ·intro i h2 h3;have hi:i<a:=by simpa using h3
  simp only[aA,List.getElem_take,List.getElem_drop,List.getElem_map,List.getElem_range];rw[jA U]
  congr 1;omega
theorem ajI {m:aL} (hm:uv m) (s:Int):nS.f m s=some (aL.mk (ax m.W m.H s).1 (ax m.W m.H s).2 (kQ m s ((ax m.W m.H s).1*(ax m.W m.H s).2).toNat)):=by
 unfold nS.f;rw[W7,aI];have hz:=size_le m.W m.H s;have hpr:(ax m.W m.H s).1*(ax m.W m.H s).2<=16*16:=ka hz.1 hz.2.2.1 hz.2.1 hz.2.2.2;have hp0:0<=(ax m.W m.H s).1*(ax m.W m.H s).2:=nP hz.1 hz.2.2.1;have key: ∀(n k:Nat) (i:Int),i+n=(ax m.W m.H s).1*(ax m.W m.H s).2->0<=i->n<k->
  nS.l0 k m s (ax m.W m.H s) (kQ m s i.toNat) i=some (aL.mk (ax m.W m.H s).1 (ax m.W m.H s).2 (kQ m s ((ax m.W m.H s).1*(ax m.W m.H s).2).toNat)):=by
  intro n
  induction n with
  |zero=>
   intro k i hi h0 hk;obtain⟨k,rfl⟩: ∃q,k=q+1:=⟨k-1,by omega⟩
   rw[nS.l0,bn (x:=_*_) U U,ah U];have:i=(ax m.W m.H s).1*(ax m.W m.H s).2:=U;rw[this]
  |succ n ih=>
   intro k i hi h0 hk;obtain⟨k,rfl⟩: ∃q,k=q+1:=⟨k-1,by omega⟩
   have hs:bK m.W m.H s:=by
    by_cases hs:bK m.W m.H s
    ·exact hs
    ·have:ax m.W m.H s=(0,0):=by unfold ax;rw[ah hs]
     rw[this] at hi;simp at hi;omega
   have hg:=AH hs h0 (by omega:i<_)
   have hl:=hm.2.1;rw[nS.l0,bn (x:=_*_) U U,af U,aid,aI,af U,af (by rw[DF];omega),bn U U]
   have:=ih k (i+1) U U U;rw[show(i+1).toNat=i.toNat+1 by omega,ajH,show((i.toNat:Nat):Int)=i by omega] at this
   exact this
 exact key ((ax m.W m.H s).1*(ax m.W m.H s).2).toNat fuel 0 U U (by rw[uH];omega)
def Gh (g:bC) (s:Int):aL×Bool:=if bK g.m.W g.m.H s then(aL.mk (ax g.m.W g.m.H s).1 (ax g.m.W g.m.H s).2 (kQ g.m s ((ax g.m.W g.m.H s).1*(ax g.m.W g.m.H s).2).toNat),true) else(aL.mk 0 0 [],false)
theorem P4 {g:bC} {more:Int} (h:du g more) (s:Int):l_.f g s=some (Gh g s):=by
 have hl:=h.ok.2.1;unfold l_.f Gh;have e0:iV.f g=some (g.m.W,g.m.H):=rfl;rw[e0,aI,Ij,aI]
 by_cases hs:bK g.m.W g.m.H s
 ·have hz:=qv hs;rw[ah bm,af hs];have hpr:(ax g.m.W g.m.H s).1*(ax g.m.W g.m.H s).2<=16*16:=ka U U hz.2.1 hz.2.2.2;have key: ∀(n k:Nat) (i:Int),i+n=(ax g.m.W g.m.H s).2->0<=i->n<k->
   l_.l0 k g s (g.m.W,g.m.H) (ax g.m.W g.m.H s) (kQ g.m s (i*(ax g.m.W g.m.H s).1).toNat) i=some (aL.mk (ax g.m.W g.m.H s).1 (ax g.m.W g.m.H s).2 (kQ g.m s ((ax g.m.W g.m.H s).1*(ax g.m.W g.m.H s).2).toNat),true):=by
   intro n
   induction n with
   |zero=>
    intro k i hi h0 hk;obtain⟨k,rfl⟩: ∃q,k=q+1:=⟨k-1,by omega⟩
    rw[l_.l0,ah U];have:i=(ax g.m.W g.m.H s).2:=U;rw[this,Int.mul_comm]
   |succ n ih=>
    intro k i hi h0 hk;obtain⟨k,rfl⟩: ∃q,k=q+1:=⟨k-1,by omega⟩
    have rV:i<(ax g.m.W g.m.H s).2:=U;have b0:0<=i*(ax g.m.W g.m.H s).1:=nP h0 U;have b1:i*(ax g.m.W g.m.H s).1+(ax g.m.W g.m.H s).1<=(ax g.m.W g.m.H s).1*(ax g.m.W g.m.H s).2:=by
     have:(i+1)*(ax g.m.W g.m.H s).1<=(ax g.m.W g.m.H s).2*(ax g.m.W g.m.H s).1:=Int.mul_le_mul_of_nonneg_right U U;rw[Int.add_mul,Int.one_mul,Int.mul_comm (ax g.m.W g.m.H s).2] at this;exact this
    have lo:=AH hs b0 U;have hi3:=AH (l:=i*(ax g.m.W g.m.H s).1+((ax g.m.W g.m.H s).1-1)) hs U U;rw[global_row hs h0 rV U U] at hi3;have hc:=uZ h.ok.1;rw[l_.l0,af rV,bn (x:=_*_) U U,JS,aI];simp only[bn (x:=dn g.m.W g.m.H s (i*(ax g.m.W g.m.H s).1)+(ax g.m.W g.m.H s).1) U U];rw[af U];have jW:(((ax g.m.W g.m.H s).1.toNat:Nat):Int)=(ax g.m.W g.m.H s).1:=U;have EC:=ajA (L:=g.m.C) (lo:=dn g.m.W g.m.H s (i*(ax g.m.W g.m.H s).1)) (a:=(ax g.m.W g.m.H s).1.toNat) U U;rw[jW] at EC;rw[EC,af (by rw[DF];simp;omega),bn U U]
    have xA:kQ g.m s (i*(ax g.m.W g.m.H s).1).toNat++(List.range (ax g.m.W g.m.H s).1.toNat).map (λx:Nat=>rd g.m.C (dn g.m.W g.m.H s (i*(ax g.m.W g.m.H s).1)+(x:Int)))=kQ g.m s ((i+1)*(ax g.m.W g.m.H s).1).toNat:=by
     rw[show((i+1)*(ax g.m.W g.m.H s).1).toNat=(i*(ax g.m.W g.m.H s).1).toNat+(ax g.m.W g.m.H s).1.toNat by rw[Int.add_mul,Int.one_mul];omega,ajG]
     congr 1
     apply List.map_congr_left;intro x hx;have wa:=List.mem_range.mp hx;rw[show(((i*(ax g.m.W g.m.H s).1).toNat+x:Nat):Int)=i*(ax g.m.W g.m.H s).1+(x:Int) by omega,global_row hs h0 rV U U]
    rw[xA];exact ih k (i+1) U U U
  have:=key (ax g.m.W g.m.H s).2.toNat fuel 0 U U (by rw[uH];omega)
  rw[show((0:Int)*(ax g.m.W g.m.H s).1).toNat=0 by simp] at this
  exact this
 ·have:ax g.m.W g.m.H s=(0,0):=by unfold ax;rw[ah hs]
  rw[this,af bd,ah hs]
theorem aiD (m:aL):Dh.f m m=some true:=by
 unfold Dh.f E0.f;simp[ajz]
theorem acp (g:bC) (hb:g.m.C.length<=1099511627776):xv.f g=some g.m:=by
 unfold xv.f;rw[Ry _ hb];rfl
theorem Hg (w h c:Int):ry.f w h c=some (dC w h c):=by
 unfold ry.f dC;simp only[Pl,aI,tY,Ij]
 by_cases hc:bZ w h c
 ·rw[ah (by rw[EV];simp[hc]),af hc]
  simp only[Bp];rw[af hc];simp only;have hp:=wm hc;have hw:=ON hc;have hz:=size_le w h (aY w h c);have h5:0<=c/w%16*(ax w h (aY w h c)).1:=nP U U;have h6:c/w%16*(ax w h (aY w h c)).1<=16*16:=ka U U U U;rw[nk hp.2.2.1,nk hp.1,bn (x:=_*_) U U,bn U U]
 ·rw[af (by rw[EV];exact hc),ah hc]
theorem EK {w h c:Int} (hc:bZ w h c):0<=dC w h c/\dC w h c<(ax w h (aY w h c)).1*(ax w h (aY w h c)).2:=by
 have mc:=ON hc;have mB:=wm hc;have h1:=sS (w:=(ax w h (aY w h c)).1) (h:=(ax w h (aY w h c)).2) (x:=c%w%16) (y:=c/w%16) U mc.1 U mc.2;have e4:dC w h c=c/w%16*(ax w h (aY w h c)).1+c%w%16:=by unfold dC;rw[af hc]
 rw[e4];exact h1
theorem tZ {w h c:Int} (hc:bZ w h c):bK w h (aY w h c):=by
 unfold aY;rw[af hc];exact Fa hc
theorem Ed {w h c:Int} (hc:bZ w h c):dn w h (aY w h c) (dC w h c)=c:=by
 have mc:=ON hc;have mB:=wm hc;have UL:=E_ hc;have cu:=EK hc;unfold dn;rw[af ⟨tZ hc,cu⟩];have e3:aY w h c=c/w/16*(bp w h).1+c%w/16:=by unfold aY;rw[af hc]
 have e4:dC w h c=c/w%16*(ax w h (aY w h c)).1+c%w%16:=by unfold dC;rw[af hc]
 have n1:=qY (a:=(bp w h).1) (x:=c%w/16) (y:=c/w/16) UL.1 UL.2.1;have n2:=qY (a:=(ax w h (aY w h c)).1) (x:=c%w%16) (y:=c/w%16) U mc.1;rw[<-e3] at n1;rw[<-e4] at n2;rw[n1.1,n1.2,n2.1,n2.2];have a1:16*(c/w/16)+c/w%16=c/w:=U;have a2:16*(c%w/16)+c%w%16=c%w:=U;rw[a1,a2];have e:=Ru hc;unfold pK at e;rw[af ⟨hc.1,mB.1,mB.2.1,mB.2.2.1,mB.2.2.2⟩] at e;exact e
theorem SA {w h s l k:Int} (hs:bK w h s) (h0:0<=l) (h1:l<k) (h2:k<(ax w h s).1*(ax w h s).2):dn w h s l<dn w h s k:=by
 obtain⟨a1,a2,a3,a4,a5,a6⟩:=xt hs h0 (by omega:l<_)
 obtain⟨b1,b2,b3,b4,b5,b6⟩:=xt (l:=k) hs U h2;have e1:dn w h s l=(16*(s/(bp w h).1)+l/(ax w h s).1)*w+(16*(s%(bp w h).1)+l%(ax w h s).1):=by unfold dn;rw[af ⟨hs,h0,by omega⟩]
 have e2:dn w h s k=(16*(s/(bp w h).1)+k/(ax w h s).1)*w+(16*(s%(bp w h).1)+k%(ax w h s).1):=by unfold dn;rw[af ⟨hs,by omega,h2⟩]
 have p:=ve hs;have hz:=qv hs;have m1:=Int.mul_ediv_add_emod l (ax w h s).1;have m2:=Int.mul_ediv_add_emod k (ax w h s).1;rw[e1,e2];have hle:l/(ax w h s).1<=k/(ax w h s).1:=Int.ediv_le_ediv U U
 by_cases hq:l/(ax w h s).1=k/(ax w h s).1
 ·rw[<-hq] at m2⊢;omega
 ·have:=Int.mul_le_mul_of_nonneg_right (show 16*(s/(bp w h).1)+l/(ax w h s).1+1<=16*(s/(bp w h).1)+k/(ax w h s).1 by omega) (show 0<=w by omega)
  rw[Int.add_mul (16*(s/(bp w h).1)+l/(ax w h s).1),Int.one_mul] at this;omega
theorem aa' (w h s:Int):(rh w h s).Pairwise (· < ·):=by
 unfold rh wB;have hz:=zR w h s;rw[List.pairwise_map];have h1:((List.range ((ax w h s).1*(ax w h s).2).toNat).filter (λl:Nat=>Dq w h s (l:Int))).Pairwise (· < ·):=List.Pairwise.sublist List.filter_sublist List.pairwise_lt_range;refine List.Pairwise.imp_of_mem ?_ h1;intro a b ha hb yY;have kb:=List.mem_range.mp (List.mem_filter.mp hb).1;exact SA (PU (w:=w) (h:=h) (s:=s) (l:=(b:Int)) U U) U U U
theorem Pa (m:aL) (s:Int):(bL m s).Pairwise (· < ·):=(aa' m.W m.H s).sublist List.filter_sublist
theorem u9 {m:aL} {s c:Int} (h:c∈bL m s):mg m c=true/\cP m c/\bK m.W m.H s/\aY m.W m.H c=s:=by
 obtain⟨h1,h2⟩:=List.mem_filter.mp h;unfold rh wB at h1;obtain⟨l,hl,rfl⟩:=List.mem_map.mp h1;have hz:=zR m.W m.H s;have kl:=List.mem_range.mp (List.mem_filter.mp hl).1;have hs:=PU (w:=m.W) (h:=m.H) (s:=s) (l:=(l:Int)) U U;exact⟨h2,(Bx.mp h2).1,hs,Ll hs U U⟩
theorem wj (m:aL) (s:Int):(bL m s).length<=256:=by
 have:=Rx m.W m.H s;have:=List.length_filter_le (mg m) (rh m.W m.H s);unfold bL;omega
theorem OM {w h a b:Int} (ha:bZ w h a) (hb:bZ w h b) (e:aY w h a=aY w h b) (yY:a<b):dC w h a<dC w h b:=by
 have ia:=EK ha;have ga:=Ed ha;have ib:=EK hb;have gb:=Ed hb;rw[e] at ia ga;rcases Int.lt_trichotomy (dC w h a) (dC w h b) with q |q |q
 ·exact q
 ·rw[q] at ga;omega
 ·have:=SA (tZ hb) ib.1 q ia.2;omega
abbrev fN (m:aL) (s:Int):aL:=aL.mk (ax m.W m.H s).1 (ax m.W m.H s).2 (kQ m s ((ax m.W m.H s).1*(ax m.W m.H s).2).toNat)
theorem SI {g:bC} {s:Int} (hs:bK g.m.W g.m.H s):Gh g s=(fN g.m s,true):=by unfold Gh;rw[af hs]
theorem P3 {m:aL} {s l:Int} {n:Nat} (h0:0<=l) (h1:l<n):rd (kQ m s n) l=rd m.C (dn m.W m.H s l):=by
 unfold kQ;rw[jA bm];simp only[List.getElem_map,List.getElem_range];rw[show((l.toNat:Nat):Int)=l by omega]
variable {g : bC} {more : Int}
theorem Ie (h:du g more) {s:Int} (hs:bK g.m.W g.m.H s):lY (fN g.m s):=by
 obtain⟨z1,z2,z3,z4⟩:=qv hs;have hz:=zR g.m.W g.m.H s;have hv: ∀c:Int,0<=c->c<((ax g.m.W g.m.H s).1*(ax g.m.W g.m.H s).2).toNat->1<=rd (fN g.m s).C c/\rd (fN g.m s).C c<=255:=λc c0 c1=>by
  show 1<=rd (kQ _ _ _) c/\rd (kQ _ _ _) c<=255
  rw[P3 c0 c1];have:=AH hs c0 U;exact h.sP _ this.1 this.2
 refine⟨⟨z1,z2,z3,z4,by simp[DF];omega,λhm=>?_⟩,λc c0 c1=>hv c c0 (by rw[DF] at c1;exact c1)⟩
 obtain⟨c,c0,c1,e⟩:=jL hm;have:=hv c c0 (by rw[DF] at c1;exact c1)
 simp only at this;rw[e] at this;omega
theorem Bq (h:du g more) {c:Int} (hc:cP g.m c):0<=dC g.m.W g.m.H c/\dC g.m.W g.m.H c<(fN g.m (aY g.m.W g.m.H c)).C.length/\rd (fN g.m (aY g.m.W g.m.H c)).C (dC g.m.W g.m.H c)=fB g c:=by
 have eK:=nK h.ok hc;have cu:=EK eK;refine⟨cu.1,by rw[DF];omega,?_⟩
 show rd (kQ _ _ _) _=_
 rw[P3 cu.1 U,Ed eK];unfold fB;rw[af hc]
variable {t : aL} {l : List Int}
structure FF (t:aL) (l:List Int):Prop where
 DE:lY t
 mem: ∀c∈l,0<=c/\c<t.C.length/\rd t.C c≠255
 up:l.Pairwise (· < ·)
 ln:l.length<=256
abbrev KT:Int:=65024
def FH (t:aL) (c:Int) (D:List Int):Prop:=qH t [⟨c,4,0⟩] KT D
theorem ajK (ht:lY t) {c:Int} (c0:0<=c) (c1:c<t.C.length) (c2:rd t.C c≠255):Ok (yc.f t c) (λr=>FH t c r.1/\r.2=0):=by
 unfold yc.f;refine(Xw (K:=KT) ht bd (by decide) (λx hx=>?_)).bind λr hr=>Ok.pure ⟨hr.2,hr.1⟩
 simp only[List.mem_cons,List.not_mem_nil,or_false] at hx;subst hx;exact⟨⟨c0,c1,c2,Int.le_refl _,by show(0:Int)<=1073741824;decide,.inl J⟩,by show(0:Int)+254*256<=65024;decide⟩
theorem ajJ (h:FF t l): ∀(n k:Nat) (i:Int),(l.length-i).toNat<=n->n<k->0<=i->qx.l0 k t l i=some true:=by
 have hf:=h.ln;have hl:=oS h.DE.1;have fin: ∀(k:Nat) (i:Int),¬i<l.length->qx.l0 (k+1) t l i=some true:=λk i hi=>by
  rw[qx.l0,ah hi,Lw _ U,decide_eq_true h.DE.1];rfl
 intro n
 induction n with
 |zero=>
  intro k i hn hk hi;obtain⟨k,rfl⟩:=bl hk;exact fin k i U
 |succ n ih=>
  intro k i hn hk hi;obtain⟨k,rfl⟩:=bl hk
  by_cases aS:i<l.length
  ·have hm:=h.mem _ (dU hi aS);have hc:=h.DE.2 _ hm.1 hm.2.1;have et:BD.f t (rd l i)=some (rd t.C (rd l i)):=by rw[ajE h.DE,af ⟨hm.1,hm.2.1⟩]
   rw[qx.l0,af aS,af (c:=0<=i/\i<(List.length l:Int)) ⟨hi,aS⟩,et,aI,ah (c:=(rd t.C (rd l i)==0||rd t.C (rd l i)==255)=true) bm]
   have e:(if i>0 then(if(0<=(aa (i-1))/\(aa (i-1))<(List.length l:Int)) then(some (decide ((rd l i)<=(rd l (aa (i-1)))))) else none) else(some false))=some false:=by
    by_cases z:i>0
    ·rw[af z,wi U U,af U,decide_eq_false (by have:=va h.up (i:=i-1) (j:=i) U U aS;omega)]
    ·rw[ah z]
   rw[e,aI];simp only[Bool.false_eq_true,if_false];rw[wi U U];exact ih k (i+1) U U U
  ·exact fin k i aS
theorem G5 {n i j:Int} (i0:0<=i) (i1:i<n) (j0:0<=j) (j1:j<n):0<=i*n/\i*n+j<n*n:=by
 have h1:=Int.mul_le_mul_of_nonneg_right (show i+1<=n by omega) (show 0<=n by omega)
 have h2:=Int.mul_nonneg i0 (show 0<=n by omega)
 rw[Int.add_mul,Int.one_mul] at h1;omega
theorem U3 {n i j i' j':Int} (j0:0<=j) (j1:j<n) (j0':0<=j') (j1':j'<n) (e:i*n+j=i'*n+j'):i=i'/\j=j':=by
 have a:=qY (y:=i) j0 j1;have b:=qY (y:=i') j0' j1';rw[e] at a;exact⟨a.2.symm.trans b.2,a.1.symm.trans b.1⟩
def wX (t:aL) (l:List Int) (j:Int) (x:List Int):Prop:=(x.length:Int)=l.length*l.length/\ ∀q:Int,0<=q->q<j-> ∃D,FH t (rd l q) D/\ ∀i:Int,0<=i->i<l.length->rd x (i*l.length+q)=rd D (rd l i)
theorem agm (h:FF t l) {j:Int} (j0:0<=j) (j1:j<l.length) {D:List Int×Int} (hD:FH t (rd l j) D.1): ∀(n k:Nat) (x:List Int) (i:Int),(l.length-i).toNat<=n->n<k->0<=i->wX t l j x->(∀q:Int,0<=q->q<i->rd x (q*l.length+j)=rd D.1 (rd l q))->
 Ok (jR.l1 k l j D x i) (wX t l (j+1)):=by
 have hf:=h.ln;have fin: ∀(k:Nat) (x:List Int) (i:Int),¬i<l.length->wX t l j x->(∀q:Int,0<=q->q<i->rd x (q*l.length+j)=rd D.1 (rd l q))->Ok (jR.l1 (k+1) l j D x i) (wX t l (j+1)):=λk x i hi hx hq=>by
  rw[jR.l1,ah hi];refine Ok.pure ⟨hx.1,λq q0 q1=>?_⟩
  by_cases z:q=j
  ·rw[z];exact⟨D.1,hD,λi i0 i1=>hq i i0 U⟩
  ·exact hx.2 q q0 U
 intro n
 induction n with
 |zero=>
  intro k x i hn hk hi hx hq;obtain⟨k,rfl⟩:=bl hk;exact fin k x i U hx hq
 |succ n ih=>
  intro k x i hn hk hi hx hq;obtain⟨k,rfl⟩:=bl hk
  by_cases aS:i<l.length
  ·have hm:=h.mem _ (dU hi aS);have cu:=G5 hi aS j0 j1;have AW:(l.length:Int)*l.length<=256*256:=ka U U U U;rw[jR.l1,wi (x:=i*(l.length:Int)) U U,wi (x:=i*(l.length:Int)+j) U U,wi (x:=i+1) U U];refine Ok.pos aS (Ok.cx ⟨hi,aS⟩ (Ok.cx (by rw[hD.dl];exact⟨hm.1,hm.2.1⟩) (Ok.cx (by rw[hx.1];omega) ?_)))
   have dS: ∀c:Int,0<=c->rd (List.set x (i*(l.length:Int)+j).toNat (rd D.1 (rd l i))) c=if c=i*(l.length:Int)+j then rd D.1 (rd l i) else rd x c:=λc c0=>lB U (by rw[hx.1];omega) c0
   refine ih k _ (i+1) U U U ⟨by simpa using hx.1,λq q0 q1=>?_⟩ (λq q0 q1=>?_)
   ·obtain⟨E,e1,e2⟩:=hx.2 q q0 q1;refine⟨E,e1,λr r0 r1=>?_⟩
    have:=G5 r0 r1 q0 (show q<l.length by omega)
    rw[dS _ U,ah (λz=>by have:=U3 q0 U j0 j1 z;omega)]
    exact e2 r r0 r1
   ·have:=G5 q0 (show q<l.length by omega) j0 j1
    rw[dS _ U]
    by_cases z:q=i
    ·rw[af (by rw[z]),z]
    ·rw[ah (λy=>z (U3 j0 j1 j0 j1 y).1)];exact hq q q0 U
  ·exact fin k x i aS hx hq
theorem agl (h:FF t l): ∀(n k:Nat) (x:List Int) (j:Int),(l.length-j).toNat<=n->n<k->0<=j->j<=l.length->wX t l j x->Ok (jR.l0 k t l x j) (λr=>r.2=0/\wX t l l.length r.1):=by
 have hf:=h.ln;have fin: ∀(k:Nat) (x:List Int) (j:Int),j<=l.length-> ¬j<l.length->wX t l j x->Ok (jR.l0 (k+1) t l x j) (λr=>r.2=0/\wX t l l.length r.1):=λk x j hj hi hx=>by
  rw[jR.l0,ah hi];have:j=l.length:=U;subst this;exact Ok.pure ⟨J,hx⟩
 intro n
 induction n with
 |zero=>
  intro k x j hn hk hj iY hx;obtain⟨k,rfl⟩:=bl hk;exact fin k x j iY U hx
 |succ n ih=>
  intro k x j hn hk hj iY hx;obtain⟨k,rfl⟩:=bl hk
  by_cases aS:j<l.length
  ·have hm:=h.mem _ (dU hj aS);rw[jR.l0,wi U U];refine Ok.pos aS (Ok.bind (P:=wX t l (j+1)) (Ok.cx ⟨hj,aS⟩ ((ajK h.DE hm.1 hm.2.1 hm.2.2).bind λD hD=>?_)) λr hr=>ih k r (j+1) U U U U hr);exact agm h hj aS hD.1 l.length fuel x 0 U (by rw[cI];omega) U hx (λq q0 q1=>by omega)
  ·exact fin k x j iY aS hx
theorem agk (h:FF t l):Ok (jR.f t l) (λr=>r.2=0/\wX t l l.length r.1):=by
 have hf:=h.ln;unfold jR.f qx.f;have AW:(l.length:Int)*l.length<=256*256:=ka U U U U;have GN:0<=(l.length:Int)*l.length:=Int.mul_nonneg U U;rw[ajJ h l.length fuel 0 U (by rw[cI];omega) U,wi U U]
 refine Ok.eq J (Ok.neg bd (Ok.cx U (agl h l.length fuel _ 0 U (by rw[cI];omega) U U ⟨by simp;omega,λq q0 q1=>by omega⟩)))
variable {g : bC} {more : Int}
theorem Qc (h:du g more) (s:Int):qc.f g s=some (fK g s):=by
 unfold qc.f fK;have hv:=h.vs
 by_cases hs:0<=s/\s<eh g.m.W g.m.H
 ·rw[ah U,aI,ah bm,af U,af hs]
 ·by_cases h0:s<0
  ·rw[af h0,ah hs];rfl
  ·rw[ah h0,aI,af bm,ah hs]
abbrev A9 (m:aL) (s:Int):List Int:=(bL m s).map (dC m.W m.H)
theorem KQ (h:du g more) {s:Int} (hs:bK g.m.W g.m.H s):FF (fN g.m s) (A9 g.m s):=by
 refine⟨Ie h hs,λc hc=>?_,?_,by simpa using wj g.m s⟩
 ·obtain⟨x,hx,rfl⟩:=List.mem_map.1 hc;obtain⟨n1,n2,n3,n4⟩:=u9 hx;have:=Bq h n2;rw[n4] at this;refine⟨this.1,this.2.1,?_⟩;rw[this.2.2];unfold fB;rw[af n2];exact(Bx.1 n1).2
 ·rw[List.pairwise_map];refine(Pa g.m s).imp_of_mem λ{a b} ha hb yY=>?_
  obtain⟨_,a2,_,a4⟩:=u9 ha;obtain⟨_,b2,_,b4⟩:=u9 hb;exact OM (nK h.ok a2) (nK h.ok b2) (a4.trans b4.symm) yY
def enc (d:Int):Int:=if d=cN then-1 else d
structure BU (m:aL) (s:Int) (p:pC):Prop where
 nodes:p.nodes=bL m s
 len_:(p.aQ.length:Int)=(bL m s).length*(bL m s).length
 RF: ∀j:Int,0<=j->j<(bL m s).length-> ∃D,FH (fN m s) (dC m.W m.H (rd (bL m s) j)) D/\ ∀i:Int,0<=i->i<(bL m s).length->rd p.aQ (i*(bL m s).length+j)=enc (rd D (dC m.W m.H (rd (bL m s) i)))
theorem U1 {x:Int} (h0: -2147483648<=x) (h1:x<=2147483647):IntKind.i32.wrap x=x:=by
 unfold IntKind.wrap IntKind.signed IntKind.bits;simp;omega
theorem agx (v:Int) (nodes:List Int) (T:List Int×Int) (hT: ∀c:Int,0<=c->c<T.1.length->rd T.1 c=cN∨(0<=rd T.1 c/\rd T.1 c<=KT)) (hb:T.1.length<=65536): ∀(n k:Nat) (x:List Int) (i:Int),(T.1.length-i).toNat<=n->n<k->0<=i->x.length=T.1.length->(∀c:Int,0<=c->c<i->rd x c=enc (rd T.1 c))->
 Ok (jy.l1 k v nodes T x i) (λp=>p.version=v/\p.nodes=nodes/\p.aQ.length=T.1.length/\ ∀c:Int,0<=c->c<T.1.length->rd p.aQ c=enc (rd T.1 c)):=by
 have hI:cN=1099511627776:=rfl;have Np:KT=65024:=rfl;have fin: ∀(k:Nat) (x:List Int) (i:Int),¬i<T.1.length->x.length=T.1.length->(∀c:Int,0<=c->c<i->rd x c=enc (rd T.1 c))->Ok (jy.l1 (k+1) v nodes T x i) (λp=>p.version=v/\p.nodes=nodes/\p.aQ.length=T.1.length/\ ∀c:Int,0<=c->c<T.1.length->rd p.aQ c=enc (rd T.1 c)):=λk x i hi hx ha=>by
  rw[jy.l1,ah hi];exact Ok.pure ⟨J,J,hx,λc c0 c1=>ha c c0 U⟩
 intro n
 induction n with
 |zero=>
  intro k x i hn hk hi hx ha;obtain⟨k,rfl⟩:=bl hk;exact fin k x i U hx ha
 |succ n ih=>
  intro k x i hn hk hi hx ha;obtain⟨k,rfl⟩:=bl hk
  by_cases aS:i<T.1.length
  ·rw[jy.l1,wi (x:=i+1) U U];have s1: ∀(y:List Int) (u c:Int),y.length=T.1.length->0<=c->rd (List.set y i.toNat u) c=if c=i then u else rd y c:=λy u c hy c0=>lB hi U c0
   refine Ok.pos aS (Ok.cx ⟨hi,aS⟩ (Ok.cx U (Ok.ite (λq=>Ok.cx bm ?_) λq=>?_)))
   ·have q:rd T.1 i≠cN:=by simpa using q
    have hd:=(hT i hi aS).resolve_left q;rw[U1 U U];refine ih k _ (i+1) U U U (by simpa using hx) λc c0 c1=>?_
    rw[s1 _ _ c (by simpa using hx) c0,s1 _ _ c hx c0]
    by_cases z:c=i
    ·rw[af z,z];unfold enc;rw[ah q]
    ·rw[ah z,ah z];exact ha c c0 U
   ·have q:rd T.1 i=cN:=by simpa using q
    refine ih k _ (i+1) U U U (by simpa using hx) λc c0 c1=>?_
    rw[s1 _ _ c hx c0]
    by_cases z:c=i
    ·rw[af z,z];unfold enc;rw[af q]
    ·rw[ah z];exact ha c c0 U
  ·exact fin k x i aS hx ha
theorem agw (h:du g more) {s:Int} (hs:bK g.m.W g.m.H s) (v:Int): ∀(n k:Nat) (x:List Int) (i:Int),((bL g.m s).length-i).toNat<=n->n<k->0<=i->i<=(bL g.m s).length->x=(A9 g.m s).take i.toNat->
 Ok (jy.l0 k (g.m.W,g.m.H) (fN g.m s,true) v (bL g.m s) x i) (λp=>p.version=v/\BU g.m s p):=by
 have hl:=wj g.m s;have fin: ∀(k:Nat) (x:List Int) (i:Int),¬i<(bL g.m s).length->i<=(bL g.m s).length->x=(A9 g.m s).take i.toNat->Ok (jy.l0 (k+1) (g.m.W,g.m.H) (fN g.m s,true) v (bL g.m s) x i) (λp=>p.version=v/\BU g.m s p):=λk x i hi dZ hx=>by
  rw[jy.l0,ah hi];have hx:x=A9 g.m s:=by rw[hx,List.take_of_length_le bm]
  subst hx;refine(agk (KQ h hs)).bind λT hT=>?_
  obtain⟨_,t1,t2⟩:=hT;have hlen:((A9 g.m s).length:Int)=(bL g.m s).length:=by simp
  have AW:((bL g.m s).length:Int)*(bL g.m s).length<=256*256:=ka U U U U;rw[hlen] at t1 t2;have hT': ∀c:Int,0<=c->c<T.1.length->rd T.1 c=cN∨(0<=rd T.1 c/\rd T.1 c<=KT):=λc c0 c1=>by
   have hp:0<((bL g.m s).length:Int):=by
    apply Classical.byContradiction;intro z;have:((bL g.m s).length:Int)=0:=U;rw[this] at t1;omega
   have hm:=Int.emod_nonneg c (show((bL g.m s).length:Int)≠0 by omega)
   have xz:=Int.emod_lt_of_pos c hp;have GD:=Int.mul_ediv_add_emod c (bL g.m s).length;have hq:c/(bL g.m s).length<(bL g.m s).length:=Int.ediv_lt_of_lt_mul hp U;have GP:0<=c/(bL g.m s).length:=Int.ediv_nonneg c0 U;obtain⟨D,d1,d2⟩:=t2 _ hm xz;have:=d2 _ GP hq;rw[Int.mul_comm,GD] at this;rw[this];have ju:=(KQ h hs).mem _ (dU (a:=A9 g.m s) GP U)
   by_cases z:rd D (rd (A9 g.m s) (c/(bL g.m s).length))=cN
   ·exact .inl z
   ·have:=d1.dv _ ju.1 ju.2.1 z;exact .inr ⟨this.1,this.2.1⟩
  refine Ok.cx U ((agx v _ T hT' U T.1.length fuel _ 0 U (by rw[cI];omega) U bd (λc c0 c1=>by omega)).mono λp hp=>⟨hp.1,hp.2.1,by rw[hp.2.2.1];exact t1,λj j0 j1=>?_⟩)
  obtain⟨D,d1,d2⟩:=t2 j j0 j1;have hr: ∀i:Int,0<=i->i<(bL g.m s).length->rd (A9 g.m s) i=dC g.m.W g.m.H (rd (bL g.m s) i):=λi i0 i1=>zF i0 i1
  rw[hr j j0 j1] at d1;refine⟨D,d1,λi i0 i1=>?_⟩
  have:=G5 i0 i1 j0 j1;rw[hp.2.2.2 _ U (by rw[t1];omega),d2 i i0 i1,hr i i0 i1]
 intro n
 induction n with
 |zero=>
  intro k x i hn hk hi dZ hx;obtain⟨k,rfl⟩:=bl hk;exact fin k x i U dZ hx
 |succ n ih=>
  intro k x i hn hk hi dZ hx;obtain⟨k,rfl⟩:=bl hk
  by_cases aS:i<(bL g.m s).length
  ·rw[jy.l0,wi (x:=i+1) U U];refine Ok.pos aS (Ok.cx ⟨hi,aS⟩ (Ok.eq (Hg ..) (Ok.cx (by rw[hx];simp;omega) (ih k _ (i+1) U U U U ?_))))
   rw[hx,Iv hi (by simpa using aS),zF hi aS]
  ·exact fin k x i aS dZ hx
theorem agz (h:du g more) {s:Int} (hs:bK g.m.W g.m.H s) (M:dM):Ok (jy.f M s g) (λp=>p.version=fK g s/\BU g.m s p):=by
 have hl:=wj g.m s;unfold jy.f;refine Ok.eq (Dv g) (Ok.eq ((P4 h s).trans (by rw[SI hs])) ?_)
 rw[Qc h,VM h];exact Ok.eq J (agw h hs _ (bL g.m s).length fuel [] 0 U (by rw[cI];omega) U U J)
structure Am (g:bC) (M:dM):Prop where
 len_:(M.parts.length:Int)=eh g.m.W g.m.H
 le: ∀s:Int,bK g.m.W g.m.H s->(rd M.parts s).version<=g.bM
 ok: ∀s:Int,bK g.m.W g.m.H s->(rd M.parts s).version=fK g s->BU g.m s (rd M.parts s)
 cl:M.clean=g.bM-> ∀s:Int,bK g.m.W g.m.H s->(rd M.parts s).version=fK g s
 MH:M.clean<=g.bM
 eV:0<=M.count/\M.count<=1000000000000
def AE (g:bC) (M:dM) (s:Nat):Bool:=(rd M.parts (s:Int)).version !=fK g s
def p7 (g:bC) (M:dM) (n:Nat):List Int:=((List.range n).filter (AE g M)).map Int.ofNat
theorem abG (g:bC) (M:dM) (n:Nat):p7 g M (n+1)=if AE g M n=true then p7 g M n++[(n:Int)] else p7 g M n:=by
 unfold p7;rw[List.range_succ,List.filter_append,List.map_append]
 by_cases h:AE g M n=true
 ·rw[af h,List.filter_cons_of_pos h];rfl
 ·rw[ah h,List.filter_cons_of_neg h];simp
theorem MR (g:bC) (M:dM) (n:Nat):(p7 g M n).length<=n:=by
 unfold p7;simp only[List.length_map];have:=List.length_filter_le (AE g M) (List.range n);simpa using this
theorem MS {M:dM} {n:Nat} {s:Int}:s∈p7 g M n↔0<=s/\s<n/\(rd M.parts s).version≠fK g s:=by
 unfold p7;simp only[List.mem_map,List.mem_filter,List.mem_range];constructor
 ·rintro⟨a,⟨a1,a2⟩,rfl⟩;exact⟨by simp,by simpa using a1,by simpa[AE] using a2⟩
 ·rintro⟨h0,h1,h2⟩;refine⟨s.toNat,⟨by omega,?_⟩,by simp;omega⟩
  unfold AE;rw[show((s.toNat:Nat):Int)=s by omega];simpa using h2
theorem abF (h:du g more) (M:dM) (hb:M.parts.length<=4096): ∀(n k:Nat) (i:Nat),i+n=M.parts.length->n<k->nM.l0 k M g (p7 g M i) (i:Int)=some (p7 g M M.parts.length):=by
 intro n
 induction n with
 |zero=>
  intro k i hi hk;obtain⟨k,rfl⟩:=bl hk;rw[nM.l0,ah U];have:i=M.parts.length:=U;rw[this]
 |succ n ih=>
  intro k i hi hk;obtain⟨k,rfl⟩:=bl hk;have hl:=MR g M i;have:=ih k (i+1) U U;rw[abG] at this;rw[nM.l0,af U,af U,Qc h,aI,wi U U];have ed:((rd M.parts (i:Int)).version !=fK g i)=AE g M i:=rfl;rw[ed]
  by_cases z:AE g M i=true
  ·rw[af z] at this;rw[af z,af U];exact this
  ·rw[ah z] at this;rw[ah z];exact this
variable {M : dM}
theorem abE (h:du g more) (hM:Am g M):nM.f M g=some (p7 g M M.parts.length):=by
 unfold nM.f;have hl:=hM.len_;have hc:=pn g.m.W g.m.H;rw[Ge,aI]
 by_cases z:M.clean=g.bM
 ·rw[af (by simpa using z)]
  congr 1
  refine(List.eq_nil_iff_forall_not_mem.2 λs hs=>?_).symm;obtain⟨a,b,c⟩:=MS.1 hs;exact c (hM.cl z s ⟨a,by omega⟩)
 ·rw[ah (by simpa using z)]
  exact abF h M U M.parts.length fuel 0 U (by rw[cI];omega)
structure qE (g:bC) (M:dM):Prop where
 ms:Am g M
 all: ∀s:Int,bK g.m.W g.m.H s->(rd M.parts s).version=fK g s
theorem qE.part (h:qE g M) {s:Int} (hs:bK g.m.W g.m.H s):BU g.m s (rd M.parts s):=h.ms.ok s hs (h.all s hs)
theorem X3 {x:Int} (h1:0<=x) (h2:x<=18446744073709551615):eQ x=x:=rB h1 h2
theorem zV {a b:Int} (a0:0<=a) (a1:a<=4611686018427387904) (b0:0<=b) (b1:b<=4611686018427387904):sv.f a b=some (a+b):=by
 unfold sv.f;rw[X3 U U,ah U,X3 U U]
theorem ah7 (h:du g more) (hv: ∀s:Int,bK g.m.W g.m.H s->fK g s<=g.bM) (L:List Int) (hL: ∀s∈L,bK g.m.W g.m.H s) (hb:L.length<=4096) (N:Int): ∀(n k:Nat) (i:Int) (M:dM),(L.length-i).toNat<=n->n<k->0<=i->i<=L.length->Am g M->M.count+(L.length-i)=N->
 (∀s:Int,bK g.m.W g.m.H s->(rd M.parts s).version=fK g s∨ ∃j:Int,i<=j/\j<L.length/\rd L j=s)->N<=1000000000000->
 Ok (nO.l0 k g L M i) (λr=>r.1=L.length/\qE g r.2/\r.2.clean=g.bM/\r.2.count=N):=by
 have fin: ∀(k:Nat) (i:Int) (M:dM),¬i<L.length->i<=L.length->Am g M->M.count+(L.length-i)=N->(∀s:Int,bK g.m.W g.m.H s->(rd M.parts s).version=fK g s∨ ∃j:Int,i<=j/\j<L.length/\rd L j=s)->Ok (nO.l0 (k+1) g L M i) (λr=>r.1=L.length/\qE g r.2/\r.2.clean=g.bM/\r.2.count=N):=λk i M hi dZ hM hN ha=>by
  rw[nO.l0,ah hi];have uJ: ∀s:Int,bK g.m.W g.m.H s->(rd M.parts s).version=fK g s:=λs hs=>(ha s hs).resolve_right λ⟨j,j0,j1,_⟩=>by omega
  refine Ok.eq (Ge g) (Ok.pure ⟨J,⟨⟨hM.len_,hM.le,hM.ok,λ_=>uJ,Int.le_refl _,hM.eV⟩,uJ⟩,J,?_⟩);simp only;omega
 intro n
 induction n with
 |zero=>
  intro k i M hn hk hi dZ hM hN ha SU;obtain⟨k,rfl⟩:=bl hk;exact fin k i M U dZ hM hN ha
 |succ n ih=>
  intro k i M hn hk hi dZ hM hN ha SU;obtain⟨k,rfl⟩:=bl hk
  by_cases aS:i<L.length
  ·have hs:=hL _ (dU hi aS);have hc:=hM.eV;rw[nO.l0,wi (x:=i+1) U U];refine Ok.pos aS (Ok.cx ⟨hi,aS⟩ ((agz h hs M).bind λp hp=>Ok.cx (by rw[hM.len_];exact hs) (Ok.eq (zV hc.1 U U U) ?_)))
   have dS: ∀s:Int,0<=s->rd (List.set M.parts (rd L i).toNat p) s=if s=rd L i then p else rd M.parts s:=λs s0=>lB hs.1 (by rw[hM.len_];exact hs.2) s0
   refine ih k (i+1) _ U U U U ⟨by simpa using hM.len_,λs fT=>?_,λs fT e=>?_,λe s fT=>?_,hM.MH,by simp only;omega⟩ (by simp only;omega) (λs fT=>?_) SU
   ·rw[dS s fT.1];split
    ·rw[hp.1];exact hv _ hs
    ·exact hM.le s fT
   ·rw[dS s fT.1] at e⊢;split
    ·rename_i z;rw[z];exact hp.2
    ·rename_i z;rw[ah z] at e;exact hM.ok s fT e
   ·rw[dS s fT.1];split
    ·rename_i z;rw[z];exact hp.1
    ·exact hM.cl e s fT
   ·simp only;rw[dS s fT.1]
    by_cases z:s=rd L i
    ·rw[af z,z];exact .inl hp.1
    ·rw[ah z];rcases ha s fT with y |⟨j,j0,j1,y⟩
     ·exact .inl y
     ·refine .inr ⟨j,?_,j1,y⟩;have:j≠i:=λw=>z (by rw[<-y,w])
      omega
  ·exact fin k i M aS dZ hM hN ha
theorem ah6 (h:du g more) (hv: ∀s:Int,bK g.m.W g.m.H s->fK g s<=g.bM) (hM:Am g M) (hc:M.count+4096<=1000000000000):
 Ok (nO.f M g) (λr=>qE g r.2/\r.2.clean=g.bM/\r.2.count=M.count+(p7 g M M.parts.length).length):=by
 unfold nO.f;have hl:=hM.len_;have NY:=pn g.m.W g.m.H;have Cs:=MR g M M.parts.length;refine Ok.eq (abE h hM) ((ah7 h hv _ (λs hs=>?_) U (M.count+(p7 g M M.parts.length).length) (p7 g M M.parts.length).length fuel 0 M U (by rw[cI];omega) U U hM U (λs hs=>?_) U).mono λr hr=>hr.2)
 ·obtain⟨a,b,_⟩:=MS.1 hs;exact⟨a,by omega⟩
 ·by_cases z:(rd M.parts s).version=fK g s
  ·exact .inl z
  ·obtain⟨j,j0,j1,e⟩:=jL ((MS (n:=M.parts.length)).2 ⟨hs.1,by have:=hs.2;omega,z⟩)
   exact .inr ⟨j,j0,j1,e⟩
theorem agA (h:du g more) (hv: ∀s:Int,bK g.m.W g.m.H s->1<=fK g s): ∃M,r8.f g=some (some M)/\Am g M/\M.count=0/\M.clean=0/\ ∀s:Int,bK g.m.W g.m.H s->(rd M.parts s).version=0:=by
 unfold r8.f;have NY:=pn g.m.W g.m.H;have e:(bp g.m.W g.m.H).1*(bp g.m.W g.m.H).2=eh g.m.W g.m.H:=rfl;rw[Dv,aI,Fb,aI,e,wi U U,af U];have h0: ∀s:Int,bK g.m.W g.m.H s->(rd (List.replicate (eh g.m.W g.m.H).toNat (default:pC)) s).version=0:=λs hs=>by
  rw[wq hs.1 (by have:=hs.2;omega)];rfl
 have N5:=h.ep;refine⟨_,J,⟨by simp;omega,λs hs=>by simp only;rw[h0 s hs];omega,λs hs e=>?_,λe=>by simp only at e;omega,by simp only;omega,by simp⟩,J,J,h0⟩
 simp only at e;rw[h0 s hs] at e;have:=hv s hs;omega
section
variable {g : bC} {more : Int} {s : jD} {k : Int} {ord : List Int}
abbrev KF:Int:=104603678
abbrev CB:Int:=1000000000000
structure qD (c:fZ) (b:Int):Prop where
 re:0<=c.bA/\c.bA<=b
 se:0<=c.bB/\c.bB<=b
 bu:0<=c.bz/\c.bz<=b
 hi:0<=c.bw/\c.bw<=b
 st:0<=c.bF/\c.bF<=b
 ev:0<=c.bD/\c.bD<=b
theorem qD.mono {c:fZ} {b b':Int} (h:qD c b) (hb:b<=b'):qD c b':=by
 obtain⟨a1,a2,a3,a4,a5,a6⟩:=h;exact⟨by omega,by omega,by omega,by omega,by omega,by omega⟩
structure BW (g:bC) (s:jD) (k:Int) (ord:List Int):Prop where
 oI:rJ s.keys k ord
 fl:s.fields.length=s.keys.ak.length
 ok: ∀c:Int,0<=c->c<s.fields.length->cP g.m (rd s.keys.ak c).key.1/\bK g.m.W g.m.H (rd s.keys.ak c).key.2/\(rd s.fields c).version<=g.bM/\
  ((rd s.fields c).version=fK g (rd s.keys.ak c).key.2->(rd s.fields c).ua.length<=1000000/\uo (fN g.m (rd s.keys.ak c).key.2) (rd s.fields c).ua KF (rd s.fields c).field)
def Rn (s:jD) (a b v:Int) (l:List a_):Prop:= ∃c,cS s.keys.fj (a,b)=some c/\(rd s.fields c).version=v/\(rd s.fields c).ua=l
theorem V_ (f:fR) (h1:f.fc.length<=1000) (h2:f.bX.length<=1000):ub.f f=some f:=by
 unfold ub.f qw.f;rw[af bm,aI,af bm,aI]
 cases f;rfl
theorem K6 {c:Int} (h0:0<=c) (h1:c<=1000000000000):mN.f c=some (c+1):=by
 unfold mN.f;rw[zV h0 U U U];rfl
theorem abc (l:List a_) (hb:l.length<=1000000):sm.f l=some l:=by
 unfold sm.f;rw[af bm];rfl
theorem M7 (h:du g more) {b:Int} (hb:bK g.m.W g.m.H b) {l:List a_} {f:fR} (hf:uo (fN g.m b) l KF f):f.fc.length<=1000/\f.bX.length<=1000:=by
 have:=oS (Ie h hb).1;rw[hf.aQ.dl,hf.dl];omega
structure Qj (g:bC) (s:jD) (k:Int) (ord:List Int) (a b:Int) (l:List a_) (r:fR×Int×jD):Prop where
 code:r.2.1=0
 AG:uo (fN g.m b) l KF r.1
 sh: ∃c A B,BW g r.2.2 k (c::(A++B))/\(rd r.2.2.keys.ak c).key=(a,b)/\(ord=A++c::B∨ord=A++B)/\
  (∀d∈A++B,(rd r.2.2.keys.ak d).key=(rd s.keys.ak d).key/\rd r.2.2.fields d=rd s.fields d)/\
  (cS s.keys.fj (a,b)=some c∨(cS s.keys.fj (a,b)=none/\(ord=A++B∨(B=[]/\(s.keys.ak.length:Int)=k))))
 now:Rn r.2.2 a b (fK g b) l
 hit:Rn s a b (fK g b) l->r.2.2.count=⟨s.count.bA,s.count.bB,s.count.bz,s.count.bw+1,s.count.bF,s.count.bD⟩
 eV:r.2.2.count.bA=s.count.bA/\r.2.2.count.bB=s.count.bB/\s.count.bz<=r.2.2.count.bz/\s.count.bw<=r.2.2.count.bw/\r.2.2.count.bz+r.2.2.count.bw=s.count.bz+s.count.bw+1/\s.count.bF<=r.2.2.count.bF/\s.count.bD<=r.2.2.count.bD/\r.2.2.count.bF<=s.count.bF+1/\r.2.2.count.bD<=s.count.bD+1
theorem ai1 (h:du g more) (hv: ∀b:Int,bK g.m.W g.m.H b->fK g b<=g.bM) (hs:BW g s k ord) (hc:qD s.count CB) {a b:Int} (ha:cP g.m a) (hb:bK g.m.W g.m.H b) (l:List a_) (Km:l.length<=1000000) (hl: ∀x∈l,qG (fN g.m b) x/\x.Key+254*256<=KF):
 Ok (mM.f s a b (fK g b) (fN g.m b) l) (Qj g s k ord a b l):=by
 have ht:=Ie h hb;have Kk:=hs.oI.kb;have GF:=hs.oI.ln;obtain⟨c1,c2,c3,c4,c5,c6⟩:=hc;unfold mM.f;refine(Xq ht l Km).bind λm hm=>?_
 have:m=true:=hm.2 λx hx=>(hl x hx).1;subst this;refine Ok.neg bd ((ajT hs.oI a b).bind λv Oq=>?_);obtain⟨A,B,hL,y6⟩:=Oq;have hfl:=hs.fl;have qP:=(hL.mem v.1).1 (List.mem_cons_self ..);obtain⟨UO,UP⟩:v.1∉A/\v.1∉B:=by
  have:=(List.nodup_cons.1 hL.nd).1;simpa using this
 obtain⟨X,hX,S3,Cl⟩: ∃X,(if(v.1==(List.length s.fields:Int))=true then(if(List.length s.fields+1<=1099511627776) then(some (s.fields++[(qu.mk 0 [] (fR.mk [] []))])) else none) else(some s.fields))=some X/\X.length=v.2.2.2.ak.length/\ ∀d:Int,0<=d->d<s.fields.length->rd X d=rd s.fields d:=by
  rcases y6 with⟨_,_,_,Cz,h5,_⟩ |⟨_,_,_,_,h4,h5,_⟩ |⟨_,_,_,Cz,_,h4,h5,_⟩
  ·rw[ah bm];exact⟨_,J,by omega,λ_ _ _=>rfl⟩
  ·rw[af bm,af U];exact⟨_,J,by simp;omega,λd d0 d1=>zD d0 d1⟩
  ·rw[ah bm];exact⟨_,J,by omega,λ_ _ _=>rfl⟩
 rw[hX,aI];refine Ok.cx U ?_;have hKF:KF<=1100000000:=by decide
 have Cv:(rd v.2.2.2.ak v.1).key=(a,b):=by
  rcases y6 with⟨_,_,h3,_,_,h6⟩ |⟨_,_,_,_,_,_,_,h6⟩ |⟨_,_,_,_,_,_,_,_,h6⟩
  ·rw[h6 _ qP.1];exact((hs.oI.sl _ _).1 h3).2.2
  ·exact h6
  ·exact h6
 have N': ∀d∈A++B,0<=d/\d<s.fields.length/\(rd v.2.2.2.ak d).key=(rd s.keys.ak d).key:=λd hd=>by
  have uP:d≠v.1:=λz=>by rw[z] at hd;exact(List.mem_append.1 hd).elim UO UP
  have N2:d∈ord:=by
   rcases y6 with⟨_,_,_,e,_⟩ |⟨_,_,_,e,_⟩ |⟨_,_,_,e,_⟩<;>rw[e]
   ·rcases List.mem_append.1 hd with q |q
    ·exact List.mem_append_left _ q
    ·exact List.mem_append_right _ (List.mem_cons_of_mem _ q)
   ·exact hd
   ·rcases List.mem_append.1 hd with q |q
    ·exact List.mem_append_left _ q
    ·exact List.mem_append_right _ (List.mem_cons_of_mem _ q)
  have hr:=(hs.oI.mem d).1 N2;refine⟨hr.1,by omega,?_⟩
  rcases y6 with⟨_,_,_,_,_,h6⟩ |⟨_,_,_,_,_,_,h6,_⟩ |⟨_,_,_,_,_,_,_,h6,_⟩
  ·exact h6 d hr.1
  ·exact h6 d hr.1 hr.2
  ·exact h6 d hr.1 uP
 have UG:ord=A++v.1::B∨ord=A++B:=by
  rcases y6 with⟨_,_,_,e,_⟩ |⟨_,_,_,e,_⟩ |⟨_,_,_,e,_⟩
  ·exact .inl e
  ·exact .inr e
  ·exact .inl e
 have hold:cS s.keys.fj (a,b)=some v.1∨(cS s.keys.fj (a,b)=none/\(ord=A++B∨(B=[]/\(s.keys.ak.length:Int)=k))):=by
  rcases y6 with⟨_,_,h3,_⟩ |⟨_,_,h3,h4,_⟩ |⟨_,_,h3,_,h5,h6,_⟩
  ·exact .inl h3
  ·exact .inr ⟨h3,.inl h4⟩
  ·exact .inr ⟨h3,.inr ⟨h5,h6⟩⟩
 have hq:(if v.2.1=true then(if((rd X v.1).version==fK g b)=true then((Br.f ((rd X v.1).ua) l).bind λv7=>some v7) else(some false)) else(some false))=some (decide (v.2.1=true/\(rd X v.1).version=fK g b/\(rd X v.1).ua=l)):=by
  by_cases z:v.2.1=true
  ·rw[af z]
   by_cases y:(rd X v.1).version=fK g b
   ·rw[af (by simpa using y)]
    have hlen:(rd X v.1).ua.length<=1000000:=by
     rcases y6 with⟨_,_,h3,Cz,h5,h6⟩ |⟨h1,_⟩ |⟨h1,_⟩
     ·have aS:v.1<s.fields.length:=U;rw[Cl _ qP.1 aS] at y⊢;have:=(hs.ok _ qP.1 aS).2.2.2;rw[<-h6 _ qP.1,Cv] at this;exact(this y).1
     ·rw[h1] at z;simp at z
     ·rw[h1] at z;simp at z
    rw[ajj _ _ hlen];simp[z,y]
   ·rw[ah (by simpa using y)];simp[y]
  ·rw[ah z];simp[z]
 rw[hq,aI];refine Ok.ite (λq=>?_) λq=>?_
 ·obtain⟨q1,q2,q3⟩:=of_decide_eq_true q;rcases y6 with⟨h1,h2,h3,Cz,h5,h6⟩ |⟨h1,_⟩ |⟨h1,_⟩
  rotate_left
  ·rw[h1] at q1;simp at q1
  ·rw[h1] at q1;simp at q1
  have aS:v.1<s.fields.length:=U;have Ut:uo (fN g.m b) l KF (rd X v.1).field:=by
   have:=(hs.ok _ qP.1 aS).2.2.2;rw[<-h6 _ qP.1,Cv] at this;rw[Cl _ qP.1 aS] at q2 q3⊢;have:=(this q2).2;rw[q3] at this;exact this
  have hlen:=M7 h hb Ut;refine Ok.eq (K6 c4.1 c4.2) (Ok.eq (V_ _ hlen.1 hlen.2) (Ok.pure ⟨J,Ut,⟨v.1,A,B,⟨hL,S3,λd d0 d1=>?_⟩,Cv,UG,λd hd=>?_,hold⟩,⟨v.1,(hL.sl _ _).2 ⟨qP.1,qP.2,Cv⟩,q2,q3⟩,λ_=>rfl,⟨J,J,Int.le_refl _,by show s.count.bw<=s.count.bw+1;omega,by show s.count.bz+(s.count.bw+1)=s.count.bz+s.count.bw+1;omega,Int.le_refl _,Int.le_refl _,by show s.count.bF<=s.count.bF+1;omega,by show s.count.bD<=s.count.bD+1;omega⟩⟩))
  ·simp only at d1⊢;have Ul:d<s.fields.length:=U;rw[h6 d d0,Cl d d0 Ul];exact hs.ok d d0 Ul
  ·obtain⟨e0,e1,e2⟩:=N' d hd;exact⟨e2,Cl d e0 e1⟩
 ·have nJ: ∃S,(if v.2.1=true then((mN.f s.count.bF).bind λv12=>some v12) else(some s.count.bF))=some S/\s.count.bF<=S/\S<=s.count.bF+1:=by
   split
   ·rw[K6 c5.1 c5.2];exact⟨_,J,by omega,Int.le_refl _⟩
   ·exact⟨_,J,Int.le_refl _,by omega⟩
  have hev: ∃S,(if v.2.2.1=true then((mN.f s.count.bD).bind λv12=>some v12) else(some s.count.bD))=some S/\s.count.bD<=S/\S<=s.count.bD+1:=by
   split
   ·rw[K6 c6.1 c6.2];exact⟨_,J,by omega,Int.le_refl _⟩
   ·exact⟨_,J,Int.le_refl _,by omega⟩
  obtain⟨S,eS,S1,S2⟩:=nJ;obtain⟨E,eE,E1,E2⟩:=hev;rw[eS,aI,eE,aI,K6 c3.1 c3.2,aI];refine(abY ht Km hKF hl).bind λf hf=>Ok.eq (abc l Km) (Ok.eq (V_ _ (M7 h hb hf.2).1 (M7 h hb hf.2).2) (Ok.pure ?_));have dS: ∀d:Int,0<=d->rd (List.set X (Int.toNat v.1) (qu.mk (fK g b) l f.1)) d=if d=v.1 then qu.mk (fK g b) l f.1 else rd X d:=λd d0=>lB qP.1 U d0
  refine⟨rfl,hf.2,⟨v.1,A,B,⟨hL,by simpa using S3,λd d0 d1=>?_⟩,Cv,UG,λd hd=>?_,hold⟩,⟨v.1,(hL.sl _ _).2 ⟨qP.1,qP.2,Cv⟩,?_,?_⟩,λ⟨c,k1,k2,k3⟩=>?_,⟨rfl,rfl,by show s.count.bz<=s.count.bz+1;omega,Int.le_refl _,by show s.count.bz+1+s.count.bw=s.count.bz+s.count.bw+1;omega,S1,E1,S2,E2⟩⟩
  ·simp only[List.length_set] at d1⊢;rw[dS d d0]
   by_cases z:d=v.1
   ·rw[af z,z,Cv];exact⟨ha,hb,hv b hb,λ_=>⟨Km,hf.2⟩⟩
   ·rw[ah z];have N2:d∈A++B:=by
     have:=(hL.mem d).2 ⟨d0,by omega⟩
     exact(List.mem_cons.1 this).resolve_left z
    obtain⟨e0,e1,e2⟩:=N' d N2;rw[e2,Cl d e0 e1];exact hs.ok d e0 e1
  ·obtain⟨e0,e1,e2⟩:=N' d hd;have uP:d≠v.1:=λz=>by rw[z] at hd;exact(List.mem_append.1 hd).elim UO UP
   refine⟨e2,?_⟩;simp only;rw[dS d e0,ah uP];exact Cl d e0 e1
  ·simp only;rw[dS _ qP.1,af J]
  ·simp only;rw[dS _ qP.1,af J]
  ·exfalso;rcases y6 with⟨h1,h2,h3,Cz,h5,h6⟩ |⟨_,_,h3,_⟩ |⟨_,_,h3,_⟩
   ·rw[h3] at k1;simp only[Option.some.injEq] at k1;subst k1;have aS:v.1<s.fields.length:=U;have q: ¬(v.2.1=true/\(rd X v.1).version=fK g b/\(rd X v.1).ua=l):=by simpa using q
    rw[Cl _ qP.1 aS] at q;exact q ⟨h1,k2,k3⟩
   ·rw[h3] at k1;simp at k1
   ·rw[h3] at k1;simp at k1
theorem ai9 {k:Int} (h1:1<=k) (h2:k<=1000000): ∃s,ya.f k=some (some s)/\rJ s.keys k []/\s.fields=[]/\s.count=⟨0,0,0,0,0,0⟩:=by
 obtain⟨l,e,hl⟩:=agd h1 h2;unfold ya.f;rw[ah U,e];exact⟨_,J,hl,J,J⟩
theorem Sj (h:rJ s.keys k ord): ∃s',pO.f s=some s'/\rJ s'.keys k []/\s'.fields=[]/\s'.count=s.count:=by
 obtain⟨l,e,hl⟩:=aba h;unfold pO.f;rw[e];exact⟨_,J,hl,J,J⟩
theorem BW.empty (g:bC) (h:rJ s.keys k []) (hf:s.fields=[]):BW g s k []:=by
 have hl:s.keys.ak.length=0:=by
  apply Classical.byContradiction;intro z;have:=(h.mem 0).2 U;simp at this
 exact⟨h,by rw[hf,hl];rfl,λc c0 c1=>by rw[hf] at c1;simp at c1;omega⟩
end
variable {g : bC} {more : Int} {M : dM}
theorem agb (x y:Int):cmp_Less_int.f x y=some (decide (x<y)):=by
 unfold cmp_Less_int.f cmp_isNaN_int.f;simp
theorem aaB (x:List Int) (t:Int) (hx:x.Pairwise (· < ·)) (hb:x.length<=1000000): ∀(n k:Nat) (i j:Int),(j-i).toNat<=n->n<k->0<=i->i<=j->j<=x.length->(∀c:Int,0<=c->c<i->rd x c<t)->(∀c:Int,j<=c->c<x.length->t<=rd x c)->
 Ok (oR.l0 k x t i j) (λr=>0<=r/\r<=x.length/\(∀c:Int,0<=c->c<r->rd x c<t)/\(∀c:Int,r<=c->c<x.length->t<=rd x c)):=by
 have fin: ∀(k:Nat) (i j:Int),¬i<j->0<=i->i<=j->j<=x.length->(∀c:Int,0<=c->c<i->rd x c<t)->(∀c:Int,j<=c->c<x.length->t<=rd x c)->Ok (oR.l0 (k+1) x t i j) (λr=>0<=r/\r<=x.length/\(∀c:Int,0<=c->c<r->rd x c<t)/\(∀c:Int,r<=c->c<x.length->t<=rd x c)):=λk i j rW h0 h1 h2 ha hb=>by
  rw[oR.l0,ah rW];exact Ok.pure ⟨h0,by omega,ha,λc c0 c1=>hb c U c1⟩
 intro n
 induction n with
 |zero=>
  intro k i j hn hk h0 h1 h2 ha hb;obtain⟨k,rfl⟩:=bl hk;exact fin k i j U h0 h1 h2 ha hb
 |succ n ih=>
  intro k i j hn hk h0 h1 h2 ha hb;obtain⟨k,rfl⟩:=bl hk
  by_cases aS:i<j
  ·have e:aa (Int.fdiv (eQ (aa (i+j))) (2^1))=(i+j)/2:=by
    rw[wi (x:=i+j) U U,rB U U,Int.fdiv_eq_ediv_of_nonneg _ (by decide),show(2:Int)^1=2 from rfl,wi U U]
   rw[oR.l0,e,wi (x:=(i+j)/2+1) U U];refine Ok.pos aS (Ok.cx U (Ok.eq (agb ..) (Ok.ite (λq=>?_) λq=>?_)))
   ·have q:=of_decide_eq_true q;refine ih k _ j U U U U h2 (λc c0 c1=>?_) hb
    by_cases z:c=(i+j)/2
    ·rw[z];exact q
    ·have:=va hx (i:=c) (j:=(i+j)/2) c0 U U;omega
   ·have q: ¬rd x ((i+j)/2)<t:=by simpa using q
    refine ih k i _ U U h0 U U ha (λc c0 c1=>?_)
    by_cases z:c=(i+j)/2
    ·rw[z];omega
    ·have:=va hx (i:=(i+j)/2) (j:=c) U U c1;omega
  ·exact fin k i j aS h0 h1 h2 ha hb
theorem aaA (x:List Int) (t:Int) (hx:x.Pairwise (· < ·)) (hb:x.length<=1000000):Ok (oR.f x t) (λr=>(r.2=true↔t∈x)/\(r.2=true->0<=r.1/\r.1<x.length/\rd x r.1=t)):=by
 unfold oR.f Bu.f;refine(aaB x t hx hb x.length fuel 0 x.length U (by rw[cI];omega) U U U (λc c0 c1=>by omega) (λc c0 c1=>by omega)).bind λr hr=>?_
 obtain⟨r0,r1,r2,r3⟩:=hr;have gO:(r<x.length->rd x r≠t)->t∉x:=λh hm=>by
  obtain⟨c,c0,c1,e⟩:=jL hm;rcases Int.lt_trichotomy c r with q |q |q
  ·have:=r2 c c0 q;omega
  ·subst q;exact h c1 e
  ·have:=va hx r0 q c1;have:=r3 r U U;omega
 by_cases h1:r<x.length
 ·rw[af h1,af ⟨r0,h1⟩]
  by_cases h2:rd x r=t
  ·rw[af (by simpa using h2)]
   exact Ok.pure ⟨⟨λ_=>by rw[<-h2];exact dU r0 h1,λ_=>rfl⟩,λ_=>⟨r0,h1,h2⟩⟩
  ·rw[ah (by simpa using h2)]
   have:=gO λ_=>h2
   simp only[aI,bne_self_eq_false,Bool.false_eq_true,if_false];exact Ok.pure ⟨by simpa using this,by simp⟩
 ·rw[ah h1];have:=gO λq=>absurd q h1
  exact Ok.pure ⟨by simpa using this,by simp⟩
def node (m:aL) (c:Int):Prop:=c∈bL m (aY m.W m.H c)
theorem C7 {m:aL} {c:Int} (h:node m c):mg m c=true/\cP m c:=⟨(u9 h).1,(u9 h).2.1⟩
theorem K3 {m:aL} {s c:Int} (h:c∈bL m s):node m c:=by
 unfold node;rw[(u9 h).2.2.2];exact h
theorem Sf (h:du g more) (hF:qE g M) (c:Int):Ok (tq.f M c g) (λr=>(¬bZ g.m.W g.m.H c/\r=(none,0,false))∨(bZ g.m.W g.m.H c/\r.1=some (aY g.m.W g.m.H c)/\(r.2.2=true↔node g.m c)/\(r.2.2=true->0<=r.2.1/\r.2.1<(bL g.m (aY g.m.W g.m.H c)).length/\rd (bL g.m (aY g.m.W g.m.H c)) r.2.1=c))):=by
 unfold tq.f EM.f;refine Ok.eq (Dv g) (Ok.eq (tY ..) (Ok.ite (λq=>Ok.pure (.inl ⟨zP.1 q,J⟩)) λq=>?_));have hc:bZ g.m.W g.m.H c:=Classical.byContradiction λz=>q (zP.2 z);have hs:=tZ hc;have hp:=hF.part hs;refine Ok.cx (by rw[hF.ms.len_];exact hs) ?_
 rw[hp.nodes];refine Ok.bind (Ok.bind (aaA _ c (Pa ..) (by have:=wj g.m (aY g.m.W g.m.H c);omega)) λr hr=>Ok.pure (P:=λr:Int×Bool=>(r.2=true↔node g.m c)/\(r.2=true->0<=r.1/\r.1<(bL g.m (aY g.m.W g.m.H c)).length/\rd (bL g.m (aY g.m.W g.m.H c)) r.1=c)) hr) λr hr=>Ok.pure (.inr ⟨hc,J,hr⟩)
theorem ag9 (hF:qE g M) (s:Int) (hs:bK g.m.W g.m.H s):xJ.f M s g=some (bL g.m s):=by
 have hp:=hF.part hs;have hl:=wj g.m s;unfold xJ.f qw.f;have:=hs.1;have:=hs.2;rw[hF.ms.len_,ah U,hp.nodes];simp only[aI];rw[ah bm,af hs,af bm];rfl
def Comes (m:aL) (b:Int) (e:eB):Prop:=
 (e.To∈bL m (aY m.W m.H b)/\e.To≠b/\e.kS≠cN/\ ∃D,FH (fN m (aY m.W m.H b)) (dC m.W m.H b) D/\e.kS=rd D (dC m.W m.H e.To))∨
 (node m e.To/\aY m.W m.H e.To≠aY m.W m.H b/\(∃d:Int,0<=d/\d<=3/\e.To=cH m.W m.H b d)/\e.kS=rd m.C b)
theorem abP {d:Int} (h:d=cN∨(0<=d/\d<=KT)):(if(enc d != -1)=true then some (aa (enc d)) else some 1099511627776)=some d:=by
 have hI:cN=1099511627776:=rfl;have hK:KT=65024:=rfl;unfold enc
 by_cases z:d=cN
 ·simp[z]
 ·have:=h.resolve_left z;rw[ah z,af bm,wi U U]
theorem afs (h:du g more) (hF:qE g M) {b:Int} (hb:node g.m b) (v:Option Int×Int×Bool) (hv:0<=v.2.1/\v.2.1<(bL g.m (aY g.m.W g.m.H b)).length/\rd (bL g.m (aY g.m.W g.m.H b)) v.2.1=b)
 (Q:List eB->Prop) (Eu: ∀x:List eB,x.length<=256->(∀e,e∈x↔Comes g.m b e/\aY g.m.W g.m.H e.To=aY g.m.W g.m.H b)->Ok (hJ.l1 fuel M b g (aY g.m.W g.m.H b) (g.m.W,g.m.H) x 0) Q):
 ∀(n k:Nat) (i:Int) (x:List eB),((bL g.m (aY g.m.W g.m.H b)).length-i).toNat<=n->n<k->0<=i->i<=(bL g.m (aY g.m.W g.m.H b)).length->x.length<=i->
 (∀e,e∈x↔Comes g.m b e/\aY g.m.W g.m.H e.To=aY g.m.W g.m.H b/\ ∃j:Int,0<=j/\j<i/\rd (bL g.m (aY g.m.W g.m.H b)) j=e.To)->
 Ok (hJ.l0 k M b g v (aY g.m.W g.m.H b) x i) Q:=by
 have cu:=(C7 hb).2;have hs:=tZ (nK h.ok cu);have hp:=hF.part hs;have hN:=wj g.m (aY g.m.W g.m.H b);have Cw:=KQ h hs;have hI:cN=1099511627776:=rfl;have Np:KT=65024:=rfl;generalize hS:aY g.m.W g.m.H b=s at*;have UJ:=Pa g.m s;have fin: ∀(k:Nat) (i:Int) (x:List eB),¬i<(bL g.m s).length->i<=(bL g.m s).length->x.length<=i->(∀e,e∈x↔Comes g.m b e/\aY g.m.W g.m.H e.To=s/\ ∃j:Int,0<=j/\j<i/\rd (bL g.m s) j=e.To)->Ok (hJ.l0 (k+1) M b g v s x i) Q:=λk i x hi dZ hx he=>by
  rw[hJ.l0,hp.nodes,ah hi];refine Ok.eq (Dv g) (Eu x U λe=>(he e).trans ⟨λq=>⟨q.1,q.2.1⟩,λq=>⟨q.1,q.2,?_⟩⟩);rcases q.1 with⟨y,_⟩ |⟨_,y,_⟩
  ·rw[hS] at y;obtain⟨j,j0,j1,z⟩:=jL y;exact⟨j,j0,by omega,z⟩
  ·rw[hS] at y;exact absurd q.2 y
 intro n
 induction n with
 |zero=>
  intro k i x hn hk hi dZ hx he;obtain⟨k,rfl⟩:=bl hk;exact fin k i x U dZ hx he
 |succ n ih=>
  intro k i x hn hk hi dZ hx he;obtain⟨k,rfl⟩:=bl hk
  by_cases aS:i<(bL g.m s).length
  ·obtain⟨D,d1,d2⟩:=hp.RF v.2.1 hv.1 hv.2.1;rw[hv.2.2] at d1;have akv:=G5 hi aS hv.1 hv.2.1;have AW:((bL g.m s).length:Int)*(bL g.m s).length<=256*256:=ka U U U U;have Oi:=dU hi aS;have ju:=Cw.mem _ (List.mem_map_of_mem Oi);have hd:rd D (dC g.m.W g.m.H (rd (bL g.m s) i))=cN∨(0<=rd D (dC g.m.W g.m.H (rd (bL g.m s) i))/\rd D (dC g.m.W g.m.H (rd (bL g.m s) i))<=KT):=by
    by_cases z:rd D (dC g.m.W g.m.H (rd (bL g.m s) i))=cN
    ·exact .inl z
    ·have:=d1.dv _ ju.1 ju.2.1 z;exact .inr ⟨this.1,this.2.1⟩
   have eb:CV.f (rd M.parts s) i v.2.1=some (rd D (dC g.m.W g.m.H (rd (bL g.m s) i))):=by
    unfold CV.f;rw[hp.nodes,wi (x:=i*((bL g.m s).length:Int)) U U,wi U U,af (by rw[hp.len_];omega),d2 i hi aS]
    exact abP hd
   rw[hJ.l0,hp.nodes,af aS,af (c:=0<=i/\i<_) ⟨hi,aS⟩,eb,aI,wi U U];have bQ:(i≠v.2.1)↔rd (bL g.m s) i≠b:=by
    constructor
    ·intro z y;rw[<-hv.2.2] at y;rcases Int.lt_or_gt_of_ne z with w |w
     ·have:=va UJ hi w hv.2.1;omega
     ·have:=va UJ hv.1 w aS;omega
    ·intro z y;rw[y] at z;exact z hv.2.2
   have zg:aY g.m.W g.m.H (rd (bL g.m s) i)=s:=(u9 Oi).2.2.2;generalize hV:rd D (dC g.m.W g.m.H (rd (bL g.m s) i))=V at*;have AO: ∀e:eB,e.To=rd (bL g.m s) i->(Comes g.m b e↔i≠v.2.1/\V≠cN/\e=⟨rd (bL g.m s) i,V⟩):=λe ee=>by
    obtain⟨a,c⟩:=e;simp only at ee;subst ee;unfold Comes;rw[hS];constructor
    ·rintro(⟨_,z2,z3,E,z4,z5⟩ |⟨_,z2,_⟩)
     ·have:=Xv Cw.DE z4 d1 ju.1 ju.2.1;simp only at z2 z3 z5;rw[this,hV] at z5;exact⟨bQ.2 z2,by omega,by rw[z5]⟩
     ·exact absurd zg z2
    ·rintro⟨z1,z2,z3⟩;simp only[eB.mk.injEq,true_and] at z3;subst z3;exact .inl ⟨Oi,bQ.1 z1,z2,D,d1,hV.symm⟩
   have xA: ∀e:eB,(Comes g.m b e/\aY g.m.W g.m.H e.To=s/\ ∃j:Int,0<=j/\j<i+1/\rd (bL g.m s) j=e.To)↔(e∈x∨(i≠v.2.1/\V≠cN/\e=⟨rd (bL g.m s) i,V⟩)):=λe=>by
    rw[he e];constructor
    ·rintro⟨a,b',j,j0,j1,ej⟩
     by_cases z:j=i
     ·subst z;exact .inr ((AO e ej.symm).1 a)
     ·exact .inl ⟨a,b',j,j0,by omega,ej⟩
    ·rintro(⟨a,b',j,j0,j1,ej⟩ |w)
     ·exact⟨a,b',j,j0,by omega,ej⟩
     ·have ee:e.To=rd (bL g.m s) i:=by rw[w.2.2]
      exact⟨(AO e ee).2 w,by rw[ee];exact zg,i,hi,by omega,ee.symm⟩
   by_cases q:i≠v.2.1/\V≠cN
   ·rw[af (by simp;exact q),af U]
    refine Ok.eq J (ih k (i+1) _ U U U U bm λe=>?_);rw[xA e];simp[q.1,q.2]
   ·rw[ah (by simp only[Bool.and_eq_true,bne_iff_ne];exact q)]
    refine Ok.eq J (ih k (i+1) x U U U U U λe=>?_);rw[xA e];exact⟨.inl,λw=>w.resolve_right λy=>q ⟨y.1,y.2.1⟩⟩
  ·exact fin k i x aS dZ hx he
theorem aft (h:du g more) (hF:qE g M) {b:Int} (hb:node g.m b): ∀(n k:Nat) (j:Int) (x:List eB),(4-j).toNat<=n->n<k->0<=j->j<=4->x.length<=256+j->
 (∀e,e∈x↔Comes g.m b e/\(aY g.m.W g.m.H e.To=aY g.m.W g.m.H b∨ ∃d:Int,0<=d/\d<j/\e.To=cH g.m.W g.m.H b d))->
 Ok (hJ.l1 k M b g (aY g.m.W g.m.H b) (g.m.W,g.m.H) x j) (λr=>r.length<=260/\ ∀e,e∈r↔Comes g.m b e):=by
 have fin: ∀(k:Nat) (j:Int) (x:List eB),¬j<=3->x.length<=256+j->j<=4->(∀e,e∈x↔Comes g.m b e/\(aY g.m.W g.m.H e.To=aY g.m.W g.m.H b∨ ∃d:Int,0<=d/\d<j/\e.To=cH g.m.W g.m.H b d))->Ok (hJ.l1 (k+1) M b g (aY g.m.W g.m.H b) (g.m.W,g.m.H) x j) (λr=>r.length<=260/\ ∀e,e∈r↔Comes g.m b e):=λk j x hj hx iY he=>by
  rw[hJ.l1,ah hj];refine Ok.pure ⟨by omega,λe=>(he e).trans ⟨λq=>q.1,λq=>⟨q,?_⟩⟩⟩
  rcases q with⟨y,_⟩ |⟨_,_,⟨d,d0,d3,y⟩,_⟩
  ·exact .inl (u9 y).2.2.2
  ·exact .inr ⟨d,d0,by omega,y⟩
 intro n
 induction n with
 |zero=>
  intro k j x hn hk hj iY hx he;obtain⟨k,rfl⟩:=bl hk;exact fin k j x U hx iY he
 |succ n ih=>
  intro k j x hn hk hj iY hx he;obtain⟨k,rfl⟩:=bl hk
  by_cases aS:j<=3
  ·rw[hJ.l1,wi (x:=j+1) U U];have cu:=(C7 hb).2;have Eo:fB g b=rd g.m.C b:=by unfold fB;rw[af cu]
   have xA: ∀(P:Prop),(P↔node g.m (cH g.m.W g.m.H b j)/\aY g.m.W g.m.H (cH g.m.W g.m.H b j)≠aY g.m.W g.m.H b)-> ∀e:eB,(Comes g.m b e/\(aY g.m.W g.m.H e.To=aY g.m.W g.m.H b∨ ∃d:Int,0<=d/\d<j+1/\e.To=cH g.m.W g.m.H b d))↔(e∈x∨(P/\e=⟨cH g.m.W g.m.H b j,fB g b⟩)):=λP hP e=>by
    rw[he e];constructor
    ·rintro⟨a,c |⟨d,d0,d1,c⟩⟩
     ·exact .inl ⟨a,.inl c⟩
     ·by_cases z:d=j
      ·subst z;rcases a with⟨y1,y2⟩ |⟨y1,y2,y3,y4⟩
       ·exact .inl ⟨.inl ⟨y1,y2⟩,.inl (u9 y1).2.2.2⟩
       ·obtain⟨e1,e2⟩:=e;simp only at c y1 y2 y4;rw[c] at y1 y2;exact .inr ⟨hP.2 ⟨y1,y2⟩,by rw[c,y4,Eo]⟩
      ·exact .inl ⟨a,.inr ⟨d,d0,by omega,c⟩⟩
    ·rintro(⟨a,c |⟨d,d0,d1,c⟩⟩ |⟨p,rfl⟩)
     ·exact⟨a,.inl c⟩
     ·exact⟨a,.inr ⟨d,d0,by omega,c⟩⟩
     ·obtain⟨y1,y2⟩:=hP.1 p;exact⟨.inr ⟨y1,y2,⟨j,hj,aS,J⟩,Eo⟩,.inr ⟨j,hj,by omega,J⟩⟩
   have skip: ¬(node g.m (cH g.m.W g.m.H b j)/\aY g.m.W g.m.H (cH g.m.W g.m.H b j)≠aY g.m.W g.m.H b)->Ok (hJ.l1 k M b g (aY g.m.W g.m.H b) (g.m.W,g.m.H) x (j+1)) (λr=>r.length<=260/\ ∀e,e∈r↔Comes g.m b e):=λz=>by
    refine ih k (j+1) x U U U U U λe=>?_
    rw[xA False ⟨False.elim,z⟩ e];simp
   refine Ok.pos aS (Ok.eq (Ir ..) ((Sf h hF _).bind λr hr=>?_));rcases hr with⟨r1,rfl⟩ |⟨r1,r2,r3,r4⟩
   ·exact skip λz=>r1 (nK h.ok (C7 z.1).2)
   ·rw[r2]
    show Ok (if r.2.2=true then _ else _) _
    refine Ok.ite (λq=>Ok.ite (λq'=>Ok.eq (vz h _) (Ok.cx U ?_)) λq'=>?_) λq=>?_
    ·have q':aY g.m.W g.m.H (cH g.m.W g.m.H b j)≠aY g.m.W g.m.H b:=by simpa using q'
     refine ih k (j+1) _ U U U U bm λe=>?_
     rw[xA True ⟨λ_=>⟨r3.1 q,q'⟩,λ_=>trivial⟩ e];simp
    ·exact skip λz=>z.2 (by simpa using q')
    ·exact skip λz=>q (r3.2 z.1)
  ·exact fin k j x aS hx iY he
theorem afr (h:du g more) (hF:qE g M) (b:Int):Ok (hJ.f M b g) (λr=>r.length<=260/\((node g.m b/\ ∀e,e∈r↔Comes g.m b e)∨(¬node g.m b/\r=[]))):=by
 unfold hJ.f;refine(Sf h hF b).bind λr hr=>?_
 rcases hr with⟨r1,rfl⟩ |⟨r1,r2,r3,r4⟩
 ·exact Ok.of (r:=[]) J (⟨by simp,.inr ⟨λz=>r1 (nK h.ok (C7 z).2),J⟩⟩)
 ·rw[r2]
  show Ok (if(!r.2.2)=true then some [] else _) (λr=>r.length<=260/\((node g.m b/\ ∀e,e∈r↔Comes g.m b e)∨(¬node g.m b/\r=[])))
  by_cases q:r.2.2=true
  rotate_left
  ·refine Ok.pos (by simpa using q) (Ok.pure ⟨by simp,.inr ⟨λz=>q (r3.2 z),J⟩⟩)
  refine Ok.neg (by simp[q]) ?_
  have q:r.2.2=true:=by simpa using q
  have hb:=r3.1 q;have hs:=tZ r1;have hp:=hF.part hs;have hN:=wj g.m (aY g.m.W g.m.H b);refine Ok.cx (by rw[hp.nodes,wi U U];omega) ((afs h hF hb r (r4 q) (λr=>r.length<=260/\ ∀e,e∈r↔Comes g.m b e) (λx hx he=>aft h hF hb 4 fuel 0 x bd (by rw[cI];omega) U U U λe=>(he e).trans ⟨λq=>⟨q.1,.inl q.2⟩,λq=>⟨q.1,q.2.resolve_right λ⟨d,d0,d1,_⟩=>by omega⟩⟩) 256 fuel 0 _ U (by rw[cI];omega) U U bd (λe=>⟨λq=>by simp at q,λ⟨_,_,j,j0,j1,_⟩=>by omega⟩)).mono λr hr=>⟨hr.1,.inl ⟨hb,hr.2⟩⟩)
theorem F7 (h:du g more) {b:Int} (hb:node g.m b) {e:eB} (he:Comes g.m b e):node g.m e.To/\e.To≠b/\1<=e.kS/\e.kS<=KT:=by
 have Np:KT=65024:=rfl;have cu:=C7 hb;have hs:=tZ (nK h.ok cu.2);rcases he with⟨a1,a2,a3,D,a4,a5⟩ |⟨a1,a2,a3,a4⟩
 ·have Cw:=KQ h hs;have hm:=Cw.mem _ (List.mem_map_of_mem (f:=dC g.m.W g.m.H) a1);have hd:=a4.dv _ hm.1 hm.2.1 (by rw[<-a5];exact a3)
  refine⟨K3 a1,a2,?_,by omega⟩
  apply Classical.byContradiction;intro z;obtain⟨x,hx,e1,_⟩:=ajf Cw.DE a4 hm.1 hm.2.1 U;simp only[List.mem_cons,List.not_mem_nil,or_false] at hx;subst hx;have hE:=u9 a1;rcases Int.lt_or_gt_of_ne a2 with w |w
  ·have:=OM (nK h.ok hE.2.1) (nK h.ok cu.2) hE.2.2.2 w;simp only at e1;omega
  ·have:=OM (nK h.ok cu.2) (nK h.ok hE.2.1) hE.2.2.2.symm w;simp only at e1;omega
 ·have:=h.sP b cu.2.1 cu.2.2;exact⟨a1,λz=>a2 (by rw[z]),by omega,by omega⟩
def RZ (a b:dL):Bool:=decide (a.key<b.key)||(a.key==b.key&&decide (a.item<b.item))
theorem R0 (a b:dL):y_.f a b=some (RZ a b):=by
 unfold y_.f RZ
 by_cases h:a.key<b.key
 ·simp[h]
 ·by_cases g:a.key=b.key<;>simp[h,g]
theorem ajR: ∀(n k:Nat) (l:List dL) (i:Int),i.toNat<=n->n<k->i<l.length->l.length<=1099511627776->
 Ok (pw.l0 k l i) (λh=>h.l.length=l.length/\ ∀e,e∈h.l↔e∈l):=by
 intro n
 induction n with
 |zero=>
  intro k l i hn hk hi hb;obtain⟨k,rfl⟩: ∃q,k=q+1:=⟨k-1,by omega⟩
  rw[pw.l0,ah U];exact Ok.pure ⟨J,λ_=>Iff.rfl⟩
 |succ n ih=>
  intro k l i hn hk hi hb;obtain⟨k,rfl⟩: ∃q,k=q+1:=⟨k-1,by omega⟩
  rw[pw.l0];refine Ok.ite (λhp=>?_) (λ_=>Ok.pure ⟨J,λ_=>Iff.rfl⟩);have ew:aa (Int.tdiv (aa (i-1)) 2)=(i-1)/2:=by rw[wi (x:=i-1) U U,ru U,wi U U]
  simp only[ew];refine Ok.cx U (Ok.cx U (Ok.eq (R0 _ _) (Ok.ite (λ_=>Ok.pure ⟨J,λ_=>Iff.rfl⟩) λ_=>Ok.cx bm ?_)));refine(ih k _ ((i-1)/2) U U bm (by simpa using hb)).mono λh hh=>⟨by simpa using hh.1,λe=>(hh.2 e).trans (P1 U hi U U e)⟩
theorem Lc (h:e_) (k i:Int) (hb:h.l.length<1099511627776):
 Ok (nG.f h k i) (λr=>r.l.length=h.l.length+1/\ ∀e,e∈r.l↔e∈h.l∨e=⟨k,i⟩):=by
 unfold nG.f pw.f;refine Ok.cx U ((ajR h.l.length fuel _ _ ?_ (by rw[cI];omega) ?_ bm).bind λr hr=>Ok.pure ⟨by simpa using hr.1,λe=>by rw[hr.2 e];simp⟩)
 ·simp only[List.length_append,List.length_cons,List.length_nil];rw[wi U U];omega
 ·simp only[List.length_append,List.length_cons,List.length_nil];rw[wi U U];omega
theorem abJ: ∀(n k:Nat) (l:List dL) (i m j:Int),(2*i+3-j).toNat<=n->n<k->0<=i->i<l.length->(m=i∨i<m)->m<l.length->i<j->l.length<=1099511627776->
 Ok (jt.l1 k l i m j) (λr=>r=Sum.inl ⟨l⟩∨ ∃l' m',r=Sum.inr (l',m')/\l'.length=l.length/\(∀e,e∈l'↔e∈l)/\i<m'/\m'<l.length):=by
 intro n
 induction n with
 |zero=>
  intro k l i m j hn hk i0 i1 hm m1 hj hb;obtain⟨k,rfl⟩: ∃q,k=q+1:=⟨k-1,by omega⟩
  rw[jt.l1,wi (x:=2*i) U U,wi (x:=2*i+2) U U,ah U];simp only[aI,Bool.false_eq_true,if_false];refine Ok.ite (λ_=>Ok.pure (.inl J)) λq=>Ok.cx U (Ok.cx U (Ok.cx bm (Ok.pure (.inr ⟨_,_,J,by simp,λe=>P1 i0 i1 U m1 e,?_,m1⟩))))
  have:m≠i:=λz=>q (by simp[z])
  omega
 |succ n ih=>
  intro k l i m j hn hk i0 i1 hm m1 hj hb;obtain⟨k,rfl⟩: ∃q,k=q+1:=⟨k-1,by omega⟩
  rw[jt.l1,wi (x:=2*i) U U,wi (x:=2*i+2) U U];have hx:(if j<=2*i+2 then some (decide (j<(l.length:Int))) else some false)=some (decide (j<=2*i+2/\j<l.length)):=by
   by_cases a:j<=2*i+2<;>simp[a]
  rw[hx];simp only[aI];refine Ok.ite (λq=>?_) λq=>?_
  ·have q':=of_decide_eq_true q;refine Ok.cx U (Ok.cx U (Ok.eq (R0 _ _) (Ok.ite (λ_=>?_) λ_=>?_)))
   ·rw[wi U U];exact ih k l i j (j+1) U U i0 i1 (.inr hj) q'.2 U hb
   ·rw[wi U U];exact ih k l i m (j+1) U U i0 i1 hm m1 U hb
  ·refine Ok.ite (λ_=>Ok.pure (.inl J)) λq=>Ok.cx U (Ok.cx U (Ok.cx bm (Ok.pure (.inr ⟨_,_,J,by simp,λe=>P1 i0 i1 U m1 e,?_,m1⟩))))
   have:m≠i:=λz=>q (by simp[z])
   omega
theorem abI: ∀(n k:Nat) (l:List dL) (i:Int),l.length-i.toNat<=n->n<k->0<=i->i<l.length->l.length<=1099511627776->
 Ok (jt.l0 k l i) (λh=>h.l.length=l.length/\ ∀e,e∈h.l↔e∈l):=by
 intro n
 induction n with
 |zero=>intro k l i hn hk i0 i1;omega
 |succ n ih=>
  intro k l i hn hk i0 i1 hb;obtain⟨k,rfl⟩: ∃q,k=q+1:=⟨k-1,by omega⟩
  rw[jt.l0,wi (x:=2*i) U U,wi (x:=2*i+1) U U];refine(abJ (i.toNat+3) fuel l i i (2*i+1) U (by rw[cI];omega) i0 i1 (.inl J) i1 U hb).bind λr hr=>?_
  rcases hr with rfl |⟨l',m',rfl,e1,e2,e3,e4⟩
  ·exact Ok.pure ⟨J,λ_=>Iff.rfl⟩
  ·exact(ih k l' m' U U U U U).mono λh hh=>⟨by omega,λe=>(hh.2 e).trans (e2 e)⟩
def Yy (l:List dL) (r:Int×Int×Bool×e_):Prop:=
 (l=[]/\r=(0,0,false,⟨[]⟩))∨(l≠[]/\r.2.2.1=true/\⟨r.1,r.2.1⟩=rd l 0/\r.2.2.2.l.length+1=l.length/\(∀e∈r.2.2.2.l,e∈l)/\ ∀e∈l,e=rd l 0∨e∈r.2.2.2.l)
theorem K9 (h:e_) (hb:h.l.length<=1099511627776):Ok (nF.f h) (Yy h.l):=by
 obtain⟨l⟩:=h;unfold nF.f Et.f Es.f jt.f
 by_cases hl:l=[]
 ·subst hl;exact Ok.pure (.inl ⟨rfl,rfl⟩)
 have hp:0<l.length:=List.length_pos_iff.2 hl;simp only at hb⊢;simp only[aI];rw[ah (by simpa using hl),af U,wi (x:=(l.length:Int)-1) U U]
 simp only[aI,if_true];refine Ok.cx U (Ok.cx U (Ok.cx bm ?_));have hs: ∀(L:List dL),L.length=l.length->aA L 0 ((l.length:Int)-1)=L.take (l.length-1):=by
  intro L hL;unfold aA;simp
 rw[hs _ bd];have ju: ∀e∈(List.set l 0 (rd l ((l.length:Int)-1))).take (l.length-1),e∈l:=by
  intro e he;rcases List.mem_or_eq_of_mem_set (List.mem_of_mem_take he) with h |h
  ·exact h
  ·rw[h];exact vb U U
 have Oc: ∀e∈l,e=rd l 0∨e∈(List.set l 0 (rd l ((l.length:Int)-1))).take (l.length-1):=by
  intro e he;obtain⟨c,c0,c1,rfl⟩:=KU.1 he
  by_cases z:c=0
  ·exact .inl (by rw[z])
  ·refine .inr (KU.2 ?_);have ht: ∀d:Int,0<=d->d<(l.length:Int)-1->rd ((List.set l 0 (rd l ((l.length:Int)-1))).take (l.length-1)) d=if d=0 then rd l ((l.length:Int)-1) else rd l d:=by
    intro d d0 d1;have:=HQ (L:=l) (i:=0) (c:=d) (v:=rd l ((l.length:Int)-1)) U U d0;rw[<-this];simp only[Int.toNat_zero];rw[jA (xs:=List.take _ _) bm,List.getElem_take,jA (xs:=List.set _ _ _) bm]
   have hlen:((List.set l 0 (rd l ((l.length:Int)-1))).take (l.length-1)).length=l.length-1:=by simp
   by_cases y:c=(l.length:Int)-1
   ·exact⟨0,by omega,by omega,by rw[ht 0 U U,af J,y]⟩
   ·exact⟨c,c0,by omega,by rw[ht c c0 U,ah z]⟩
 by_cases h1:l.length=1
 ·have e0:(List.set l 0 (rd l ((l.length:Int)-1))).take (l.length-1)=[]:=by rw[h1];rfl
  simp only[Int.toNat_zero];rw[e0] at ju Oc⊢;have hd:jt.l0 fuel [] 0=some ⟨[]⟩:=by
   obtain⟨k,hk⟩: ∃q,fuel=q+1+1:=⟨fuel-2,by rw[cI]⟩
   rw[hk,jt.l0,hk,jt.l1];rfl
  rw[hd];exact Ok.pure (.inr ⟨hl,J,J,by simp[h1],ju,Oc⟩)
 ·refine(abI l.length fuel _ 0 bd (by rw[cI];omega) U bm bm).bind λr hr=>Ok.pure (.inr ⟨hl,J,J,?_,λe he=>ju e ((hr.2 e).1 he),λe he=>(Oc e he).imp id λx=>(hr.2 e).2 x⟩)
  have:=hr.1;simp at this;simp only;omega
variable {g : bC} {more : Int}
def Bd (g:bC) (c:Int):Prop:=cP g.m c/\fB g c≠255
theorem Nb (h:du g more) {c:Int} (hc:cP g.m c):1<=fB g c/\fB g c<=255:=by
 unfold fB;rw[af hc];exact h.sP c hc.1 hc.2
theorem aj0 (h:du g more) (goal cell key:Int) (m:List (Int×Int)) (hc:Bd g cell) (k0:0<=key) (k1:key<=1000000000): ∀(n k:Nat) (l:List dL) (s:Int),(4-s).toNat<=n->n<k->0<=s->l.length<=10000000-4+s->
 Ok (jB.l1 k goal g (g.m.W,g.m.H) m cell key l s) (λr=>r.1=cJ m cell key/\r.2.length<=l.length+(4-s).toNat/\ ∀e∈r.2,e∈l∨(Bd g e.item/\0<=e.key/\e.key<=key+254)):=by
 have gN:=Nb h hc.1;intro n
 induction n with
 |zero=>
  intro k l s hn hk s0 hl;obtain⟨k,rfl⟩:=bl hk;rw[jB.l1,ah U];exact Ok.pure ⟨J,by simp,λe he=> .inl he⟩
 |succ n ih=>
  intro k l s hn hk s0 hl;obtain⟨k,rfl⟩:=bl hk;rw[jB.l1];refine Ok.ite (λhs=>?_) λhs=>Ok.pure ⟨J,by simp only;omega,λe he=> .inl he⟩
  refine Ok.eq (Ir ..) ?_;have hsk:Ok (if cH g.m.W g.m.H cell s<0 then some true else(gR.f g.m.W g.m.H (cH g.m.W g.m.H cell s)).bind λv28=>(gR.f g.m.W g.m.H goal).bind λpR=>if(v28 !=pR)=true then some true else(iU.f g (cH g.m.W g.m.H cell s)).bind λv30=>some (v30==255)) (λb=>b=false->Bd g (cH g.m.W g.m.H cell s)):=by
   refine Ok.ite (λ_=>Ok.pure bd) λq=>Ok.eq (tY ..) (Ok.eq (tY ..) (Ok.ite (λ_=>Ok.pure bd) λ_=>Ok.eq (vz h _) (Ok.pure λz=>⟨ajs q,by simpa using z⟩)))
  refine hsk.bind λb hb=>Ok.ite (λ_=>?_) λq=>?_
  ·rw[wi U U];exact(ih k l (s+1) U U U U).mono λr hr=>⟨hr.1,by have:=hr.2.1;omega,hr.2.2⟩
  ·have ho:=hb (by simpa using q)
   refine Ok.eq (vz h _) ((Lc _ _ _ (by simp only;omega)).bind λr hr=>?_)
   simp only at hr;rw[wi (x:=s+1) U U];refine(ih k r.l (s+1) U U U U).mono λr' vY=>⟨vY.1,by have:=vY.2.1;omega,λe he=>?_⟩
   rcases vY.2.2 e he with z |z
   ·rcases(hr.2 e).1 z with y |rfl
    ·exact .inl y
    ·refine .inr ⟨ho,?_⟩;have:fB g cell≠255:=hc.2;rw[wi U U];simp only;omega
   ·exact .inr z
def vg (g:bC) (m:List (Int×Int)):Nat:=eV (λc=>!bR m c) (g.m.W*g.m.H).toNat
theorem OS (m:List (Int×Int)) (x y v:Int):bR (cJ m x v) y=if x=y then true else bR m y:=by
 unfold bR;rw[Ba];split<;>rfl
theorem ajQ {m:List (Int×Int)} {c v:Int} (hc:cP g.m c) (hn:bR m c=false):vg g m=vg g (cJ m c v)+1:=by
 unfold vg;refine MJ (c:=c) hc.1 (by have:=hc.1;have:=hc.2;omega) (by simp[hn]) (by simp[OS]) (λi _ _ hi=>?_)
 rw[OS,ah (λz=>hi z.symm)]
theorem ajZ (h:du g more) (hN:g.m.W*g.m.H<=1600) (goal:Int): ∀(n k:Nat) (m:List (Int×Int)) (l:List dL) (key cell:Int) (ok:Bool),
 5*vg g m+l.length+(if ok then 1 else 0)<=n->n<k->l.length+5*vg g m<=9000->
 (∀c,bR m c=true->0<=aR m c/\aR m c<=500000)->
 (∀e∈l,Bd g e.item/\0<=e.key/\e.key+254*(vg g m:Int)<=254*1600)->(ok=true->Bd g cell/\0<=key/\key+254*(vg g m:Int)<=254*1600)->(ok=false->l=[])->
 Ok (jB.l0 k goal g (g.m.W,g.m.H) m l key cell ok) (λr=> ∀c,bR r c=true->0<=aR r c/\aR r c<=500000):=by
 intro n
 induction n with
 |zero=>
  intro k m l key cell ok hn hk hb hm hl hp hf;obtain⟨k,rfl⟩:=bl hk;have:ok=false:=by cases ok<;>simp_all
  subst this;rw[jB.l0];exact Ok.pure hm
 |succ n ih=>
  intro k m l key cell ok hn hk hb hm hl hp hf;obtain⟨k,rfl⟩:=bl hk;rw[jB.l0];refine Ok.ite (λq=>?_) λ_=>Ok.pure hm
  obtain⟨p1,p2,p3⟩:=hp q;subst q;simp only[if_true] at hn;have ae6:Ok (if bR m cell=true then some (m,l) else jB.l1 fuel goal g (g.m.W,g.m.H) m cell key l 0) (λr=>5*vg g r.1+r.2.length<=n/\r.2.length+5*vg g r.1<=9000/\(∀c,bR r.1 c=true->0<=aR r.1 c/\aR r.1 c<=500000)/\ ∀e∈r.2,Bd g e.item/\0<=e.key/\e.key+254*(vg g r.1:Int)<=254*1600):=by
   refine Ok.ite (λ_=>Ok.pure ⟨by simp only;omega,hb,hm,hl⟩) λz=>?_
   have z:bR m cell=false:=by simpa using z
   have hu:=ajQ (v:=key) p1.1 z;refine(aj0 h goal cell key m p1 p2 U 4 fuel l 0 bd (by rw[cI];omega) U U).mono λr hr=>?_
   obtain⟨e1,e2,e3⟩:=hr;rw[e1];have:(4-(0:Int)).toNat=4:=rfl;refine⟨by omega,by omega,λc hc=>?_,λe he=>?_⟩
   ·rw[u5];rw[OS] at hc;split
    ·omega
    ·rename_i q;rw[ah q] at hc;exact hm c hc
   ·rcases e3 e he with y |y
    ·have:=hl e y;exact⟨this.1,this.2.1,by omega⟩
    ·exact⟨y.1,y.2.1,by omega⟩
  refine ae6.bind λr hr=>?_
  obtain⟨h1,h2,h3,h4⟩:=hr;refine(K9 ⟨r.2⟩ (by simp only;omega)).bind λv hv=>?_
  rcases hv with⟨e1,e2⟩ |⟨e1,e2,e3,e4,e5,e6⟩
  ·subst e2;simp only at e1;exact ih k r.1 [] 0 0 false bm U bm h3 bd bd bd
  ·simp only at e1 e3 e4 e5;have GS:=h4 (rd r.2 0) (dU U (by have:=List.length_pos_iff.2 e1;omega))
   rw[<-e3] at GS;refine ih k r.1 v.2.2.2.l v.1 v.2.1 v.2.2.1 (by rw[e2];simp;omega) U U h3 (λe he=>h4 e (e5 e he)) (λ_=>GS) (by rw[e2];simp)
theorem aix (h:du g more) (hN:g.m.W*g.m.H<=1600) (f:ki) (M:dM) {goal:Int} (hg:cP g.m goal):Ok (jB.f f goal M g) (λr=> ∀c,bR r c=true->0<=aR r c/\aR r c<=500000):=by
 unfold jB.f;refine Ok.eq (Dv g) (Ok.eq (vz h _) (Ok.ite (λ_=>Ok.pure (by simp[bR,cS])) λq=>?_))
 have hu:vg g []<=1600:=by unfold vg;have:=F6 (λc=>!bR ([]:List (Int×Int)) c) (g.m.W*g.m.H).toNat;omega
 refine(Lc ⟨[]⟩ 0 goal bd).bind λr hr=>(K9 r (by simp at hr;omega)).bind λv hv=>?_
 have ho:Bd g goal:=⟨hg,by simpa using q⟩
 have uJ: ∀e∈r.l,e=⟨0,goal⟩:=λe he=>by simpa using(hr.2 e).1 he
 have hlen:r.l.length=1:=by simpa using hr.1
 rcases hv with⟨e1,e2⟩ |⟨e1,e2,e3,e4,e5,e6⟩
 ·rw[e1] at hlen;simp at hlen
 ·have h0:=uJ _ (dU (a:=r.l) (i:=0) U U);rw[h0] at e3;simp only[dL.mk.injEq] at e3;have AV:v.2.2.2.l=[]:=List.length_eq_zero_iff.1 U;rw[AV,e3.1,e3.2,e2];exact ajZ h hN goal 9000 fuel [] [] 0 goal true bm (by rw[cI];omega) bm (by simp[bR,cS]) bd (λ_=>⟨ho,by omega,by omega⟩) bd
end Go.Proofs.YthodkonhneebbaaGreatDoor
