/- What the functions do, in plain Lean, on the objects that are kept in order. -/
import Derived.Test.YthodkonhneebbaaGreatDoorKD14
import Derived.Test.YthodkonhneebbaaGreatDoorKD10
import Derived.Test.YthodkonhneebbaaGreatDoorKD11
import Derived.Test.YthodkonhneebbaaGreatDoorKD8
namespace Go.Proofs.YthodkonhneebbaaGreatDoor
open Go.Hx
set_option linter.unusedVariables false
set_option linter.unusedSimpArgs false
theorem iD.mono {r:eF} {n n':Nat} (h:iD r n) (hn:n<=n') (hb:n'<=1000000000):iD r n':=⟨h.len_,h.at_,λb hb=>by have:=h.gone b hb;omega,h.Bk,hb⟩
structure Is (r:eF) (todo:List a_) (n:Nat) (r':eF) (La:List a_):Prop where
 ring: ∃n',iD r' n'/\n'+La.length<=n+todo.length
 um: ∀k i,Has r k i->Has r' k i
 new: ∀k i,Has r' k i->Has r k i∨ ∃x∈todo,x.Key=k/\x.Cell=i
 Xf: ∃a,todo=a++La/\ ∀x∈a,Has r' x.Key x.Cell
 len_:r'.len+2*La.length<=r.len+2*todo.length
 at_:r'.ba=r.ba
 end_: ∀x l,La=x::l->x.Key<r'.ba∨r'.ba+256<=x.Key
theorem abD (s:db): ∀(m k:Nat) (r:eF) (todo:List a_) (n:Nat),todo.length<=m->m<k->iD r n->n+todo.length<=2000000->(∀x∈todo,0<=x.Key/\x.Key<=1073741824)->
 Ok (jR.l0 k s r todo) (λq=>q.t=s.t/\q.aR=s.aR/\Is r todo n q.wait q.todo):=by
 have nil: ∀(k:Nat) (r:eF) (n:Nat),iD r n->Ok (jR.l0 (k+1) s r []) (λq=>q.t=s.t/\q.aR=s.aR/\Is r [] n q.wait q.todo):=by
  intro k r n h;rw[jR.l0,ah bj];exact Ok.pure ⟨J,J,⟨⟨n,h,by simp⟩,λ_ _ q=>q,λ_ _ q=> .inl q,⟨[],J,by simp⟩,Int.le_refl _,J,by simp⟩⟩
 intro m
 induction m with
 |zero=>
  intro k r todo n hm hk h hn hx;obtain⟨k,rfl⟩:=bl hk;have:todo=[]:=List.length_eq_zero_iff.1 U;subst this;exact nil k r n h
 |succ m ih=>
  intro k r todo n hm hk h hn hx;obtain⟨k,rfl⟩:=bl hk
  cases todo with
  |nil=>exact nil k r n h
  |cons x l=>
   simp only[List.length_cons] at hm hn;have ui:=hx x (List.mem_cons_self ..);have e0:rd (x::l) 0=x:=rfl;have e1:aA (x::l) 1 ((x::l).length:Int)=l:=by unfold aA;simp
   rw[jR.l0,af bj,af bj,e0,e1];refine(WH h U U ui.1 x.Cell).bind' λv hv=>?_
   obtain⟨h1,h2,h3⟩:=hv;simp only;rcases h3 with⟨a,b,c,d,e⟩ |⟨a,b,c⟩
   ·rw[a];refine Ok.pos J (Ok.cx bk ((ih k v.2 l (n+1) U U h2 U (λy hy=>hx y (List.mem_cons_of_mem _ hy))).mono λq hq=>?_));obtain⟨q1,q2,q3⟩:=hq;obtain⟨n',f1,f2⟩:=q3.ring;obtain⟨A,g1,g2⟩:=q3.Xf;refine⟨q1,q2,⟨⟨n',f1,by simp only[List.length_cons];omega⟩,λk i hh=>q3.um k i ((e k i).2 (.inl hh)),λk i hh=>?_,⟨x::A,by rw[g1];rfl,λy hy=>?_⟩,?_,by rw[q3.at_,h1],q3.end_⟩⟩
    ·rcases q3.new k i hh with z |⟨y,hy,z⟩
     ·rcases(e k i).1 z with z |⟨rfl,rfl⟩
      ·exact .inl z
      ·exact .inr ⟨x,List.mem_cons_self ..,J,J⟩
     ·exact .inr ⟨y,List.mem_cons_of_mem _ hy,z⟩
    ·rcases List.mem_cons.1 hy with rfl |hy
     ·exact q3.um _ _ ((e _ _).2 (.inr ⟨J,J⟩))
     ·exact g2 y hy
    ·have:=q3.len_;simp only[List.length_cons];omega
   ·rw[a];refine Ok.neg bj (Ok.pure ⟨J,J,?_⟩);simp only;rw[c];exact⟨⟨n,h,by simp⟩,λ_ _ q=>q,λ_ _ q=> .inl q,⟨[],J,by simp⟩,Int.le_refl _,J,λy l' hy=>by simp only[List.cons.injEq] at hy;rw[<-hy.1];exact b⟩
theorem abC (s:db) {n:Nat} (h:iD s.wait n) (hn:n+s.todo.length<=2000000) (hx: ∀x∈s.todo,0<=x.Key/\x.Key<=1073741824):
 Ok (jR.f s) (λq=>q.t=s.t/\q.aR=s.aR/\ ∃r,((r=s.wait/\(s.wait.len≠0∨s.todo=[]))∨(s.wait.len=0/\r.len=0/\ ∃x l,s.todo=x::l/\r.ba=if x.Key<s.wait.ba then s.wait.ba else x.Key))/\(∀k i,Has r k i↔Has s.wait k i)/\Is r s.todo n q.wait q.todo):=by
 unfold jR.f;have key: ∀r,iD r n->Ok (jR.l0 fuel s r s.todo) (λq=>q.t=s.t/\q.aR=s.aR/\Is r s.todo n q.wait q.todo):=λr hr=>abD s s.todo.length fuel r s.todo n (Nat.le_refl _) (by rw[cD];omega) hr hn hx
 by_cases hl:s.todo=[]
 ·rw[ah (by simp[hl])]
  exact Ok.eq J ((key s.wait h).mono λq hq=>⟨hq.1,hq.2.1,s.wait,.inl ⟨J,.inr hl⟩,λ_ _=>Iff.rfl,hq.2.2⟩)
 ·obtain⟨x,l,e⟩:=List.exists_cons_of_ne_nil hl;have ui:=hx x (by rw[e];exact List.mem_cons_self ..)
  rw[af (by rw[e];simp)]
  unfold wa.f
  by_cases z:s.wait.len=0
  ·have e0:rd s.todo 0=x:=by rw[e];rfl
   rw[show((some s.wait.len).bind λv5=>some (v5==0))=some true by simp[z]]
   simp only[aG,if_true,e0];rw[af (by rw[e];simp)]
   refine((ae5 h ui.1 U z).bind λv hv=>Ok.pure (P:=λr=>iD r n/\r.len=0/\r.ba=if x.Key<s.wait.ba then s.wait.ba else x.Key) hv).bind λr hr=>(key r hr.1).mono λq hq=>⟨hq.1,hq.2.1,r,.inr ⟨z,hr.2.1,x,l,e,hr.2.2⟩,λk i=>⟨λy=>absurd y (hr.1.none hr.2.1 k i),λy=>absurd y (h.none z k i)⟩,hq.2.2⟩
  ·simp only[aG];rw[ah (by simpa using z)]
   exact Ok.eq J ((key s.wait h).mono λq hq=>⟨hq.1,hq.2.1,s.wait,.inl ⟨J,.inl z⟩,λ_ _=>Iff.rfl,hq.2.2⟩)
def eK (t:aL) (c s:Int):Int:=
 if s=0 then(if c/t.W>0 then c-t.W else-1) else if s=1 then(if c%t.W<t.W-1 then c+1 else-1) else if s=2 then(if c/t.W<t.H-1 then c+t.W else-1) else if c%t.W>0 then c-1 else-1
theorem K_ {t:aL} (h:si t) {c s:Int} (c0:0<=c) (c1:c<t.C.length):eK t c s= -1∨(0<=eK t c s/\eK t c s<t.C.length):=by
 obtain⟨a,b,d,e,f,_⟩:=h;rw[f] at c1⊢;have Gb:=Int.mul_ediv_add_emod c t.W;have hm:=Int.emod_nonneg c (show t.W≠0 by omega)
 have xi:=Int.emod_lt_of_pos c (show 0<t.W by omega)
 have hq:0<=c/t.W:=Int.ediv_nonneg c0 U;have hq':c/t.W<t.H:=Int.ediv_lt_of_lt_mul U (by rw[Int.mul_comm];exact c1)
 unfold eK;split
 ·split
  ·have:t.W*1<=t.W*(c/t.W):=Int.mul_le_mul_of_nonneg_left U U;exact .inr U
  ·exact .inl J
 ·split
  ·split
   ·have:t.W*(c/t.W)<=t.W*(t.H-1):=Int.mul_le_mul_of_nonneg_left U U;rw[Int.mul_sub,Int.mul_one] at this;exact .inr U
   ·exact .inl J
  ·split
   ·split
    ·have:t.W*(c/t.W)<=t.W*(t.H-1-1):=Int.mul_le_mul_of_nonneg_left U U;rw[Int.mul_sub,Int.mul_sub,Int.mul_one] at this;exact .inr U
    ·exact .inl J
   ·split
    ·have:0<=t.W*(c/t.W):=Int.mul_nonneg U hq;exact .inr U
    ·exact .inl J
abbrev cH:Int:=1099511627776
structure Ar (s:db) (n:Nat) (key c:Int) (j:Nat) (q:db):Prop where
 t_:q.t=s.t
 td:q.todo=s.todo
 ds:q.aR=s.aR
 ring:iD q.wait (n+j)
 at_:q.wait.ba=s.wait.ba
 len_:q.wait.len<=s.wait.len+j
 um: ∀k i,Has s.wait k i->Has q.wait k i
 new: ∀k i,Has q.wait k i->Has s.wait k i∨(k=key/\ ∃d:Int,0<=d/\d<j/\i=eK s.t c d/\0<=i/\i<s.t.C.length/\rd s.t.C i≠255/\rd s.aR i=cH)
 all:s.wait.ba<=key->key<s.wait.ba+256-> ∀d:Int,0<=d->d<j->0<=eK s.t c d->rd s.t.C (eK s.t c d)≠255->rd s.aR (eK s.t c d)=cH->Has q.wait key (eK s.t c d)
section
variable {s q : db} {n : Nat} {key c : Int} {j : Nat}
theorem IQ (h:Ar s n key c j q) (hn:n+j+1<=1000000000) (hj:eK s.t c j= -1):Ar s n key c (j+1) q:=by
 refine⟨h.t_,h.td,h.ds,h.ring.mono U U,h.at_,by have:=h.len_;omega,h.um,λk i hh=>?_,λa b d d0 d1 d2 d3 d4=>?_⟩
 ·rcases h.new k i hh with z |⟨z,d,a,b,r⟩
  ·exact .inl z
  ·exact .inr ⟨z,d,a,by omega,r⟩
 ·by_cases z:d=j
  ·subst z;omega
  ·exact h.all a b d d0 U d2 d3 d4
theorem IP (ht:mi s.t) (hd:s.aR.length=s.t.C.length) (h:Ar s n key c j q) (hn:n+j+1<=1000000000) (k0:0<=key) (k1:key<=8796093022208) (c0:0<=c) (c1:c<s.t.C.length) {p:Int} (hj:eK s.t c j=p) (hp:p≠ -1):
 Ok (kE.f q p key) (Ar s n key c (j+1)):=by
 have cn:=K_ ht.1 (s:=j) c0 c1;rw[hj] at cn;have cn:0<=p/\p<s.t.C.length:=cn.resolve_left hp;unfold kE.f;rw[h.t_,h.ds,h.td];have e:(if(0<=p/\p<(List.length s.t.C:Int)) then(if((rd s.t.C p)!=255)=true then(if(0<=p/\p<(List.length s.aR:Int)) then(some ((rd s.aR p)==1099511627776)) else none) else(some false)) else none)=some (decide (rd s.t.C p≠255/\rd s.aR p=cH)):=by
  rw[af cn,af (c:=0<=p/\p<(List.length s.aR:Int)) U]
  by_cases z:rd s.t.C p=255
  ·simp[z]
  ·rw[af (by simpa using z)];congr 1;rw[Bool.eq_iff_iff];simp[z]
 refine Ok.eq e (Ok.ite (λz=>?_) λz=>Ok.pure ?_)
 ·have z:=of_decide_eq_true z;refine(WH h.ring U k1 k0 p).bind λv hv=>Ok.pure ?_
  obtain⟨a1,a2,a3⟩:=hv;rcases a3 with⟨b1,b2,b3,b4,b5⟩ |⟨b1,b2,b3⟩
  ·refine⟨J,J,J,a2,by rw[a1,h.at_],by have:=h.len_;simp only;omega,λk i hh=>(b5 k i).2 (.inl (h.um k i hh)),λk i hh=>?_,λa b d d0 d1 d2 d3 d4=>?_⟩
   ·rcases(b5 k i).1 hh with y |⟨rfl,rfl⟩
    ·rcases h.new k i y with y |⟨y,d,a,b,r⟩
     ·exact .inl y
     ·exact .inr ⟨y,d,a,by omega,r⟩
    ·exact .inr ⟨J,j,by omega,by omega,hj.symm,cn.1,cn.2,z⟩
   ·by_cases y:d=j
    ·subst y;rw[hj];exact(b5 _ _).2 (.inr ⟨rfl,rfl⟩)
    ·exact(b5 _ _).2 (.inl (h.all a b d d0 U d2 d3 d4))
  ·refine⟨J,J,J,a2,by rw[a1,h.at_],by have:=h.len_;simp only;rw[b3];omega,λk i hh=>by simp only;rw[b3];exact h.um k i hh,λk i hh=>?_,λa b=>?_⟩
   ·simp only at hh;rw[b3] at hh;rcases h.new k i hh with y |⟨y,d,a,b,r⟩
    ·exact .inl y
    ·exact .inr ⟨y,d,a,by omega,r⟩
   ·have:=h.at_;omega
 ·have z: ¬(rd s.t.C p≠255/\rd s.aR p=cH):=by simpa using z
  refine⟨h.t_,h.td,h.ds,h.ring.mono U U,h.at_,by have:=h.len_;omega,h.um,λk i hh=>?_,λa b d d0 d1 d2 d3 d4=>?_⟩
  ·rcases h.new k i hh with y |⟨y,d,a,b,r⟩
   ·exact .inl y
   ·exact .inr ⟨y,d,a,by omega,r⟩
  ·by_cases y:d=j
   ·subst y;rw[hj] at d3 d4;exact absurd ⟨d3,d4⟩ z
   ·exact h.all a b d d0 U d2 d3 d4
end
theorem IM {q s:db} (e:q.t=s.t):db.mk (aL.mk q.t.W q.t.H s.t.C) q.wait q.todo q.aR=q:=by
 obtain⟨t,a,b,d⟩:=q;simp only at e;subst e;rfl
theorem YF (s:db) (ht:mi s.t) (hd:s.aR.length=s.t.C.length) {n:Nat} (h:iD s.wait n) (hn:n+4<=1000000000) {c:Int} (c0:0<=c) (c1:c<s.t.C.length) (d0:0<=rd s.aR c) (d1:rd s.aR c<=2000000000):
 Ok (xZ.f s c) (Ar s n (rd s.aR c+rd s.t.C c) c 4):=by
 have hC:=ht.2 c c0 c1;have hl:=oH ht.1;obtain⟨a1,a2,a3,a4,a5,_⟩:=ht.1;have hq:0<=c/s.t.W/\c/s.t.W<=c:=⟨Int.ediv_nonneg c0 U,Int.ediv_le_self _ c0⟩;unfold xZ.f;rw[wi (x:=rd s.t.C c) U U,wi (x:=rd s.aR c+rd s.t.C c) U U,qX c0,mX c0,wi (x:=c/s.t.W) U U,wi (x:=c-s.t.W) U U,wi (x:=c+1) U U,wi (x:=c-1) U U];generalize hk:rd s.aR c+rd s.t.C c=key;have k0:0<=key:=U;have k1:key<=8796093022208:=U;have A0:Ar s n key c 0 s:=⟨J,J,J,h,J,by omega,λ_ _ z=>z,λ_ _ z=> .inl z,λ_ _ d d0 d1=>by omega⟩
 refine Ok.cx U (Ok.cx U (Ok.cx U (Ok.cx U ?_)));have n0:eK s.t c (0:Nat)=if c/s.t.W>0 then c-s.t.W else-1:=rfl
 have n1:eK s.t c (1:Nat)=if c%s.t.W<s.t.W-1 then c+1 else-1:=rfl
 have n2:eK s.t c (2:Nat)=if c/s.t.W<s.t.H-1 then c+s.t.W else-1:=rfl
 have n3:eK s.t c (3:Nat)=if c%s.t.W>0 then c-1 else-1:=rfl
 have Gb:=Int.mul_ediv_add_emod c s.t.W;have s0:Ok (if c/s.t.W>0 then(kE.f s (c-s.t.W) key).bind λv7=>some (v7.t.W,v7.t.H,v7.wait,v7.todo,v7.aR) else some (s.t.W,s.t.H,s.wait,s.todo,s.aR)) (λp=>Ar s n key c 1 ⟨⟨p.1,p.2.1,s.t.C⟩,p.2.2.1,p.2.2.2.1,p.2.2.2.2⟩):=by
  refine Ok.ite (λz=>?_) λz=>Ok.pure (IQ (j:=0) A0 U (by rw[n0,ah z]))
  have cn:=K_ ht.1 (s:=(0:Nat)) c0 c1;rw[n0,af z] at cn;refine(IP (j:=0) ht hd A0 U k0 k1 c0 c1 (by rw[n0,af z]) (λy=>?_)).bind λv hv=>Ok.pure ?_
  ·have:s.t.W*1<=s.t.W*(c/s.t.W):=Int.mul_le_mul_of_nonneg_left U U;have:=Int.emod_nonneg c (show s.t.W≠0 by omega)
   omega
  ·simp only;rw[IM hv.t_];exact hv
 refine s0.bind λp hp=>?_
 obtain⟨x1,x2,x3,x4,x5⟩:=p;simp only at hp⊢;have et:=hp.t_;simp only at et;have e1:x1=s.t.W:=by rw[<-et]
 have e2:x2=s.t.H:=by rw[<-et]
 subst e1;subst e2;rw[wi (x:=s.t.W-1) U U];have s1:Ok (if c%s.t.W<s.t.W-1 then(kE.f (db.mk (aL.mk s.t.W s.t.H s.t.C) x3 x4 x5) (c+1) key).bind λcg=>some (cg.t.W,cg.t.H,cg.wait,cg.todo,cg.aR) else some (s.t.W,s.t.H,x3,x4,x5)) (λp=>Ar s n key c 2 ⟨⟨p.1,p.2.1,s.t.C⟩,p.2.2.1,p.2.2.2.1,p.2.2.2.2⟩):=by
  refine Ok.ite (λz=>?_) λz=>Ok.pure (IQ (j:=1) hp U (by rw[n1,ah z]))
  refine(IP (j:=1) ht hd hp U k0 k1 c0 c1 (by rw[n1,af z]) U).bind λv hv=>Ok.pure ?_
  simp only;rw[IM hv.t_];exact hv
 refine s1.bind λp hp=>?_
 obtain⟨x1,x2,x3,x4,x5⟩:=p;simp only at hp⊢;have et:=hp.t_;simp only at et;have e1:x1=s.t.W:=by rw[<-et]
 have e2:x2=s.t.H:=by rw[<-et]
 subst e1;subst e2;rw[wi (x:=s.t.H-1) U U];have s3: ∀v:db,Ar s n key c 3 v->Ok (if c%s.t.W>0 then(kE.f v (c-1) key).bind λbR=>some (db.mk (aL.mk bR.t.W bR.t.H s.t.C) bR.wait bR.todo bR.aR) else some v) (Ar s n key c 4):=λv hv=>by
  refine Ok.ite (λz=>?_) λz=>Ok.pure (IQ (j:=3) hv U (by rw[n3,ah z]))
  refine(IP (j:=3) ht hd hv U k0 k1 c0 c1 (by rw[n3,af z]) (λy=>?_)).bind λv hv=>Ok.pure ?_
  ·have:c=0:=U;subst this;simp at z
  ·rw[IM hv.t_];exact hv
 refine Ok.ite (λz=>?_) λz=>?_
 ·rw[wi (x:=c+s.t.W) U U];refine(IP (j:=2) ht hd hp U k0 k1 c0 c1 (by rw[n2,af z]) U).bind λv hv=>?_
  rw[IM hv.t_];exact s3 v hv
 ·exact s3 _ (IQ (j:=2) hp U (by rw[n2,ah z]))
def E4 (t:aL) (l:List a_) (D:List Int) (i k:Int):Prop:=
 (∃x∈l,x.Cell=i/\x.Key=k)∨ ∃c d:Int,0<=c/\c<t.C.length/\0<=d/\d<=3/\rd D c≠cH/\eK t c d=i/\rd D c+rd t.C c=k
def uL (t:aL) (D:List Int):Nat:=eA (λc=>rd D c==cH) t.C.length
structure BA (t:aL) (l:List a_) (K:Int) (r:eF) (todo:List a_) (D:List Int) (n:Nat):Prop where
 ring:iD r n
 room:n+todo.length+4*uL t D<=2000000
 dl:D.length=t.C.length
 dv: ∀c:Int,0<=c->c<t.C.length->rd D c≠cH->0<=rd D c/\rd D c<=r.ba/\rd D c+254*(uL t D:Int)<=K/\rd t.C c≠255/\E4 t l D c (rd D c)
 hs: ∀k i,Has r k i->0<=i/\i<t.C.length/\rd t.C i≠255/\k+254*(uL t D:Int)<=K/\E4 t l D i k
 nb: ∀c d:Int,0<=c->c<t.C.length->rd D c≠cH->0<=d->d<=3->0<=eK t c d->rd t.C (eK t c d)≠255->(rd D (eK t c d)≠cH/\rd D (eK t c d)<=rd D c+rd t.C c)∨Has r (rd D c+rd t.C c) (eK t c d)
 sd: ∀x∈l,x∈todo∨Has r x.Key x.Cell∨(rd D x.Cell≠cH/\rd D x.Cell<=x.Key)
 td: ∀x∈todo,x∈l/\r.ba<=x.Key
 so:todo.Pairwise (λa b=>a.Key<=b.Key)
def Full (r:eF) (todo:List a_):Prop:=todo=[]∨(r.len≠0/\ ∀x∈todo,r.ba+256<=x.Key)
section
variable {t : aL} {l : List a_} {K : Int}
theorem Pa (hl: ∀x∈l,qq t x/\x.Key+254*256<=K) (ht:mi t) (s:db) (hs:s.t=t) {n:Nat} (h:BA t l K s.wait s.todo s.aR n):
 Ok (jR.f s) (λq=>q.t=t/\q.aR=s.aR/\q.wait.len+2*q.todo.length<=s.wait.len+2*s.todo.length/\Full q.wait q.todo/\ ∃n',BA t l K q.wait q.todo s.aR n'):=by
 have hk: ∀x∈s.todo,0<=x.Key/\x.Key<=1073741824:=λx hx=>by have:=(hl x (h.td x hx).1).1;exact⟨this.2.2.2.1,this.2.2.2.2.1⟩
 have hu:uL t s.aR<=256:=by unfold uL;have:=FF (λc=>rd s.aR c==cH) t.C.length;have:=oH ht.1;omega
 refine(abC s h.ring (by have:=h.room;omega) hk).mono λq hq=>?_
 obtain⟨q1,q2,r,q3,q4,q5⟩:=hq;obtain⟨n',f1,f2⟩:=q5.ring;obtain⟨A,g1,g2⟩:=q5.Xf;have sJ:s.wait.ba<=r.ba/\(∀x∈s.todo,r.ba<=x.Key)/\r.len=s.wait.len:=by
  rcases q3 with⟨rfl,_⟩ |⟨z0,z,x,m,e,e2⟩
  ·exact⟨Int.le_refl _,λx hx=>(h.td x hx).2,J⟩
  ·have hx:=(h.td x (by rw[e];exact List.mem_cons_self ..)).2
   rw[ah U] at e2;refine⟨by omega,λy hy=>?_,by omega⟩
   have so:=h.so;rw[e] at hy so;rcases List.mem_cons.1 hy with rfl |hy
   ·omega
   ·have:=(List.pairwise_cons.1 so).1 y hy;omega
 have aeq:Full q.wait q.todo:=by
  cases J3:q.todo with
  |nil=>exact .inl J
  |cons y m=>
   have hy:=q5.end_ y m J3;have Oa:y∈s.todo:=by rw[g1,J3];simp
   have:=sJ.2.1 y Oa;have ha:=q5.at_;refine .inr ⟨λz0=>?_,λx hx=>?_⟩
   ·have gF:=f1.none z0;rcases q3 with⟨rfl,z |z⟩ |⟨_,z,x,m',e,e2⟩
    ·obtain⟨k,i,hh⟩:=h.ring.some z;exact gF k i (q5.um k i hh)
    ·rw[z] at Oa;simp at Oa
    ·rw[ah (by have:=(h.td x (by rw[e];exact List.mem_cons_self ..)).2;omega)] at e2
     cases A with
     |nil=>
      rw[List.nil_append,J3] at g1;rw[e] at g1;simp only[List.cons.injEq] at g1;rw[<-g1.1] at hy;omega
     |cons a A=>exact gF _ _ (g2 a (List.mem_cons_self ..))
   ·have so:=h.so;rw[g1,J3] at so;have so:=(List.pairwise_append.1 so).2.1;rcases List.mem_cons.1 hx with rfl |hx
    ·omega
    ·have:=(List.pairwise_cons.1 so).1 x hx;omega
 refine⟨q1.trans hs,q2,by have:=q5.len_;omega,aeq,n',⟨f1,by have:=h.room;omega,h.dl,λc c0 c1 hc=>?_,λk i hh=>?_,λc d c0 c1 hc d0 d3 p0 p1=>?_,λx hx=>?_,λx hx=>?_,?_⟩⟩
 ·obtain⟨a,b,c,d⟩:=h.dv c c0 c1 hc;exact⟨a,by rw[q5.at_];omega,c,d⟩
 ·rcases q5.new k i hh with z |⟨x,hx,rfl,rfl⟩
  ·exact h.hs k i ((q4 k i).1 z)
  ·have pZ:=(h.td x hx).1;obtain⟨⟨a,b,c,d⟩,e⟩:=hl x pZ;exact⟨a,b,c,by omega,.inl ⟨x,pZ,J,J⟩⟩
 ·rcases h.nb c d c0 c1 hc d0 d3 p0 p1 with z |z
  ·exact .inl z
  ·exact .inr (q5.um _ _ ((q4 _ _).2 z))
 ·rcases h.sd x hx with z |z |z
  ·rw[g1] at z;rcases List.mem_append.1 z with z |z
   ·exact .inr (.inl (g2 x z))
   ·exact .inl z
  ·exact .inr (.inl (q5.um _ _ ((q4 _ _).2 z)))
  ·exact .inr (.inr z)
 ·have pZ:x∈s.todo:=by rw[g1];exact List.mem_append_right _ hx
  exact⟨(h.td x pZ).1,by rw[q5.at_];exact sJ.2.1 x pZ⟩
 ·have so:=h.so;rw[g1] at so;exact(List.pairwise_append.1 so).2.1
theorem OR {D D':List Int} (h: ∀c:Int,0<=c->c<t.C.length->rd D c≠cH->rd D' c=rd D c) {i k:Int} (hp:E4 t l D i k):E4 t l D' i k:=by
 rcases hp with z |⟨c,d,c0,c1,d0,d3,e,f,g⟩
 ·exact .inl z
 ·have:=h c c0 c1 e;exact .inr ⟨c,d,c0,c1,d0,d3,by rw[this];exact e,f,by rw[this];exact g⟩
structure qt (t:aL) (l:List a_) (K:Int) (D:List Int):Prop where
 dl:D.length=t.C.length
 dv: ∀c:Int,0<=c->c<t.C.length->rd D c≠cH->0<=rd D c/\rd D c<=K/\rd t.C c≠255/\E4 t l D c (rd D c)
 nb: ∀c d:Int,0<=c->c<t.C.length->rd D c≠cH->0<=d->d<=3->0<=eK t c d->rd t.C (eK t c d)≠255->rd D (eK t c d)≠cH/\rd D (eK t c d)<=rd D c+rd t.C c
 sd: ∀x∈l,rd D x.Cell≠cH/\rd D x.Cell<=x.Key
theorem ahL (hl: ∀x∈l,qq t x/\x.Key+254*256<=K) (hK:K<=1100000000) (ht:mi t) (s:db) (hs:s.t=t): ∀(m k:Nat) (r:eF) (todo:List a_) (D:List Int) (n:Nat),(5*uL t D+2*todo.length+r.len).toNat<=m->m<k->BA t l K r todo D n->Full r todo->
 Ok (nS.l0 k s t.W t.H r todo D) (λq=>qt t l K q.aR):=by
 have oz:=oH ht.1;have hI:cH=1099511627776:=rfl;have fin: ∀(k:Nat) (r:eF) (todo:List a_) (D:List Int) (n:Nat),BA t l K r todo D n->Full r todo->r.len=0->Ok (nS.l0 (k+1) s t.W t.H r todo D) (λq=>qt t l K q.aR):=by
  intro k r todo D n h hf h0;rw[nS.l0];refine Ok.eq (v:=r.len) J (Ok.neg U (Ok.pure ?_));have gF:=h.ring.none h0;have J5:todo=[]:=hf.resolve_right λz=>z.1 h0
  refine⟨h.dl,λc c0 c1 hc=>?_,λc d c0 c1 hc d0 d3 p0 p1=>?_,λx hx=>?_⟩
  ·obtain⟨a1,a2,a3,a4⟩:=h.dv c c0 c1 hc;exact⟨a1,by show rd D c<=K;omega,a4⟩
  ·exact(h.nb c d c0 c1 hc d0 d3 p0 p1).resolve_right (gF _ _)
  ·rcases h.sd x hx with z |z |z
   ·rw[J5] at z;simp at z
   ·exact absurd z (gF _ _)
   ·exact z
 intro m
 induction m with
 |zero=>
  intro k r todo D n hm hk h hf;obtain⟨k,rfl⟩:=bl hk;have:=h.ring.Ct;exact fin k r todo D n h hf U
 |succ m ih=>
  intro k r todo D n hm hk h hf;obtain⟨k,rfl⟩:=bl hk;have hlen:=h.ring.Ct
  by_cases h0:r.len=0
  ·exact fin k r todo D n h hf h0
  obtain⟨x,y,Gz⟩:=h.ring.some h0;rw[nS.l0];refine Ok.eq (v:=r.len) J (Ok.pos U ((ahF h.ring (by have:=(h.hs x y Gz).2.2.2.1;omega) Gz).bind λv hv=>?_))
  obtain⟨v1,v2,v3,v4,v5,v6,v7,v8⟩:=hv;obtain⟨i0,i1,i2,i3,i4⟩:=h.hs _ _ v5;have sJ:=v5.1;have ajE:=v5.2.1;have J5: ∀x∈todo,v.1<=x.Key:=λx hx=>by
   rcases hf with z |⟨_,z⟩
   ·rw[z] at hx;simp at hx
   ·have:=z x hx;omega
  refine Ok.cx (by rw[h.dl];exact⟨i0,i1⟩) (Ok.ite (λq=>?_) λq=>?_)
  ·have q:rd D v.2.1=cH:=by simpa using q
   have hi:=ht.2 _ i0 i1;have dS: ∀c:Int,0<=c->rd (List.set D v.2.1.toNat v.1) c=if c=v.2.1 then v.1 else rd D c:=λc c0=>j5 i0 (by rw[h.dl];exact i1) c0
   have y6:0<=v.1:=by have:=h.ring.at_;omega
   have hu:uL t D=uL t (List.set D v.2.1.toNat v.1)+1:=by
    unfold uL;refine Mm (c:=v.2.1) i0 i1 (by simp[q]) ?_ λi a b hi=>?_
    ·rw[dS _ i0,af J];simp;omega
    ·rw[dS _ a,ah hi]
   have hold: ∀c:Int,0<=c->c<t.C.length->rd D c≠cH->rd (List.set D v.2.1.toNat v.1) c=rd D c:=λc c0 c1 hc=>by
    rw[dS c c0,ah (λz=>hc (by rw[z];exact q))]
   have e:(db.mk (aL.mk t.W t.H s.t.C) v.2.2.2 todo (List.set D (Int.toNat v.2.1) v.1))=db.mk t v.2.2.2 todo (List.set D (Int.toNat v.2.1) v.1):=by rw[hs]
   rw[e];have hr:=h.room;refine(YF (db.mk t v.2.2.2 todo (List.set D (Int.toNat v.2.1) v.1)) ht (by simp[h.dl]) v2 U i0 i1 (by simp only;rw[dS _ i0,af J];exact y6) (by simp only;rw[dS _ i0,af J];omega)).bind λa ha=>?_
   have vr:rd (List.set D v.2.1.toNat v.1) v.2.1=v.1:=by rw[dS _ i0,af J]
   have LO:=ha.td;have LI:=ha.ds;have LN:=ha.t_;have Yk:=ha.len_;have LG:=ha.at_;simp only at LO LI LN Yk LG;have aC:a.t.C=s.t.C:=by rw[LN,hs]
   have ea:db.mk (aL.mk a.t.W a.t.H s.t.C) a.wait a.todo a.aR=a:=by rw[<-aC]
   rw[ea];have nz:BA t l K a.wait a.todo a.aR (n+4):=by
    rw[LO,LI];refine⟨ha.ring,by omega,by simp[h.dl],λc c0 c1 hc=>?_,λk i hh=>?_,λc d c0 c1 hc d0 d3 p0 p1=>?_,λx hx=>?_,λx hx=>⟨(h.td x hx).1,by rw[LG,v3];exact J5 x hx⟩,h.so⟩
    ·rw[LG,v3]
     by_cases z:c=v.2.1
     ·subst z;rw[vr];exact⟨y6,Int.le_refl _,by omega,i2,OR hold i4⟩
     ·rw[dS c c0,ah z] at hc⊢;obtain⟨b1,b2,b3,b4,b5⟩:=h.dv c c0 c1 hc;exact⟨b1,by omega,by omega,b4,OR hold b5⟩
    ·rcases ha.new k i hh with z |⟨rfl,d,d0,d4,rfl,w0,w1,w2,w3⟩
     ·obtain⟨b1,b2,b3,b4,b5⟩:=h.hs k i (v7 k i z);exact⟨b1,b2,b3,by omega,OR hold b5⟩
     ·simp only at w0 w1 w2 vr⊢;rw[vr];exact⟨w0,w1,w2,by omega,.inr ⟨v.2.1,d,i0,i1,d0,by omega,by rw[vr];omega,J,by rw[vr]⟩⟩
    ·have hn:0<=eK t c d/\eK t c d<t.C.length:=(K_ ht.1 c0 c1).resolve_left U
     by_cases z:c=v.2.1
     ·subst z;rw[vr]
      by_cases w:rd (List.set D v.2.1.toNat v.1) (eK t v.2.1 d)=cH
      ·refine .inr ?_;have:=ha.all (by simp only;rw[vr,v3];omega) (by simp only;rw[vr,v3];omega) d d0 U p0 p1 w
       simp only at this;rw[vr] at this;exact this
      ·refine .inl ⟨w,?_⟩;rw[dS _ hn.1] at w⊢;split
       ·omega
       ·rename_i y;rw[ah y] at w;have:=(h.dv _ hn.1 hn.2 w).2.1;omega
     ·rw[dS c c0,ah z] at hc⊢;rcases h.nb c d c0 c1 hc d0 d3 p0 p1 with⟨w1,w2⟩ |w
      ·exact .inl (by rw[hold _ hn.1 hn.2 w1];exact⟨w1,w2⟩)
      ·rcases v8 _ _ w with⟨y1,y2⟩ |y
       ·refine .inl ?_;rw[y2,vr];exact⟨by omega,by omega⟩
       ·exact .inr (ha.um _ _ y)
    ·have Uz:=(hl x hx).1;rcases h.sd x hx with z |z |⟨z1,z2⟩
     ·exact .inl z
     ·rcases v8 _ _ z with⟨y1,y2⟩ |y
      ·exact .inr (.inr (by rw[y2,vr];exact⟨by omega,by omega⟩))
      ·exact .inr (.inl (ha.um _ _ y))
     ·exact .inr (.inr (by rw[hold _ Uz.1 Uz.2.1 z1];exact⟨z1,z2⟩))
   refine(Pa hl ht a LN nz).bind λw hw=>?_
   obtain⟨w1,w2,w3,w4,n',w5⟩:=hw;rw[w1,w2];refine ih k w.wait w.todo a.aR n' ?_ U w5 w4;rw[LI] at*;rw[LO] at w3;omega
  ·have q:rd D v.2.1≠cH:=by simpa using q
   have hd:=(h.dv _ i0 i1 q).2.1;have nz:BA t l K v.2.2.2 todo D n:=by
    refine⟨v2,h.room,h.dl,λc c0 c1 hc=>?_,λk i hh=>h.hs k i (v7 k i hh),λc d c0 c1 hc d0 d3 p0 p1=>?_,λx hx=>?_,λx hx=>⟨(h.td x hx).1,by rw[v3];exact J5 x hx⟩,h.so⟩
    ·obtain⟨b1,b2,b3⟩:=h.dv c c0 c1 hc;exact⟨b1,by omega,b3⟩
    ·rcases h.nb c d c0 c1 hc d0 d3 p0 p1 with w |w
     ·exact .inl w
     ·rcases v8 _ _ w with⟨y1,y2⟩ |y
      ·exact .inl (by rw[y2];exact⟨q,by omega⟩)
      ·exact .inr y
    ·rcases h.sd x hx with z |z |z
     ·exact .inl z
     ·rcases v8 _ _ z with⟨y1,y2⟩ |y
      ·exact .inr (.inr (by rw[y2];exact⟨q,by omega⟩))
      ·exact .inr (.inl y)
     ·exact .inr (.inr z)
   have e:(db.mk (aL.mk t.W t.H s.t.C) v.2.2.2 todo D)=db.mk t v.2.2.2 todo D:=by rw[hs]
   rw[e];refine(Pa hl ht (db.mk t v.2.2.2 todo D) J nz).bind λw hw=>?_
   obtain⟨w1,w2,w3,w4,n',w5⟩:=hw;rw[w1,w2];exact ih k w.wait w.todo D n' (by simp only at w3;omega) U w5 w4
theorem W9 (ht:mi t) (hb:l.length<=1000000) (hK:K<=1100000000) (hl: ∀x∈l,qq t x/\x.Key+254*256<=K):Ok (tx.f t l) (λr=>r.2=0/\qt t l K r.1):=by
 have oz:=oH ht.1;unfold tx.f;refine(W5 ht l hb).bind λb ju=>?_
 have:b=true:=ju.2 λx hx=>(hl x hx).1;subst this;refine Ok.neg bj ?_;obtain⟨r,e1,e2,e3,e4⟩:=ahz;refine Ok.bind (P:=λp=> ∃S:List a_,p=(t.W,t.H,t.C,r,S,List.replicate t.C.length cH)/\S.length<=l.length/\(∀e,e∈S↔e∈l)/\S.Pairwise (λa b=> ¬tc b a)) (Ok.eq e1 ((Ps l hb).bind λS hS=>Ok.eq (WE U U) (Ok.pure ⟨S,J,hS⟩))) λp hp=>?_
 obtain⟨S,rfl,s1,s2,s3⟩:=hp;simp only;have Ax: ∀x∈S,qq t x/\x.Key+254*256<=K:=λx hx=>hl x ((s2 x).1 hx);have Gr: ∀c:Int,0<=c->c<t.C.length->rd (List.replicate t.C.length cH) c=cH:=λc c0 c1=>uB c0 U
 have hu:uL t (List.replicate t.C.length cH)<=256:=by unfold uL;have:=FF (λc=>rd (List.replicate t.C.length cH) c==cH) t.C.length;omega
 have nz:BA t S K r S (List.replicate t.C.length cH) 0:=by
  refine⟨e3,by omega,by simp,λc c0 c1 hc=>absurd (Gr c c0 c1) hc,λk i hh=>absurd hh (e4 k i),λc d c0 c1 hc=>absurd (Gr c c0 c1) hc,λx hx=> .inl hx,λx hx=>⟨hx,by rw[e2];exact(Ax x hx).1.2.2.2.1⟩,s3.imp λ{a b} h=>?_⟩
  unfold tc at h;omega
 unfold nS.f;refine Ok.bind (P:=λq=>qt t l K q.aR) ?_ λq hq=>Ok.pure ⟨J,hq⟩
 refine(Pa Ax ht ⟨t,r,S,List.replicate t.C.length cH⟩ J nz).bind λw hw=>?_
 obtain⟨w1,w2,w3,w4,n',w5⟩:=hw;rw[w1,w2];have hlen:=e3.Ct;have Gp:r.len=0:=Classical.byContradiction λz=>by obtain⟨k,i,hh⟩:=e3.some z;exact e4 k i hh
 refine(ahL Ax hK ht ⟨⟨t.W,t.H,t.C⟩,r,S,List.replicate t.C.length cH⟩ J 3000000 fuel w.wait w.todo _ n' (by show(5*uL t (List.replicate t.C.length cH)+2*w.todo.length+w.wait.len).toNat<=3000000;have w3:w.wait.len+2*w.todo.length<=r.len+2*S.length:=w3;omega) (by rw[cD];omega) w5 w4).mono λq hq=>⟨hq.dl,λc c0 c1 hc=>?_,hq.nb,λx hx=>hq.sd x ((s2 x).2 hx)⟩
 obtain⟨b1,b2,b3,b4⟩:=hq.dv c c0 c1 hc;refine⟨b1,b2,b3,?_⟩;rcases b4 with⟨x,hx,z⟩ |z
 ·exact .inl ⟨x,(s2 x).1 hx,z⟩
 ·exact .inr z
theorem Pt (ht:mi t) {K':Int} {D D':List Int} (h:qt t l K D) (h':qt t l K' D'): ∀(n:Nat) (c:Int),0<=c->c<t.C.length->rd D c≠cH->rd D c<=n->rd D' c≠cH/\rd D' c<=rd D c:=by
 intro n
 induction n with
 |zero=>
  intro c c0 c1 hc hn;obtain⟨a1,a2,a3,a4⟩:=h.dv c c0 c1 hc;rcases a4 with⟨x,hx,e1,e2⟩ |⟨q,d,q0,q1,d0,d3,e1,e2,e3⟩
  ·have:=h'.sd x hx;rw[e1] at this;exact⟨this.1,by omega⟩
  ·have:=(h.dv q q0 q1 e1).1;have:=ht.2 q q0 q1;omega
 |succ n ih=>
  intro c c0 c1 hc hn;obtain⟨a1,a2,a3,a4⟩:=h.dv c c0 c1 hc;rcases a4 with⟨x,hx,e1,e2⟩ |⟨q,d,q0,q1,d0,d3,e1,e2,e3⟩
  ·have:=h'.sd x hx;rw[e1] at this;exact⟨this.1,by omega⟩
  ·have hC:=ht.2 q q0 q1;obtain⟨b1,b2⟩:=ih q q0 q1 e1 U;have:=h'.nb q d q0 q1 b1 d0 d3 U (by rw[e2];exact a3)
   rw[e2] at this;exact⟨this.1,by omega⟩
theorem aiB (ht:mi t) {K':Int} {D D':List Int} (h:qt t l K D) (h':qt t l K' D') {c:Int} (c0:0<=c) (c1:c<t.C.length):rd D c=rd D' c:=by
 by_cases z:rd D c=cH
 ·by_cases z':rd D' c=cH
  ·rw[z,z']
  ·exact absurd z (Pt ht h' h (rd D' c).toNat c c0 c1 z' (by have:=(h'.dv c c0 c1 z').1;omega)).1
 ·have q:=Pt ht h h' (rd D c).toNat c c0 c1 z (by have:=(h.dv c c0 c1 z).1;omega)
  have:=Pt ht h' h (rd D' c).toNat c c0 c1 q.1 (by have:=(h'.dv c c0 c1 q.1).1;omega)
  omega
theorem aiC (ht:mi t) {D:List Int} (h:qt t l K D) {c:Int} (c0:0<=c) (c1:c<t.C.length) (hc:rd D c=0): ∃x∈l,x.Cell=c/\x.Key=0:=by
 have hI:cH=1099511627776:=rfl;obtain⟨a1,a2,a3,a4⟩:=h.dv c c0 c1 U;rcases a4 with⟨x,hx,e1,e2⟩ |⟨q,d,q0,q1,d0,d3,e1,e2,e3⟩
 ·exact⟨x,hx,e1,by omega⟩
 ·have:=(h.dv q q0 q1 e1).1;have:=ht.2 q q0 q1;omega
end
section
variable {t : aL} {l : List a_} {K : Int} {D : List Int}
def u_ (l:List a_) (c s:Int):Int:=(kC.f l c s).getD 0
theorem QW (hb:l.length<=1000000) (c s:Int):kC.f l c s=some (u_ l c s):=by
 obtain⟨r,e⟩:=ZY l c s hb;unfold u_;rw[e];rfl
theorem agb (ht:mi t) {c s:Int} (c0:0<=c) (c1:c<t.C.length) (s0:0<=s) (s3:s<=3):Dc.f ⟨t,l,D⟩ c s=some (eK t c s):=by
 have hl:=oH ht.1;obtain⟨a1,a2,a3,a4,a5,_⟩:=ht.1;have hq:0<=c/t.W/\c/t.W<=c:=⟨Int.ediv_nonneg c0 U,Int.ediv_le_self _ c0⟩;unfold Dc.f eK;simp only;rw[af (show ¬t.W=0 by omega),af (show ¬t.W=0 by omega),qX c0,mX c0,wi (x:=c/t.W) U U,wi (x:=t.W-1) U U,wi (x:=t.H-1) U U,wi (x:=c-t.W) U U,wi (x:=c+1) U U,wi (x:=c+t.W) U U,wi (x:=c-1) U U]
 have hs:s=0∨s=1∨s=2∨s=3:=U;rcases hs with rfl |rfl |rfl |rfl
 ·by_cases z:0<c/t.W<;>simp[z]
 ·by_cases z:c%t.W<t.W-1<;>simp[z]
 ·by_cases z:c/t.W<t.H-1<;>simp[z]
 ·by_cases z:0<c%t.W<;>simp[z]
def Aa (t:aL) (l:List a_) (D:List Int) (c s:Int):Bool:=
 if eK t c s<0 then u_ l c s==rd D c else decide (rd t.C (eK t c s)≠255/\rd t.C (eK t c s)+rd D (eK t c s)=rd D c)
theorem aiD (hK:K<=1100000000) (h:qt t l K D) {c:Int} (c0:0<=c) (c1:c<t.C.length):0<=rd D c/\rd D c<=1099511627776:=by
 have hI:cH=1099511627776:=rfl
 by_cases z:rd D c=cH
 ·omega
 ·have:=h.dv c c0 c1 z;omega
theorem KZ (ht:mi t) (hb:l.length<=1000000) (hK:K<=1100000000) (h:qt t l K D) {c s:Int} (c0:0<=c) (c1:c<t.C.length) (s0:0<=s) (s3:s<=3):kD.f ⟨t,l,D⟩ c s=some (Aa t l D c s):=by
 have B9:=h.dl;unfold kD.f Aa;rw[agb ht c0 c1 s0 s3];simp only[aG]
 by_cases z:eK t c s<0
 ·rw[af z,af z,QW hb];simp only[aG];rw[af U]
 ·have hn:=(K_ ht.1 (s:=s) c0 c1).resolve_left U;have hC:=ht.2 _ hn.1 hn.2;have hD:=aiD hK h hn.1 hn.2;rw[ah z,ah z,af hn]
  by_cases y:rd t.C (eK t c s)=255
  ·rw[ah (by simp[y])];simp[y]
  ·rw[af (by simpa using y),af U,af U,wi (x:=rd t.C (eK t c s)) U U,wi U U]
   simp only[aG,Option.some.injEq];rw[Bool.eq_iff_iff];simp[y]
def HE (t:aL) (l:List a_) (D:List Int) (c:Int):Int:=
 if Aa t l D c 0=true then 0 else if Aa t l D c 1=true then 1 else if Aa t l D c 2=true then 2 else if Aa t l D c 3=true then 3 else 5
def yI (t:aL) (l:List a_) (D:List Int) (c:Int):Int:=if rd D c=cH then 5 else if rd D c=u_ l c 4 then 4 else HE t l D c
theorem abj (c:Int):0<=yI t l D c/\yI t l D c<=5:=by
 unfold yI HE
 repeat' split
 all_goals omega
theorem ah1 (ht:mi t) (hb:l.length<=1000000) (hK:K<=1100000000) (h:qt t l K D) {c:Int} (c0:0<=c) (c1:c<t.C.length):Db.f ⟨t,l,D⟩ c=some (yI t l D c):=by
 have B9:=h.dl;unfold Db.f EJ.f yI HE;simp only[KZ ht hb hK h c0 c1 (Int.le_refl 0) (by omega:(0:Int)<=3),KZ ht hb hK h c0 c1 (by omega:(0:Int)<=1) U,KZ ht hb hK h c0 c1 (by omega:(0:Int)<=2) U,KZ ht hb hK h c0 c1 (by omega:(0:Int)<=3) U,QW hb,aG,beq_self_eq_true,if_true]
 rw[af U]
 by_cases z:rd D c=cH
 ·rw[af (by simpa using z),af z]
 ·rw[ah (by simpa using z),ah z]
  by_cases y:rd D c=u_ l c 4
  ·rw[af (by simpa using y),af y]
  ·rw[ah (by simpa using y),ah y]
   repeat' split
   all_goals rfl
structure wJ (t:aL) (l:List a_) (K:Int) (f:fZ):Prop where
 aR:qt t l K f.fe
 dl:f.cy.length=t.C.length
 dir: ∀c:Int,0<=c->c<t.C.length->rd f.cy c=yI t l f.fe c
theorem abB (ht:mi t) (hb:l.length<=1000000) (hK:K<=1100000000) (h:qt t l K D) (z:Int): ∀(n k:Nat) (x:List Int) (i:Int),(t.C.length-i).toNat<=n->n<k->0<=i->i<=t.C.length->(x.length:Int)=i->(∀c:Int,0<=c->c<i->rd x c=yI t l D c)->
 Ok (nR.l0 k t l (D,z) x i) (λr=>r.2=0/\wJ t l K r.1):=by
 have oz:=oH ht.1;have B9:=h.dl;have fin: ∀(k:Nat) (x:List Int) (i:Int),¬i<t.C.length->i<=t.C.length->(x.length:Int)=i->(∀c:Int,0<=c->c<i->rd x c=yI t l D c)->Ok (nR.l0 (k+1) t l (D,z) x i) (λr=>r.2=0/\wJ t l K r.1):=λk x i hi ei hx ha=>by
  rw[nR.l0,ah (by simp only;omega)]
  exact Ok.pure ⟨J,h,by simp only;omega,λc c0 c1=>ha c c0 U⟩
 intro n
 induction n with
 |zero=>
  intro k x i hn hk hi ei hx ha;obtain⟨k,rfl⟩:=bl hk;exact fin k x i U ei hx ha
 |succ n ih=>
  intro k x i hn hk hi ei hx ha;obtain⟨k,rfl⟩:=bl hk
  by_cases aQ:i<t.C.length
  ·rw[nR.l0,wi U U];refine Ok.pos (by simp only;omega) (Ok.eq (ah1 ht hb hK h hi aQ) (Ok.cx U (ih k _ (i+1) U U U U bk λc c0 c1=>?_)))
   rw[OY c0 U];split
   ·rename_i q;rw[q,hx]
   ·exact ha c c0 U
  ·exact fin k x i aQ ei hx ha
theorem abA (ht:mi t) (hb:l.length<=1000000) (hK:K<=1100000000) (hl: ∀x∈l,qq t x/\x.Key+254*256<=K):Ok (nR.f t l) (λr=>r.2=0/\wJ t l K r.1):=by
 have oz:=oH ht.1;unfold nR.f;refine(W9 ht hb hK hl).bind λv hv=>?_
 obtain⟨D,z⟩:=v;simp only at hv⊢;exact Ok.neg (by simp[hv.1]) (abB ht hb hK hv.2 z t.C.length fuel [] 0 U (by rw[cD];omega) U U J (λc c0 c1=>by omega))
end
def kF (m:aL) (s:Int) (n:Nat):List Int:=(List.range n).map λl:Nat=>rd m.C (c_ m.W m.H s (l:Int))
theorem Dh (m:aL) (s:Int) (n:Nat):(kF m s n).length=n:=by simp[kF]
theorem ai3 (m:aL) (s:Int) (n:Nat):kF m s (n+1)=kF m s n++[rd m.C (c_ m.W m.H s (n:Int))]:=by
 simp[kF,List.range_succ]
theorem ai2 (m:aL) (s:Int) (n a:Nat):kF m s (n+a)=kF m s n++(List.range a).map λx:Nat=>rd m.C (c_ m.W m.H s ((n+x:Nat):Int)):=by
 simp only[kF,List.range_add,List.map_append,List.map_map];rfl
theorem Ak {w h s l:Int} (hs:bJ w h s) (h0:0<=l) (h1:l<(ax w h s).1*(ax w h s).2):0<=c_ w h s l/\c_ w h s l<w*h:=by
 obtain⟨a1,a2,a3,a4,a5,a6⟩:=xc hs h0 h1;obtain⟨p1,p2,p3,p4⟩:=uG hs;have e:c_ w h s l=(16*(s/(bq w h).1)+l/(ax w h s).1)*w+(16*(s%(bq w h).1)+l%(ax w h s).1):=by
  unfold c_;rw[af ⟨hs,h0,h1⟩]
 rw[e];exact sw U a5 U a6
theorem global_row {w h s y x:Int} (hs:bJ w h s) (y0:0<=y) (y1:y<(ax w h s).2) (x0:0<=x) (x1:x<(ax w h s).1):c_ w h s (y*(ax w h s).1+x)=c_ w h s (y*(ax w h s).1)+x:=by
 obtain⟨z1,z2,z3,z4⟩:=qf hs;have hl:=sw (w:=(ax w h s).1) (h:=(ax w h s).2) x0 x1 y0 y1;have Ay:=sw (w:=(ax w h s).1) (h:=(ax w h s).2) (x:=0) U U y0 y1;have n1:=qK (a:=(ax w h s).1) (x:=x) (y:=y) x0 x1;have n0:=qK (a:=(ax w h s).1) (x:=0) (y:=y) U U;rw[Int.add_zero] at n0 Ay;unfold c_;rw[af ⟨hs,hl⟩,af ⟨hs,Ay⟩,n1.1,n1.2,n0.1,n0.2];omega
theorem aiV {L:List Int} {lo:Int} {a:Nat} (h0:0<=lo) (h1:lo+a<=L.length):aA L lo (lo+a)=(List.range a).map λx:Nat=>rd L (lo+(x:Int)):=by
 apply List.ext_getElem
 ·simp[aA];omega
 ·intro i h2 h3;have hi:i<a:=by simpa using h3
  simp only[aA,List.getElem_take,List.getElem_drop,List.getElem_map,List.getElem_range];rw[jj U]
  congr 1;omega
theorem ai4 {m:aL} (hm:tK m) (s:Int):nK.f m s=some (aL.mk (ax m.W m.H s).1 (ax m.W m.H s).2 (kF m s ((ax m.W m.H s).1*(ax m.W m.H s).2).toNat)):=by
 unfold nK.f;rw[WM,aG];have hz:=size_le m.W m.H s;have hpr:(ax m.W m.H s).1*(ax m.W m.H s).2<=16*16:=ky hz.1 hz.2.2.1 hz.2.1 hz.2.2.2;have hp0:0<=(ax m.W m.H s).1*(ax m.W m.H s).2:=nG hz.1 hz.2.2.1;have key: ∀(n k:Nat) (i:Int),i+n=(ax m.W m.H s).1*(ax m.W m.H s).2->0<=i->n<k->
  nK.l0 k m s (ax m.W m.H s) (kF m s i.toNat) i=some (aL.mk (ax m.W m.H s).1 (ax m.W m.H s).2 (kF m s ((ax m.W m.H s).1*(ax m.W m.H s).2).toNat)):=by
  intro n
  induction n with
  |zero=>
   intro k i hi h0 hk;obtain⟨k,rfl⟩: ∃q,k=q+1:=⟨k-1,by omega⟩
   rw[nK.l0,bm (x:=_*_) U U,ah U];have:i=(ax m.W m.H s).1*(ax m.W m.H s).2:=U;rw[this]
  |succ n ih=>
   intro k i hi h0 hk;obtain⟨k,rfl⟩: ∃q,k=q+1:=⟨k-1,by omega⟩
   have hs:bJ m.W m.H s:=by
    by_cases hs:bJ m.W m.H s
    ·exact hs
    ·have:ax m.W m.H s=(0,0):=by unfold ax;rw[ah hs]
     rw[this] at hi;simp at hi;omega
   have hg:=Ak hs h0 (by omega:i<_)
   have hl:=hm.2.1;rw[nK.l0,bm (x:=_*_) U U,af U,ahy,aG,af U,af (by rw[Dh];omega),bm U U]
   have:=ih k (i+1) U U U;rw[show(i+1).toNat=i.toNat+1 by omega,ai3,show((i.toNat:Nat):Int)=i by omega] at this
   exact this
 exact key ((ax m.W m.H s).1*(ax m.W m.H s).2).toNat fuel 0 U U (by rw[tZ];omega)
def FP (g:bA) (s:Int):aL×Bool:=if bJ g.m.W g.m.H s then(aL.mk (ax g.m.W g.m.H s).1 (ax g.m.W g.m.H s).2 (kF g.m s ((ax g.m.W g.m.H s).1*(ax g.m.W g.m.H s).2).toNat),true) else(aL.mk 0 0 [],false)
theorem PG {g:bA} {more:Int} (h:dD g more) (s:Int):lW.f g s=some (FP g s):=by
 have hl:=h.ok.2.1;unfold lW.f FP;have e0:iH.f g=some (g.m.W,g.m.H):=rfl;rw[e0,aG,HF,aG]
 by_cases hs:bJ g.m.W g.m.H s
 ·have hz:=qf hs;rw[ah bk,af hs];have hpr:(ax g.m.W g.m.H s).1*(ax g.m.W g.m.H s).2<=16*16:=ky U U hz.2.1 hz.2.2.2;have key: ∀(n k:Nat) (i:Int),i+n=(ax g.m.W g.m.H s).2->0<=i->n<k->
   lW.l0 k g s (g.m.W,g.m.H) (ax g.m.W g.m.H s) (kF g.m s (i*(ax g.m.W g.m.H s).1).toNat) i=some (aL.mk (ax g.m.W g.m.H s).1 (ax g.m.W g.m.H s).2 (kF g.m s ((ax g.m.W g.m.H s).1*(ax g.m.W g.m.H s).2).toNat),true):=by
   intro n
   induction n with
   |zero=>
    intro k i hi h0 hk;obtain⟨k,rfl⟩: ∃q,k=q+1:=⟨k-1,by omega⟩
    rw[lW.l0,ah U];have:i=(ax g.m.W g.m.H s).2:=U;rw[this,Int.mul_comm]
   |succ n ih=>
    intro k i hi h0 hk;obtain⟨k,rfl⟩: ∃q,k=q+1:=⟨k-1,by omega⟩
    have rF:i<(ax g.m.W g.m.H s).2:=U;have b0:0<=i*(ax g.m.W g.m.H s).1:=nG h0 U;have b1:i*(ax g.m.W g.m.H s).1+(ax g.m.W g.m.H s).1<=(ax g.m.W g.m.H s).1*(ax g.m.W g.m.H s).2:=by
     have:(i+1)*(ax g.m.W g.m.H s).1<=(ax g.m.W g.m.H s).2*(ax g.m.W g.m.H s).1:=Int.mul_le_mul_of_nonneg_right U U;rw[Int.add_mul,Int.one_mul,Int.mul_comm (ax g.m.W g.m.H s).2] at this;exact this
    have lo:=Ak hs b0 U;have hi3:=Ak (l:=i*(ax g.m.W g.m.H s).1+((ax g.m.W g.m.H s).1-1)) hs U U;rw[global_row hs h0 rF U U] at hi3;have hc:=xv h.ok.1;rw[lW.l0,af rF,bm (x:=_*_) U U,Jq,aG];simp only[bm (x:=c_ g.m.W g.m.H s (i*(ax g.m.W g.m.H s).1)+(ax g.m.W g.m.H s).1) U U];rw[af U];have jH:(((ax g.m.W g.m.H s).1.toNat:Nat):Int)=(ax g.m.W g.m.H s).1:=U;have D9:=aiV (L:=g.m.C) (lo:=c_ g.m.W g.m.H s (i*(ax g.m.W g.m.H s).1)) (a:=(ax g.m.W g.m.H s).1.toNat) U U;rw[jH] at D9;rw[D9,af (by rw[Dh];simp;omega),bm U U]
    have xj:kF g.m s (i*(ax g.m.W g.m.H s).1).toNat++(List.range (ax g.m.W g.m.H s).1.toNat).map (λx:Nat=>rd g.m.C (c_ g.m.W g.m.H s (i*(ax g.m.W g.m.H s).1)+(x:Int)))=kF g.m s ((i+1)*(ax g.m.W g.m.H s).1).toNat:=by
     rw[show((i+1)*(ax g.m.W g.m.H s).1).toNat=(i*(ax g.m.W g.m.H s).1).toNat+(ax g.m.W g.m.H s).1.toNat by rw[Int.add_mul,Int.one_mul];omega,ai2]
     congr 1
     apply List.map_congr_left;intro x hx;have vH:=List.mem_range.mp hx;rw[show(((i*(ax g.m.W g.m.H s).1).toNat+x:Nat):Int)=i*(ax g.m.W g.m.H s).1+(x:Int) by omega,global_row hs h0 rF U U]
    rw[xj];exact ih k (i+1) U U U
  have:=key (ax g.m.W g.m.H s).2.toNat fuel 0 U U (by rw[tZ];omega)
  rw[show((0:Int)*(ax g.m.W g.m.H s).1).toNat=0 by simp] at this
  exact this
 ·have:ax g.m.W g.m.H s=(0,0):=by unfold ax;rw[ah hs]
  rw[this,af bj,ah hs]
theorem ab2 (g:bA) (hb:g.m.C.length<=1099511627776):xe.f g=some g.m:=by
 unfold xe.f;rw[Re _ hb];rfl
theorem GO (w h c:Int):qY.f w h c=some (dw w h c):=by
 unfold qY.f dw;simp only[OQ,aG,rR,HF]
 by_cases hc:bV w h c
 ·rw[ah (by rw[Ep];simp[hc]),af hc]
  simp only[A_];rw[af hc];simp only;have hp:=vU hc;have hw:=Ot hc;have hz:=size_le w h (aW w h c);have h5:0<=c/w%16*(ax w h (aW w h c)).1:=nG U U;have h6:c/w%16*(ax w h (aW w h c)).1<=16*16:=ky U U U U;rw[mX hp.2.2.1,mX hp.1,bm (x:=_*_) U U,bm U U]
 ·rw[af (by rw[Ep];exact hc),ah hc]
theorem Eg {w h c:Int} (hc:bV w h c):0<=dw w h c/\dw w h c<(ax w h (aW w h c)).1*(ax w h (aW w h c)).2:=by
 have l6:=Ot hc;have mP:=vU hc;have h1:=sw (w:=(ax w h (aW w h c)).1) (h:=(ax w h (aW w h c)).2) (x:=c%w%16) (y:=c/w%16) U l6.1 U l6.2;have e4:dw w h c=c/w%16*(ax w h (aW w h c)).1+c%w%16:=by unfold dw;rw[af hc]
 rw[e4];exact h1
theorem tm {w h c:Int} (hc:bV w h c):bJ w h (aW w h c):=by
 unfold aW;rw[af hc];exact ED hc
theorem DN {w h c:Int} (hc:bV w h c):c_ w h (aW w h c) (dw w h c)=c:=by
 have l6:=Ot hc;have mP:=vU hc;have Uo:=EC hc;have cn:=Eg hc;unfold c_;rw[af ⟨tm hc,cn⟩];have e3:aW w h c=c/w/16*(bq w h).1+c%w/16:=by unfold aW;rw[af hc]
 have e4:dw w h c=c/w%16*(ax w h (aW w h c)).1+c%w%16:=by unfold dw;rw[af hc]
 have n1:=qK (a:=(bq w h).1) (x:=c%w/16) (y:=c/w/16) Uo.1 Uo.2.1;have n2:=qK (a:=(ax w h (aW w h c)).1) (x:=c%w%16) (y:=c/w%16) U l6.1;rw[<-e3] at n1;rw[<-e4] at n2;rw[n1.1,n1.2,n2.1,n2.2];have a1:16*(c/w/16)+c/w%16=c/w:=U;have a2:16*(c%w/16)+c%w%16=c%w:=U;rw[a1,a2];have e:=Ra hc;unfold pD at e;rw[af ⟨hc.1,mP.1,mP.2.1,mP.2.2.1,mP.2.2.2⟩] at e;exact e
theorem Sh {w h s l k:Int} (hs:bJ w h s) (h0:0<=l) (h1:l<k) (h2:k<(ax w h s).1*(ax w h s).2):c_ w h s l<c_ w h s k:=by
 obtain⟨a1,a2,a3,a4,a5,a6⟩:=xc hs h0 (by omega:l<_)
 obtain⟨b1,b2,b3,b4,b5,b6⟩:=xc (l:=k) hs U h2;have e1:c_ w h s l=(16*(s/(bq w h).1)+l/(ax w h s).1)*w+(16*(s%(bq w h).1)+l%(ax w h s).1):=by unfold c_;rw[af ⟨hs,h0,by omega⟩]
 have e2:c_ w h s k=(16*(s/(bq w h).1)+k/(ax w h s).1)*w+(16*(s%(bq w h).1)+k%(ax w h s).1):=by unfold c_;rw[af ⟨hs,by omega,h2⟩]
 have p:=uG hs;have hz:=qf hs;have m1:=Int.mul_ediv_add_emod l (ax w h s).1;have m2:=Int.mul_ediv_add_emod k (ax w h s).1;rw[e1,e2];have hle:l/(ax w h s).1<=k/(ax w h s).1:=Int.ediv_le_ediv U U
 by_cases hq:l/(ax w h s).1=k/(ax w h s).1
 ·rw[<-hq] at m2⊢;omega
 ·have:=Int.mul_le_mul_of_nonneg_right (show 16*(s/(bq w h).1)+l/(ax w h s).1+1<=16*(s/(bq w h).1)+k/(ax w h s).1 by omega) (show 0<=w by omega)
  rw[Int.add_mul (16*(s/(bq w h).1)+l/(ax w h s).1),Int.one_mul] at this;omega
theorem aaH (w h s:Int):(qQ w h s).Pairwise (· < ·):=by
 unfold qQ we;have hz:=zC w h s;rw[List.pairwise_map];have h1:((List.range ((ax w h s).1*(ax w h s).2).toNat).filter (λl:Nat=>C2 w h s (l:Int))).Pairwise (· < ·):=List.Pairwise.sublist List.filter_sublist List.pairwise_lt_range;refine List.Pairwise.imp_of_mem ?_ h1;intro a b ha hb yR;have kb:=List.mem_range.mp (List.mem_filter.mp hb).1;exact Sh (Pr (w:=w) (h:=h) (s:=s) (l:=(b:Int)) U U) U U U
theorem OI (m:aL) (s:Int):(bK m s).Pairwise (· < ·):=(aaH m.W m.H s).sublist List.filter_sublist
theorem ux {m:aL} {s c:Int} (h:c∈bK m s):l_ m c=true/\cL m c/\bJ m.W m.H s/\aW m.W m.H c=s:=by
 obtain⟨h1,h2⟩:=List.mem_filter.mp h;unfold qQ we at h1;obtain⟨l,hl,rfl⟩:=List.mem_map.mp h1;have hz:=zC m.W m.H s;have kl:=List.mem_range.mp (List.mem_filter.mp hl).1;have hs:=Pr (w:=m.W) (h:=m.H) (s:=s) (l:=(l:Int)) U U;exact⟨h2,(Bf.mp h2).1,hs,K0 hs U U⟩
theorem vS (m:aL) (s:Int):(bK m s).length<=256:=by
 have:=Rc m.W m.H s;have:=List.length_filter_le (l_ m) (qQ m.W m.H s);unfold bK;omega
theorem Oq {w h a b:Int} (ha:bV w h a) (hb:bV w h b) (e:aW w h a=aW w h b) (yR:a<b):dw w h a<dw w h b:=by
 have ia:=Eg ha;have ga:=DN ha;have ib:=Eg hb;have gb:=DN hb;rw[e] at ia ga;rcases Int.lt_trichotomy (dw w h a) (dw w h b) with q |q |q
 ·exact q
 ·rw[q] at ga;omega
 ·have:=Sh (tm hb) ib.1 q ia.2;omega
abbrev fD (m:aL) (s:Int):aL:=aL.mk (ax m.W m.H s).1 (ax m.W m.H s).2 (kF m s ((ax m.W m.H s).1*(ax m.W m.H s).2).toNat)
theorem Sq {g:bA} {s:Int} (hs:bJ g.m.W g.m.H s):FP g s=(fD g.m s,true):=by unfold FP;rw[af hs]
theorem PE {m:aL} {s l:Int} {n:Nat} (h0:0<=l) (h1:l<n):rd (kF m s n) l=rd m.C (c_ m.W m.H s l):=by
 unfold kF;rw[jj bk];simp only[List.getElem_map,List.getElem_range];rw[show((l.toNat:Nat):Int)=l by omega]
variable {g : bA} {more : Int}
theorem Pl (h:dD g more) {s:Int} (hs:bJ g.m.W g.m.H s):mi (fD g.m s):=by
 obtain⟨z1,z2,z3,z4⟩:=qf hs;have hz:=zC g.m.W g.m.H s;have hv: ∀c:Int,0<=c->c<((ax g.m.W g.m.H s).1*(ax g.m.W g.m.H s).2).toNat->1<=rd (fD g.m s).C c/\rd (fD g.m s).C c<=255:=λc c0 c1=>by
  show 1<=rd (kF _ _ _) c/\rd (kF _ _ _) c<=255
  rw[PE c0 c1];have:=Ak hs c0 U;exact h.su _ this.1 this.2
 refine⟨⟨z1,z2,z3,z4,by simp[Dh];omega,λhm=>?_⟩,λc c0 c1=>hv c c0 (by rw[Dh] at c1;exact c1)⟩
 obtain⟨c,c0,c1,e⟩:=jI hm;have:=hv c c0 (by rw[Dh] at c1;exact c1)
 simp only at this;rw[e] at this;omega
theorem C4 (h:dD g more) {c:Int} (hc:cL g.m c):0<=dw g.m.W g.m.H c/\dw g.m.W g.m.H c<(fD g.m (aW g.m.W g.m.H c)).C.length/\rd (fD g.m (aW g.m.W g.m.H c)).C (dw g.m.W g.m.H c)=fK g c:=by
 have eB:=nC h.ok hc;have cn:=Eg eB;refine⟨cn.1,by rw[Dh];omega,?_⟩
 show rd (kF _ _ _) _=_
 rw[PE cn.1 U,DN eB];unfold fK;rw[af hc]
variable {t : aL} {l : List Int}
structure E3 (t:aL) (l:List Int):Prop where
 Dg:mi t
 mem: ∀c∈l,0<=c/\c<t.C.length/\rd t.C c≠255
 up:l.Pairwise (· < ·)
 lF:l.length<=256
abbrev KT:Int:=65024
def E6 (t:aL) (c:Int) (D:List Int):Prop:=qt t [⟨c,4,0⟩] KT D
theorem ai6 (ht:mi t) {c:Int} (c0:0<=c) (c1:c<t.C.length) (c2:rd t.C c≠255):Ok (x_.f t c) (λr=>E6 t c r.1/\r.2=0):=by
 unfold x_.f;refine(W9 (K:=KT) ht bj (by decide) (λx hx=>?_)).bind λr hr=>Ok.pure ⟨hr.2,hr.1⟩
 simp only[List.mem_cons,List.not_mem_nil,or_false] at hx;subst hx;exact⟨⟨c0,c1,c2,Int.le_refl _,by show(0:Int)<=1073741824;decide,.inl J⟩,by show(0:Int)+254*256<=65024;decide⟩
theorem ai5 (h:E3 t l): ∀(n k:Nat) (i:Int),(l.length-i).toNat<=n->n<k->0<=i->qh.l0 k t l i=some true:=by
 have hf:=h.lF;have hl:=oH h.Dg.1;have fin: ∀(k:Nat) (i:Int),¬i<l.length->qh.l0 (k+1) t l i=some true:=λk i hi=>by
  rw[qh.l0,ah hi,K9 _ U,decide_eq_true h.Dg.1];rfl
 intro n
 induction n with
 |zero=>
  intro k i hn hk hi;obtain⟨k,rfl⟩:=bl hk;exact fin k i U
 |succ n ih=>
  intro k i hn hk hi;obtain⟨k,rfl⟩:=bl hk
  by_cases aQ:i<l.length
  ·have hm:=h.mem _ (ek hi aQ);have hc:=h.Dg.2 _ hm.1 hm.2.1;have et:Bi.f t (rd l i)=some (rd t.C (rd l i)):=by rw[ai0 h.Dg,af ⟨hm.1,hm.2.1⟩]
   rw[qh.l0,af aQ,af (c:=0<=i/\i<(List.length l:Int)) ⟨hi,aQ⟩,et,aG,ah (c:=(rd t.C (rd l i)==0||rd t.C (rd l i)==255)=true) bk]
   have e:(if i>0 then(if(0<=(aa (i-1))/\(aa (i-1))<(List.length l:Int)) then(some (decide ((rd l i)<=(rd l (aa (i-1)))))) else none) else(some false))=some false:=by
    by_cases z:i>0
    ·rw[af z,wi U U,af U,decide_eq_false (by have:=uz h.up (i:=i-1) (j:=i) U U aQ;omega)]
    ·rw[ah z]
   rw[e,aG];simp only[Bool.false_eq_true,if_false];rw[wi U U];exact ih k (i+1) U U U
  ·exact fin k i aQ
theorem GB {n i j:Int} (i0:0<=i) (i1:i<n) (j0:0<=j) (j1:j<n):0<=i*n/\i*n+j<n*n:=by
 have h1:=Int.mul_le_mul_of_nonneg_right (show i+1<=n by omega) (show 0<=n by omega)
 have h2:=Int.mul_nonneg i0 (show 0<=n by omega)
 rw[Int.add_mul,Int.one_mul] at h1;omega
theorem UF {n i j i' j':Int} (j0:0<=j) (j1:j<n) (j0':0<=j') (j1':j'<n) (e:i*n+j=i'*n+j'):i=i'/\j=j':=by
 have a:=qK (y:=i) j0 j1;have b:=qK (y:=i') j0' j1';rw[e] at a;exact⟨a.2.symm.trans b.2,a.1.symm.trans b.1⟩
def wI (t:aL) (l:List Int) (j:Int) (x:List Int):Prop:=(x.length:Int)=l.length*l.length/\ ∀q:Int,0<=q->q<j-> ∃D,E6 t (rd l q) D/\ ∀i:Int,0<=i->i<l.length->rd x (i*l.length+q)=rd D (rd l i)
theorem afK (h:E3 t l) {j:Int} (j0:0<=j) (j1:j<l.length) {D:List Int×Int} (hD:E6 t (rd l j) D.1): ∀(n k:Nat) (x:List Int) (i:Int),(l.length-i).toNat<=n->n<k->0<=i->wI t l j x->(∀q:Int,0<=q->q<i->rd x (q*l.length+j)=rd D.1 (rd l q))->
 Ok (jB.l1 k l j D x i) (wI t l (j+1)):=by
 have hf:=h.lF;have fin: ∀(k:Nat) (x:List Int) (i:Int),¬i<l.length->wI t l j x->(∀q:Int,0<=q->q<i->rd x (q*l.length+j)=rd D.1 (rd l q))->Ok (jB.l1 (k+1) l j D x i) (wI t l (j+1)):=λk x i hi hx hq=>by
  rw[jB.l1,ah hi];refine Ok.pure ⟨hx.1,λq q0 q1=>?_⟩
  by_cases z:q=j
  ·rw[z];exact⟨D.1,hD,λi i0 i1=>hq i i0 U⟩
  ·exact hx.2 q q0 U
 intro n
 induction n with
 |zero=>
  intro k x i hn hk hi hx hq;obtain⟨k,rfl⟩:=bl hk;exact fin k x i U hx hq
 |succ n ih=>
  intro k x i hn hk hi hx hq;obtain⟨k,rfl⟩:=bl hk
  by_cases aQ:i<l.length
  ·have hm:=h.mem _ (ek hi aQ);have cn:=GB hi aQ j0 j1;have Az:(l.length:Int)*l.length<=256*256:=ky U U U U;rw[jB.l1,wi (x:=i*(l.length:Int)) U U,wi (x:=i*(l.length:Int)+j) U U,wi (x:=i+1) U U];refine Ok.pos aQ (Ok.cx ⟨hi,aQ⟩ (Ok.cx (by rw[hD.dl];exact⟨hm.1,hm.2.1⟩) (Ok.cx (by rw[hx.1];omega) ?_)))
   have dS: ∀c:Int,0<=c->rd (List.set x (i*(l.length:Int)+j).toNat (rd D.1 (rd l i))) c=if c=i*(l.length:Int)+j then rd D.1 (rd l i) else rd x c:=λc c0=>j5 U (by rw[hx.1];omega) c0
   refine ih k _ (i+1) U U U ⟨by simpa using hx.1,λq q0 q1=>?_⟩ (λq q0 q1=>?_)
   ·obtain⟨E,e1,e2⟩:=hx.2 q q0 q1;refine⟨E,e1,λr r0 r1=>?_⟩
    have:=GB r0 r1 q0 (show q<l.length by omega)
    rw[dS _ U,ah (λz=>by have:=UF q0 U j0 j1 z;omega)]
    exact e2 r r0 r1
   ·have:=GB q0 (show q<l.length by omega) j0 j1
    rw[dS _ U]
    by_cases z:q=i
    ·rw[af (by rw[z]),z]
    ·rw[ah (λy=>z (UF j0 j1 j0 j1 y).1)];exact hq q q0 U
  ·exact fin k x i aQ hx hq
theorem afJ (h:E3 t l): ∀(n k:Nat) (x:List Int) (j:Int),(l.length-j).toNat<=n->n<k->0<=j->j<=l.length->wI t l j x->Ok (jB.l0 k t l x j) (λr=>r.2=0/\wI t l l.length r.1):=by
 have hf:=h.lF;have fin: ∀(k:Nat) (x:List Int) (j:Int),j<=l.length-> ¬j<l.length->wI t l j x->Ok (jB.l0 (k+1) t l x j) (λr=>r.2=0/\wI t l l.length r.1):=λk x j hj hi hx=>by
  rw[jB.l0,ah hi];have:j=l.length:=U;subst this;exact Ok.pure ⟨J,hx⟩
 intro n
 induction n with
 |zero=>
  intro k x j hn hk hj iJ hx;obtain⟨k,rfl⟩:=bl hk;exact fin k x j iJ U hx
 |succ n ih=>
  intro k x j hn hk hj iJ hx;obtain⟨k,rfl⟩:=bl hk
  by_cases aQ:j<l.length
  ·have hm:=h.mem _ (ek hj aQ);rw[jB.l0,wi U U];refine Ok.pos aQ (Ok.bind (P:=wI t l (j+1)) (Ok.cx ⟨hj,aQ⟩ ((ai6 h.Dg hm.1 hm.2.1 hm.2.2).bind λD hD=>?_)) λr hr=>ih k r (j+1) U U U U hr);exact afK h hj aQ hD.1 l.length fuel x 0 U (by rw[cD];omega) U hx (λq q0 q1=>by omega)
  ·exact fin k x j iJ aQ hx
theorem afI (h:E3 t l):Ok (jB.f t l) (λr=>r.2=0/\wI t l l.length r.1):=by
 have hf:=h.lF;unfold jB.f qh.f;have Az:(l.length:Int)*l.length<=256*256:=ky U U U U;have Gj:0<=(l.length:Int)*l.length:=Int.mul_nonneg U U;rw[ai5 h l.length fuel 0 U (by rw[cD];omega) U,wi U U]
 refine Ok.eq J (Ok.neg bj (Ok.cx U (afJ h l.length fuel _ 0 U (by rw[cD];omega) U U ⟨by simp;omega,λq q0 q1=>by omega⟩)))
variable {g : bA} {more : Int}
theorem PQ (h:dD g more) (s:Int):pW.f g s=some (fA g s):=by
 unfold pW.f fA;have hv:=h.vs
 by_cases hs:0<=s/\s<dO g.m.W g.m.H
 ·rw[ah U,aG,ah bk,af U,af hs]
 ·by_cases h0:s<0
  ·rw[af h0,ah hs];rfl
  ·rw[ah h0,aG,af bk,ah hs]
abbrev AL (m:aL) (s:Int):List Int:=(bK m s).map (dw m.W m.H)
theorem Kr (h:dD g more) {s:Int} (hs:bJ g.m.W g.m.H s):E3 (fD g.m s) (AL g.m s):=by
 refine⟨Pl h hs,λc hc=>?_,?_,by simpa using vS g.m s⟩
 ·obtain⟨x,hx,rfl⟩:=List.mem_map.1 hc;obtain⟨n1,n2,n3,n4⟩:=ux hx;have:=C4 h n2;rw[n4] at this;refine⟨this.1,this.2.1,?_⟩;rw[this.2.2];unfold fK;rw[af n2];exact(Bf.1 n1).2
 ·rw[List.pairwise_map];refine(OI g.m s).imp_of_mem λ{a b} ha hb yR=>?_
  obtain⟨_,a2,_,a4⟩:=ux ha;obtain⟨_,b2,_,b4⟩:=ux hb;exact Oq (nC h.ok a2) (nC h.ok b2) (a4.trans b4.symm) yR
def enc (d:Int):Int:=if d=cH then-1 else d
structure Bz (m:aL) (s:Int) (p:pw):Prop where
 nodes:p.nodes=bK m s
 len_:(p.aR.length:Int)=(bK m s).length*(bK m s).length
 Rk: ∀j:Int,0<=j->j<(bK m s).length-> ∃D,E6 (fD m s) (dw m.W m.H (rd (bK m s) j)) D/\ ∀i:Int,0<=i->i<(bK m s).length->rd p.aR (i*(bK m s).length+j)=enc (rd D (dw m.W m.H (rd (bK m s) i)))
theorem UD {x:Int} (h0: -2147483648<=x) (h1:x<=2147483647):IntKind.i32.wrap x=x:=by
 unfold IntKind.wrap IntKind.signed IntKind.bits;simp;omega
theorem afV (v:Int) (nodes:List Int) (T:List Int×Int) (hT: ∀c:Int,0<=c->c<T.1.length->rd T.1 c=cH∨(0<=rd T.1 c/\rd T.1 c<=KT)) (hb:T.1.length<=65536): ∀(n k:Nat) (x:List Int) (i:Int),(T.1.length-i).toNat<=n->n<k->0<=i->x.length=T.1.length->(∀c:Int,0<=c->c<i->rd x c=enc (rd T.1 c))->
 Ok (jh.l1 k v nodes T x i) (λp=>p.version=v/\p.nodes=nodes/\p.aR.length=T.1.length/\ ∀c:Int,0<=c->c<T.1.length->rd p.aR c=enc (rd T.1 c)):=by
 have hI:cH=1099511627776:=rfl;have MY:KT=65024:=rfl;have fin: ∀(k:Nat) (x:List Int) (i:Int),¬i<T.1.length->x.length=T.1.length->(∀c:Int,0<=c->c<i->rd x c=enc (rd T.1 c))->Ok (jh.l1 (k+1) v nodes T x i) (λp=>p.version=v/\p.nodes=nodes/\p.aR.length=T.1.length/\ ∀c:Int,0<=c->c<T.1.length->rd p.aR c=enc (rd T.1 c)):=λk x i hi hx ha=>by
  rw[jh.l1,ah hi];exact Ok.pure ⟨J,J,hx,λc c0 c1=>ha c c0 U⟩
 intro n
 induction n with
 |zero=>
  intro k x i hn hk hi hx ha;obtain⟨k,rfl⟩:=bl hk;exact fin k x i U hx ha
 |succ n ih=>
  intro k x i hn hk hi hx ha;obtain⟨k,rfl⟩:=bl hk
  by_cases aQ:i<T.1.length
  ·rw[jh.l1,wi (x:=i+1) U U];have s1: ∀(y:List Int) (u c:Int),y.length=T.1.length->0<=c->rd (List.set y i.toNat u) c=if c=i then u else rd y c:=λy u c hy c0=>j5 hi U c0
   refine Ok.pos aQ (Ok.cx ⟨hi,aQ⟩ (Ok.cx U (Ok.ite (λq=>Ok.cx bk ?_) λq=>?_)))
   ·have q:rd T.1 i≠cH:=by simpa using q
    have hd:=(hT i hi aQ).resolve_left q;rw[UD U U];refine ih k _ (i+1) U U U (by simpa using hx) λc c0 c1=>?_
    rw[s1 _ _ c (by simpa using hx) c0,s1 _ _ c hx c0]
    by_cases z:c=i
    ·rw[af z,z];unfold enc;rw[ah q]
    ·rw[ah z,ah z];exact ha c c0 U
   ·have q:rd T.1 i=cH:=by simpa using q
    refine ih k _ (i+1) U U U (by simpa using hx) λc c0 c1=>?_
    rw[s1 _ _ c hx c0]
    by_cases z:c=i
    ·rw[af z,z];unfold enc;rw[af q]
    ·rw[ah z];exact ha c c0 U
  ·exact fin k x i aQ hx ha
theorem afU (h:dD g more) {s:Int} (hs:bJ g.m.W g.m.H s) (v:Int): ∀(n k:Nat) (x:List Int) (i:Int),((bK g.m s).length-i).toNat<=n->n<k->0<=i->i<=(bK g.m s).length->x=(AL g.m s).take i.toNat->
 Ok (jh.l0 k (g.m.W,g.m.H) (fD g.m s,true) v (bK g.m s) x i) (λp=>p.version=v/\Bz g.m s p):=by
 have hl:=vS g.m s;have fin: ∀(k:Nat) (x:List Int) (i:Int),¬i<(bK g.m s).length->i<=(bK g.m s).length->x=(AL g.m s).take i.toNat->Ok (jh.l0 (k+1) (g.m.W,g.m.H) (fD g.m s,true) v (bK g.m s) x i) (λp=>p.version=v/\Bz g.m s p):=λk x i hi ei hx=>by
  rw[jh.l0,ah hi];have hx:x=AL g.m s:=by rw[hx,List.take_of_length_le bk]
  subst hx;refine(afI (Kr h hs)).bind λT hT=>?_
  obtain⟨_,t1,t2⟩:=hT;have hlen:((AL g.m s).length:Int)=(bK g.m s).length:=by simp
  have Az:((bK g.m s).length:Int)*(bK g.m s).length<=256*256:=ky U U U U;rw[hlen] at t1 t2;have hT': ∀c:Int,0<=c->c<T.1.length->rd T.1 c=cH∨(0<=rd T.1 c/\rd T.1 c<=KT):=λc c0 c1=>by
   have hp:0<((bK g.m s).length:Int):=by
    apply Classical.byContradiction;intro z;have:((bK g.m s).length:Int)=0:=U;rw[this] at t1;omega
   have hm:=Int.emod_nonneg c (show((bK g.m s).length:Int)≠0 by omega)
   have xi:=Int.emod_lt_of_pos c hp;have Gb:=Int.mul_ediv_add_emod c (bK g.m s).length;have hq:c/(bK g.m s).length<(bK g.m s).length:=Int.ediv_lt_of_lt_mul hp U;have Gl:0<=c/(bK g.m s).length:=Int.ediv_nonneg c0 U;obtain⟨D,d1,d2⟩:=t2 _ hm xi;have:=d2 _ Gl hq;rw[Int.mul_comm,Gb] at this;rw[this];have je:=(Kr h hs).mem _ (ek (a:=AL g.m s) Gl U)
   by_cases z:rd D (rd (AL g.m s) (c/(bK g.m s).length))=cH
   ·exact .inl z
   ·have:=d1.dv _ je.1 je.2.1 z;exact .inr ⟨this.1,this.2.1⟩
  refine Ok.cx U ((afV v _ T hT' U T.1.length fuel _ 0 U (by rw[cD];omega) U bj (λc c0 c1=>by omega)).mono λp hp=>⟨hp.1,hp.2.1,by rw[hp.2.2.1];exact t1,λj j0 j1=>?_⟩)
  obtain⟨D,d1,d2⟩:=t2 j j0 j1;have hr: ∀i:Int,0<=i->i<(bK g.m s).length->rd (AL g.m s) i=dw g.m.W g.m.H (rd (bK g.m s) i):=λi i0 i1=>xH i0 i1
  rw[hr j j0 j1] at d1;refine⟨D,d1,λi i0 i1=>?_⟩
  have:=GB i0 i1 j0 j1;rw[hp.2.2.2 _ U (by rw[t1];omega),d2 i i0 i1,hr i i0 i1]
 intro n
 induction n with
 |zero=>
  intro k x i hn hk hi ei hx;obtain⟨k,rfl⟩:=bl hk;exact fin k x i U ei hx
 |succ n ih=>
  intro k x i hn hk hi ei hx;obtain⟨k,rfl⟩:=bl hk
  by_cases aQ:i<(bK g.m s).length
  ·rw[jh.l0,wi (x:=i+1) U U];refine Ok.pos aQ (Ok.cx ⟨hi,aQ⟩ (Ok.eq (GO ..) (Ok.cx (by rw[hx];simp;omega) (ih k _ (i+1) U U U U ?_))))
   rw[hx,HS hi (by simpa using aQ),xH hi aQ]
  ·exact fin k x i aQ ei hx
theorem afX (h:dD g more) {s:Int} (hs:bJ g.m.W g.m.H s) (M:dC):Ok (jh.f M s g) (λp=>p.version=fA g s/\Bz g.m s p):=by
 have hl:=vS g.m s;unfold jh.f;refine Ok.eq (C8 g) (Ok.eq ((PG h s).trans (by rw[Sq hs])) ?_)
 rw[PQ h,Vp h];exact Ok.eq J (afU h hs _ (bK g.m s).length fuel [] 0 U (by rw[cD];omega) U U J)
structure zW (g:bA) (M:dC):Prop where
 len_:(M.parts.length:Int)=dO g.m.W g.m.H
 le: ∀s:Int,bJ g.m.W g.m.H s->(rd M.parts s).version<=g.bL
 ok: ∀s:Int,bJ g.m.W g.m.H s->(rd M.parts s).version=fA g s->Bz g.m s (rd M.parts s)
 cl:M.clean=g.bL-> ∀s:Int,bJ g.m.W g.m.H s->(rd M.parts s).version=fA g s
 Mk:M.clean<=g.bL
 eA:0<=M.count/\M.count<=1000000000000
def sC (g:bA) (M:dC) (s:Nat):Bool:=(rd M.parts (s:Int)).version !=fA g s
def mm (g:bA) (M:dC) (n:Nat):List Int:=((List.range n).filter (sC g M)).map Int.ofNat
theorem abi (g:bA) (M:dC) (n:Nat):mm g M (n+1)=if sC g M n=true then mm g M n++[(n:Int)] else mm g M n:=by
 unfold mm;rw[List.range_succ,List.filter_append,List.map_append]
 by_cases h:sC g M n=true
 ·rw[af h,List.filter_cons_of_pos h];rfl
 ·rw[ah h,List.filter_cons_of_neg h];simp
theorem Mv (g:bA) (M:dC) (n:Nat):(mm g M n).length<=n:=by
 unfold mm;simp only[List.length_map];have:=List.length_filter_le (sC g M) (List.range n);simpa using this
theorem Jb {M:dC} {n:Nat} {s:Int}:s∈mm g M n↔0<=s/\s<n/\(rd M.parts s).version≠fA g s:=by
 unfold mm;simp only[List.mem_map,List.mem_filter,List.mem_range];constructor
 ·rintro⟨a,⟨a1,a2⟩,rfl⟩;exact⟨by simp,by simpa using a1,by simpa[sC] using a2⟩
 ·rintro⟨h0,h1,h2⟩;refine⟨s.toNat,⟨by omega,?_⟩,by simp;omega⟩
  unfold sC;rw[show((s.toNat:Nat):Int)=s by omega];simpa using h2
theorem abc (h:dD g more) (M:dC) (hb:M.parts.length<=4096): ∀(n k:Nat) (i:Nat),i+n=M.parts.length->n<k->l8.l0 k M g (mm g M i) (i:Int)=some (mm g M M.parts.length):=by
 intro n
 induction n with
 |zero=>
  intro k i hi hk;obtain⟨k,rfl⟩:=bl hk;rw[l8.l0,ah U];have:i=M.parts.length:=U;rw[this]
 |succ n ih=>
  intro k i hi hk;obtain⟨k,rfl⟩:=bl hk;have hl:=Mv g M i;have:=ih k (i+1) U U;rw[abi] at this;rw[l8.l0,af U,af U,PQ h,aG,wi U U];have ed:((rd M.parts (i:Int)).version !=fA g i)=sC g M i:=rfl;rw[ed]
  by_cases z:sC g M i=true
  ·rw[af z] at this;rw[af z,af U];exact this
  ·rw[ah z] at this;rw[ah z];exact this
variable {M : dC}
theorem Ru (h:dD g more) (hM:zW g M):l8.f M g=some (mm g M M.parts.length):=by
 unfold l8.f;have hl:=hM.len_;have hc:=oq g.m.W g.m.H;rw[FL,aG]
 by_cases z:M.clean=g.bL
 ·rw[af (by simpa using z)]
  congr 1
  refine(List.eq_nil_iff_forall_not_mem.2 λs hs=>?_).symm;obtain⟨a,b,c⟩:=Jb.1 hs;exact c (hM.cl z s ⟨a,by omega⟩)
 ·rw[ah (by simpa using z)]
  exact abc h M U M.parts.length fuel 0 U (by rw[cD];omega)
structure oP (g:bA) (M:dC):Prop where
 ms:zW g M
 all: ∀s:Int,bJ g.m.W g.m.H s->(rd M.parts s).version=fA g s
theorem oP.part (h:oP g M) {s:Int} (hs:bJ g.m.W g.m.H s):Bz g.m s (rd M.parts s):=h.ms.ok s hs (h.all s hs)
theorem Lp {x:Int} (h1:0<=x) (h2:x<=18446744073709551615):dU x=x:=q_ h1 h2
theorem zF {a b:Int} (a0:0<=a) (a1:a<=4611686018427387904) (b0:0<=b) (b1:b<=4611686018427387904):rU.f a b=some (a+b):=by
 unfold rU.f;rw[Lp U U,ah U,Lp U U]
theorem ahq (h:dD g more) (hv: ∀s:Int,bJ g.m.W g.m.H s->fA g s<=g.bL) (L:List Int) (hL: ∀s∈L,bJ g.m.W g.m.H s) (hb:L.length<=4096) (N:Int): ∀(n k:Nat) (i:Int) (M:dC),(L.length-i).toNat<=n->n<k->0<=i->i<=L.length->zW g M->M.count+(L.length-i)=N->
 (∀s:Int,bJ g.m.W g.m.H s->(rd M.parts s).version=fA g s∨ ∃j:Int,i<=j/\j<L.length/\rd L j=s)->N<=1000000000000->
 Ok (nF.l0 k g L M i) (λr=>r.1=L.length/\oP g r.2/\r.2.clean=g.bL/\r.2.count=N):=by
 have fin: ∀(k:Nat) (i:Int) (M:dC),¬i<L.length->i<=L.length->zW g M->M.count+(L.length-i)=N->(∀s:Int,bJ g.m.W g.m.H s->(rd M.parts s).version=fA g s∨ ∃j:Int,i<=j/\j<L.length/\rd L j=s)->Ok (nF.l0 (k+1) g L M i) (λr=>r.1=L.length/\oP g r.2/\r.2.clean=g.bL/\r.2.count=N):=λk i M hi ei hM hN ha=>by
  rw[nF.l0,ah hi];have ub: ∀s:Int,bJ g.m.W g.m.H s->(rd M.parts s).version=fA g s:=λs hs=>(ha s hs).resolve_right λ⟨j,j0,j1,_⟩=>by omega
  refine Ok.eq (FL g) (Ok.pure ⟨J,⟨⟨hM.len_,hM.le,hM.ok,λ_=>ub,Int.le_refl _,hM.eA⟩,ub⟩,J,?_⟩);simp only;omega
 intro n
 induction n with
 |zero=>
  intro k i M hn hk hi ei hM hN ha SB;obtain⟨k,rfl⟩:=bl hk;exact fin k i M U ei hM hN ha
 |succ n ih=>
  intro k i M hn hk hi ei hM hN ha SB;obtain⟨k,rfl⟩:=bl hk
  by_cases aQ:i<L.length
  ·have hs:=hL _ (ek hi aQ);have hc:=hM.eA;rw[nF.l0,wi (x:=i+1) U U];refine Ok.pos aQ (Ok.cx ⟨hi,aQ⟩ ((afX h hs M).bind λp hp=>Ok.cx (by rw[hM.len_];exact hs) (Ok.eq (zF hc.1 U U U) ?_)))
   have dS: ∀s:Int,0<=s->rd (List.set M.parts (rd L i).toNat p) s=if s=rd L i then p else rd M.parts s:=λs s0=>j5 hs.1 (by rw[hM.len_];exact hs.2) s0
   refine ih k (i+1) _ U U U U ⟨by simpa using hM.len_,λs fL=>?_,λs fL e=>?_,λe s fL=>?_,hM.Mk,by simp only;omega⟩ (by simp only;omega) (λs fL=>?_) SB
   ·rw[dS s fL.1];split
    ·rw[hp.1];exact hv _ hs
    ·exact hM.le s fL
   ·rw[dS s fL.1] at e⊢;split
    ·rename_i z;rw[z];exact hp.2
    ·rename_i z;rw[ah z] at e;exact hM.ok s fL e
   ·rw[dS s fL.1];split
    ·rename_i z;rw[z];exact hp.1
    ·exact hM.cl e s fL
   ·simp only;rw[dS s fL.1]
    by_cases z:s=rd L i
    ·rw[af z,z];exact .inl hp.1
    ·rw[ah z];rcases ha s fL with y |⟨j,j0,j1,y⟩
     ·exact .inl y
     ·refine .inr ⟨j,?_,j1,y⟩;have:j≠i:=λw=>z (by rw[<-y,w])
      omega
  ·exact fin k i M aQ ei hM hN ha
theorem ahp (h:dD g more) (hv: ∀s:Int,bJ g.m.W g.m.H s->fA g s<=g.bL) (hM:zW g M) (hc:M.count+4096<=1000000000000):
 Ok (nF.f M g) (λr=>oP g r.2/\r.2.clean=g.bL/\r.2.count=M.count+(mm g M M.parts.length).length):=by
 unfold nF.f;have hl:=hM.len_;have NF:=oq g.m.W g.m.H;have B9:=Mv g M M.parts.length;refine Ok.eq (Ru h hM) ((ahq h hv _ (λs hs=>?_) U (M.count+(mm g M M.parts.length).length) (mm g M M.parts.length).length fuel 0 M U (by rw[cD];omega) U U hM U (λs hs=>?_) U).mono λr hr=>hr.2)
 ·obtain⟨a,b,_⟩:=Jb.1 hs;exact⟨a,by omega⟩
 ·by_cases z:(rd M.parts s).version=fA g s
  ·exact .inl z
  ·obtain⟨j,j0,j1,e⟩:=jI ((Jb (n:=M.parts.length)).2 ⟨hs.1,by have:=hs.2;omega,z⟩)
   exact .inr ⟨j,j0,j1,e⟩
theorem afY (h:dD g more) (hv: ∀s:Int,bJ g.m.W g.m.H s->1<=fA g s): ∃M,rK.f g=some (some M)/\zW g M/\M.count=0/\M.clean=0/\ ∀s:Int,bJ g.m.W g.m.H s->(rd M.parts s).version=0:=by
 unfold rK.f;have NF:=oq g.m.W g.m.H;have e:(bq g.m.W g.m.H).1*(bq g.m.W g.m.H).2=dO g.m.W g.m.H:=rfl;rw[C8,aG,EE,aG,e,wi U U,af U];have h0: ∀s:Int,bJ g.m.W g.m.H s->(rd (List.replicate (dO g.m.W g.m.H).toNat (default:pw)) s).version=0:=λs hs=>by
  rw[uB hs.1 (by have:=hs.2;omega)];rfl
 have NL:=h.ep;refine⟨_,J,⟨by simp;omega,λs hs=>by simp only;rw[h0 s hs];omega,λs hs e=>?_,λe=>by simp only at e;omega,by simp only;omega,by simp⟩,J,J,h0⟩
 simp only at e;rw[h0 s hs] at e;have:=hv s hs;omega
section
variable {g : bA} {more : Int} {s : jl} {k : Int} {ord : List Int}
abbrev KF:Int:=104603678
abbrev CB:Int:=1000000000000
structure qo (c:fP) (b:Int):Prop where
 re:0<=c.bn/\c.bn<=b
 se:0<=c.bB/\c.bB<=b
 bu:0<=c.bz/\c.bz<=b
 hi:0<=c.bx/\c.bx<=b
 st:0<=c.bE/\c.bE<=b
 ev:0<=c.bC/\c.bC<=b
theorem qo.mono {c:fP} {b b':Int} (h:qo c b) (hb:b<=b'):qo c b':=by
 obtain⟨a1,a2,a3,a4,a5,a6⟩:=h;exact⟨by omega,by omega,by omega,by omega,by omega,by omega⟩
structure BB (g:bA) (s:jl) (k:Int) (ord:List Int):Prop where
 oA:rk s.keys k ord
 fl:s.fields.length=s.keys.ak.length
 ok: ∀c:Int,0<=c->c<s.fields.length->cL g.m (rd s.keys.ak c).key.1/\bJ g.m.W g.m.H (rd s.keys.ak c).key.2/\(rd s.fields c).version<=g.bL/\
  ((rd s.fields c).version=fA g (rd s.keys.ak c).key.2->(rd s.fields c).tn.length<=1000000/\wJ (fD g.m (rd s.keys.ak c).key.2) (rd s.fields c).tn KF (rd s.fields c).field)
def Q8 (s:jl) (a b v:Int) (l:List a_):Prop:= ∃c,cW s.keys.fE (a,b)=some c/\(rd s.fields c).version=v/\(rd s.fields c).tn=l
theorem VI (f:fZ) (h1:f.fe.length<=1000) (h2:f.cy.length<=1000):tq.f f=some f:=by
 unfold tq.f qg.f;rw[af bk,aG,af bk,aG]
 cases f;rfl
theorem KI {c:Int} (h0:0<=c) (h1:c<=1000000000000):my.f c=some (c+1):=by
 unfold my.f;rw[zF h0 U U U];rfl
theorem aaK (l:List a_) (hb:l.length<=1000000):rS.f l=some l:=by
 unfold rS.f;rw[af bk];rfl
theorem MJ (h:dD g more) {b:Int} (hb:bJ g.m.W g.m.H b) {l:List a_} {f:fZ} (hf:wJ (fD g.m b) l KF f):f.fe.length<=1000/\f.cy.length<=1000:=by
 have:=oH (Pl h hb).1;rw[hf.aR.dl,hf.dl];omega
structure P1 (g:bA) (s:jl) (k:Int) (ord:List Int) (a b:Int) (l:List a_) (r:fZ×Int×jl):Prop where
 code:r.2.1=0
 B1:wJ (fD g.m b) l KF r.1
 sh: ∃c A B,BB g r.2.2 k (c::(A++B))/\(rd r.2.2.keys.ak c).key=(a,b)/\(ord=A++c::B∨ord=A++B)/\
  ∀d∈A++B,(rd r.2.2.keys.ak d).key=(rd s.keys.ak d).key/\rd r.2.2.fields d=rd s.fields d
 now:Q8 r.2.2 a b (fA g b) l
 hit:Q8 s a b (fA g b) l->r.2.2.count=⟨s.count.bn,s.count.bB,s.count.bz,s.count.bx+1,s.count.bE,s.count.bC⟩
 eA:r.2.2.count.bn=s.count.bn/\r.2.2.count.bB=s.count.bB/\s.count.bz<=r.2.2.count.bz/\s.count.bx<=r.2.2.count.bx/\r.2.2.count.bz+r.2.2.count.bx=s.count.bz+s.count.bx+1/\s.count.bE<=r.2.2.count.bE/\s.count.bC<=r.2.2.count.bC/\r.2.2.count.bE<=s.count.bE+1/\r.2.2.count.bC<=s.count.bC+1
theorem aij (h:dD g more) (hv: ∀b:Int,bJ g.m.W g.m.H b->fA g b<=g.bL) (hs:BB g s k ord) (hc:qo s.count CB) {a b:Int} (ha:cL g.m a) (hb:bJ g.m.W g.m.H b) (l:List a_) (JX:l.length<=1000000) (hl: ∀x∈l,qq (fD g.m b) x/\x.Key+254*256<=KF):
 Ok (mw.f s a b (fA g b) (fD g.m b) l) (P1 g s k ord a b l):=by
 have ht:=Pl h hb;have JU:=hs.oA.kb;have JR:=hs.oA.lF;obtain⟨c1,c2,c3,c4,c5,c6⟩:=hc;unfold mw.f;refine(W5 ht l JX).bind λm hm=>?_
 have:m=true:=hm.2 λx hx=>(hl x hx).1;subst this;refine Ok.neg bj ((ajc hs.oA a b).bind λv N8=>?_);obtain⟨A,B,hL,Ap⟩:=N8;have hfl:=hs.fl;have ox:=(hL.mem v.1).1 (List.mem_cons_self ..);obtain⟨Ut,Uu⟩:v.1∉A/\v.1∉B:=by
  have:=(List.nodup_cons.1 hL.nd).1;simpa using this
 obtain⟨X,hX,SI,B2⟩: ∃X,(if(v.1==(List.length s.fields:Int))=true then(if(List.length s.fields+1<=1099511627776) then(some (s.fields++[(qe.mk 0 [] (fZ.mk [] []))])) else none) else(some s.fields))=some X/\X.length=v.2.2.2.ak.length/\ ∀d:Int,0<=d->d<s.fields.length->rd X d=rd s.fields d:=by
  rcases Ap with⟨_,_,_,Cf,h5,_⟩ |⟨_,_,_,_,h4,h5,_⟩ |⟨_,_,_,Cf,_,h4,h5,_⟩
  ·rw[ah bk];exact⟨_,J,by omega,λ_ _ _=>rfl⟩
  ·rw[af bk,af U];exact⟨_,J,by simp;omega,λd d0 d1=>zp d0 d1⟩
  ·rw[ah bk];exact⟨_,J,by omega,λ_ _ _=>rfl⟩
 rw[hX,aG];refine Ok.cx U ?_;have hKF:KF<=1100000000:=by decide
 have Ca:(rd v.2.2.2.ak v.1).key=(a,b):=by
  rcases Ap with⟨_,_,h3,_,_,h6⟩ |⟨_,_,_,_,_,_,_,h6⟩ |⟨_,_,_,_,_,_,_,_,h6⟩
  ·rw[h6 _ ox.1];exact((hs.oA.sl _ _).1 h3).2.2
  ·exact h6
  ·exact h6
 have NS: ∀d∈A++B,0<=d/\d<s.fields.length/\(rd v.2.2.2.ak d).key=(rd s.keys.ak d).key:=λd hd=>by
  have ug:d≠v.1:=λz=>by rw[z] at hd;exact(List.mem_append.1 hd).elim Ut Uu
  have NJ:d∈ord:=by
   rcases Ap with⟨_,_,_,e,_⟩ |⟨_,_,_,e,_⟩ |⟨_,_,_,e,_⟩<;>rw[e]
   ·rcases List.mem_append.1 hd with q |q
    ·exact List.mem_append_left _ q
    ·exact List.mem_append_right _ (List.mem_cons_of_mem _ q)
   ·exact hd
   ·rcases List.mem_append.1 hd with q |q
    ·exact List.mem_append_left _ q
    ·exact List.mem_append_right _ (List.mem_cons_of_mem _ q)
  have hr:=(hs.oA.mem d).1 NJ;refine⟨hr.1,by omega,?_⟩
  rcases Ap with⟨_,_,_,_,_,h6⟩ |⟨_,_,_,_,_,_,h6,_⟩ |⟨_,_,_,_,_,_,_,h6,_⟩
  ·exact h6 d hr.1
  ·exact h6 d hr.1 hr.2
  ·exact h6 d hr.1 ug
 have Uj:ord=A++v.1::B∨ord=A++B:=by
  rcases Ap with⟨_,_,_,e,_⟩ |⟨_,_,_,e,_⟩ |⟨_,_,_,e,_⟩
  ·exact .inl e
  ·exact .inr e
  ·exact .inl e
 have hq:(if v.2.1=true then(if((rd X v.1).version==fA g b)=true then((A'.f ((rd X v.1).tn) l).bind λv7=>some v7) else(some false)) else(some false))=some (decide (v.2.1=true/\(rd X v.1).version=fA g b/\(rd X v.1).tn=l)):=by
  by_cases z:v.2.1=true
  ·rw[af z]
   by_cases y:(rd X v.1).version=fA g b
   ·rw[af (by simpa using y)]
    have hlen:(rd X v.1).tn.length<=1000000:=by
     rcases Ap with⟨_,_,h3,Cf,h5,h6⟩ |⟨h1,_⟩ |⟨h1,_⟩
     ·have aQ:v.1<s.fields.length:=U;rw[B2 _ ox.1 aQ] at y⊢;have:=(hs.ok _ ox.1 aQ).2.2.2;rw[<-h6 _ ox.1,Ca] at this;exact(this y).1
     ·rw[h1] at z;simp at z
     ·rw[h1] at z;simp at z
    rw[aiG _ _ hlen];simp[z,y]
   ·rw[ah (by simpa using y)];simp[y]
  ·rw[ah z];simp[z]
 rw[hq,aG];refine Ok.ite (λq=>?_) λq=>?_
 ·obtain⟨q1,q2,q3⟩:=of_decide_eq_true q;rcases Ap with⟨h1,h2,h3,Cf,h5,h6⟩ |⟨h1,_⟩ |⟨h1,_⟩
  rotate_left
  ·rw[h1] at q1;simp at q1
  ·rw[h1] at q1;simp at q1
  have aQ:v.1<s.fields.length:=U;have T7:wJ (fD g.m b) l KF (rd X v.1).field:=by
   have:=(hs.ok _ ox.1 aQ).2.2.2;rw[<-h6 _ ox.1,Ca] at this;rw[B2 _ ox.1 aQ] at q2 q3⊢;have:=(this q2).2;rw[q3] at this;exact this
  have hlen:=MJ h hb T7;refine Ok.eq (KI c4.1 c4.2) (Ok.eq (VI _ hlen.1 hlen.2) (Ok.pure ⟨J,T7,⟨v.1,A,B,⟨hL,SI,λd d0 d1=>?_⟩,Ca,Uj,λd hd=>?_⟩,⟨v.1,(hL.sl _ _).2 ⟨ox.1,ox.2,Ca⟩,q2,q3⟩,λ_=>rfl,⟨J,J,Int.le_refl _,by show s.count.bx<=s.count.bx+1;omega,by show s.count.bz+(s.count.bx+1)=s.count.bz+s.count.bx+1;omega,Int.le_refl _,Int.le_refl _,by show s.count.bE<=s.count.bE+1;omega,by show s.count.bC<=s.count.bC+1;omega⟩⟩))
  ·simp only at d1⊢;have TT:d<s.fields.length:=U;rw[h6 d d0,B2 d d0 TT];exact hs.ok d d0 TT
  ·obtain⟨e0,e1,e2⟩:=NS d hd;exact⟨e2,B2 d e0 e1⟩
 ·have iK: ∃S,(if v.2.1=true then((my.f s.count.bE).bind λv12=>some v12) else(some s.count.bE))=some S/\s.count.bE<=S/\S<=s.count.bE+1:=by
   split
   ·rw[KI c5.1 c5.2];exact⟨_,J,by omega,Int.le_refl _⟩
   ·exact⟨_,J,Int.le_refl _,by omega⟩
  have hev: ∃S,(if v.2.2.1=true then((my.f s.count.bC).bind λv12=>some v12) else(some s.count.bC))=some S/\s.count.bC<=S/\S<=s.count.bC+1:=by
   split
   ·rw[KI c6.1 c6.2];exact⟨_,J,by omega,Int.le_refl _⟩
   ·exact⟨_,J,Int.le_refl _,by omega⟩
  obtain⟨S,eS,S1,S2⟩:=iK;obtain⟨E,eE,E1,E2⟩:=hev;rw[eS,aG,eE,aG,KI c3.1 c3.2,aG];refine(abA ht JX hKF hl).bind λf hf=>Ok.eq (aaK l JX) (Ok.eq (VI _ (MJ h hb hf.2).1 (MJ h hb hf.2).2) (Ok.pure ?_));have dS: ∀d:Int,0<=d->rd (List.set X (Int.toNat v.1) (qe.mk (fA g b) l f.1)) d=if d=v.1 then qe.mk (fA g b) l f.1 else rd X d:=λd d0=>j5 ox.1 U d0
  refine⟨rfl,hf.2,⟨v.1,A,B,⟨hL,by simpa using SI,λd d0 d1=>?_⟩,Ca,Uj,λd hd=>?_⟩,⟨v.1,(hL.sl _ _).2 ⟨ox.1,ox.2,Ca⟩,?_,?_⟩,λ⟨c,k1,k2,k3⟩=>?_,⟨rfl,rfl,by show s.count.bz<=s.count.bz+1;omega,Int.le_refl _,by show s.count.bz+1+s.count.bx=s.count.bz+s.count.bx+1;omega,S1,E1,S2,E2⟩⟩
  ·simp only[List.length_set] at d1⊢;rw[dS d d0]
   by_cases z:d=v.1
   ·rw[af z,z,Ca];exact⟨ha,hb,hv b hb,λ_=>⟨JX,hf.2⟩⟩
   ·rw[ah z];have NJ:d∈A++B:=by
     have:=(hL.mem d).2 ⟨d0,by omega⟩
     exact(List.mem_cons.1 this).resolve_left z
    obtain⟨e0,e1,e2⟩:=NS d NJ;rw[e2,B2 d e0 e1];exact hs.ok d e0 e1
  ·obtain⟨e0,e1,e2⟩:=NS d hd;have ug:d≠v.1:=λz=>by rw[z] at hd;exact(List.mem_append.1 hd).elim Ut Uu
   refine⟨e2,?_⟩;simp only;rw[dS d e0,ah ug];exact B2 d e0 e1
  ·simp only;rw[dS _ ox.1,af J]
  ·simp only;rw[dS _ ox.1,af J]
  ·exfalso;rcases Ap with⟨h1,h2,h3,Cf,h5,h6⟩ |⟨_,_,h3,_⟩ |⟨_,_,h3,_⟩
   ·rw[h3] at k1;simp only[Option.some.injEq] at k1;subst k1;have aQ:v.1<s.fields.length:=U;have q: ¬(v.2.1=true/\(rd X v.1).version=fA g b/\(rd X v.1).tn=l):=by simpa using q
    rw[B2 _ ox.1 aQ] at q;exact q ⟨h1,k2,k3⟩
   ·rw[h3] at k1;simp at k1
   ·rw[h3] at k1;simp at k1
theorem ais {k:Int} (h1:1<=k) (h2:k<=1000000): ∃s,xQ.f k=some (some s)/\rk s.keys k []/\s.fields=[]/\s.count=⟨0,0,0,0,0,0⟩:=by
 obtain⟨l,e,hl⟩:=afD h1 h2;unfold xQ.f;rw[ah U,e];exact⟨_,J,hl,J,J⟩
theorem R5 (h:rk s.keys k ord): ∃s',pH.f s=some s'/\rk s'.keys k []/\s'.fields=[]/\s'.count=s.count:=by
 obtain⟨l,e,hl⟩:=aaI h;unfold pH.f;rw[e];exact⟨_,J,hl,J,J⟩
theorem BB.empty (g:bA) (h:rk s.keys k []) (hf:s.fields=[]):BB g s k []:=by
 have hl:s.keys.ak.length=0:=by
  apply Classical.byContradiction;intro z;have:=(h.mem 0).2 U;simp at this
 exact⟨h,by rw[hf,hl];rfl,λc c0 c1=>by rw[hf] at c1;simp at c1;omega⟩
end
variable {g : bA} {more : Int} {M : dC}
theorem afB (x y:Int):cmp_Less_int.f x y=some (decide (x<y)):=by
 unfold cmp_Less_int.f cmp_isNaN_int.f;simp
theorem aad (x:List Int) (t:Int) (hx:x.Pairwise (· < ·)) (hb:x.length<=1000000): ∀(n k:Nat) (i j:Int),(j-i).toNat<=n->n<k->0<=i->i<=j->j<=x.length->(∀c:Int,0<=c->c<i->rd x c<t)->(∀c:Int,j<=c->c<x.length->t<=rd x c)->
 Ok (oG.l0 k x t i j) (λr=>0<=r/\r<=x.length/\(∀c:Int,0<=c->c<r->rd x c<t)/\(∀c:Int,r<=c->c<x.length->t<=rd x c)):=by
 have fin: ∀(k:Nat) (i j:Int),¬i<j->0<=i->i<=j->j<=x.length->(∀c:Int,0<=c->c<i->rd x c<t)->(∀c:Int,j<=c->c<x.length->t<=rd x c)->Ok (oG.l0 (k+1) x t i j) (λr=>0<=r/\r<=x.length/\(∀c:Int,0<=c->c<r->rd x c<t)/\(∀c:Int,r<=c->c<x.length->t<=rd x c)):=λk i j rG h0 h1 h2 ha hb=>by
  rw[oG.l0,ah rG];exact Ok.pure ⟨h0,by omega,ha,λc c0 c1=>hb c U c1⟩
 intro n
 induction n with
 |zero=>
  intro k i j hn hk h0 h1 h2 ha hb;obtain⟨k,rfl⟩:=bl hk;exact fin k i j U h0 h1 h2 ha hb
 |succ n ih=>
  intro k i j hn hk h0 h1 h2 ha hb;obtain⟨k,rfl⟩:=bl hk
  by_cases aQ:i<j
  ·have e:aa (Int.fdiv (dU (aa (i+j))) (2^1))=(i+j)/2:=by
    rw[wi (x:=i+j) U U,q_ U U,Int.fdiv_eq_ediv_of_nonneg _ (by decide),show(2:Int)^1=2 from rfl,wi U U]
   rw[oG.l0,e,wi (x:=(i+j)/2+1) U U];refine Ok.pos aQ (Ok.cx U (Ok.eq (afB ..) (Ok.ite (λq=>?_) λq=>?_)))
   ·have q:=of_decide_eq_true q;refine ih k _ j U U U U h2 (λc c0 c1=>?_) hb
    by_cases z:c=(i+j)/2
    ·rw[z];exact q
    ·have:=uz hx (i:=c) (j:=(i+j)/2) c0 U U;omega
   ·have q: ¬rd x ((i+j)/2)<t:=by simpa using q
    refine ih k i _ U U h0 U U ha (λc c0 c1=>?_)
    by_cases z:c=(i+j)/2
    ·rw[z];omega
    ·have:=uz hx (i:=(i+j)/2) (j:=c) U U c1;omega
  ·exact fin k i j aQ h0 h1 h2 ha hb
theorem aac (x:List Int) (t:Int) (hx:x.Pairwise (· < ·)) (hb:x.length<=1000000):Ok (oG.f x t) (λr=>(r.2=true↔t∈x)/\(r.2=true->0<=r.1/\r.1<x.length/\rd x r.1=t)):=by
 unfold oG.f Bc.f;refine(aad x t hx hb x.length fuel 0 x.length U (by rw[cD];omega) U U U (λc c0 c1=>by omega) (λc c0 c1=>by omega)).bind λr hr=>?_
 obtain⟨r0,r1,r2,r3⟩:=hr;have gF:(r<x.length->rd x r≠t)->t∉x:=λh hm=>by
  obtain⟨c,c0,c1,e⟩:=jI hm;rcases Int.lt_trichotomy c r with q |q |q
  ·have:=r2 c c0 q;omega
  ·subst q;exact h c1 e
  ·have:=uz hx r0 q c1;have:=r3 r U U;omega
 by_cases h1:r<x.length
 ·rw[af h1,af ⟨r0,h1⟩]
  by_cases h2:rd x r=t
  ·rw[af (by simpa using h2)]
   exact Ok.pure ⟨⟨λ_=>by rw[<-h2];exact ek r0 h1,λ_=>rfl⟩,λ_=>⟨r0,h1,h2⟩⟩
  ·rw[ah (by simpa using h2)]
   have:=gF λ_=>h2
   simp only[aG,bne_self_eq_false,Bool.false_eq_true,if_false];exact Ok.pure ⟨by simpa using this,by simp⟩
 ·rw[ah h1];have:=gF λq=>absurd q h1
  exact Ok.pure ⟨by simpa using this,by simp⟩
def node (m:aL) (c:Int):Prop:=c∈bK m (aW m.W m.H c)
theorem CI {m:aL} {c:Int} (h:node m c):l_ m c=true/\cL m c:=⟨(ux h).1,(ux h).2.1⟩
theorem KE {m:aL} {s c:Int} (h:c∈bK m s):node m c:=by
 unfold node;rw[(ux h).2.2.2];exact h
theorem RU (h:dD g more) (hF:oP g M) (c:Int):Ok (sO.f M c g) (λr=>(¬bV g.m.W g.m.H c/\r=(none,0,false))∨(bV g.m.W g.m.H c/\r.1=some (aW g.m.W g.m.H c)/\(r.2.2=true↔node g.m c)/\(r.2.2=true->0<=r.2.1/\r.2.1<(bK g.m (aW g.m.W g.m.H c)).length/\rd (bK g.m (aW g.m.W g.m.H c)) r.2.1=c))):=by
 unfold sO.f Ei.f;refine Ok.eq (C8 g) (Ok.eq (rR ..) (Ok.ite (λq=>Ok.pure (.inl ⟨zA.1 q,J⟩)) λq=>?_));have hc:bV g.m.W g.m.H c:=Classical.byContradiction λz=>q (zA.2 z);have hs:=tm hc;have hp:=hF.part hs;refine Ok.cx (by rw[hF.ms.len_];exact hs) ?_
 rw[hp.nodes];refine Ok.bind (Ok.bind (aac _ c (OI ..) (by have:=vS g.m (aW g.m.W g.m.H c);omega)) λr hr=>Ok.pure (P:=λr:Int×Bool=>(r.2=true↔node g.m c)/\(r.2=true->0<=r.1/\r.1<(bK g.m (aW g.m.W g.m.H c)).length/\rd (bK g.m (aW g.m.W g.m.H c)) r.1=c)) hr) λr hr=>Ok.pure (.inr ⟨hc,J,hr⟩)
theorem agt (hF:oP g M) (s:Int) (hs:bJ g.m.W g.m.H s):xw.f M s g=some (bK g.m s):=by
 have hp:=hF.part hs;have hl:=vS g.m s;unfold xw.f qg.f;have:=hs.1;have:=hs.2;rw[hF.ms.len_,ah U,hp.nodes];simp only[aG];rw[ah bk,af hs,af bk];rfl
def Comes (m:aL) (b:Int) (e:dZ):Prop:=
 (e.To∈bK m (aW m.W m.H b)/\e.To≠b/\e.kI≠cH/\ ∃D,E6 (fD m (aW m.W m.H b)) (dw m.W m.H b) D/\e.kI=rd D (dw m.W m.H e.To))∨
 (node m e.To/\aW m.W m.H e.To≠aW m.W m.H b/\(∃d:Int,0<=d/\d<=3/\e.To=cB m.W m.H b d)/\e.kI=rd m.C b)
theorem abr {d:Int} (h:d=cH∨(0<=d/\d<=KT)):(if(enc d != -1)=true then some (aa (enc d)) else some 1099511627776)=some d:=by
 have hI:cH=1099511627776:=rfl;have hK:KT=65024:=rfl;unfold enc
 by_cases z:d=cH
 ·simp[z]
 ·have:=h.resolve_left z;rw[ah z,af bk,wi U U]
theorem aeV (h:dD g more) (hF:oP g M) {b:Int} (hb:node g.m b) (v:Option Int×Int×Bool) (hv:0<=v.2.1/\v.2.1<(bK g.m (aW g.m.W g.m.H b)).length/\rd (bK g.m (aW g.m.W g.m.H b)) v.2.1=b)
 (Q:List dZ->Prop) (D1: ∀x:List dZ,x.length<=256->(∀e,e∈x↔Comes g.m b e/\aW g.m.W g.m.H e.To=aW g.m.W g.m.H b)->Ok (gP.l1 fuel M b g (aW g.m.W g.m.H b) (g.m.W,g.m.H) x 0) Q):
 ∀(n k:Nat) (i:Int) (x:List dZ),((bK g.m (aW g.m.W g.m.H b)).length-i).toNat<=n->n<k->0<=i->i<=(bK g.m (aW g.m.W g.m.H b)).length->x.length<=i->
 (∀e,e∈x↔Comes g.m b e/\aW g.m.W g.m.H e.To=aW g.m.W g.m.H b/\ ∃j:Int,0<=j/\j<i/\rd (bK g.m (aW g.m.W g.m.H b)) j=e.To)->
 Ok (gP.l0 k M b g v (aW g.m.W g.m.H b) x i) Q:=by
 have cn:=(CI hb).2;have hs:=tm (nC h.ok cn);have hp:=hF.part hs;have hN:=vS g.m (aW g.m.W g.m.H b);have Cb:=Kr h hs;have hI:cH=1099511627776:=rfl;have MY:KT=65024:=rfl;generalize hS:aW g.m.W g.m.H b=s at*;have Um:=OI g.m s;have fin: ∀(k:Nat) (i:Int) (x:List dZ),¬i<(bK g.m s).length->i<=(bK g.m s).length->x.length<=i->(∀e,e∈x↔Comes g.m b e/\aW g.m.W g.m.H e.To=s/\ ∃j:Int,0<=j/\j<i/\rd (bK g.m s) j=e.To)->Ok (gP.l0 (k+1) M b g v s x i) Q:=λk i x hi ei hx he=>by
  rw[gP.l0,hp.nodes,ah hi];refine Ok.eq (C8 g) (D1 x U λe=>(he e).trans ⟨λq=>⟨q.1,q.2.1⟩,λq=>⟨q.1,q.2,?_⟩⟩);rcases q.1 with⟨y,_⟩ |⟨_,y,_⟩
  ·rw[hS] at y;obtain⟨j,j0,j1,z⟩:=jI y;exact⟨j,j0,by omega,z⟩
  ·rw[hS] at y;exact absurd q.2 y
 intro n
 induction n with
 |zero=>
  intro k i x hn hk hi ei hx he;obtain⟨k,rfl⟩:=bl hk;exact fin k i x U ei hx he
 |succ n ih=>
  intro k i x hn hk hi ei hx he;obtain⟨k,rfl⟩:=bl hk
  by_cases aQ:i<(bK g.m s).length
  ·obtain⟨D,d1,d2⟩:=hp.Rk v.2.1 hv.1 hv.2.1;rw[hv.2.2] at d1;have ajK:=GB hi aQ hv.1 hv.2.1;have Az:((bK g.m s).length:Int)*(bK g.m s).length<=256*256:=ky U U U U;have N2:=ek hi aQ;have je:=Cb.mem _ (List.mem_map_of_mem N2);have hd:rd D (dw g.m.W g.m.H (rd (bK g.m s) i))=cH∨(0<=rd D (dw g.m.W g.m.H (rd (bK g.m s) i))/\rd D (dw g.m.W g.m.H (rd (bK g.m s) i))<=KT):=by
    by_cases z:rd D (dw g.m.W g.m.H (rd (bK g.m s) i))=cH
    ·exact .inl z
    ·have:=d1.dv _ je.1 je.2.1 z;exact .inr ⟨this.1,this.2.1⟩
   have eb:Cx.f (rd M.parts s) i v.2.1=some (rd D (dw g.m.W g.m.H (rd (bK g.m s) i))):=by
    unfold Cx.f;rw[hp.nodes,wi (x:=i*((bK g.m s).length:Int)) U U,wi U U,af (by rw[hp.len_];omega),d2 i hi aQ]
    exact abr hd
   rw[gP.l0,hp.nodes,af aQ,af (c:=0<=i/\i<_) ⟨hi,aQ⟩,eb,aG,wi U U];have bM:(i≠v.2.1)↔rd (bK g.m s) i≠b:=by
    constructor
    ·intro z y;rw[<-hv.2.2] at y;rcases Int.lt_or_gt_of_ne z with w |w
     ·have:=uz Um hi w hv.2.1;omega
     ·have:=uz Um hv.1 w aQ;omega
    ·intro z y;rw[y] at z;exact z hv.2.2
   have yZ:aW g.m.W g.m.H (rd (bK g.m s) i)=s:=(ux N2).2.2.2;generalize hV:rd D (dw g.m.W g.m.H (rd (bK g.m s) i))=V at*;have Aq: ∀e:dZ,e.To=rd (bK g.m s) i->(Comes g.m b e↔i≠v.2.1/\V≠cH/\e=⟨rd (bK g.m s) i,V⟩):=λe ee=>by
    obtain⟨a,c⟩:=e;simp only at ee;subst ee;unfold Comes;rw[hS];constructor
    ·rintro(⟨_,z2,z3,E,z4,z5⟩ |⟨_,z2,_⟩)
     ·have:=aiB Cb.Dg z4 d1 je.1 je.2.1;simp only at z2 z3 z5;rw[this,hV] at z5;exact⟨bM.2 z2,by omega,by rw[z5]⟩
     ·exact absurd yZ z2
    ·rintro⟨z1,z2,z3⟩;simp only[dZ.mk.injEq,true_and] at z3;subst z3;exact .inl ⟨N2,bM.1 z1,z2,D,d1,hV.symm⟩
   have xj: ∀e:dZ,(Comes g.m b e/\aW g.m.W g.m.H e.To=s/\ ∃j:Int,0<=j/\j<i+1/\rd (bK g.m s) j=e.To)↔(e∈x∨(i≠v.2.1/\V≠cH/\e=⟨rd (bK g.m s) i,V⟩)):=λe=>by
    rw[he e];constructor
    ·rintro⟨a,b',j,j0,j1,ej⟩
     by_cases z:j=i
     ·subst z;exact .inr ((Aq e ej.symm).1 a)
     ·exact .inl ⟨a,b',j,j0,by omega,ej⟩
    ·rintro(⟨a,b',j,j0,j1,ej⟩ |w)
     ·exact⟨a,b',j,j0,by omega,ej⟩
     ·have ee:e.To=rd (bK g.m s) i:=by rw[w.2.2]
      exact⟨(Aq e ee).2 w,by rw[ee];exact yZ,i,hi,by omega,ee.symm⟩
   by_cases q:i≠v.2.1/\V≠cH
   ·rw[af (by simp;exact q),af U]
    refine Ok.eq J (ih k (i+1) _ U U U U bk λe=>?_);rw[xj e];simp[q.1,q.2]
   ·rw[ah (by simp only[Bool.and_eq_true,bne_iff_ne];exact q)]
    refine Ok.eq J (ih k (i+1) x U U U U U λe=>?_);rw[xj e];exact⟨.inl,λw=>w.resolve_right λy=>q ⟨y.1,y.2.1⟩⟩
  ·exact fin k i x aQ ei hx he
theorem aeW (h:dD g more) (hF:oP g M) {b:Int} (hb:node g.m b): ∀(n k:Nat) (j:Int) (x:List dZ),(4-j).toNat<=n->n<k->0<=j->j<=4->x.length<=256+j->
 (∀e,e∈x↔Comes g.m b e/\(aW g.m.W g.m.H e.To=aW g.m.W g.m.H b∨ ∃d:Int,0<=d/\d<j/\e.To=cB g.m.W g.m.H b d))->
 Ok (gP.l1 k M b g (aW g.m.W g.m.H b) (g.m.W,g.m.H) x j) (λr=>r.length<=260/\ ∀e,e∈r↔Comes g.m b e):=by
 have fin: ∀(k:Nat) (j:Int) (x:List dZ),¬j<=3->x.length<=256+j->j<=4->(∀e,e∈x↔Comes g.m b e/\(aW g.m.W g.m.H e.To=aW g.m.W g.m.H b∨ ∃d:Int,0<=d/\d<j/\e.To=cB g.m.W g.m.H b d))->Ok (gP.l1 (k+1) M b g (aW g.m.W g.m.H b) (g.m.W,g.m.H) x j) (λr=>r.length<=260/\ ∀e,e∈r↔Comes g.m b e):=λk j x hj hx iJ he=>by
  rw[gP.l1,ah hj];refine Ok.pure ⟨by omega,λe=>(he e).trans ⟨λq=>q.1,λq=>⟨q,?_⟩⟩⟩
  rcases q with⟨y,_⟩ |⟨_,_,⟨d,d0,d3,y⟩,_⟩
  ·exact .inl (ux y).2.2.2
  ·exact .inr ⟨d,d0,by omega,y⟩
 intro n
 induction n with
 |zero=>
  intro k j x hn hk hj iJ hx he;obtain⟨k,rfl⟩:=bl hk;exact fin k j x U hx iJ he
 |succ n ih=>
  intro k j x hn hk hj iJ hx he;obtain⟨k,rfl⟩:=bl hk
  by_cases aQ:j<=3
  ·rw[gP.l1,wi (x:=j+1) U U];have cn:=(CI hb).2;have DW:fK g b=rd g.m.C b:=by unfold fK;rw[af cn]
   have xj: ∀(P:Prop),(P↔node g.m (cB g.m.W g.m.H b j)/\aW g.m.W g.m.H (cB g.m.W g.m.H b j)≠aW g.m.W g.m.H b)-> ∀e:dZ,(Comes g.m b e/\(aW g.m.W g.m.H e.To=aW g.m.W g.m.H b∨ ∃d:Int,0<=d/\d<j+1/\e.To=cB g.m.W g.m.H b d))↔(e∈x∨(P/\e=⟨cB g.m.W g.m.H b j,fK g b⟩)):=λP hP e=>by
    rw[he e];constructor
    ·rintro⟨a,c |⟨d,d0,d1,c⟩⟩
     ·exact .inl ⟨a,.inl c⟩
     ·by_cases z:d=j
      ·subst z;rcases a with⟨y1,y2⟩ |⟨y1,y2,y3,y4⟩
       ·exact .inl ⟨.inl ⟨y1,y2⟩,.inl (ux y1).2.2.2⟩
       ·obtain⟨e1,e2⟩:=e;simp only at c y1 y2 y4;rw[c] at y1 y2;exact .inr ⟨hP.2 ⟨y1,y2⟩,by rw[c,y4,DW]⟩
      ·exact .inl ⟨a,.inr ⟨d,d0,by omega,c⟩⟩
    ·rintro(⟨a,c |⟨d,d0,d1,c⟩⟩ |⟨p,rfl⟩)
     ·exact⟨a,.inl c⟩
     ·exact⟨a,.inr ⟨d,d0,by omega,c⟩⟩
     ·obtain⟨y1,y2⟩:=hP.1 p;exact⟨.inr ⟨y1,y2,⟨j,hj,aQ,J⟩,DW⟩,.inr ⟨j,hj,by omega,J⟩⟩
   have skip: ¬(node g.m (cB g.m.W g.m.H b j)/\aW g.m.W g.m.H (cB g.m.W g.m.H b j)≠aW g.m.W g.m.H b)->Ok (gP.l1 k M b g (aW g.m.W g.m.H b) (g.m.W,g.m.H) x (j+1)) (λr=>r.length<=260/\ ∀e,e∈r↔Comes g.m b e):=λz=>by
    refine ih k (j+1) x U U U U U λe=>?_
    rw[xj False ⟨False.elim,z⟩ e];simp
   refine Ok.pos aQ (Ok.eq (HN ..) ((RU h hF _).bind λr hr=>?_));rcases hr with⟨r1,rfl⟩ |⟨r1,r2,r3,r4⟩
   ·exact skip λz=>r1 (nC h.ok (CI z.1).2)
   ·rw[r2]
    show Ok (if r.2.2=true then _ else _) _
    refine Ok.ite (λq=>Ok.ite (λq'=>Ok.eq (vc h _) (Ok.cx U ?_)) λq'=>?_) λq=>?_
    ·have q':aW g.m.W g.m.H (cB g.m.W g.m.H b j)≠aW g.m.W g.m.H b:=by simpa using q'
     refine ih k (j+1) _ U U U U bk λe=>?_
     rw[xj True ⟨λ_=>⟨r3.1 q,q'⟩,λ_=>trivial⟩ e];simp
    ·exact skip λz=>z.2 (by simpa using q')
    ·exact skip λz=>q (r3.2 z.1)
  ·exact fin k j x aQ hx iJ he
theorem aeU (h:dD g more) (hF:oP g M) (b:Int):Ok (gP.f M b g) (λr=>r.length<=260/\((node g.m b/\ ∀e,e∈r↔Comes g.m b e)∨(¬node g.m b/\r=[]))):=by
 unfold gP.f;refine(RU h hF b).bind λr hr=>?_
 rcases hr with⟨r1,rfl⟩ |⟨r1,r2,r3,r4⟩
 ·exact Ok.of (r:=[]) J (⟨by simp,.inr ⟨λz=>r1 (nC h.ok (CI z).2),J⟩⟩)
 ·rw[r2]
  show Ok (if(!r.2.2)=true then some [] else _) (λr=>r.length<=260/\((node g.m b/\ ∀e,e∈r↔Comes g.m b e)∨(¬node g.m b/\r=[])))
  by_cases q:r.2.2=true
  rotate_left
  ·refine Ok.pos (by simpa using q) (Ok.pure ⟨by simp,.inr ⟨λz=>q (r3.2 z),J⟩⟩)
  refine Ok.neg (by simp[q]) ?_
  have q:r.2.2=true:=by simpa using q
  have hb:=r3.1 q;have hs:=tm r1;have hp:=hF.part hs;have hN:=vS g.m (aW g.m.W g.m.H b);refine Ok.cx (by rw[hp.nodes,wi U U];omega) ((aeV h hF hb r (r4 q) (λr=>r.length<=260/\ ∀e,e∈r↔Comes g.m b e) (λx hx he=>aeW h hF hb 4 fuel 0 x bj (by rw[cD];omega) U U U λe=>(he e).trans ⟨λq=>⟨q.1,.inl q.2⟩,λq=>⟨q.1,q.2.resolve_right λ⟨d,d0,d1,_⟩=>by omega⟩⟩) 256 fuel 0 _ U (by rw[cD];omega) U U bj (λe=>⟨λq=>by simp at q,λ⟨_,_,j,j0,j1,_⟩=>by omega⟩)).mono λr hr=>⟨hr.1,.inl ⟨hb,hr.2⟩⟩)
theorem Mo (h:dD g more) {b:Int} (hb:node g.m b) {e:dZ} (he:Comes g.m b e):node g.m e.To/\e.To≠b/\1<=e.kI/\e.kI<=KT:=by
 have MY:KT=65024:=rfl;have cn:=CI hb;have hs:=tm (nC h.ok cn.2);rcases he with⟨a1,a2,a3,D,a4,a5⟩ |⟨a1,a2,a3,a4⟩
 ·have Cb:=Kr h hs;have hm:=Cb.mem _ (List.mem_map_of_mem (f:=dw g.m.W g.m.H) a1);have hd:=a4.dv _ hm.1 hm.2.1 (by rw[<-a5];exact a3)
  refine⟨KE a1,a2,?_,by omega⟩
  apply Classical.byContradiction;intro z;obtain⟨x,hx,e1,_⟩:=aiC Cb.Dg a4 hm.1 hm.2.1 U;simp only[List.mem_cons,List.not_mem_nil,or_false] at hx;subst hx;have hE:=ux a1;rcases Int.lt_or_gt_of_ne a2 with w |w
  ·have:=Oq (nC h.ok hE.2.1) (nC h.ok cn.2) hE.2.2.2 w;simp only at e1;omega
  ·have:=Oq (nC h.ok cn.2) (nC h.ok hE.2.1) hE.2.2.2.symm w;simp only at e1;omega
 ·have:=h.su b cn.2.1 cn.2.2;exact⟨a1,λz=>a2 (by rw[z]),by omega,by omega⟩
def RH (a b:dI):Bool:=decide (a.key<b.key)||(a.key==b.key&&decide (a.item<b.item))
theorem RI (a b:dI):yT.f a b=some (RH a b):=by
 unfold yT.f RH
 by_cases h:a.key<b.key
 ·simp[h]
 ·by_cases g:a.key=b.key<;>simp[h,g]
theorem aja: ∀(n k:Nat) (l:List dI) (i:Int),i.toNat<=n->n<k->i<l.length->l.length<=1099511627776->
 Ok (pk.l0 k l i) (λh=>h.l.length=l.length/\ ∀e,e∈h.l↔e∈l):=by
 intro n
 induction n with
 |zero=>
  intro k l i hn hk hi hb;obtain⟨k,rfl⟩: ∃q,k=q+1:=⟨k-1,by omega⟩
  rw[pk.l0,ah U];exact Ok.pure ⟨J,λ_=>Iff.rfl⟩
 |succ n ih=>
  intro k l i hn hk hi hb;obtain⟨k,rfl⟩: ∃q,k=q+1:=⟨k-1,by omega⟩
  rw[pk.l0];refine Ok.ite (λhp=>?_) (λ_=>Ok.pure ⟨J,λ_=>Iff.rfl⟩);have ew:aa (Int.tdiv (aa (i-1)) 2)=(i-1)/2:=by rw[wi (x:=i-1) U U,qX U,wi U U]
  simp only[ew];refine Ok.cx U (Ok.cx U (Ok.eq (RI _ _) (Ok.ite (λ_=>Ok.pure ⟨J,λ_=>Iff.rfl⟩) λ_=>Ok.cx bk ?_)));refine(ih k _ ((i-1)/2) U U bk (by simpa using hb)).mono λh hh=>⟨by simpa using hh.1,λe=>(hh.2 e).trans (PA U hi U U e)⟩
theorem KQ (h:eO) (k i:Int) (hb:h.l.length<1099511627776):
 Ok (ny.f h k i) (λr=>r.l.length=h.l.length+1/\ ∀e,e∈r.l↔e∈h.l∨e=⟨k,i⟩):=by
 unfold ny.f pk.f;refine Ok.cx U ((aja h.l.length fuel _ _ ?_ (by rw[cD];omega) ?_ bk).bind λr hr=>Ok.pure ⟨by simpa using hr.1,λe=>by rw[hr.2 e];simp⟩)
 ·simp only[List.length_append,List.length_cons,List.length_nil];rw[wi U U];omega
 ·simp only[List.length_append,List.length_cons,List.length_nil];rw[wi U U];omega
theorem abl: ∀(n k:Nat) (l:List dI) (i m j:Int),(2*i+3-j).toNat<=n->n<k->0<=i->i<l.length->(m=i∨i<m)->m<l.length->i<j->l.length<=1099511627776->
 Ok (jd.l1 k l i m j) (λr=>r=Sum.inl ⟨l⟩∨ ∃l' m',r=Sum.inr (l',m')/\l'.length=l.length/\(∀e,e∈l'↔e∈l)/\i<m'/\m'<l.length):=by
 intro n
 induction n with
 |zero=>
  intro k l i m j hn hk i0 i1 hm m1 hj hb;obtain⟨k,rfl⟩: ∃q,k=q+1:=⟨k-1,by omega⟩
  rw[jd.l1,wi (x:=2*i) U U,wi (x:=2*i+2) U U,ah U];simp only[aG,Bool.false_eq_true,if_false];refine Ok.ite (λ_=>Ok.pure (.inl J)) λq=>Ok.cx U (Ok.cx U (Ok.cx bk (Ok.pure (.inr ⟨_,_,J,by simp,λe=>PA i0 i1 U m1 e,?_,m1⟩))))
  have:m≠i:=λz=>q (by simp[z])
  omega
 |succ n ih=>
  intro k l i m j hn hk i0 i1 hm m1 hj hb;obtain⟨k,rfl⟩: ∃q,k=q+1:=⟨k-1,by omega⟩
  rw[jd.l1,wi (x:=2*i) U U,wi (x:=2*i+2) U U];have hx:(if j<=2*i+2 then some (decide (j<(l.length:Int))) else some false)=some (decide (j<=2*i+2/\j<l.length)):=by
   by_cases a:j<=2*i+2<;>simp[a]
  rw[hx];simp only[aG];refine Ok.ite (λq=>?_) λq=>?_
  ·have q':=of_decide_eq_true q;refine Ok.cx U (Ok.cx U (Ok.eq (RI _ _) (Ok.ite (λ_=>?_) λ_=>?_)))
   ·rw[wi U U];exact ih k l i j (j+1) U U i0 i1 (.inr hj) q'.2 U hb
   ·rw[wi U U];exact ih k l i m (j+1) U U i0 i1 hm m1 U hb
  ·refine Ok.ite (λ_=>Ok.pure (.inl J)) λq=>Ok.cx U (Ok.cx U (Ok.cx bk (Ok.pure (.inr ⟨_,_,J,by simp,λe=>PA i0 i1 U m1 e,?_,m1⟩))))
   have:m≠i:=λz=>q (by simp[z])
   omega
theorem abk: ∀(n k:Nat) (l:List dI) (i:Int),l.length-i.toNat<=n->n<k->0<=i->i<l.length->l.length<=1099511627776->
 Ok (jd.l0 k l i) (λh=>h.l.length=l.length/\ ∀e,e∈h.l↔e∈l):=by
 intro n
 induction n with
 |zero=>intro k l i hn hk i0 i1;omega
 |succ n ih=>
  intro k l i hn hk i0 i1 hb;obtain⟨k,rfl⟩: ∃q,k=q+1:=⟨k-1,by omega⟩
  rw[jd.l0,wi (x:=2*i) U U,wi (x:=2*i+1) U U];refine(abl (i.toNat+3) fuel l i i (2*i+1) U (by rw[cD];omega) i0 i1 (.inl J) i1 U hb).bind λr hr=>?_
  rcases hr with rfl |⟨l',m',rfl,e1,e2,e3,e4⟩
  ·exact Ok.pure ⟨J,λ_=>Iff.rfl⟩
  ·exact(ih k l' m' U U U U U).mono λh hh=>⟨by omega,λe=>(hh.2 e).trans (e2 e)⟩
def Ya (l:List dI) (r:Int×Int×Bool×eO):Prop:=
 (l=[]/\r=(0,0,false,⟨[]⟩))∨(l≠[]/\r.2.2.1=true/\⟨r.1,r.2.1⟩=rd l 0/\r.2.2.2.l.length+1=l.length/\(∀e∈r.2.2.2.l,e∈l)/\ ∀e∈l,e=rd l 0∨e∈r.2.2.2.l)
theorem KM (h:eO) (hb:h.l.length<=1099511627776):Ok (nu.f h) (Ya h.l):=by
 obtain⟨l⟩:=h;unfold nu.f DZ.f DY.f jd.f
 by_cases hl:l=[]
 ·subst hl;exact Ok.pure (.inl ⟨rfl,rfl⟩)
 have hp:0<l.length:=List.length_pos_iff.2 hl;simp only at hb⊢;simp only[aG];rw[ah (by simpa using hl),af U,wi (x:=(l.length:Int)-1) U U]
 simp only[aG,if_true];refine Ok.cx U (Ok.cx U (Ok.cx bk ?_));have hs: ∀(L:List dI),L.length=l.length->aA L 0 ((l.length:Int)-1)=L.take (l.length-1):=by
  intro L hL;unfold aA;simp
 rw[hs _ bj];have je: ∀e∈(List.set l 0 (rd l ((l.length:Int)-1))).take (l.length-1),e∈l:=by
  intro e he;rcases List.mem_or_eq_of_mem_set (List.mem_of_mem_take he) with h |h
  ·exact h
  ·rw[h];exact uA U U
 have NV: ∀e∈l,e=rd l 0∨e∈(List.set l 0 (rd l ((l.length:Int)-1))).take (l.length-1):=by
  intro e he;obtain⟨c,c0,c1,rfl⟩:=Ku.1 he
  by_cases z:c=0
  ·exact .inl (by rw[z])
  ·refine .inr (Ku.2 ?_);have ht: ∀d:Int,0<=d->d<(l.length:Int)-1->rd ((List.set l 0 (rd l ((l.length:Int)-1))).take (l.length-1)) d=if d=0 then rd l ((l.length:Int)-1) else rd l d:=by
    intro d d0 d1;have:=Hf (L:=l) (i:=0) (c:=d) (v:=rd l ((l.length:Int)-1)) U U d0;rw[<-this];simp only[Int.toNat_zero];rw[jj (xs:=List.take _ _) bk,List.getElem_take,jj (xs:=List.set _ _ _) bk]
   have hlen:((List.set l 0 (rd l ((l.length:Int)-1))).take (l.length-1)).length=l.length-1:=by simp
   by_cases y:c=(l.length:Int)-1
   ·exact⟨0,by omega,by omega,by rw[ht 0 U U,af J,y]⟩
   ·exact⟨c,c0,by omega,by rw[ht c c0 U,ah z]⟩
 by_cases h1:l.length=1
 ·have e0:(List.set l 0 (rd l ((l.length:Int)-1))).take (l.length-1)=[]:=by rw[h1];rfl
  simp only[Int.toNat_zero];rw[e0] at je NV⊢;have hd:jd.l0 fuel [] 0=some ⟨[]⟩:=by
   obtain⟨k,hk⟩: ∃q,fuel=q+1+1:=⟨fuel-2,by rw[cD]⟩
   rw[hk,jd.l0,hk,jd.l1];rfl
  rw[hd];exact Ok.pure (.inr ⟨hl,J,J,by simp[h1],je,NV⟩)
 ·refine(abk l.length fuel _ 0 bj (by rw[cD];omega) U bk bk).bind λr hr=>Ok.pure (.inr ⟨hl,J,J,?_,λe he=>je e ((hr.2 e).1 he),λe he=>(NV e he).imp id λx=>(hr.2 e).2 x⟩)
  have:=hr.1;simp at this;simp only;omega
variable {g : bA} {more : Int}
def AU (g:bA) (c:Int):Prop:=cL g.m c/\fK g c≠255
theorem MN (h:dD g more) {c:Int} (hc:cL g.m c):1<=fK g c/\fK g c<=255:=by
 unfold fK;rw[af hc];exact h.su c hc.1 hc.2
theorem ajj (h:dD g more) (goal cell key:Int) (m:List (Int×Int)) (hc:AU g cell) (k0:0<=key) (k1:key<=1000000000): ∀(n k:Nat) (l:List dI) (s:Int),(4-s).toNat<=n->n<k->0<=s->l.length<=10000000-4+s->
 Ok (jk.l1 k goal g (g.m.W,g.m.H) m cell key l s) (λr=>r.1=cC m cell key/\r.2.length<=l.length+(4-s).toNat/\ ∀e∈r.2,e∈l∨(AU g e.item/\0<=e.key/\e.key<=key+254)):=by
 have fR:=MN h hc.1;intro n
 induction n with
 |zero=>
  intro k l s hn hk s0 hl;obtain⟨k,rfl⟩:=bl hk;rw[jk.l1,ah U];exact Ok.pure ⟨J,by simp,λe he=> .inl he⟩
 |succ n ih=>
  intro k l s hn hk s0 hl;obtain⟨k,rfl⟩:=bl hk;rw[jk.l1];refine Ok.ite (λhs=>?_) λhs=>Ok.pure ⟨J,by simp only;omega,λe he=> .inl he⟩
  refine Ok.eq (HN ..) ?_;have hsk:Ok (if cB g.m.W g.m.H cell s<0 then some true else(gi.f g.m.W g.m.H (cB g.m.W g.m.H cell s)).bind λv28=>(gi.f g.m.W g.m.H goal).bind λrV=>if(v28 !=rV)=true then some true else(jc.f g (cB g.m.W g.m.H cell s)).bind λv30=>some (v30==255)) (λb=>b=false->AU g (cB g.m.W g.m.H cell s)):=by
   refine Ok.ite (λ_=>Ok.pure bj) λq=>Ok.eq (rR ..) (Ok.eq (rR ..) (Ok.ite (λ_=>Ok.pure bj) λ_=>Ok.eq (vc h _) (Ok.pure λz=>⟨aiP q,by simpa using z⟩)))
  refine hsk.bind λb hb=>Ok.ite (λ_=>?_) λq=>?_
  ·rw[wi U U];exact(ih k l (s+1) U U U U).mono λr hr=>⟨hr.1,by have:=hr.2.1;omega,hr.2.2⟩
  ·have ho:=hb (by simpa using q)
   refine Ok.eq (vc h _) ((KQ _ _ _ (by simp only;omega)).bind λr hr=>?_)
   simp only at hr;rw[wi (x:=s+1) U U];refine(ih k r.l (s+1) U U U U).mono λr' vD=>⟨vD.1,by have:=vD.2.1;omega,λe he=>?_⟩
   rcases vD.2.2 e he with z |z
   ·rcases(hr.2 e).1 z with y |rfl
    ·exact .inl y
    ·refine .inr ⟨ho,?_⟩;have:fK g cell≠255:=hc.2;rw[wi U U];simp only;omega
   ·exact .inr z
def uK (g:bA) (m:List (Int×Int)):Nat:=eA (λc=>!bN m c) (g.m.W*g.m.H).toNat
theorem Ox (m:List (Int×Int)) (x y v:Int):bN (cC m x v) y=if x=y then true else bN m y:=by
 unfold bN;rw[AP];split<;>rfl
theorem ai' {m:List (Int×Int)} {c v:Int} (hc:cL g.m c) (hn:bN m c=false):uK g m=uK g (cC m c v)+1:=by
 unfold uK;refine Mm (c:=c) hc.1 (by have:=hc.1;have:=hc.2;omega) (by simp[hn]) (by simp[Ox]) (λi _ _ hi=>?_)
 rw[Ox,ah (λz=>hi z.symm)]
theorem aji (h:dD g more) (hN:g.m.W*g.m.H<=1600) (goal:Int): ∀(n k:Nat) (m:List (Int×Int)) (l:List dI) (key cell:Int) (ok:Bool),
 5*uK g m+l.length+(if ok then 1 else 0)<=n->n<k->l.length+5*uK g m<=9000->
 (∀c,bN m c=true->0<=aP m c/\aP m c<=500000)->
 (∀e∈l,AU g e.item/\0<=e.key/\e.key+254*(uK g m:Int)<=254*1600)->(ok=true->AU g cell/\0<=key/\key+254*(uK g m:Int)<=254*1600)->(ok=false->l=[])->
 Ok (jk.l0 k goal g (g.m.W,g.m.H) m l key cell ok) (λr=> ∀c,bN r c=true->0<=aP r c/\aP r c<=500000):=by
 intro n
 induction n with
 |zero=>
  intro k m l key cell ok hn hk hb hm hl hp hf;obtain⟨k,rfl⟩:=bl hk;have:ok=false:=by cases ok<;>simp_all
  subst this;rw[jk.l0];exact Ok.pure hm
 |succ n ih=>
  intro k m l key cell ok hn hk hb hm hl hp hf;obtain⟨k,rfl⟩:=bl hk;rw[jk.l0];refine Ok.ite (λq=>?_) λ_=>Ok.pure hm
  obtain⟨p1,p2,p3⟩:=hp q;subst q;simp only[if_true] at hn;have aex:Ok (if bN m cell=true then some (m,l) else jk.l1 fuel goal g (g.m.W,g.m.H) m cell key l 0) (λr=>5*uK g r.1+r.2.length<=n/\r.2.length+5*uK g r.1<=9000/\(∀c,bN r.1 c=true->0<=aP r.1 c/\aP r.1 c<=500000)/\ ∀e∈r.2,AU g e.item/\0<=e.key/\e.key+254*(uK g r.1:Int)<=254*1600):=by
   refine Ok.ite (λ_=>Ok.pure ⟨by simp only;omega,hb,hm,hl⟩) λz=>?_
   have z:bN m cell=false:=by simpa using z
   have hu:=ai' (v:=key) p1.1 z;refine(ajj h goal cell key m p1 p2 U 4 fuel l 0 bj (by rw[cD];omega) U U).mono λr hr=>?_
   obtain⟨e1,e2,e3⟩:=hr;rw[e1];have:(4-(0:Int)).toNat=4:=rfl;refine⟨by omega,by omega,λc hc=>?_,λe he=>?_⟩
   ·rw[uv];rw[Ox] at hc;split
    ·omega
    ·rename_i q;rw[ah q] at hc;exact hm c hc
   ·rcases e3 e he with y |y
    ·have:=hl e y;exact⟨this.1,this.2.1,by omega⟩
    ·exact⟨y.1,y.2.1,by omega⟩
  refine aex.bind λr hr=>?_
  obtain⟨h1,h2,h3,h4⟩:=hr;refine(KM ⟨r.2⟩ (by simp only;omega)).bind λv hv=>?_
  rcases hv with⟨e1,e2⟩ |⟨e1,e2,e3,e4,e5,e6⟩
  ·subst e2;simp only at e1;exact ih k r.1 [] 0 0 false bk U bk h3 bj bj bj
  ·simp only at e1 e3 e4 e5;have Gp:=h4 (rd r.2 0) (ek U (by have:=List.length_pos_iff.2 e1;omega))
   rw[<-e3] at Gp;refine ih k r.1 v.2.2.2.l v.1 v.2.1 v.2.2.1 (by rw[e2];simp;omega) U U h3 (λe he=>h4 e (e5 e he)) (λ_=>Gp) (by rw[e2];simp)
theorem ahQ (h:dD g more) (hN:g.m.W*g.m.H<=1600) (f:j6) (M:dC) {goal:Int} (hg:cL g.m goal):Ok (jk.f f goal M g) (λr=> ∀c,bN r c=true->0<=aP r c/\aP r c<=500000):=by
 unfold jk.f;refine Ok.eq (C8 g) (Ok.eq (vc h _) (Ok.ite (λ_=>Ok.pure (by simp[bN,cW])) λq=>?_))
 have hu:uK g []<=1600:=by unfold uK;have:=FF (λc=>!bN ([]:List (Int×Int)) c) (g.m.W*g.m.H).toNat;omega
 refine(KQ ⟨[]⟩ 0 goal bj).bind λr hr=>(KM r (by simp at hr;omega)).bind λv hv=>?_
 have ho:AU g goal:=⟨hg,by simpa using q⟩
 have ub: ∀e∈r.l,e=⟨0,goal⟩:=λe he=>by simpa using(hr.2 e).1 he
 have hlen:r.l.length=1:=by simpa using hr.1
 rcases hv with⟨e1,e2⟩ |⟨e1,e2,e3,e4,e5,e6⟩
 ·rw[e1] at hlen;simp at hlen
 ·have h0:=ub _ (ek (a:=r.l) (i:=0) U U);rw[h0] at e3;simp only[dI.mk.injEq] at e3;have Ay:v.2.2.2.l=[]:=List.length_eq_zero_iff.1 U;rw[Ay,e3.1,e3.2,e2];exact aji h hN goal 9000 fuel [] [] 0 goal true bk (by rw[cD];omega) bk (by simp[bN,cW]) bj (λ_=>⟨ho,by omega,by omega⟩) bj
end Go.Proofs.YthodkonhneebbaaGreatDoor
