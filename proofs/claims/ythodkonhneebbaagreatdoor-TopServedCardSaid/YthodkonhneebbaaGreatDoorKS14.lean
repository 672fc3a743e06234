/- What the functions do, in plain Lean, on the objects that are kept in order. -/
import Derived.Test.YthodkonhneebbaaGreatDoorKS13
import Derived.Test.YthodkonhneebbaaGreatDoorKS9
import Derived.Test.YthodkonhneebbaaGreatDoorKS10
import Derived.Test.YthodkonhneebbaaGreatDoorKS7
namespace Go.Proofs.YthodkonhneebbaaGreatDoor
open Go.Hx
open List renaming length->aa,set->aD,replicate->cy,length_set->nO,length_cons->tz,mem_cons_self->mD,mem_cons_of_mem->oH,mem_cons->nh,not_mem_nil->ra,length_append->zg
open Int renaming tdiv->di,fdiv->fQ,toNat->ax,emod_lt_of_pos->AN,mul_comm->mC,mul_le_mul_of_nonneg_right->BZ,mul_ediv_add_emod->uQ,le_refl->dU
open Nat renaming le_refl->jW
open Bool renaming eq_iff_iff->nM,false_eq_true->jk
open Classical renaming byContradiction->pr
set_option linter.unusedVariables false
set_option linter.unusedSimpArgs false
theorem iM.mono {r:eX} {n n':Nat} (h:iM r n) (hn:n<=n') (hb:n'<=1000000000):iM r n':=⟨h.len_,h.at_,λb hb=>by have:=h.gone b hb;omega,h.BL,hb⟩
structure IG (r:eX) (todo:List aX) (n:Nat) (r':eX) (Lr:List aX):Prop where
 ring: ∃n',iM r' n'/\n'+Lr.length<=n+todo.length
 rB: ∀k i,Has r k i->Has r' k i
 new: ∀k i,Has r' k i->Has r k i∨ ∃x∈todo,x.Key=k/\x.Cell=i
 Xg: ∃a,todo=a++Lr/\ ∀x∈a,Has r' x.Key x.Cell
 len_:r'.len+2*Lr.length<=r.len+2*todo.length
 at_:r'.aZ=r.aZ
 end_: ∀x l,Lr=x::l->x.Key<r'.aZ∨r'.aZ+256<=x.Key
theorem abm (s:dr): ∀(m k:Nat) (r:eX) (todo:List aX) (n:Nat),todo.length<=m->m<k->iM r n->n+todo.length<=2000000->(∀x∈todo,0<=x.Key/\x.Key<=1073741824)->
 Ok (ki.l0 k s r todo) (λq=>q.t=s.t/\q.aN=s.aN/\IG r todo n q.wait q.todo):=by
 have nil: ∀(k:Nat) (r:eX) (n:Nat),iM r n->Ok (ki.l0 (k+1) s r []) (λq=>q.t=s.t/\q.aN=s.aN/\IG r [] n q.wait q.todo):=by
  intro k r n h;rw[ki.l0,ak bp];exact Ok.pure ⟨J,J,⟨⟨n,h,by simp⟩,λ_ _ q=>q,λ_ _ q=> .inl q,⟨[],J,by simp⟩,dU _,J,by simp⟩⟩
 intro m
 induction m with
 |zero=>
  intro k r todo n hm hk h hn hx;obtain⟨k,rfl⟩:=bw hk;have:todo=[]:=List.length_eq_zero_iff.1 U;subst this;exact nil k r n h
 |succ m ih=>
  intro k r todo n hm hk h hn hx;obtain⟨k,rfl⟩:=bw hk
  cases todo with
  |nil=>exact nil k r n h
  |cons x l=>
   simp only[tz] at hm hn;have wC:=hx x (mD ..);have e0:rd (x::l) 0=x:=rfl;have e1:aA (x::l) 1 ((x::l).length:Int)=l:=by unfold aA;simp
   rw[ki.l0,ah bp,ah bp,e0,e1];refine(WG h U U wC.1 x.Cell).bind' λv hv=>?_
   obtain⟨h1,h2,h3⟩:=hv;simp only;rcases h3 with⟨a,b,c,d,e⟩ |⟨a,b,c⟩
   ·rw[a];refine Ok.pos J (Ok.br bo ((ih k v.2 l (n+1) U U h2 U (λy hy=>hx y (oH _ hy))).mono λq hq=>?_));obtain⟨q1,q2,q3⟩:=hq;obtain⟨n',f1,f2⟩:=q3.ring;obtain⟨A,g1,g2⟩:=q3.Xg;refine⟨q1,q2,⟨⟨n',f1,by simp only[tz];omega⟩,λk i hh=>q3.rB k i ((e k i).2 (.inl hh)),λk i hh=>?_,⟨x::A,by rw[g1];rfl,λy hy=>?_⟩,?_,by rw[q3.at_,h1],q3.end_⟩⟩
    ·rcases q3.new k i hh with z |⟨y,hy,z⟩
     ·rcases(e k i).1 z with z |⟨rfl,rfl⟩
      ·exact .inl z
      ·exact .inr ⟨x,mD ..,J,J⟩
     ·exact .inr ⟨y,oH _ hy,z⟩
    ·rcases List.mem_cons.1 hy with rfl |hy
     ·exact q3.rB _ _ ((e _ _).2 (.inr ⟨J,J⟩))
     ·exact g2 y hy
    ·have:=q3.len_;simp only[tz];omega
   ·rw[a];refine Ok.neg bp (Ok.pure ⟨J,J,?_⟩);simp only;rw[c];exact⟨⟨n,h,by simp⟩,λ_ _ q=>q,λ_ _ q=> .inl q,⟨[],J,by simp⟩,dU _,J,λy l' hy=>by simp only[List.cons.injEq] at hy;rw[<-hy.1];exact b⟩
theorem abl (s:dr) {n:Nat} (h:iM s.wait n) (hn:n+s.todo.length<=2000000) (hx: ∀x∈s.todo,0<=x.Key/\x.Key<=1073741824):
 Ok (ki.f s) (λq=>q.t=s.t/\q.aN=s.aN/\ ∃r,((r=s.wait/\(s.wait.len≠0∨s.todo=[]))∨(s.wait.len=0/\r.len=0/\ ∃x l,s.todo=x::l/\r.aZ=if x.Key<s.wait.aZ then s.wait.aZ else x.Key))/\(∀k i,Has r k i↔Has s.wait k i)/\IG r s.todo n q.wait q.todo):=by
 unfold ki.f;have key: ∀r,iM r n->Ok (ki.l0 fuel s r s.todo) (λq=>q.t=s.t/\q.aN=s.aN/\IG r s.todo n q.wait q.todo):=λr hr=>abm s s.todo.length fuel r s.todo n (jW _) (by rw[de];omega) hr hn hx
 by_cases hl:s.todo=[]
 ·rw[ak (by simp[hl])]
  exact Ok.eq J ((key s.wait h).mono λq hq=>⟨hq.1,hq.2.1,s.wait,.inl ⟨J,.inr hl⟩,λ_ _=>Iff.rfl,hq.2.2⟩)
 ·obtain⟨x,l,e⟩:=List.exists_cons_of_ne_nil hl;have wC:=hx x (by rw[e];exact mD ..)
  rw[ah (by rw[e];simp)]
  unfold wU.f
  by_cases z:s.wait.len=0
  ·have e0:rd s.todo 0=x:=by rw[e];rfl
   rw[show((some s.wait.len).bind λv5=>some (v5==0))=some true by simp[z]]
   simp only[aM,if_true,e0];rw[ah (by rw[e];simp)]
   refine((aeY h wC.1 U z).bind λv hv=>Ok.pure (P:=λr=>iM r n/\r.len=0/\r.aZ=if x.Key<s.wait.aZ then s.wait.aZ else x.Key) hv).bind λr hr=>(key r hr.1).mono λq hq=>⟨hq.1,hq.2.1,r,.inr ⟨z,hr.2.1,x,l,e,hr.2.2⟩,λk i=>⟨λy=>absurd y (hr.1.none hr.2.1 k i),λy=>absurd y (h.none z k i)⟩,hq.2.2⟩
  ·simp only[aM];rw[ak (by simpa using z)]
   exact Ok.eq J ((key s.wait h).mono λq hq=>⟨hq.1,hq.2.1,s.wait,.inl ⟨J,.inl z⟩,λ_ _=>Iff.rfl,hq.2.2⟩)
def eI (t:aG) (c s:Int):Int:=
 if s=0 then(if c/t.W>0 then c-t.W else-1) else if s=1 then(if c%t.W<t.W-1 then c+1 else-1) else if s=2 then(if c/t.W<t.H-1 then c+t.W else-1) else if c%t.W>0 then c-1 else-1
theorem Lq {t:aG} (h:si t) {c s:Int} (c0:0<=c) (c1:c<t.C.length):eI t c s= -1∨(0<=eI t c s/\eI t c s<t.C.length):=by
 obtain⟨a,b,d,e,f,_⟩:=h;rw[f] at c1⊢;have GD:=uQ c t.W;have hm:=Int.emod_nonneg c (show t.W≠0 by omega)
 have T8:=AN c (show 0<t.W by omega)
 have hq:0<=c/t.W:=Int.ediv_nonneg c0 U;have Od:c/t.W<t.H:=Int.ediv_lt_of_lt_mul U (by rw[mC];exact c1)
 unfold eI;split
 ·split
  ·have:t.W*1<=t.W*(c/t.W):=Int.mul_le_mul_of_nonneg_left U U;exact .inr U
  ·exact .inl J
 ·split
  ·split
   ·have:t.W*(c/t.W)<=t.W*(t.H-1):=Int.mul_le_mul_of_nonneg_left U U;rw[Int.mul_sub,Int.mul_one] at this;exact .inr U
   ·exact .inl J
  ·split
   ·split
    ·have:t.W*(c/t.W)<=t.W*(t.H-1-1):=Int.mul_le_mul_of_nonneg_left U U;rw[Int.mul_sub,Int.mul_sub,Int.mul_one] at this;exact .inr U
    ·exact .inl J
   ·split
    ·have:0<=t.W*(c/t.W):=Int.mul_nonneg U hq;exact .inr U
    ·exact .inl J
abbrev ct:Int:=1099511627776
structure Ar (s:dr) (n:Nat) (key c:Int) (j:Nat) (q:dr):Prop where
 t_:q.t=s.t
 td:q.todo=s.todo
 ds:q.aN=s.aN
 ring:iM q.wait (n+j)
 at_:q.wait.aZ=s.wait.aZ
 len_:q.wait.len<=s.wait.len+j
 rB: ∀k i,Has s.wait k i->Has q.wait k i
 new: ∀k i,Has q.wait k i->Has s.wait k i∨(k=key/\ ∃d:Int,0<=d/\d<j/\i=eI s.t c d/\0<=i/\i<s.t.C.length/\rd s.t.C i≠255/\rd s.aN i=ct)
 all:s.wait.aZ<=key->key<s.wait.aZ+256-> ∀d:Int,0<=d->d<j->0<=eI s.t c d->rd s.t.C (eI s.t c d)≠255->rd s.aN (eI s.t c d)=ct->Has q.wait key (eI s.t c d)
section
variable {s q : dr} {n : Nat} {key c : Int} {j : Nat}
theorem I_ (h:Ar s n key c j q) (hn:n+j+1<=1000000000) (hj:eI s.t c j= -1):Ar s n key c (j+1) q:=by
 refine⟨h.t_,h.td,h.ds,h.ring.mono U U,h.at_,by have:=h.len_;omega,h.rB,λk i hh=>?_,λa b d d0 d1 d2 d3 d4=>?_⟩
 ·rcases h.new k i hh with z |⟨z,d,a,b,r⟩
  ·exact .inl z
  ·exact .inr ⟨z,d,a,by omega,r⟩
 ·by_cases z:d=j
  ·subst z;omega
  ·exact h.all a b d d0 U d2 d3 d4
theorem I9 (ht:mF s.t) (hd:s.aN.length=s.t.C.length) (h:Ar s n key c j q) (hn:n+j+1<=1000000000) (k0:0<=key) (k1:key<=8796093022208) (c0:0<=c) (c1:c<s.t.C.length) {p:Int} (hj:eI s.t c j=p) (hp:p≠ -1):
 Ok (lj.f q p key) (Ar s n key c (j+1)):=by
 have b_:=Lq ht.1 (s:=j) c0 c1;rw[hj] at b_;have b_:0<=p/\p<s.t.C.length:=b_.resolve_left hp;unfold lj.f;rw[h.t_,h.ds,h.td];have e:(if(0<=p/\p<(aa s.t.C:Int)) then(if((rd s.t.C p)!=255)=true then(if(0<=p/\p<(aa s.aN:Int)) then(some ((rd s.aN p)==1099511627776)) else none) else(some false)) else none)=some (decide (rd s.t.C p≠255/\rd s.aN p=ct)):=by
  rw[ah b_,ah (c:=0<=p/\p<(aa s.aN:Int)) U]
  by_cases z:rd s.t.C p=255
  ·simp[z]
  ·rw[ah (by simpa using z)];congr 1;rw[nM];simp[z]
 refine Ok.eq e (Ok.ite (λz=>?_) λz=>Ok.pure ?_)
 ·have z:=of_decide_eq_true z;refine(WG h.ring U k1 k0 p).bind λv hv=>Ok.pure ?_
  obtain⟨a1,a2,a3⟩:=hv;rcases a3 with⟨b1,b2,b3,b4,b5⟩ |⟨b1,b2,b3⟩
  ·refine⟨J,J,J,a2,by rw[a1,h.at_],by have:=h.len_;simp only;omega,λk i hh=>(b5 k i).2 (.inl (h.rB k i hh)),λk i hh=>?_,λa b d d0 d1 d2 d3 d4=>?_⟩
   ·rcases(b5 k i).1 hh with y |⟨rfl,rfl⟩
    ·rcases h.new k i y with y |⟨y,d,a,b,r⟩
     ·exact .inl y
     ·exact .inr ⟨y,d,a,by omega,r⟩
    ·exact .inr ⟨J,j,by omega,by omega,hj.symm,b_.1,b_.2,z⟩
   ·by_cases y:d=j
    ·subst y;rw[hj];exact(b5 _ _).2 (.inr ⟨rfl,rfl⟩)
    ·exact(b5 _ _).2 (.inl (h.all a b d d0 U d2 d3 d4))
  ·refine⟨J,J,J,a2,by rw[a1,h.at_],by have:=h.len_;simp only;rw[b3];omega,λk i hh=>by simp only;rw[b3];exact h.rB k i hh,λk i hh=>?_,λa b=>?_⟩
   ·simp only at hh;rw[b3] at hh;rcases h.new k i hh with y |⟨y,d,a,b,r⟩
    ·exact .inl y
    ·exact .inr ⟨y,d,a,by omega,r⟩
   ·have:=h.at_;omega
 ·have z: ¬(rd s.t.C p≠255/\rd s.aN p=ct):=by simpa using z
  refine⟨h.t_,h.td,h.ds,h.ring.mono U U,h.at_,by have:=h.len_;omega,h.rB,λk i hh=>?_,λa b d d0 d1 d2 d3 d4=>?_⟩
  ·rcases h.new k i hh with y |⟨y,d,a,b,r⟩
   ·exact .inl y
   ·exact .inr ⟨y,d,a,by omega,r⟩
  ·by_cases y:d=j
   ·subst y;rw[hj] at d3 d4;exact absurd ⟨d3,d4⟩ z
   ·exact h.all a b d d0 U d2 d3 d4
end
theorem I8 {q s:dr} (e:q.t=s.t):dr.mk (aG.mk q.t.W q.t.H s.t.C) q.wait q.todo q.aN=q:=by
 obtain⟨t,a,b,d⟩:=q;simp only at e;subst e;rfl
theorem YJ (s:dr) (ht:mF s.t) (hd:s.aN.length=s.t.C.length) {n:Nat} (h:iM s.wait n) (hn:n+4<=1000000000) {c:Int} (c0:0<=c) (c1:c<s.t.C.length) (d0:0<=rd s.aN c) (d1:rd s.aN c<=2000000000):
 Ok (yQ.f s c) (Ar s n (rd s.aN c+rd s.t.C c) c 4):=by
 have hC:=ht.2 c c0 c1;have hl:=oB ht.1;obtain⟨a1,a2,a3,a4,a5,_⟩:=ht.1;have hq:0<=c/s.t.W/\c/s.t.W<=c:=⟨Int.ediv_nonneg c0 U,Int.ediv_le_self _ c0⟩;unfold yQ.f;rw[wi (x:=rd s.t.C c) U U,wi (x:=rd s.aN c+rd s.t.C c) U U,qe c0,mY c0,wi (x:=c/s.t.W) U U,wi (x:=c-s.t.W) U U,wi (x:=c+1) U U,wi (x:=c-1) U U];generalize hk:rd s.aN c+rd s.t.C c=key;have k0:0<=key:=U;have k1:key<=8796093022208:=U;have A0:Ar s n key c 0 s:=⟨J,J,J,h,J,by omega,λ_ _ z=>z,λ_ _ z=> .inl z,λ_ _ d d0 d1=>by omega⟩
 refine Ok.br U (Ok.br U (Ok.br U (Ok.br U ?_)));have n0:eI s.t c (0:Nat)=if c/s.t.W>0 then c-s.t.W else-1:=rfl
 have n1:eI s.t c (1:Nat)=if c%s.t.W<s.t.W-1 then c+1 else-1:=rfl
 have n2:eI s.t c (2:Nat)=if c/s.t.W<s.t.H-1 then c+s.t.W else-1:=rfl
 have n3:eI s.t c (3:Nat)=if c%s.t.W>0 then c-1 else-1:=rfl
 have GD:=uQ c s.t.W;have s0:Ok (if c/s.t.W>0 then(lj.f s (c-s.t.W) key).bind λv7=>some (v7.t.W,v7.t.H,v7.wait,v7.todo,v7.aN) else some (s.t.W,s.t.H,s.wait,s.todo,s.aN)) (λp=>Ar s n key c 1 ⟨⟨p.1,p.2.1,s.t.C⟩,p.2.2.1,p.2.2.2.1,p.2.2.2.2⟩):=by
  refine Ok.ite (λz=>?_) λz=>Ok.pure (I_ (j:=0) A0 U (by rw[n0,ak z]))
  have b_:=Lq ht.1 (s:=(0:Nat)) c0 c1;rw[n0,ah z] at b_;refine(I9 (j:=0) ht hd A0 U k0 k1 c0 c1 (by rw[n0,ah z]) (λy=>?_)).bind λv hv=>Ok.pure ?_
  ·have:s.t.W*1<=s.t.W*(c/s.t.W):=Int.mul_le_mul_of_nonneg_left U U;have:=Int.emod_nonneg c (show s.t.W≠0 by omega)
   omega
  ·simp only;rw[I8 hv.t_];exact hv
 refine s0.bind λp hp=>?_
 obtain⟨x1,x2,x3,x4,x5⟩:=p;simp only at hp⊢;have et:=hp.t_;simp only at et;have e1:x1=s.t.W:=by rw[<-et]
 have e2:x2=s.t.H:=by rw[<-et]
 subst e1;subst e2;rw[wi (x:=s.t.W-1) U U];have s1:Ok (if c%s.t.W<s.t.W-1 then(lj.f (dr.mk (aG.mk s.t.W s.t.H s.t.C) x3 x4 x5) (c+1) key).bind λdT=>some (dT.t.W,dT.t.H,dT.wait,dT.todo,dT.aN) else some (s.t.W,s.t.H,x3,x4,x5)) (λp=>Ar s n key c 2 ⟨⟨p.1,p.2.1,s.t.C⟩,p.2.2.1,p.2.2.2.1,p.2.2.2.2⟩):=by
  refine Ok.ite (λz=>?_) λz=>Ok.pure (I_ (j:=1) hp U (by rw[n1,ak z]))
  refine(I9 (j:=1) ht hd hp U k0 k1 c0 c1 (by rw[n1,ah z]) U).bind λv hv=>Ok.pure ?_
  simp only;rw[I8 hv.t_];exact hv
 refine s1.bind λp hp=>?_
 obtain⟨x1,x2,x3,x4,x5⟩:=p;simp only at hp⊢;have et:=hp.t_;simp only at et;have e1:x1=s.t.W:=by rw[<-et]
 have e2:x2=s.t.H:=by rw[<-et]
 subst e1;subst e2;rw[wi (x:=s.t.H-1) U U];have s3: ∀v:dr,Ar s n key c 3 v->Ok (if c%s.t.W>0 then(lj.f v (c-1) key).bind λdZ=>some (dr.mk (aG.mk dZ.t.W dZ.t.H s.t.C) dZ.wait dZ.todo dZ.aN) else some v) (Ar s n key c 4):=λv hv=>by
  refine Ok.ite (λz=>?_) λz=>Ok.pure (I_ (j:=3) hv U (by rw[n3,ak z]))
  refine(I9 (j:=3) ht hd hv U k0 k1 c0 c1 (by rw[n3,ah z]) (λy=>?_)).bind λv hv=>Ok.pure ?_
  ·have:c=0:=U;subst this;simp at z
  ·rw[I8 hv.t_];exact hv
 refine Ok.ite (λz=>?_) λz=>?_
 ·rw[wi (x:=c+s.t.W) U U];refine(I9 (j:=2) ht hd hp U k0 k1 c0 c1 (by rw[n2,ah z]) U).bind λv hv=>?_
  rw[I8 hv.t_];exact s3 v hv
 ·exact s3 _ (I_ (j:=2) hp U (by rw[n2,ak z]))
def Fy (t:aG) (l:List aX) (D:List Int) (i k:Int):Prop:=
 (∃x∈l,x.Cell=i/\x.Key=k)∨ ∃c d:Int,0<=c/\c<t.C.length/\0<=d/\d<=3/\rd D c≠ct/\eI t c d=i/\rd D c+rd t.C c=k
def vF (t:aG) (D:List Int):Nat:=jd (λc=>rd D c==ct) t.C.length
structure B0 (t:aG) (l:List aX) (K:Int) (r:eX) (todo:List aX) (D:List Int) (n:Nat):Prop where
 ring:iM r n
 room:n+todo.length+4*vF t D<=2000000
 dl:D.length=t.C.length
 dv: ∀c:Int,0<=c->c<t.C.length->rd D c≠ct->0<=rd D c/\rd D c<=r.aZ/\rd D c+254*(vF t D:Int)<=K/\rd t.C c≠255/\Fy t l D c (rd D c)
 hs: ∀k i,Has r k i->0<=i/\i<t.C.length/\rd t.C i≠255/\k+254*(vF t D:Int)<=K/\Fy t l D i k
 nb: ∀c d:Int,0<=c->c<t.C.length->rd D c≠ct->0<=d->d<=3->0<=eI t c d->rd t.C (eI t c d)≠255->(rd D (eI t c d)≠ct/\rd D (eI t c d)<=rd D c+rd t.C c)∨Has r (rd D c+rd t.C c) (eI t c d)
 sd: ∀x∈l,x∈todo∨Has r x.Key x.Cell∨(rd D x.Cell≠ct/\rd D x.Cell<=x.Key)
 td: ∀x∈todo,x∈l/\r.aZ<=x.Key
 so:todo.Pairwise (λa b=>a.Key<=b.Key)
def Full (r:eX) (todo:List aX):Prop:=todo=[]∨(r.len≠0/\ ∀x∈todo,r.aZ+256<=x.Key)
section
variable {t : aG} {l : List aX} {K : Int}
theorem Pp (hl: ∀x∈l,rh t x/\x.Key+254*256<=K) (ht:mF t) (s:dr) (hs:s.t=t) {n:Nat} (h:B0 t l K s.wait s.todo s.aN n):
 Ok (ki.f s) (λq=>q.t=t/\q.aN=s.aN/\q.wait.len+2*q.todo.length<=s.wait.len+2*s.todo.length/\Full q.wait q.todo/\ ∃n',B0 t l K q.wait q.todo s.aN n'):=by
 have hk: ∀x∈s.todo,0<=x.Key/\x.Key<=1073741824:=λx hx=>by have:=(hl x (h.td x hx).1).1;exact⟨this.2.2.2.1,this.2.2.2.2.1⟩
 have hu:vF t s.aN<=256:=by unfold vF;have:=D8 (λc=>rd s.aN c==ct) t.C.length;have:=oB ht.1;omega
 refine(abl s h.ring (by have:=h.room;omega) hk).mono λq hq=>?_
 obtain⟨q1,q2,r,q3,q4,q5⟩:=hq;obtain⟨n',f1,f2⟩:=q5.ring;obtain⟨A,g1,g2⟩:=q5.Xg;have xQ:s.wait.aZ<=r.aZ/\(∀x∈s.todo,r.aZ<=x.Key)/\r.len=s.wait.len:=by
  rcases q3 with⟨rfl,_⟩ |⟨z0,z,x,m,e,e2⟩
  ·exact⟨dU _,λx hx=>(h.td x hx).2,J⟩
  ·have hx:=(h.td x (by rw[e];exact mD ..)).2
   rw[ak U] at e2;refine⟨by omega,λy hy=>?_,by omega⟩
   have so:=h.so;rw[e] at hy so;rcases List.mem_cons.1 hy with rfl |hy
   ·omega
   ·have:=(List.pairwise_cons.1 so).1 y hy;omega
 have aem:Full q.wait q.todo:=by
  cases Kn:q.todo with
  |nil=>exact .inl J
  |cons y m=>
   have hy:=q5.end_ y m Kn;have Ot:y∈s.todo:=by rw[g1,Kn];simp
   have:=xQ.2.1 y Ot;have ha:=q5.at_;refine .inr ⟨λz0=>?_,λx hx=>?_⟩
   ·have oY:=f1.none z0;rcases q3 with⟨rfl,z |z⟩ |⟨_,z,x,m',e,e2⟩
    ·obtain⟨k,i,hh⟩:=h.ring.some z;exact oY k i (q5.rB k i hh)
    ·rw[z] at Ot;simp at Ot
    ·rw[ak (by have:=(h.td x (by rw[e];exact mD ..)).2;omega)] at e2
     cases A with
     |nil=>
      rw[List.nil_append,Kn] at g1;rw[e] at g1;simp only[List.cons.injEq] at g1;rw[<-g1.1] at hy;omega
     |cons a A=>exact oY _ _ (g2 a (mD ..))
   ·have so:=h.so;rw[g1,Kn] at so;have so:=(List.pairwise_append.1 so).2.1;rcases List.mem_cons.1 hx with rfl |hx
    ·omega
    ·have:=(List.pairwise_cons.1 so).1 x hx;omega
 refine⟨q1.trans hs,q2,by have:=q5.len_;omega,aem,n',⟨f1,by have:=h.room;omega,h.dl,λc c0 c1 hc=>?_,λk i hh=>?_,λc d c0 c1 hc d0 d3 p0 p1=>?_,λx hx=>?_,λx hx=>?_,?_⟩⟩
 ·obtain⟨a,b,c,d⟩:=h.dv c c0 c1 hc;exact⟨a,by rw[q5.at_];omega,c,d⟩
 ·rcases q5.new k i hh with z |⟨x,hx,rfl,rfl⟩
  ·exact h.hs k i ((q4 k i).1 z)
  ·have sJ:=(h.td x hx).1;obtain⟨⟨a,b,c,d⟩,e⟩:=hl x sJ;exact⟨a,b,c,by omega,.inl ⟨x,sJ,J,J⟩⟩
 ·rcases h.nb c d c0 c1 hc d0 d3 p0 p1 with z |z
  ·exact .inl z
  ·exact .inr (q5.rB _ _ ((q4 _ _).2 z))
 ·rcases h.sd x hx with z |z |z
  ·rw[g1] at z;rcases List.mem_append.1 z with z |z
   ·exact .inr (.inl (g2 x z))
   ·exact .inl z
  ·exact .inr (.inl (q5.rB _ _ ((q4 _ _).2 z)))
  ·exact .inr (.inr z)
 ·have sJ:x∈s.todo:=by rw[g1];exact List.mem_append_right _ hx
  exact⟨(h.td x sJ).1,by rw[q5.at_];exact xQ.2.1 x sJ⟩
 ·have so:=h.so;rw[g1] at so;exact(List.pairwise_append.1 so).2.1
theorem Pc {D D':List Int} (h: ∀c:Int,0<=c->c<t.C.length->rd D c≠ct->rd D' c=rd D c) {i k:Int} (hp:Fy t l D i k):Fy t l D' i k:=by
 rcases hp with z |⟨c,d,c0,c1,d0,d3,e,f,g⟩
 ·exact .inl z
 ·have:=h c c0 c1 e;exact .inr ⟨c,d,c0,c1,d0,d3,by rw[this];exact e,f,by rw[this];exact g⟩
structure oI (t:aG) (l:List aX) (K:Int) (D:List Int):Prop where
 dl:D.length=t.C.length
 dv: ∀c:Int,0<=c->c<t.C.length->rd D c≠ct->0<=rd D c/\rd D c<=K/\rd t.C c≠255/\Fy t l D c (rd D c)
 nb: ∀c d:Int,0<=c->c<t.C.length->rd D c≠ct->0<=d->d<=3->0<=eI t c d->rd t.C (eI t c d)≠255->rd D (eI t c d)≠ct/\rd D (eI t c d)<=rd D c+rd t.C c
 sd: ∀x∈l,rd D x.Cell≠ct/\rd D x.Cell<=x.Key
theorem ahA (hl: ∀x∈l,rh t x/\x.Key+254*256<=K) (hK:K<=1100000000) (ht:mF t) (s:dr) (hs:s.t=t): ∀(m k:Nat) (r:eX) (todo:List aX) (D:List Int) (n:Nat),(5*vF t D+2*todo.length+r.len).toNat<=m->m<k->B0 t l K r todo D n->Full r todo->
 Ok (oA.l0 k s t.W t.H r todo D) (λq=>oI t l K q.aN):=by
 have nt:=oB ht.1;have hI:ct=1099511627776:=rfl;have fin: ∀(k:Nat) (r:eX) (todo:List aX) (D:List Int) (n:Nat),B0 t l K r todo D n->Full r todo->r.len=0->Ok (oA.l0 (k+1) s t.W t.H r todo D) (λq=>oI t l K q.aN):=by
  intro k r todo D n h hf h0;rw[oA.l0];refine Ok.eq (v:=r.len) J (Ok.neg U (Ok.pure ?_));have oY:=h.ring.none h0;have Ko:todo=[]:=hf.resolve_right λz=>z.1 h0
  refine⟨h.dl,λc c0 c1 hc=>?_,λc d c0 c1 hc d0 d3 p0 p1=>?_,λx hx=>?_⟩
  ·obtain⟨a1,a2,a3,a4⟩:=h.dv c c0 c1 hc;exact⟨a1,by show rd D c<=K;omega,a4⟩
  ·exact(h.nb c d c0 c1 hc d0 d3 p0 p1).resolve_right (oY _ _)
  ·rcases h.sd x hx with z |z |z
   ·rw[Ko] at z;simp at z
   ·exact absurd z (oY _ _)
   ·exact z
 intro m
 induction m with
 |zero=>
  intro k r todo D n hm hk h hf;obtain⟨k,rfl⟩:=bw hk;have:=h.ring.CT;exact fin k r todo D n h hf U
 |succ m ih=>
  intro k r todo D n hm hk h hf;obtain⟨k,rfl⟩:=bw hk;have hlen:=h.ring.CT
  by_cases h0:r.len=0
  ·exact fin k r todo D n h hf h0
  obtain⟨x,y,GV⟩:=h.ring.some h0;rw[oA.l0];refine Ok.eq (v:=r.len) J (Ok.pos U ((ahu h.ring (by have:=(h.hs x y GV).2.2.2.1;omega) GV).bind λv hv=>?_))
  obtain⟨v1,v2,v3,v4,v5,v6,v7,v8⟩:=hv;obtain⟨i0,i1,i2,i3,i4⟩:=h.hs _ _ v5;have xQ:=v5.1;have ajz:=v5.2.1;have Ko: ∀x∈todo,v.1<=x.Key:=λx hx=>by
   rcases hf with z |⟨_,z⟩
   ·rw[z] at hx;simp at hx
   ·have:=z x hx;omega
  refine Ok.br (by rw[h.dl];exact⟨i0,i1⟩) (Ok.ite (λq=>?_) λq=>?_)
  ·have q:rd D v.2.1=ct:=by simpa using q
   have hi:=ht.2 _ i0 i1;have ei: ∀c:Int,0<=c->rd (aD D v.2.1.toNat v.1) c=if c=v.2.1 then v.1 else rd D c:=λc c0=>mr i0 (by rw[h.dl];exact i1) c0
   have zK:0<=v.1:=by have:=h.ring.at_;omega
   have hu:vF t D=vF t (aD D v.2.1.toNat v.1)+1:=by
    unfold vF;refine Mw (c:=v.2.1) i0 i1 (by simp[q]) ?_ λi a b hi=>?_
    ·rw[ei _ i0,ah J];simp;omega
    ·rw[ei _ a,ak hi]
   have hold: ∀c:Int,0<=c->c<t.C.length->rd D c≠ct->rd (aD D v.2.1.toNat v.1) c=rd D c:=λc c0 c1 hc=>by
    rw[ei c c0,ak (λz=>hc (by rw[z];exact q))]
   have e:(dr.mk (aG.mk t.W t.H s.t.C) v.2.2.2 todo (aD D (ax v.2.1) v.1))=dr.mk t v.2.2.2 todo (aD D (ax v.2.1) v.1):=by rw[hs]
   rw[e];have hr:=h.room;refine(YJ (dr.mk t v.2.2.2 todo (aD D (ax v.2.1) v.1)) ht (by simp[h.dl]) v2 U i0 i1 (by simp only;rw[ei _ i0,ah J];exact zK) (by simp only;rw[ei _ i0,ah J];omega)).bind λa ha=>?_
   have wk:rd (aD D v.2.1.toNat v.1) v.2.1=v.1:=by rw[ei _ i0,ah J]
   have L7:=ha.td;have LZ:=ha.ds;have L4:=ha.t_;have Yu:=ha.len_;have LX:=ha.at_;simp only at L7 LZ L4 Yu LX;have aC:a.t.C=s.t.C:=by rw[L4,hs]
   have ea:dr.mk (aG.mk a.t.W a.t.H s.t.C) a.wait a.todo a.aN=a:=by rw[<-aC]
   rw[ea];have nZ:B0 t l K a.wait a.todo a.aN (n+4):=by
    rw[L7,LZ];refine⟨ha.ring,by omega,by simp[h.dl],λc c0 c1 hc=>?_,λk i hh=>?_,λc d c0 c1 hc d0 d3 p0 p1=>?_,λx hx=>?_,λx hx=>⟨(h.td x hx).1,by rw[LX,v3];exact Ko x hx⟩,h.so⟩
    ·rw[LX,v3]
     by_cases z:c=v.2.1
     ·subst z;rw[wk];exact⟨zK,dU _,by omega,i2,Pc hold i4⟩
     ·rw[ei c c0,ak z] at hc⊢;obtain⟨b1,b2,b3,b4,b5⟩:=h.dv c c0 c1 hc;exact⟨b1,by omega,by omega,b4,Pc hold b5⟩
    ·rcases ha.new k i hh with z |⟨rfl,d,d0,d4,rfl,w0,w1,w2,w3⟩
     ·obtain⟨b1,b2,b3,b4,b5⟩:=h.hs k i (v7 k i z);exact⟨b1,b2,b3,by omega,Pc hold b5⟩
     ·simp only at w0 w1 w2 wk⊢;rw[wk];exact⟨w0,w1,w2,by omega,.inr ⟨v.2.1,d,i0,i1,d0,by omega,by rw[wk];omega,J,by rw[wk]⟩⟩
    ·have hn:0<=eI t c d/\eI t c d<t.C.length:=(Lq ht.1 c0 c1).resolve_left U
     by_cases z:c=v.2.1
     ·subst z;rw[wk]
      by_cases w:rd (aD D v.2.1.toNat v.1) (eI t v.2.1 d)=ct
      ·refine .inr ?_;have:=ha.all (by simp only;rw[wk,v3];omega) (by simp only;rw[wk,v3];omega) d d0 U p0 p1 w
       simp only at this;rw[wk] at this;exact this
      ·refine .inl ⟨w,?_⟩;rw[ei _ hn.1] at w⊢;split
       ·omega
       ·rename_i y;rw[ak y] at w;have:=(h.dv _ hn.1 hn.2 w).2.1;omega
     ·rw[ei c c0,ak z] at hc⊢;rcases h.nb c d c0 c1 hc d0 d3 p0 p1 with⟨w1,w2⟩ |w
      ·exact .inl (by rw[hold _ hn.1 hn.2 w1];exact⟨w1,w2⟩)
      ·rcases v8 _ _ w with⟨y1,y2⟩ |y
       ·refine .inl ?_;rw[y2,wk];exact⟨by omega,by omega⟩
       ·exact .inr (ha.rB _ _ y)
    ·have Uw:=(hl x hx).1;rcases h.sd x hx with z |z |⟨z1,z2⟩
     ·exact .inl z
     ·rcases v8 _ _ z with⟨y1,y2⟩ |y
      ·exact .inr (.inr (by rw[y2,wk];exact⟨by omega,by omega⟩))
      ·exact .inr (.inl (ha.rB _ _ y))
     ·exact .inr (.inr (by rw[hold _ Uw.1 Uw.2.1 z1];exact⟨z1,z2⟩))
   refine(Pp hl ht a L4 nZ).bind λw hw=>?_
   obtain⟨w1,w2,w3,w4,n',w5⟩:=hw;rw[w1,w2];refine ih k w.wait w.todo a.aN n' ?_ U w5 w4;rw[LZ] at*;rw[L7] at w3;omega
  ·have q:rd D v.2.1≠ct:=by simpa using q
   have hd:=(h.dv _ i0 i1 q).2.1;have nZ:B0 t l K v.2.2.2 todo D n:=by
    refine⟨v2,h.room,h.dl,λc c0 c1 hc=>?_,λk i hh=>h.hs k i (v7 k i hh),λc d c0 c1 hc d0 d3 p0 p1=>?_,λx hx=>?_,λx hx=>⟨(h.td x hx).1,by rw[v3];exact Ko x hx⟩,h.so⟩
    ·obtain⟨b1,b2,b3⟩:=h.dv c c0 c1 hc;exact⟨b1,by omega,b3⟩
    ·rcases h.nb c d c0 c1 hc d0 d3 p0 p1 with w |w
     ·exact .inl w
     ·rcases v8 _ _ w with⟨y1,y2⟩ |y
      ·exact .inl (by rw[y2];exact⟨q,by omega⟩)
      ·exact .inr y
    ·rcases h.sd x hx with z |z |z
     ·exact .inl z
     ·rcases v8 _ _ z with⟨y1,y2⟩ |y
      ·exact .inr (.inr (by rw[y2];exact⟨q,by omega⟩))
      ·exact .inr (.inl y)
     ·exact .inr (.inr z)
   have e:(dr.mk (aG.mk t.W t.H s.t.C) v.2.2.2 todo D)=dr.mk t v.2.2.2 todo D:=by rw[hs]
   rw[e];refine(Pp hl ht (dr.mk t v.2.2.2 todo D) J nZ).bind λw hw=>?_
   obtain⟨w1,w2,w3,w4,n',w5⟩:=hw;rw[w1,w2];exact ih k w.wait w.todo D n' (by simp only at w3;omega) U w5 w4
theorem Xa (ht:mF t) (hb:l.length<=1000000) (hK:K<=1100000000) (hl: ∀x∈l,rh t x/\x.Key+254*256<=K):Ok (uG.f t l) (λr=>r.2=0/\oI t l K r.1):=by
 have nt:=oB ht.1;unfold uG.f;refine(W6 ht l hb).bind λb kt=>?_
 have:b=true:=kt.2 λx hx=>(hl x hx).1;subst this;refine Ok.neg bp ?_;obtain⟨r,e1,e2,e3,e4⟩:=aho;refine Ok.bind (P:=λp=> ∃S:List aX,p=(t.W,t.H,t.C,r,S,cy t.C.length ct)/\S.length<=l.length/\(∀e,e∈S↔e∈l)/\S.Pairwise (λa b=> ¬ur b a)) (Ok.eq e1 ((PK l hb).bind λS hS=>Ok.eq (WB U U) (Ok.pure ⟨S,J,hS⟩))) λp hp=>?_
 obtain⟨S,rfl,s1,s2,s3⟩:=hp;simp only;have zH: ∀x∈S,rh t x/\x.Key+254*256<=K:=λx hx=>hl x ((s2 x).1 hx);have GO: ∀c:Int,0<=c->c<t.C.length->rd (cy t.C.length ct) c=ct:=λc c0 c1=>wM c0 U
 have hu:vF t (cy t.C.length ct)<=256:=by unfold vF;have:=D8 (λc=>rd (cy t.C.length ct) c==ct) t.C.length;omega
 have nZ:B0 t S K r S (cy t.C.length ct) 0:=by
  refine⟨e3,by omega,by simp,λc c0 c1 hc=>absurd (GO c c0 c1) hc,λk i hh=>absurd hh (e4 k i),λc d c0 c1 hc=>absurd (GO c c0 c1) hc,λx hx=> .inl hx,λx hx=>⟨hx,by rw[e2];exact(zH x hx).1.2.2.2.1⟩,s3.imp λ{a b} h=>?_⟩
  unfold ur at h;omega
 unfold oA.f;refine Ok.bind (P:=λq=>oI t l K q.aN) ?_ λq hq=>Ok.pure ⟨J,hq⟩
 refine(Pp zH ht ⟨t,r,S,cy t.C.length ct⟩ J nZ).bind λw hw=>?_
 obtain⟨w1,w2,w3,w4,n',w5⟩:=hw;rw[w1,w2];have hlen:=e3.CT;have Ba:r.len=0:=pr λz=>by obtain⟨k,i,hh⟩:=e3.some z;exact e4 k i hh
 refine(ahA zH hK ht ⟨⟨t.W,t.H,t.C⟩,r,S,cy t.C.length ct⟩ J 3000000 fuel w.wait w.todo _ n' (by show(5*vF t (cy t.C.length ct)+2*w.todo.length+w.wait.len).toNat<=3000000;have w3:w.wait.len+2*w.todo.length<=r.len+2*S.length:=w3;omega) (by rw[de];omega) w5 w4).mono λq hq=>⟨hq.dl,λc c0 c1 hc=>?_,hq.nb,λx hx=>hq.sd x ((s2 x).2 hx)⟩
 obtain⟨b1,b2,b3,b4⟩:=hq.dv c c0 c1 hc;refine⟨b1,b2,b3,?_⟩;rcases b4 with⟨x,hx,z⟩ |z
 ·exact .inl ⟨x,(s2 x).1 hx,z⟩
 ·exact .inr z
theorem PL (ht:mF t) {K':Int} {D D':List Int} (h:oI t l K D) (h':oI t l K' D'): ∀(n:Nat) (c:Int),0<=c->c<t.C.length->rd D c≠ct->rd D c<=n->rd D' c≠ct/\rd D' c<=rd D c:=by
 intro n
 induction n with
 |zero=>
  intro c c0 c1 hc hn;obtain⟨a1,a2,a3,a4⟩:=h.dv c c0 c1 hc;rcases a4 with⟨x,hx,e1,e2⟩ |⟨q,d,q0,q1,d0,d3,e1,e2,e3⟩
  ·have:=h'.sd x hx;rw[e1] at this;exact⟨this.1,by omega⟩
  ·have:=(h.dv q q0 q1 e1).1;have:=ht.2 q q0 q1;omega
 |succ n ih=>
  intro c c0 c1 hc hn;obtain⟨a1,a2,a3,a4⟩:=h.dv c c0 c1 hc;rcases a4 with⟨x,hx,e1,e2⟩ |⟨q,d,q0,q1,d0,d3,e1,e2,e3⟩
  ·have:=h'.sd x hx;rw[e1] at this;exact⟨this.1,by omega⟩
  ·have hC:=ht.2 q q0 q1;obtain⟨b1,b2⟩:=ih q q0 q1 e1 U;have:=h'.nb q d q0 q1 b1 d0 d3 U (by rw[e2];exact a3)
   rw[e2] at this;exact⟨this.1,by omega⟩
theorem aih (ht:mF t) {K':Int} {D D':List Int} (h:oI t l K D) (h':oI t l K' D') {c:Int} (c0:0<=c) (c1:c<t.C.length):rd D c=rd D' c:=by
 by_cases z:rd D c=ct
 ·by_cases z':rd D' c=ct
  ·rw[z,z']
  ·exact absurd z (PL ht h' h (rd D' c).toNat c c0 c1 z' (by have:=(h'.dv c c0 c1 z').1;omega)).1
 ·have q:=PL ht h h' (rd D c).toNat c c0 c1 z (by have:=(h.dv c c0 c1 z).1;omega)
  have:=PL ht h' h (rd D' c).toNat c c0 c1 q.1 (by have:=(h'.dv c c0 c1 q.1).1;omega)
  omega
theorem aii (ht:mF t) {D:List Int} (h:oI t l K D) {c:Int} (c0:0<=c) (c1:c<t.C.length) (hc:rd D c=0): ∃x∈l,x.Cell=c/\x.Key=0:=by
 have hI:ct=1099511627776:=rfl;obtain⟨a1,a2,a3,a4⟩:=h.dv c c0 c1 U;rcases a4 with⟨x,hx,e1,e2⟩ |⟨q,d,q0,q1,d0,d3,e1,e2,e3⟩
 ·exact⟨x,hx,e1,by omega⟩
 ·have:=(h.dv q q0 q1 e1).1;have:=ht.2 q q0 q1;omega
end
section
variable {t : aG} {l : List aX} {K : Int} {D : List Int}
def uX (l:List aX) (c s:Int):Int:=(lb.f l c s).getD 0
theorem Q5 (hb:l.length<=1000000) (c s:Int):lb.f l c s=some (uX l c s):=by
 obtain⟨r,e⟩:=Z_ l c s hb;unfold uX;rw[e];rfl
theorem af7 (ht:mF t) {c s:Int} (c0:0<=c) (c1:c<t.C.length) (s0:0<=s) (s3:s<=3):DC.f ⟨t,l,D⟩ c s=some (eI t c s):=by
 have hl:=oB ht.1;obtain⟨a1,a2,a3,a4,a5,_⟩:=ht.1;have hq:0<=c/t.W/\c/t.W<=c:=⟨Int.ediv_nonneg c0 U,Int.ediv_le_self _ c0⟩;unfold DC.f eI;simp only;rw[ah (show ¬t.W=0 by omega),ah (show ¬t.W=0 by omega),qe c0,mY c0,wi (x:=c/t.W) U U,wi (x:=t.W-1) U U,wi (x:=t.H-1) U U,wi (x:=c-t.W) U U,wi (x:=c+1) U U,wi (x:=c+t.W) U U,wi (x:=c-1) U U]
 have hs:s=0∨s=1∨s=2∨s=3:=U;rcases hs with rfl |rfl |rfl |rfl
 ·by_cases z:0<c/t.W<;>simp[z]
 ·by_cases z:c%t.W<t.W-1<;>simp[z]
 ·by_cases z:c/t.W<t.H-1<;>simp[z]
 ·by_cases z:0<c%t.W<;>simp[z]
def AV (t:aG) (l:List aX) (D:List Int) (c s:Int):Bool:=
 if eI t c s<0 then uX l c s==rd D c else decide (rd t.C (eI t c s)≠255/\rd t.C (eI t c s)+rd D (eI t c s)=rd D c)
theorem aij (hK:K<=1100000000) (h:oI t l K D) {c:Int} (c0:0<=c) (c1:c<t.C.length):0<=rd D c/\rd D c<=1099511627776:=by
 have hI:ct=1099511627776:=rfl
 by_cases z:rd D c=ct
 ·omega
 ·have:=h.dv c c0 c1 z;omega
theorem Lb (ht:mF t) (hb:l.length<=1000000) (hK:K<=1100000000) (h:oI t l K D) {c s:Int} (c0:0<=c) (c1:c<t.C.length) (s0:0<=s) (s3:s<=3):lh.f ⟨t,l,D⟩ c s=some (AV t l D c s):=by
 have Em:=h.dl;unfold lh.f AV;rw[af7 ht c0 c1 s0 s3];simp only[aM]
 by_cases z:eI t c s<0
 ·rw[ah z,ah z,Q5 hb];simp only[aM];rw[ah U]
 ·have hn:=(Lq ht.1 (s:=s) c0 c1).resolve_left U;have hC:=ht.2 _ hn.1 hn.2;have hD:=aij hK h hn.1 hn.2;rw[ak z,ak z,ah hn]
  by_cases y:rd t.C (eI t c s)=255
  ·rw[ak (by simp[y])];simp[y]
  ·rw[ah (by simpa using y),ah U,ah U,wi (x:=rd t.C (eI t c s)) U U,wi U U]
   simp only[aM,Option.some.injEq];rw[nM];simp[y]
def PG (t:aG) (l:List aX) (D:List Int) (c:Int):Int:=
 if AV t l D c 0=true then 0 else if AV t l D c 1=true then 1 else if AV t l D c 2=true then 2 else if AV t l D c 3=true then 3 else 5
def D_ (t:aG) (l:List aX) (D:List Int) (c:Int):Int:=if rd D c=ct then 5 else if rd D c=uX l c 4 then 4 else PG t l D c
theorem ahP (ht:mF t) (hb:l.length<=1000000) (hK:K<=1100000000) (h:oI t l K D) {c:Int} (c0:0<=c) (c1:c<t.C.length):DB.f ⟨t,l,D⟩ c=some (D_ t l D c):=by
 have Em:=h.dl;unfold DB.f E7.f D_ PG;simp only[Lb ht hb hK h c0 c1 (dU 0) (by omega:(0:Int)<=3),Lb ht hb hK h c0 c1 (by omega:(0:Int)<=1) U,Lb ht hb hK h c0 c1 (by omega:(0:Int)<=2) U,Lb ht hb hK h c0 c1 (by omega:(0:Int)<=3) U,Q5 hb,aM,beq_self_eq_true,if_true]
 rw[ah U]
 by_cases z:rd D c=ct
 ·rw[ah (by simpa using z),ah z]
 ·rw[ak (by simpa using z),ak z]
  by_cases y:rd D c=uX l c 4
  ·rw[ah (by simpa using y),ah y]
  ·rw[ak (by simpa using y),ak y]
   repeat' split
   all_goals rfl
structure AF (t:aG) (l:List aX) (K:Int) (f:eJ):Prop where
 aN:oI t l K f.cN
 dl:f.cx.length=t.C.length
 dir: ∀c:Int,0<=c->c<t.C.length->rd f.cx c=D_ t l f.cN c
theorem abj (ht:mF t) (hb:l.length<=1000000) (hK:K<=1100000000) (h:oI t l K D) (z:Int): ∀(n k:Nat) (x:List Int) (i:Int),(t.C.length-i).toNat<=n->n<k->0<=i->i<=t.C.length->(x.length:Int)=i->(∀c:Int,0<=c->c<i->rd x c=D_ t l D c)->
 Ok (oz.l0 k t l (D,z) x i) (λr=>r.2=0/\AF t l K r.1):=by
 have nt:=oB ht.1;have Em:=h.dl;have fin: ∀(k:Nat) (x:List Int) (i:Int),¬i<t.C.length->i<=t.C.length->(x.length:Int)=i->(∀c:Int,0<=c->c<i->rd x c=D_ t l D c)->Ok (oz.l0 (k+1) t l (D,z) x i) (λr=>r.2=0/\AF t l K r.1):=λk x i hi fa hx ha=>by
  rw[oz.l0,ak (by simp only;omega)]
  exact Ok.pure ⟨J,h,by simp only;omega,λc c0 c1=>ha c c0 U⟩
 intro n
 induction n with
 |zero=>
  intro k x i hn hk hi fa hx ha;obtain⟨k,rfl⟩:=bw hk;exact fin k x i U fa hx ha
 |succ n ih=>
  intro k x i hn hk hi fa hx ha;obtain⟨k,rfl⟩:=bw hk
  by_cases aS:i<t.C.length
  ·rw[oz.l0,wi U U];refine Ok.pos (by simp only;omega) (Ok.eq (ahP ht hb hK h hi aS) (Ok.br U (ih k _ (i+1) U U U U bo λc c0 c1=>?_)))
   rw[HI c0 U];split
   ·rename_i q;rw[q,hx]
   ·exact ha c c0 U
  ·exact fin k x i aS fa hx ha
theorem RY (ht:mF t) (hb:l.length<=1000000) (hK:K<=1100000000) (hl: ∀x∈l,rh t x/\x.Key+254*256<=K):Ok (oz.f t l) (λr=>r.2=0/\AF t l K r.1):=by
 have nt:=oB ht.1;unfold oz.f;refine(Xa ht hb hK hl).bind λv hv=>?_
 obtain⟨D,z⟩:=v;simp only at hv⊢;exact Ok.neg (by simp[hv.1]) (abj ht hb hK hv.2 z t.C.length fuel [] 0 U (by rw[de];omega) U U J (λc c0 c1=>by omega))
end
def jV (m:aG) (s:Int) (n:Nat):List Int:=(List.range n).map λl:Nat=>rd m.C (cA m.W m.H s (l:Int))
theorem BI (m:aG) (s:Int) (n:Nat):(jV m s n).length=n:=by simp[jV]
theorem aiA (m:aG) (s:Int) (n:Nat):jV m s (n+1)=jV m s n++[rd m.C (cA m.W m.H s (n:Int))]:=by
 simp[jV,List.range_succ]
theorem aiz (m:aG) (s:Int) (n a:Nat):jV m s (n+a)=jV m s n++(List.range a).map λx:Nat=>rd m.C (cA m.W m.H s ((n+x:Nat):Int)):=by
 simp only[jV,List.range_add,List.map_append,List.map_map];rfl
theorem A6 {w h s l:Int} (hs:bC w h s) (h0:0<=l) (h1:l<(ay w h s).1*(ay w h s).2):0<=cA w h s l/\cA w h s l<w*h:=by
 obtain⟨a1,a2,a3,a4,a5,a6⟩:=we hs h0 h1;obtain⟨p1,p2,p3,p4⟩:=uA hs;have e:cA w h s l=(16*(s/(bq w h).1)+l/(ay w h s).1)*w+(16*(s%(bq w h).1)+l%(ay w h s).1):=by
  unfold cA;rw[ah ⟨hs,h0,h1⟩]
 rw[e];exact tM U a5 U a6
theorem global_row {w h s y x:Int} (hs:bC w h s) (y0:0<=y) (y1:y<(ay w h s).2) (x0:0<=x) (x1:x<(ay w h s).1):cA w h s (y*(ay w h s).1+x)=cA w h s (y*(ay w h s).1)+x:=by
 obtain⟨z1,z2,z3,z4⟩:=p9 hs;have hl:=tM (w:=(ay w h s).1) (h:=(ay w h s).2) x0 x1 y0 y1;have xW:=tM (w:=(ay w h s).1) (h:=(ay w h s).2) (x:=0) U U y0 y1;have n1:=pR (a:=(ay w h s).1) (x:=x) (y:=y) x0 x1;have n0:=pR (a:=(ay w h s).1) (x:=0) (y:=y) U U;rw[Int.add_zero] at n0 xW;unfold cA;rw[ah ⟨hs,hl⟩,ah ⟨hs,xW⟩,n1.1,n1.2,n0.1,n0.2];omega
theorem aix {L:List Int} {lo:Int} {a:Nat} (h0:0<=lo) (h1:lo+a<=L.length):aA L lo (lo+a)=(List.range a).map λx:Nat=>rd L (lo+(x:Int)):=by
 apply List.ext_getElem
 ·simp[aA];omega
 ·intro i h2 h3;have hi:i<a:=by simpa using h3
  simp only[aA,List.getElem_take,List.getElem_drop,List.getElem_map,List.getElem_range];rw[iU U]
  congr 1;omega
theorem aiB {m:aG} (hm:nK m) (s:Int):oq.f m s=some (aG.mk (ay m.W m.H s).1 (ay m.W m.H s).2 (jV m s ((ay m.W m.H s).1*(ay m.W m.H s).2).toNat)):=by
 unfold oq.f;rw[Po,aM];have hz:=size_le m.W m.H s;have Ud:(ay m.W m.H s).1*(ay m.W m.H s).2<=16*16:=kU hz.1 hz.2.2.1 hz.2.1 hz.2.2.2;have hp0:0<=(ay m.W m.H s).1*(ay m.W m.H s).2:=nu hz.1 hz.2.2.1;have key: ∀(n k:Nat) (i:Int),i+n=(ay m.W m.H s).1*(ay m.W m.H s).2->0<=i->n<k->
  oq.l0 k m s (ay m.W m.H s) (jV m s i.toNat) i=some (aG.mk (ay m.W m.H s).1 (ay m.W m.H s).2 (jV m s ((ay m.W m.H s).1*(ay m.W m.H s).2).toNat)):=by
  intro n
  induction n with
  |zero=>
   intro k i hi h0 hk;obtain⟨k,rfl⟩: ∃q,k=q+1:=⟨k-1,by omega⟩
   rw[oq.l0,bd (x:=_*_) U U,ak U];have:i=(ay m.W m.H s).1*(ay m.W m.H s).2:=U;rw[this]
  |succ n ih=>
   intro k i hi h0 hk;obtain⟨k,rfl⟩: ∃q,k=q+1:=⟨k-1,by omega⟩
   have hs:bC m.W m.H s:=by
    by_cases hs:bC m.W m.H s
    ·exact hs
    ·have:ay m.W m.H s=(0,0):=by unfold ay;rw[ak hs]
     rw[this] at hi;simp at hi;omega
   have hg:=A6 hs h0 (by omega:i<_)
   have hl:=hm.2.1;rw[oq.l0,bd (x:=_*_) U U,ah U,WC,aM,ah U,ah (by rw[BI];omega),bd U U]
   have:=ih k (i+1) U U U;rw[show(i+1).toNat=i.toNat+1 by omega,aiA,show((i.toNat:Nat):Int)=i by omega] at this
   exact this
 exact key ((ay m.W m.H s).1*(ay m.W m.H s).2).toNat fuel 0 U U (by rw[sC];omega)
def Ge (g:bx) (s:Int):aG×Bool:=if bC g.m.W g.m.H s then(aG.mk (ay g.m.W g.m.H s).1 (ay g.m.W g.m.H s).2 (jV g.m s ((ay g.m.W g.m.H s).1*(ay g.m.W g.m.H s).2).toNat),true) else(aG.mk 0 0 [],false)
theorem PX {g:bx} {more:Int} (h:cL g more) (s:Int):mg.f g s=some (Ge g s):=by
 have hl:=h.ok.2.1;unfold mg.f Ge;have e0:iQ.f g=some (g.m.W,g.m.H):=rfl;rw[e0,aM,E5,aM]
 by_cases hs:bC g.m.W g.m.H s
 ·have hz:=p9 hs;rw[ak bo,ah hs];have Ud:(ay g.m.W g.m.H s).1*(ay g.m.W g.m.H s).2<=16*16:=kU U U hz.2.1 hz.2.2.2;have key: ∀(n k:Nat) (i:Int),i+n=(ay g.m.W g.m.H s).2->0<=i->n<k->
   mg.l0 k g s (g.m.W,g.m.H) (ay g.m.W g.m.H s) (jV g.m s (i*(ay g.m.W g.m.H s).1).toNat) i=some (aG.mk (ay g.m.W g.m.H s).1 (ay g.m.W g.m.H s).2 (jV g.m s ((ay g.m.W g.m.H s).1*(ay g.m.W g.m.H s).2).toNat),true):=by
   intro n
   induction n with
   |zero=>
    intro k i hi h0 hk;obtain⟨k,rfl⟩: ∃q,k=q+1:=⟨k-1,by omega⟩
    rw[mg.l0,ak U];have:i=(ay g.m.W g.m.H s).2:=U;rw[this,mC]
   |succ n ih=>
    intro k i hi h0 hk;obtain⟨k,rfl⟩: ∃q,k=q+1:=⟨k-1,by omega⟩
    have rp:i<(ay g.m.W g.m.H s).2:=U;have b0:0<=i*(ay g.m.W g.m.H s).1:=nu h0 U;have b1:i*(ay g.m.W g.m.H s).1+(ay g.m.W g.m.H s).1<=(ay g.m.W g.m.H s).1*(ay g.m.W g.m.H s).2:=by
     have:(i+1)*(ay g.m.W g.m.H s).1<=(ay g.m.W g.m.H s).2*(ay g.m.W g.m.H s).1:=BZ U U;rw[Int.add_mul,Int.one_mul,mC (ay g.m.W g.m.H s).2] at this;exact this
    have lo:=A6 hs b0 U;have hi3:=A6 (l:=i*(ay g.m.W g.m.H s).1+((ay g.m.W g.m.H s).1-1)) hs U U;rw[global_row hs h0 rp U U] at hi3;have hc:=pP h.ok.1;rw[mg.l0,ah rp,bd (x:=_*_) U U,JD,aM];simp only[bd (x:=cA g.m.W g.m.H s (i*(ay g.m.W g.m.H s).1)+(ay g.m.W g.m.H s).1) U U];rw[ah U];have jr:(((ay g.m.W g.m.H s).1.toNat:Nat):Int)=(ay g.m.W g.m.H s).1:=U;have Ew:=aix (L:=g.m.C) (lo:=cA g.m.W g.m.H s (i*(ay g.m.W g.m.H s).1)) (a:=(ay g.m.W g.m.H s).1.toNat) U U;rw[jr] at Ew;rw[Ew,ah (by rw[BI];simp;omega),bd U U]
    have xX:jV g.m s (i*(ay g.m.W g.m.H s).1).toNat++(List.range (ay g.m.W g.m.H s).1.toNat).map (λx:Nat=>rd g.m.C (cA g.m.W g.m.H s (i*(ay g.m.W g.m.H s).1)+(x:Int)))=jV g.m s ((i+1)*(ay g.m.W g.m.H s).1).toNat:=by
     rw[show((i+1)*(ay g.m.W g.m.H s).1).toNat=(i*(ay g.m.W g.m.H s).1).toNat+(ay g.m.W g.m.H s).1.toNat by rw[Int.add_mul,Int.one_mul];omega,aiz]
     congr 1
     apply List.map_congr_left;intro x hx;have wD:=List.mem_range.mp hx;rw[show(((i*(ay g.m.W g.m.H s).1).toNat+x:Nat):Int)=i*(ay g.m.W g.m.H s).1+(x:Int) by omega,global_row hs h0 rp U U]
    rw[xX];exact ih k (i+1) U U U
  have:=key (ay g.m.W g.m.H s).2.toNat fuel 0 U U (by rw[sC];omega)
  rw[show((0:Int)*(ay g.m.W g.m.H s).1).toNat=0 by simp] at this
  exact this
 ·have:ay g.m.W g.m.H s=(0,0):=by unfold ay;rw[ak hs]
  rw[this,ah bp,ak hs]
theorem abK (g:bx) (hb:g.m.C.length<=1099511627776):xL.f g=some g.m:=by
 unfold xL.f;rw[Ro _ hb];rfl
theorem G8 (w h c:Int):rR.f w h c=some (cE w h c):=by
 unfold rR.f cE;simp only[Pb,aM,rK,E5]
 by_cases hc:cV w h c
 ·rw[ak (by rw[EI];simp[hc]),ah hc]
  simp only[Bu];rw[ah hc];simp only;have hp:=vv hc;have hw:=OL hc;have hz:=size_le w h (aR w h c);have h5:0<=c/w%16*(ay w h (aR w h c)).1:=nu U U;have h6:c/w%16*(ay w h (aR w h c)).1<=16*16:=kU U U U U;rw[mY hp.2.2.1,mY hp.1,bd (x:=_*_) U U,bd U U]
 ·rw[ah (by rw[EI];exact hc),ak hc]
theorem zQ {w h c:Int} (hc:cV w h c):0<=cE w h c/\cE w h c<(ay w h (aR w h c)).1*(ay w h (aR w h c)).2:=by
 have ml:=OL hc;have ry:=vv hc;have h1:=tM (w:=(ay w h (aR w h c)).1) (h:=(ay w h (aR w h c)).2) (x:=c%w%16) (y:=c/w%16) U ml.1 U ml.2;have e4:cE w h c=c/w%16*(ay w h (aR w h c)).1+c%w%16:=by unfold cE;rw[ah hc]
 rw[e4];exact h1
theorem pe {w h c:Int} (hc:cV w h c):bC w h (aR w h c):=by
 unfold aR;rw[ah hc];exact EZ hc
theorem nX {w h c:Int} (hc:cV w h c):cA w h (aR w h c) (cE w h c)=c:=by
 have ml:=OL hc;have ry:=vv hc;have Uk:=Ds hc;have b_:=zQ hc;unfold cA;rw[ah ⟨pe hc,b_⟩];have e3:aR w h c=c/w/16*(bq w h).1+c%w/16:=by unfold aR;rw[ah hc]
 have e4:cE w h c=c/w%16*(ay w h (aR w h c)).1+c%w%16:=by unfold cE;rw[ah hc]
 have n1:=pR (a:=(bq w h).1) (x:=c%w/16) (y:=c/w/16) Uk.1 Uk.2.1;have n2:=pR (a:=(ay w h (aR w h c)).1) (x:=c%w%16) (y:=c/w%16) U ml.1;rw[<-e3] at n1;rw[<-e4] at n2;rw[n1.1,n1.2,n2.1,n2.2];have a1:16*(c/w/16)+c/w%16=c/w:=U;have a2:16*(c%w/16)+c%w%16=c%w:=U;rw[a1,a2];have e:=Mt hc;unfold ou at e;rw[ah ⟨hc.1,ry.1,ry.2.1,ry.2.2.1,ry.2.2.2⟩] at e;exact e
theorem JE {w h s l k:Int} (hs:bC w h s) (h0:0<=l) (h1:l<k) (h2:k<(ay w h s).1*(ay w h s).2):cA w h s l<cA w h s k:=by
 obtain⟨a1,a2,a3,a4,a5,a6⟩:=we hs h0 (by omega:l<_)
 obtain⟨b1,b2,b3,b4,b5,b6⟩:=we (l:=k) hs U h2;have e1:cA w h s l=(16*(s/(bq w h).1)+l/(ay w h s).1)*w+(16*(s%(bq w h).1)+l%(ay w h s).1):=by unfold cA;rw[ah ⟨hs,h0,by omega⟩]
 have e2:cA w h s k=(16*(s/(bq w h).1)+k/(ay w h s).1)*w+(16*(s%(bq w h).1)+k%(ay w h s).1):=by unfold cA;rw[ah ⟨hs,by omega,h2⟩]
 have p:=uA hs;have hz:=p9 hs;have m1:=uQ l (ay w h s).1;have m2:=uQ k (ay w h s).1;rw[e1,e2];have hle:l/(ay w h s).1<=k/(ay w h s).1:=Int.ediv_le_ediv U U
 by_cases hq:l/(ay w h s).1=k/(ay w h s).1
 ·rw[<-hq] at m2⊢;omega
 ·have:=BZ (show 16*(s/(bq w h).1)+l/(ay w h s).1+1<=16*(s/(bq w h).1)+k/(ay w h s).1 by omega) (show 0<=w by omega)
  rw[Int.add_mul (16*(s/(bq w h).1)+l/(ay w h s).1),Int.one_mul] at this;omega
theorem aaL (w h s:Int):(qK w h s).Pairwise (· < ·):=by
 unfold qK vx;have hz:=uD w h s;rw[List.pairwise_map];have h1:((List.range ((ay w h s).1*(ay w h s).2).toNat).filter (λl:Nat=>Bs w h s (l:Int))).Pairwise (· < ·):=List.Pairwise.sublist List.filter_sublist List.pairwise_lt_range;refine List.Pairwise.imp_of_mem ?_ h1;intro a b ha hb wj;have kb:=List.mem_range.mp (List.mem_filter.mp hb).1;exact JE (PI (w:=w) (h:=h) (s:=s) (l:=(b:Int)) U U) U U U
theorem OY (m:aG) (s:Int):(bP m s).Pairwise (· < ·):=(aaL m.W m.H s).sublist List.filter_sublist
theorem qE {m:aG} {s c:Int} (h:c∈bP m s):lM m c=true/\bS m c/\bC m.W m.H s/\aR m.W m.H c=s:=by
 obtain⟨h1,h2⟩:=List.mem_filter.mp h;unfold qK vx at h1;obtain⟨l,hl,rfl⟩:=List.mem_map.mp h1;have hz:=uD m.W m.H s;have kl:=List.mem_range.mp (List.mem_filter.mp hl).1;have hs:=PI (w:=m.W) (h:=m.H) (s:=s) (l:=(l:Int)) U U;exact⟨h2,(ph.mp h2).1,hs,EY hs U U⟩
theorem wJ (m:aG) (s:Int):(bP m s).length<=256:=by
 have:=Rn m.W m.H s;have:=List.length_filter_le (lM m) (qK m.W m.H s);unfold bP;omega
theorem afw {w h s l:Int} (hs:bC w h s) (h0:0<=l) (h1:l<(ay w h s).1*(ay w h s).2):cE w h (cA w h s l)=l:=by
 have hc:=(Gj hs h0 h1).1;have e:=EY hs h0 h1;have b_:=zQ hc;have hg:=nX hc;rw[e] at b_ hg;rcases Int.lt_trichotomy (cE w h (cA w h s l)) l with q |q |q
 ·have:=JE hs b_.1 q h1;omega
 ·exact q
 ·have:=JE hs h0 q b_.2;omega
theorem OK {w h a b:Int} (ha:cV w h a) (hb:cV w h b) (e:aR w h a=aR w h b) (wj:a<b):cE w h a<cE w h b:=by
 have ia:=zQ ha;have ga:=nX ha;have ib:=zQ hb;have gb:=nX hb;rw[e] at ia ga;rcases Int.lt_trichotomy (cE w h a) (cE w h b) with q |q |q
 ·exact q
 ·rw[q] at ga;omega
 ·have:=JE (pe hb) ib.1 q ia.2;omega
abbrev dG (m:aG) (s:Int):aG:=aG.mk (ay m.W m.H s).1 (ay m.W m.H s).2 (jV m s ((ay m.W m.H s).1*(ay m.W m.H s).2).toNat)
theorem Sh {g:bx} {s:Int} (hs:bC g.m.W g.m.H s):Ge g s=(dG g.m s,true):=by unfold Ge;rw[ah hs]
theorem Lo {m:aG} {s l:Int} {n:Nat} (h0:0<=l) (h1:l<n):rd (jV m s n) l=rd m.C (cA m.W m.H s l):=by
 unfold jV;rw[iU bo];simp only[List.getElem_map,List.getElem_range];rw[show((l.toNat:Nat):Int)=l by omega]
variable {g : bx} {more : Int}
theorem Bv (h:cL g more) {s:Int} (hs:bC g.m.W g.m.H s):mF (dG g.m s):=by
 obtain⟨z1,z2,z3,z4⟩:=p9 hs;have hz:=uD g.m.W g.m.H s;have hv: ∀c:Int,0<=c->c<((ay g.m.W g.m.H s).1*(ay g.m.W g.m.H s).2).toNat->1<=rd (dG g.m s).C c/\rd (dG g.m s).C c<=255:=λc c0 c1=>by
  show 1<=rd (jV _ _ _) c/\rd (jV _ _ _) c<=255
  rw[Lo c0 c1];have:=A6 hs c0 U;exact h.sm _ this.1 this.2
 refine⟨⟨z1,z2,z3,z4,by simp[BI];omega,λhm=>?_⟩,λc c0 c1=>hv c c0 (by rw[BI] at c1;exact c1)⟩
 obtain⟨c,c0,c1,e⟩:=qD hm;have:=hv c c0 (by rw[BI] at c1;exact c1)
 simp only at this;rw[e] at this;omega
theorem uy (h:cL g more) {c:Int} (hc:bS g.m c):0<=cE g.m.W g.m.H c/\cE g.m.W g.m.H c<(dG g.m (aR g.m.W g.m.H c)).C.length/\rd (dG g.m (aR g.m.W g.m.H c)).C (cE g.m.W g.m.H c)=je g c:=by
 have gC:=fI h.ok hc;have b_:=zQ gC;refine⟨b_.1,by rw[BI];omega,?_⟩
 show rd (jV _ _ _) _=_
 rw[Lo b_.1 U,nX gC];unfold je;rw[ah hc]
variable {t : aG} {l : List Int}
structure Fx (t:aG) (l:List Int):Prop where
 DF:mF t
 mem: ∀c∈l,0<=c/\c<t.C.length/\rd t.C c≠255
 up:l.Pairwise (· < ·)
 lW:l.length<=256
abbrev KT:Int:=65024
def zh (t:aG) (c:Int) (D:List Int):Prop:=oI t [⟨c,4,0⟩] KT D
theorem Xl (ht:mF t) {c:Int} (c0:0<=c) (c1:c<t.C.length) (c2:rd t.C c≠255):Ok (yR.f t c) (λr=>zh t c r.1/\r.2=0):=by
 unfold yR.f;refine(Xa (K:=KT) ht bp (by decide) (λx hx=>?_)).bind λr hr=>Ok.pure ⟨hr.2,hr.1⟩
 simp only[nh,ra,or_false] at hx;subst hx;exact⟨⟨c0,c1,c2,dU _,by show(0:Int)<=1073741824;decide,.inl J⟩,by show(0:Int)+254*256<=65024;decide⟩
theorem aiC (h:Fx t l): ∀(n k:Nat) (i:Int),(l.length-i).toNat<=n->n<k->0<=i->qP.l0 k t l i=some true:=by
 have hf:=h.lW;have hl:=oB h.DF.1;have fin: ∀(k:Nat) (i:Int),¬i<l.length->qP.l0 (k+1) t l i=some true:=λk i hi=>by
  rw[qP.l0,ak hi,Lp _ U,decide_eq_true h.DF.1];rfl
 intro n
 induction n with
 |zero=>
  intro k i hn hk hi;obtain⟨k,rfl⟩:=bw hk;exact fin k i U
 |succ n ih=>
  intro k i hn hk hi;obtain⟨k,rfl⟩:=bw hk
  by_cases aS:i<l.length
  ·have hm:=h.mem _ (fS hi aS);have hc:=h.DF.2 _ hm.1 hm.2.1;have et:BJ.f t (rd l i)=some (rd t.C (rd l i)):=by rw[aiy h.DF,ah ⟨hm.1,hm.2.1⟩]
   rw[qP.l0,ah aS,ah (c:=0<=i/\i<(aa l:Int)) ⟨hi,aS⟩,et,aM,ak (c:=(rd t.C (rd l i)==0||rd t.C (rd l i)==255)=true) bo]
   have e:(if i>0 then(if(0<=(af (i-1))/\(af (i-1))<(aa l:Int)) then(some (decide ((rd l i)<=(rd l (af (i-1)))))) else none) else(some false))=some false:=by
    by_cases z:i>0
    ·rw[ah z,wi U U,ah U,decide_eq_false (by have:=yA h.up (i:=i-1) (j:=i) U U aS;omega)]
    ·rw[ak z]
   rw[e,aM];simp only[jk,if_false];rw[wi U U];exact ih k (i+1) U U U
  ·exact fin k i aS
theorem GW {n i j:Int} (i0:0<=i) (i1:i<n) (j0:0<=j) (j1:j<n):0<=i*n/\i*n+j<n*n:=by
 have h1:=BZ (show i+1<=n by omega) (show 0<=n by omega)
 have h2:=Int.mul_nonneg i0 (show 0<=n by omega)
 rw[Int.add_mul,Int.one_mul] at h1;omega
theorem UA {n i j i' j':Int} (j0:0<=j) (j1:j<n) (j0':0<=j') (j1':j'<n) (e:i*n+j=i'*n+j'):i=i'/\j=j':=by
 have a:=pR (y:=i) j0 j1;have b:=pR (y:=i') j0' j1';rw[e] at a;exact⟨a.2.symm.trans b.2,a.1.symm.trans b.1⟩
def xn (t:aG) (l:List Int) (j:Int) (x:List Int):Prop:=(x.length:Int)=l.length*l.length/\ ∀q:Int,0<=q->q<j-> ∃D,zh t (rd l q) D/\ ∀i:Int,0<=i->i<l.length->rd x (i*l.length+q)=rd D (rd l i)
theorem afC (h:Fx t l) {j:Int} (j0:0<=j) (j1:j<l.length) {D:List Int×Int} (hD:zh t (rd l j) D.1): ∀(n k:Nat) (x:List Int) (i:Int),(l.length-i).toNat<=n->n<k->0<=i->xn t l j x->(∀q:Int,0<=q->q<i->rd x (q*l.length+j)=rd D.1 (rd l q))->
 Ok (jU.l1 k l j D x i) (xn t l (j+1)):=by
 have hf:=h.lW;have fin: ∀(k:Nat) (x:List Int) (i:Int),¬i<l.length->xn t l j x->(∀q:Int,0<=q->q<i->rd x (q*l.length+j)=rd D.1 (rd l q))->Ok (jU.l1 (k+1) l j D x i) (xn t l (j+1)):=λk x i hi hx hq=>by
  rw[jU.l1,ak hi];refine Ok.pure ⟨hx.1,λq q0 q1=>?_⟩
  by_cases z:q=j
  ·rw[z];exact⟨D.1,hD,λi i0 i1=>hq i i0 U⟩
  ·exact hx.2 q q0 U
 intro n
 induction n with
 |zero=>
  intro k x i hn hk hi hx hq;obtain⟨k,rfl⟩:=bw hk;exact fin k x i U hx hq
 |succ n ih=>
  intro k x i hn hk hi hx hq;obtain⟨k,rfl⟩:=bw hk
  by_cases aS:i<l.length
  ·have hm:=h.mem _ (fS hi aS);have b_:=GW hi aS j0 j1;have xY:(l.length:Int)*l.length<=256*256:=kU U U U U;rw[jU.l1,wi (x:=i*(l.length:Int)) U U,wi (x:=i*(l.length:Int)+j) U U,wi (x:=i+1) U U];refine Ok.pos aS (Ok.br ⟨hi,aS⟩ (Ok.br (by rw[hD.dl];exact⟨hm.1,hm.2.1⟩) (Ok.br (by rw[hx.1];omega) ?_)))
   have ei: ∀c:Int,0<=c->rd (aD x (i*(l.length:Int)+j).toNat (rd D.1 (rd l i))) c=if c=i*(l.length:Int)+j then rd D.1 (rd l i) else rd x c:=λc c0=>mr U (by rw[hx.1];omega) c0
   refine ih k _ (i+1) U U U ⟨by simpa using hx.1,λq q0 q1=>?_⟩ (λq q0 q1=>?_)
   ·obtain⟨E,e1,e2⟩:=hx.2 q q0 q1;refine⟨E,e1,λr r0 r1=>?_⟩
    have:=GW r0 r1 q0 (show q<l.length by omega)
    rw[ei _ U,ak (λz=>by have:=UA q0 U j0 j1 z;omega)]
    exact e2 r r0 r1
   ·have:=GW q0 (show q<l.length by omega) j0 j1
    rw[ei _ U]
    by_cases z:q=i
    ·rw[ah (by rw[z]),z]
    ·rw[ak (λy=>z (UA j0 j1 j0 j1 y).1)];exact hq q q0 U
  ·exact fin k x i aS hx hq
theorem afB (h:Fx t l): ∀(n k:Nat) (x:List Int) (j:Int),(l.length-j).toNat<=n->n<k->0<=j->j<=l.length->xn t l j x->Ok (jU.l0 k t l x j) (λr=>r.2=0/\xn t l l.length r.1):=by
 have hf:=h.lW;have fin: ∀(k:Nat) (x:List Int) (j:Int),j<=l.length-> ¬j<l.length->xn t l j x->Ok (jU.l0 (k+1) t l x j) (λr=>r.2=0/\xn t l l.length r.1):=λk x j hj hi hx=>by
  rw[jU.l0,ak hi];have:j=l.length:=U;subst this;exact Ok.pure ⟨J,hx⟩
 intro n
 induction n with
 |zero=>
  intro k x j hn hk hj jq hx;obtain⟨k,rfl⟩:=bw hk;exact fin k x j jq U hx
 |succ n ih=>
  intro k x j hn hk hj jq hx;obtain⟨k,rfl⟩:=bw hk
  by_cases aS:j<l.length
  ·have hm:=h.mem _ (fS hj aS);rw[jU.l0,wi U U];refine Ok.pos aS (Ok.bind (P:=xn t l (j+1)) (Ok.br ⟨hj,aS⟩ ((Xl h.DF hm.1 hm.2.1 hm.2.2).bind λD hD=>?_)) λr hr=>ih k r (j+1) U U U U hr);exact afC h hj aS hD.1 l.length fuel x 0 U (by rw[de];omega) U hx (λq q0 q1=>by omega)
  ·exact fin k x j jq aS hx
theorem afA (h:Fx t l):Ok (jU.f t l) (λr=>r.2=0/\xn t l l.length r.1):=by
 have hf:=h.lW;unfold jU.f qP.f;have xY:(l.length:Int)*l.length<=256*256:=kU U U U U;have A':0<=(l.length:Int)*l.length:=Int.mul_nonneg U U;rw[aiC h l.length fuel 0 U (by rw[de];omega) U,wi U U]
 refine Ok.eq J (Ok.neg bp (Ok.br U (afB h l.length fuel _ 0 U (by rw[de];omega) U U ⟨by simp;omega,λq q0 q1=>by omega⟩)))
variable {g : bx} {more : Int}
theorem P4 (h:cL g more) (s:Int):qv.f g s=some (fX g s):=by
 unfold qv.f fX;have hv:=h.vs
 by_cases hs:0<=s/\s<dy g.m.W g.m.H
 ·rw[ak U,aM,ak bo,ah U,ah hs]
 ·by_cases h0:s<0
  ·rw[ah h0,ak hs];rfl
  ·rw[ak h0,aM,ah bo,ak hs]
abbrev Bh (m:aG) (s:Int):List Int:=(bP m s).map (cE m.W m.H)
theorem KO (h:cL g more) {s:Int} (hs:bC g.m.W g.m.H s):Fx (dG g.m s) (Bh g.m s):=by
 refine⟨Bv h hs,λc hc=>?_,?_,by simpa using wJ g.m s⟩
 ·obtain⟨x,hx,rfl⟩:=List.mem_map.1 hc;obtain⟨n1,n2,n3,n4⟩:=qE hx;have:=uy h n2;rw[n4] at this;refine⟨this.1,this.2.1,?_⟩;rw[this.2.2];unfold je;rw[ah n2];exact(ph.1 n1).2
 ·rw[List.pairwise_map];refine(OY g.m s).imp_of_mem λ{a b} ha hb wj=>?_
  obtain⟨_,a2,_,a4⟩:=qE ha;obtain⟨_,b2,_,b4⟩:=qE hb;exact OK (fI h.ok a2) (fI h.ok b2) (a4.trans b4.symm) wj
def enc (d:Int):Int:=if d=ct then-1 else d
structure BX (m:aG) (s:Int) (p:pQ):Prop where
 nodes:p.nodes=bP m s
 len_:(p.aN.length:Int)=(bP m s).length*(bP m s).length
 Rx: ∀j:Int,0<=j->j<(bP m s).length-> ∃D,zh (dG m s) (cE m.W m.H (rd (bP m s) j)) D/\ ∀i:Int,0<=i->i<(bP m s).length->rd p.aN (i*(bP m s).length+j)=enc (rd D (cE m.W m.H (rd (bP m s) i)))
theorem Uz {x:Int} (h0: -2147483648<=x) (h1:x<=2147483647):IntKind.i32.wrap x=x:=by
 unfold IntKind.wrap IntKind.signed IntKind.bits;simp;omega
theorem afN (v:Int) (nodes:List Int) (T:List Int×Int) (hT: ∀c:Int,0<=c->c<T.1.length->rd T.1 c=ct∨(0<=rd T.1 c/\rd T.1 c<=KT)) (hb:T.1.length<=65536): ∀(n k:Nat) (x:List Int) (i:Int),(T.1.length-i).toNat<=n->n<k->0<=i->x.length=T.1.length->(∀c:Int,0<=c->c<i->rd x c=enc (rd T.1 c))->
 Ok (jw.l1 k v nodes T x i) (λp=>p.version=v/\p.nodes=nodes/\p.aN.length=T.1.length/\ ∀c:Int,0<=c->c<T.1.length->rd p.aN c=enc (rd T.1 c)):=by
 have hI:ct=1099511627776:=rfl;have M6:KT=65024:=rfl;have fin: ∀(k:Nat) (x:List Int) (i:Int),¬i<T.1.length->x.length=T.1.length->(∀c:Int,0<=c->c<i->rd x c=enc (rd T.1 c))->Ok (jw.l1 (k+1) v nodes T x i) (λp=>p.version=v/\p.nodes=nodes/\p.aN.length=T.1.length/\ ∀c:Int,0<=c->c<T.1.length->rd p.aN c=enc (rd T.1 c)):=λk x i hi hx ha=>by
  rw[jw.l1,ak hi];exact Ok.pure ⟨J,J,hx,λc c0 c1=>ha c c0 U⟩
 intro n
 induction n with
 |zero=>
  intro k x i hn hk hi hx ha;obtain⟨k,rfl⟩:=bw hk;exact fin k x i U hx ha
 |succ n ih=>
  intro k x i hn hk hi hx ha;obtain⟨k,rfl⟩:=bw hk
  by_cases aS:i<T.1.length
  ·rw[jw.l1,wi (x:=i+1) U U];have s1: ∀(y:List Int) (u c:Int),y.length=T.1.length->0<=c->rd (aD y i.toNat u) c=if c=i then u else rd y c:=λy u c hy c0=>mr hi U c0
   refine Ok.pos aS (Ok.br ⟨hi,aS⟩ (Ok.br U (Ok.ite (λq=>Ok.br bo ?_) λq=>?_)))
   ·have q:rd T.1 i≠ct:=by simpa using q
    have hd:=(hT i hi aS).resolve_left q;rw[Uz U U];refine ih k _ (i+1) U U U (by simpa using hx) λc c0 c1=>?_
    rw[s1 _ _ c (by simpa using hx) c0,s1 _ _ c hx c0]
    by_cases z:c=i
    ·rw[ah z,z];unfold enc;rw[ak q]
    ·rw[ak z,ak z];exact ha c c0 U
   ·have q:rd T.1 i=ct:=by simpa using q
    refine ih k _ (i+1) U U U (by simpa using hx) λc c0 c1=>?_
    rw[s1 _ _ c hx c0]
    by_cases z:c=i
    ·rw[ah z,z];unfold enc;rw[ah q]
    ·rw[ak z];exact ha c c0 U
  ·exact fin k x i aS hx ha
theorem afM (h:cL g more) {s:Int} (hs:bC g.m.W g.m.H s) (v:Int): ∀(n k:Nat) (x:List Int) (i:Int),((bP g.m s).length-i).toNat<=n->n<k->0<=i->i<=(bP g.m s).length->x=(Bh g.m s).take i.toNat->
 Ok (jw.l0 k (g.m.W,g.m.H) (dG g.m s,true) v (bP g.m s) x i) (λp=>p.version=v/\BX g.m s p):=by
 have hl:=wJ g.m s;have fin: ∀(k:Nat) (x:List Int) (i:Int),¬i<(bP g.m s).length->i<=(bP g.m s).length->x=(Bh g.m s).take i.toNat->Ok (jw.l0 (k+1) (g.m.W,g.m.H) (dG g.m s,true) v (bP g.m s) x i) (λp=>p.version=v/\BX g.m s p):=λk x i hi fa hx=>by
  rw[jw.l0,ak hi];have hx:x=Bh g.m s:=by rw[hx,List.take_of_length_le bo]
  subst hx;refine(afA (KO h hs)).bind λT hT=>?_
  obtain⟨_,t1,t2⟩:=hT;have hlen:((Bh g.m s).length:Int)=(bP g.m s).length:=by simp
  have xY:((bP g.m s).length:Int)*(bP g.m s).length<=256*256:=kU U U U U;rw[hlen] at t1 t2;have hT': ∀c:Int,0<=c->c<T.1.length->rd T.1 c=ct∨(0<=rd T.1 c/\rd T.1 c<=KT):=λc c0 c1=>by
   have hp:0<((bP g.m s).length:Int):=by
    apply pr;intro z;have:((bP g.m s).length:Int)=0:=U;rw[this] at t1;omega
   have hm:=Int.emod_nonneg c (show((bP g.m s).length:Int)≠0 by omega)
   have T8:=AN c hp;have GD:=uQ c (bP g.m s).length;have hq:c/(bP g.m s).length<(bP g.m s).length:=Int.ediv_lt_of_lt_mul hp U;have GM:0<=c/(bP g.m s).length:=Int.ediv_nonneg c0 U;obtain⟨D,d1,d2⟩:=t2 _ hm T8;have:=d2 _ GM hq;rw[mC,GD] at this;rw[this];have lX:=(KO h hs).mem _ (fS (a:=Bh g.m s) GM U)
   by_cases z:rd D (rd (Bh g.m s) (c/(bP g.m s).length))=ct
   ·exact .inl z
   ·have:=d1.dv _ lX.1 lX.2.1 z;exact .inr ⟨this.1,this.2.1⟩
  refine Ok.br U ((afN v _ T hT' U T.1.length fuel _ 0 U (by rw[de];omega) U bp (λc c0 c1=>by omega)).mono λp hp=>⟨hp.1,hp.2.1,by rw[hp.2.2.1];exact t1,λj j0 j1=>?_⟩)
  obtain⟨D,d1,d2⟩:=t2 j j0 j1;have hr: ∀i:Int,0<=i->i<(bP g.m s).length->rd (Bh g.m s) i=cE g.m.W g.m.H (rd (bP g.m s) i):=λi i0 i1=>Wx i0 i1
  rw[hr j j0 j1] at d1;refine⟨D,d1,λi i0 i1=>?_⟩
  have:=GW i0 i1 j0 j1;rw[hp.2.2.2 _ U (by rw[t1];omega),d2 i i0 i1,hr i i0 i1]
 intro n
 induction n with
 |zero=>
  intro k x i hn hk hi fa hx;obtain⟨k,rfl⟩:=bw hk;exact fin k x i U fa hx
 |succ n ih=>
  intro k x i hn hk hi fa hx;obtain⟨k,rfl⟩:=bw hk
  by_cases aS:i<(bP g.m s).length
  ·rw[jw.l0,wi (x:=i+1) U U];refine Ok.pos aS (Ok.br ⟨hi,aS⟩ (Ok.eq (G8 ..) (Ok.br (by rw[hx];simp;omega) (ih k _ (i+1) U U U U ?_))))
   rw[hx,PW hi (by simpa using aS),Wx hi aS]
  ·exact fin k x i aS fa hx
theorem afP (h:cL g more) {s:Int} (hs:bC g.m.W g.m.H s) (M:dO):Ok (jw.f M s g) (λp=>p.version=fX g s/\BX g.m s p):=by
 have hl:=wJ g.m s;unfold jw.f;refine Ok.eq (Bz g) (Ok.eq ((PX h s).trans (by rw[Sh hs])) ?_)
 rw[P4 h,Vn h];exact Ok.eq J (afM h hs _ (bP g.m s).length fuel [] 0 U (by rw[de];omega) U U J)
structure AM (g:bx) (M:dO):Prop where
 len_:(M.parts.length:Int)=dy g.m.W g.m.H
 le: ∀s:Int,bC g.m.W g.m.H s->(rd M.parts s).version<=g.bV
 ok: ∀s:Int,bC g.m.W g.m.H s->(rd M.parts s).version=fX g s->BX g.m s (rd M.parts s)
 cl:M.clean=g.bV-> ∀s:Int,bC g.m.W g.m.H s->(rd M.parts s).version=fX g s
 Mu:M.clean<=g.bV
 jd:0<=M.count/\M.count<=1000000000000
def A4 (g:bx) (M:dO) (s:Nat):Bool:=(rd M.parts (s:Int)).version !=fX g s
def qm (g:bx) (M:dO) (n:Nat):List Int:=((List.range n).filter (A4 g M)).map Int.ofNat
theorem aa3 (g:bx) (M:dO) (n:Nat):qm g M (n+1)=if A4 g M n=true then qm g M n++[(n:Int)] else qm g M n:=by
 unfold qm;rw[List.range_succ,List.filter_append,List.map_append]
 by_cases h:A4 g M n=true
 ·rw[ah h,List.filter_cons_of_pos h];rfl
 ·rw[ak h,List.filter_cons_of_neg h];simp
theorem ME (g:bx) (M:dO) (n:Nat):(qm g M n).length<=n:=by
 unfold qm;simp only[List.length_map];have:=List.length_filter_le (A4 g M) (List.range n);simpa using this
theorem MF {M:dO} {n:Nat} {s:Int}:s∈qm g M n↔0<=s/\s<n/\(rd M.parts s).version≠fX g s:=by
 unfold qm;simp only[List.mem_map,List.mem_filter,List.mem_range];constructor
 ·rintro⟨a,⟨a1,a2⟩,rfl⟩;exact⟨by simp,by simpa using a1,by simpa[A4] using a2⟩
 ·rintro⟨h0,h1,h2⟩;refine⟨s.toNat,⟨by omega,?_⟩,by simp;omega⟩
  unfold A4;rw[show((s.toNat:Nat):Int)=s by omega];simpa using h2
theorem aa2 (h:cL g more) (M:dO) (hb:M.parts.length<=4096): ∀(n k:Nat) (i:Nat),i+n=M.parts.length->n<k->oc.l0 k M g (qm g M i) (i:Int)=some (qm g M M.parts.length):=by
 intro n
 induction n with
 |zero=>
  intro k i hi hk;obtain⟨k,rfl⟩:=bw hk;rw[oc.l0,ak U];have:i=M.parts.length:=U;rw[this]
 |succ n ih=>
  intro k i hi hk;obtain⟨k,rfl⟩:=bw hk;have hl:=ME g M i;have:=ih k (i+1) U U;rw[aa3] at this;rw[oc.l0,ah U,ah U,P4 h,aM,wi U U];have ed:((rd M.parts (i:Int)).version !=fX g i)=A4 g M i:=rfl;rw[ed]
  by_cases z:A4 g M i=true
  ·rw[ah z] at this;rw[ah z,ah U];exact this
  ·rw[ak z] at this;rw[ak z];exact this
variable {M : dO}
theorem aa1 (h:cL g more) (hM:AM g M):oc.f M g=some (qm g M M.parts.length):=by
 unfold oc.f;have hl:=hM.len_;have hc:=np g.m.W g.m.H;rw[F_,aM]
 by_cases z:M.clean=g.bV
 ·rw[ah (by simpa using z)]
  congr 1
  refine(List.eq_nil_iff_forall_not_mem.2 λs hs=>?_).symm;obtain⟨a,b,c⟩:=MF.1 hs;exact c (hM.cl z s ⟨a,by omega⟩)
 ·rw[ak (by simpa using z)]
  exact aa2 h M U M.parts.length fuel 0 U (by rw[de];omega)
structure qY (g:bx) (M:dO):Prop where
 ms:AM g M
 all: ∀s:Int,bC g.m.W g.m.H s->(rd M.parts s).version=fX g s
theorem qY.part (h:qY g M) {s:Int} (hs:bC g.m.W g.m.H s):BX g.m s (rd M.parts s):=h.ms.ok s hs (h.all s hs)
theorem XI {x:Int} (h1:0<=x) (h2:x<=18446744073709551615):eZ x=x:=rT h1 h2
theorem Ap {a b:Int} (a0:0<=a) (a1:a<=4611686018427387904) (b0:0<=b) (b1:b<=4611686018427387904):tg.f a b=some (a+b):=by
 unfold tg.f;rw[XI U U,ak U,XI U U]
theorem ahg (h:cL g more) (hv: ∀s:Int,bC g.m.W g.m.H s->fX g s<=g.bV) (L:List Int) (hL: ∀s∈L,bC g.m.W g.m.H s) (hb:L.length<=4096) (N:Int): ∀(n k:Nat) (i:Int) (M:dO),(L.length-i).toNat<=n->n<k->0<=i->i<=L.length->AM g M->M.count+(L.length-i)=N->
 (∀s:Int,bC g.m.W g.m.H s->(rd M.parts s).version=fX g s∨ ∃j:Int,i<=j/\j<L.length/\rd L j=s)->N<=1000000000000->
 Ok (od.l0 k g L M i) (λr=>r.1=L.length/\qY g r.2/\r.2.clean=g.bV/\r.2.count=N):=by
 have fin: ∀(k:Nat) (i:Int) (M:dO),¬i<L.length->i<=L.length->AM g M->M.count+(L.length-i)=N->(∀s:Int,bC g.m.W g.m.H s->(rd M.parts s).version=fX g s∨ ∃j:Int,i<=j/\j<L.length/\rd L j=s)->Ok (od.l0 (k+1) g L M i) (λr=>r.1=L.length/\qY g r.2/\r.2.clean=g.bV/\r.2.count=N):=λk i M hi fa hM hN ha=>by
  rw[od.l0,ak hi];have qx: ∀s:Int,bC g.m.W g.m.H s->(rd M.parts s).version=fX g s:=λs hs=>(ha s hs).resolve_right λ⟨j,j0,j1,_⟩=>by omega
  refine Ok.eq (F_ g) (Ok.pure ⟨J,⟨⟨hM.len_,hM.le,hM.ok,λ_=>qx,dU _,hM.jd⟩,qx⟩,J,?_⟩);simp only;omega
 intro n
 induction n with
 |zero=>
  intro k i M hn hk hi fa hM hN ha St;obtain⟨k,rfl⟩:=bw hk;exact fin k i M U fa hM hN ha
 |succ n ih=>
  intro k i M hn hk hi fa hM hN ha St;obtain⟨k,rfl⟩:=bw hk
  by_cases aS:i<L.length
  ·have hs:=hL _ (fS hi aS);have hc:=hM.jd;rw[od.l0,wi (x:=i+1) U U];refine Ok.pos aS (Ok.br ⟨hi,aS⟩ ((afP h hs M).bind λp hp=>Ok.br (by rw[hM.len_];exact hs) (Ok.eq (Ap hc.1 U U U) ?_)))
   have ei: ∀s:Int,0<=s->rd (aD M.parts (rd L i).toNat p) s=if s=rd L i then p else rd M.parts s:=λs s0=>mr hs.1 (by rw[hM.len_];exact hs.2) s0
   refine ih k (i+1) _ U U U U ⟨by simpa using hM.len_,λs fZ=>?_,λs fZ e=>?_,λe s fZ=>?_,hM.Mu,by simp only;omega⟩ (by simp only;omega) (λs fZ=>?_) St
   ·rw[ei s fZ.1];split
    ·rw[hp.1];exact hv _ hs
    ·exact hM.le s fZ
   ·rw[ei s fZ.1] at e⊢;split
    ·rename_i z;rw[z];exact hp.2
    ·rename_i z;rw[ak z] at e;exact hM.ok s fZ e
   ·rw[ei s fZ.1];split
    ·rename_i z;rw[z];exact hp.1
    ·exact hM.cl e s fZ
   ·simp only;rw[ei s fZ.1]
    by_cases z:s=rd L i
    ·rw[ah z,z];exact .inl hp.1
    ·rw[ak z];rcases ha s fZ with y |⟨j,j0,j1,y⟩
     ·exact .inl y
     ·refine .inr ⟨j,?_,j1,y⟩;have:j≠i:=λw=>z (by rw[<-y,w])
      omega
  ·exact fin k i M aS fa hM hN ha
theorem ahf (h:cL g more) (hv: ∀s:Int,bC g.m.W g.m.H s->fX g s<=g.bV) (hM:AM g M) (hc:M.count+4096<=1000000000000):
 Ok (od.f M g) (λr=>qY g r.2/\r.2.clean=g.bV/\r.2.count=M.count+(qm g M M.parts.length).length):=by
 unfold od.f;have hl:=hM.len_;have oX:=np g.m.W g.m.H;have Em:=ME g M M.parts.length;refine Ok.eq (aa1 h hM) ((ahg h hv _ (λs hs=>?_) U (M.count+(qm g M M.parts.length).length) (qm g M M.parts.length).length fuel 0 M U (by rw[de];omega) U U hM U (λs hs=>?_) U).mono λr hr=>hr.2)
 ·obtain⟨a,b,_⟩:=MF.1 hs;exact⟨a,by omega⟩
 ·by_cases z:(rd M.parts s).version=fX g s
  ·exact .inl z
  ·obtain⟨j,j0,j1,e⟩:=qD ((MF (n:=M.parts.length)).2 ⟨hs.1,by have:=hs.2;omega,z⟩)
   exact .inr ⟨j,j0,j1,e⟩
theorem afQ (h:cL g more) (hv: ∀s:Int,bC g.m.W g.m.H s->1<=fX g s): ∃M,sO.f g=some (some M)/\AM g M/\M.count=0/\M.clean=0/\ ∀s:Int,bC g.m.W g.m.H s->(rd M.parts s).version=0:=by
 unfold sO.f;have oX:=np g.m.W g.m.H;have e:(bq g.m.W g.m.H).1*(bq g.m.W g.m.H).2=dy g.m.W g.m.H:=rfl;rw[Bz,aM,Du,aM,e,wi U U,ah U];have h0: ∀s:Int,bC g.m.W g.m.H s->(rd (cy (dy g.m.W g.m.H).toNat (default:pQ)) s).version=0:=λs hs=>by
  rw[wM hs.1 (by have:=hs.2;omega)];rfl
 have NV:=h.ep;refine⟨_,J,⟨by simp;omega,λs hs=>by simp only;rw[h0 s hs];omega,λs hs e=>?_,λe=>by simp only at e;omega,by simp only;omega,by simp⟩,J,J,h0⟩
 simp only at e;rw[h0 s hs] at e;have:=hv s hs;omega
section
variable {g : bx} {more : Int} {s : ji} {k : Int} {ord : List Int}
abbrev KF:Int:=104603678
abbrev CB:Int:=1000000000000
structure qX (c:g_) (b:Int):Prop where
 re:0<=c.bM/\c.bM<=b
 se:0<=c.bN/\c.bN<=b
 bu:0<=c.bJ/\c.bJ<=b
 hi:0<=c.bF/\c.bF<=b
 st:0<=c.bW/\c.bW<=b
 ev:0<=c.bR/\c.bR<=b
theorem qX.mono {c:g_} {b b':Int} (h:qX c b) (hb:b<=b'):qX c b':=by
 obtain⟨a1,a2,a3,a4,a5,a6⟩:=h;exact⟨by omega,by omega,by omega,by omega,by omega,by omega⟩
structure B1 (g:bx) (s:ji) (k:Int) (ord:List Int):Prop where
 sN:q_ s.keys k ord
 fl:s.fields.length=s.keys.aw.length
 ok: ∀c:Int,0<=c->c<s.fields.length->bS g.m (rd s.keys.aw c).key.1/\bC g.m.W g.m.H (rd s.keys.aw c).key.2/\(rd s.fields c).version<=g.bV/\
  ((rd s.fields c).version=fX g (rd s.keys.aw c).key.2->(rd s.fields c).uB.length<=1000000/\AF (dG g.m (rd s.keys.aw c).key.2) (rd s.fields c).uB KF (rd s.fields c).field)
def Ri (s:ji) (a b v:Int) (l:List aX):Prop:= ∃c,dW s.keys.fg (a,b)=some c/\(rd s.fields c).version=v/\(rd s.fields c).uB=l
theorem VI (f:eJ) (h1:f.cN.length<=1000) (h2:f.cx.length<=1000):uC.f f=some f:=by
 unfold uC.f qO.f;rw[ah bo,aM,ah bo,aM]
 cases f;rfl
theorem KZ {c:Int} (h0:0<=c) (h1:c<=1000000000000):mV.f c=some (c+1):=by
 unfold mV.f;rw[Ap h0 U U U];rfl
theorem aaO (l:List aX) (hb:l.length<=1000000):sZ.f l=some l:=by
 unfold sZ.f;rw[ah bo];rfl
theorem MT (h:cL g more) {b:Int} (hb:bC g.m.W g.m.H b) {l:List aX} {f:eJ} (hf:AF (dG g.m b) l KF f):f.cN.length<=1000/\f.cx.length<=1000:=by
 have:=oB (Bv h hb).1;rw[hf.aN.dl,hf.dl];omega
structure Qf (g:bx) (s:ji) (k:Int) (ord:List Int) (a b:Int) (l:List aX) (r:eJ×Int×ji):Prop where
 code:r.2.1=0
 Gd:AF (dG g.m b) l KF r.1
 sh: ∃c A B,B1 g r.2.2 k (c::(A++B))/\(rd r.2.2.keys.aw c).key=(a,b)/\(ord=A++c::B∨ord=A++B)/\
  (∀d∈A++B,(rd r.2.2.keys.aw d).key=(rd s.keys.aw d).key/\rd r.2.2.fields d=rd s.fields d)/\
  (dW s.keys.fg (a,b)=some c∨(dW s.keys.fg (a,b)=none/\(ord=A++B∨(B=[]/\(s.keys.aw.length:Int)=k))))
 now:Ri r.2.2 a b (fX g b) l
 hit:Ri s a b (fX g b) l->r.2.2.count=⟨s.count.bM,s.count.bN,s.count.bJ,s.count.bF+1,s.count.bW,s.count.bR⟩
 jd:r.2.2.count.bM=s.count.bM/\r.2.2.count.bN=s.count.bN/\s.count.bJ<=r.2.2.count.bJ/\s.count.bF<=r.2.2.count.bF/\r.2.2.count.bJ+r.2.2.count.bF=s.count.bJ+s.count.bF+1/\s.count.bW<=r.2.2.count.bW/\s.count.bR<=r.2.2.count.bR/\r.2.2.count.bW<=s.count.bW+1/\r.2.2.count.bR<=s.count.bR+1
theorem ah4 (h:cL g more) (hv: ∀b:Int,bC g.m.W g.m.H b->fX g b<=g.bV) (hs:B1 g s k ord) (hc:qX s.count CB) {a b:Int} (ha:bS g.m a) (hb:bC g.m.W g.m.H b) (l:List aX) (Ke:l.length<=1000000) (hl: ∀x∈l,rh (dG g.m b) x/\x.Key+254*256<=KF):
 Ok (mT.f s a b (fX g b) (dG g.m b) l) (Qf g s k ord a b l):=by
 have ht:=Bv h hb;have Kb:=hs.sN.kb;have J_:=hs.sN.lW;obtain⟨c1,c2,c3,c4,c5,c6⟩:=hc;unfold mT.f;refine(W6 ht l Ke).bind λm hm=>?_
 have:m=true:=hm.2 λx hx=>(hl x hx).1;subst this;refine Ok.neg bp ((aiG hs.sN a b).bind λv Om=>?_);obtain⟨A,B,hL,zD⟩:=Om;have TR:=hs.fl;have pH:=(hL.mem v.1).1 (mD ..);obtain⟨Uo,Uq⟩:v.1∉A/\v.1∉B:=by
  have:=(List.nodup_cons.1 hL.nd).1;simpa using this
 obtain⟨X,hX,SA,Cr⟩: ∃X,(if(v.1==(aa s.fields:Int))=true then(if(aa s.fields+1<=1099511627776) then(some (s.fields++[(qN.mk 0 [] (eJ.mk [] []))])) else none) else(some s.fields))=some X/\X.length=v.2.2.2.aw.length/\ ∀d:Int,0<=d->d<s.fields.length->rd X d=rd s.fields d:=by
  rcases zD with⟨_,_,_,Kj,h5,_⟩ |⟨_,_,_,_,h4,h5,_⟩ |⟨_,_,_,Kj,_,h4,h5,_⟩
  ·rw[ak bo];exact⟨_,J,by omega,λ_ _ _=>rfl⟩
  ·rw[ah bo,ah U];exact⟨_,J,by simp;omega,λd d0 d1=>vw d0 d1⟩
  ·rw[ak bo];exact⟨_,J,by omega,λ_ _ _=>rfl⟩
 rw[hX,aM];refine Ok.br U ?_;have Ss:KF<=1100000000:=by decide
 have CC:(rd v.2.2.2.aw v.1).key=(a,b):=by
  rcases zD with⟨_,_,h3,_,_,h6⟩ |⟨_,_,_,_,_,_,_,h6⟩ |⟨_,_,_,_,_,_,_,_,h6⟩
  ·rw[h6 _ pH.1];exact((hs.sN.sl _ _).1 h3).2.2
  ·exact h6
  ·exact h6
 have N2: ∀d∈A++B,0<=d/\d<s.fields.length/\(rd v.2.2.2.aw d).key=(rd s.keys.aw d).key:=λd hd=>by
  have vh:d≠v.1:=λz=>by rw[z] at hd;exact(List.mem_append.1 hd).elim Uo Uq
  have NT:d∈ord:=by
   rcases zD with⟨_,_,_,e,_⟩ |⟨_,_,_,e,_⟩ |⟨_,_,_,e,_⟩<;>rw[e]
   ·rcases List.mem_append.1 hd with q |q
    ·exact List.mem_append_left _ q
    ·exact List.mem_append_right _ (oH _ q)
   ·exact hd
   ·rcases List.mem_append.1 hd with q |q
    ·exact List.mem_append_left _ q
    ·exact List.mem_append_right _ (oH _ q)
  have hr:=(hs.sN.mem d).1 NT;refine⟨hr.1,by omega,?_⟩
  rcases zD with⟨_,_,_,_,_,h6⟩ |⟨_,_,_,_,_,_,h6,_⟩ |⟨_,_,_,_,_,_,_,h6,_⟩
  ·exact h6 d hr.1
  ·exact h6 d hr.1 hr.2
  ·exact h6 d hr.1 vh
 have Uc:ord=A++v.1::B∨ord=A++B:=by
  rcases zD with⟨_,_,_,e,_⟩ |⟨_,_,_,e,_⟩ |⟨_,_,_,e,_⟩
  ·exact .inl e
  ·exact .inr e
  ·exact .inl e
 have hold:dW s.keys.fg (a,b)=some v.1∨(dW s.keys.fg (a,b)=none/\(ord=A++B∨(B=[]/\(s.keys.aw.length:Int)=k))):=by
  rcases zD with⟨_,_,h3,_⟩ |⟨_,_,h3,h4,_⟩ |⟨_,_,h3,_,h5,h6,_⟩
  ·exact .inl h3
  ·exact .inr ⟨h3,.inl h4⟩
  ·exact .inr ⟨h3,.inr ⟨h5,h6⟩⟩
 have hq:(if v.2.1=true then(if((rd X v.1).version==fX g b)=true then((Bw.f ((rd X v.1).uB) l).bind λv7=>some v7) else(some false)) else(some false))=some (decide (v.2.1=true/\(rd X v.1).version=fX g b/\(rd X v.1).uB=l)):=by
  by_cases z:v.2.1=true
  ·rw[ah z]
   by_cases y:(rd X v.1).version=fX g b
   ·rw[ah (by simpa using y)]
    have hlen:(rd X v.1).uB.length<=1000000:=by
     rcases zD with⟨_,_,h3,Kj,h5,h6⟩ |⟨h1,_⟩ |⟨h1,_⟩
     ·have aS:v.1<s.fields.length:=U;rw[Cr _ pH.1 aS] at y⊢;have:=(hs.ok _ pH.1 aS).2.2.2;rw[<-h6 _ pH.1,CC] at this;exact(this y).1
     ·rw[h1] at z;simp at z
     ·rw[h1] at z;simp at z
    rw[ail _ _ hlen];simp[z,y]
   ·rw[ak (by simpa using y)];simp[y]
  ·rw[ak z];simp[z]
 rw[hq,aM];refine Ok.ite (λq=>?_) λq=>?_
 ·obtain⟨q1,q2,q3⟩:=of_decide_eq_true q;rcases zD with⟨h1,h2,h3,Kj,h5,h6⟩ |⟨h1,_⟩ |⟨h1,_⟩
  rotate_left
  ·rw[h1] at q1;simp at q1
  ·rw[h1] at q1;simp at q1
  have aS:v.1<s.fields.length:=U;have TT:AF (dG g.m b) l KF (rd X v.1).field:=by
   have:=(hs.ok _ pH.1 aS).2.2.2;rw[<-h6 _ pH.1,CC] at this;rw[Cr _ pH.1 aS] at q2 q3⊢;have:=(this q2).2;rw[q3] at this;exact this
  have hlen:=MT h hb TT;refine Ok.eq (KZ c4.1 c4.2) (Ok.eq (VI _ hlen.1 hlen.2) (Ok.pure ⟨J,TT,⟨v.1,A,B,⟨hL,SA,λd d0 d1=>?_⟩,CC,Uc,λd hd=>?_,hold⟩,⟨v.1,(hL.sl _ _).2 ⟨pH.1,pH.2,CC⟩,q2,q3⟩,λ_=>rfl,⟨J,J,dU _,by show s.count.bF<=s.count.bF+1;omega,by show s.count.bJ+(s.count.bF+1)=s.count.bJ+s.count.bF+1;omega,dU _,dU _,by show s.count.bW<=s.count.bW+1;omega,by show s.count.bR<=s.count.bR+1;omega⟩⟩))
  ·simp only at d1⊢;have TN:d<s.fields.length:=U;rw[h6 d d0,Cr d d0 TN];exact hs.ok d d0 TN
  ·obtain⟨e0,e1,e2⟩:=N2 d hd;exact⟨e2,Cr d e0 e1⟩
 ·have mo: ∃S,(if v.2.1=true then((mV.f s.count.bW).bind λv12=>some v12) else(some s.count.bW))=some S/\s.count.bW<=S/\S<=s.count.bW+1:=by
   split
   ·rw[KZ c5.1 c5.2];exact⟨_,J,by omega,dU _⟩
   ·exact⟨_,J,dU _,by omega⟩
  have J9: ∃S,(if v.2.2.1=true then((mV.f s.count.bR).bind λv12=>some v12) else(some s.count.bR))=some S/\s.count.bR<=S/\S<=s.count.bR+1:=by
   split
   ·rw[KZ c6.1 c6.2];exact⟨_,J,by omega,dU _⟩
   ·exact⟨_,J,dU _,by omega⟩
  obtain⟨S,eS,S1,S2⟩:=mo;obtain⟨E,eE,E1,E2⟩:=J9;rw[eS,aM,eE,aM,KZ c3.1 c3.2,aM];refine(RY ht Ke Ss hl).bind λf hf=>Ok.eq (aaO l Ke) (Ok.eq (VI _ (MT h hb hf.2).1 (MT h hb hf.2).2) (Ok.pure ?_));have ei: ∀d:Int,0<=d->rd (aD X (ax v.1) (qN.mk (fX g b) l f.1)) d=if d=v.1 then qN.mk (fX g b) l f.1 else rd X d:=λd d0=>mr pH.1 U d0
  refine⟨rfl,hf.2,⟨v.1,A,B,⟨hL,by simpa using SA,λd d0 d1=>?_⟩,CC,Uc,λd hd=>?_,hold⟩,⟨v.1,(hL.sl _ _).2 ⟨pH.1,pH.2,CC⟩,?_,?_⟩,λ⟨c,k1,k2,k3⟩=>?_,⟨rfl,rfl,by show s.count.bJ<=s.count.bJ+1;omega,dU _,by show s.count.bJ+1+s.count.bF=s.count.bJ+s.count.bF+1;omega,S1,E1,S2,E2⟩⟩
  ·simp only[nO] at d1⊢;rw[ei d d0]
   by_cases z:d=v.1
   ·rw[ah z,z,CC];exact⟨ha,hb,hv b hb,λ_=>⟨Ke,hf.2⟩⟩
   ·rw[ak z];have NT:d∈A++B:=by
     have:=(hL.mem d).2 ⟨d0,by omega⟩
     exact(List.mem_cons.1 this).resolve_left z
    obtain⟨e0,e1,e2⟩:=N2 d NT;rw[e2,Cr d e0 e1];exact hs.ok d e0 e1
  ·obtain⟨e0,e1,e2⟩:=N2 d hd;have vh:d≠v.1:=λz=>by rw[z] at hd;exact(List.mem_append.1 hd).elim Uo Uq
   refine⟨e2,?_⟩;simp only;rw[ei d e0,ak vh];exact Cr d e0 e1
  ·simp only;rw[ei _ pH.1,ah J]
  ·simp only;rw[ei _ pH.1,ah J]
  ·exfalso;rcases zD with⟨h1,h2,h3,Kj,h5,h6⟩ |⟨_,_,h3,_⟩ |⟨_,_,h3,_⟩
   ·rw[h3] at k1;simp only[Option.some.injEq] at k1;subst k1;have aS:v.1<s.fields.length:=U;have q: ¬(v.2.1=true/\(rd X v.1).version=fX g b/\(rd X v.1).uB=l):=by simpa using q
    rw[Cr _ pH.1 aS] at q;exact q ⟨h1,k2,k3⟩
   ·rw[h3] at k1;simp at k1
   ·rw[h3] at k1;simp at k1
theorem ah_ {k:Int} (h1:1<=k) (h2:k<=1000000): ∃s,yI.f k=some (some s)/\q_ s.keys k []/\s.fields=[]/\s.count=⟨0,0,0,0,0,0⟩:=by
 obtain⟨l,e,hl⟩:=afv h1 h2;unfold yI.f;rw[ak U,e];exact⟨_,J,hl,J,J⟩
theorem R9 (h:q_ s.keys k ord): ∃s',p8.f s=some s'/\q_ s'.keys k []/\s'.fields=[]/\s'.count=s.count:=by
 obtain⟨l,e,hl⟩:=aaM h;unfold p8.f;rw[e];exact⟨_,J,hl,J,J⟩
theorem B1.empty (g:bx) (h:q_ s.keys k []) (hf:s.fields=[]):B1 g s k []:=by
 have hl:s.keys.aw.length=0:=by
  apply pr;intro z;have:=(h.mem 0).2 U;simp at this
 exact⟨h,by rw[hf,hl];rfl,λc c0 c1=>by rw[hf] at c1;simp at c1;omega⟩
end
variable {g : bx} {more : Int} {M : dO}
theorem aft (x y:Int):cmp_Less_int.f x y=some (decide (x<y)):=by
 unfold cmp_Less_int.f cmp_isNaN_int.f;simp
theorem aag (x:List Int) (t:Int) (hx:x.Pairwise (· < ·)) (hb:x.length<=1000000): ∀(n k:Nat) (i j:Int),(j-i).toNat<=n->n<k->0<=i->i<=j->j<=x.length->(∀c:Int,0<=c->c<i->rd x c<t)->(∀c:Int,j<=c->c<x.length->t<=rd x c)->
 Ok (pg.l0 k x t i j) (λr=>0<=r/\r<=x.length/\(∀c:Int,0<=c->c<r->rd x c<t)/\(∀c:Int,r<=c->c<x.length->t<=rd x c)):=by
 have fin: ∀(k:Nat) (i j:Int),¬i<j->0<=i->i<=j->j<=x.length->(∀c:Int,0<=c->c<i->rd x c<t)->(∀c:Int,j<=c->c<x.length->t<=rd x c)->Ok (pg.l0 (k+1) x t i j) (λr=>0<=r/\r<=x.length/\(∀c:Int,0<=c->c<r->rd x c<t)/\(∀c:Int,r<=c->c<x.length->t<=rd x c)):=λk i j GF h0 h1 h2 ha hb=>by
  rw[pg.l0,ak GF];exact Ok.pure ⟨h0,by omega,ha,λc c0 c1=>hb c U c1⟩
 intro n
 induction n with
 |zero=>
  intro k i j hn hk h0 h1 h2 ha hb;obtain⟨k,rfl⟩:=bw hk;exact fin k i j U h0 h1 h2 ha hb
 |succ n ih=>
  intro k i j hn hk h0 h1 h2 ha hb;obtain⟨k,rfl⟩:=bw hk
  by_cases aS:i<j
  ·have e:af (fQ (eZ (af (i+j))) (2^1))=(i+j)/2:=by
    rw[wi (x:=i+j) U U,rT U U,Int.fdiv_eq_ediv_of_nonneg _ (by decide),show(2:Int)^1=2 from rfl,wi U U]
   rw[pg.l0,e,wi (x:=(i+j)/2+1) U U];refine Ok.pos aS (Ok.br U (Ok.eq (aft ..) (Ok.ite (λq=>?_) λq=>?_)))
   ·have q:=of_decide_eq_true q;refine ih k _ j U U U U h2 (λc c0 c1=>?_) hb
    by_cases z:c=(i+j)/2
    ·rw[z];exact q
    ·have:=yA hx (i:=c) (j:=(i+j)/2) c0 U U;omega
   ·have q: ¬rd x ((i+j)/2)<t:=by simpa using q
    refine ih k i _ U U h0 U U ha (λc c0 c1=>?_)
    by_cases z:c=(i+j)/2
    ·rw[z];omega
    ·have:=yA hx (i:=(i+j)/2) (j:=c) U U c1;omega
  ·exact fin k i j aS h0 h1 h2 ha hb
theorem aaf (x:List Int) (t:Int) (hx:x.Pairwise (· < ·)) (hb:x.length<=1000000):Ok (pg.f x t) (λr=>(r.2=true↔t∈x)/\(r.2=true->0<=r.1/\r.1<x.length/\rd x r.1=t)):=by
 unfold pg.f BB.f;refine(aag x t hx hb x.length fuel 0 x.length U (by rw[de];omega) U U U (λc c0 c1=>by omega) (λc c0 c1=>by omega)).bind λr hr=>?_
 obtain⟨r0,r1,r2,r3⟩:=hr;have oY:(r<x.length->rd x r≠t)->t∉x:=λh hm=>by
  obtain⟨c,c0,c1,e⟩:=qD hm;rcases Int.lt_trichotomy c r with q |q |q
  ·have:=r2 c c0 q;omega
  ·subst q;exact h c1 e
  ·have:=yA hx r0 q c1;have:=r3 r U U;omega
 by_cases h1:r<x.length
 ·rw[ah h1,ah ⟨r0,h1⟩]
  by_cases h2:rd x r=t
  ·rw[ah (by simpa using h2)]
   exact Ok.pure ⟨⟨λ_=>by rw[<-h2];exact fS r0 h1,λ_=>rfl⟩,λ_=>⟨r0,h1,h2⟩⟩
  ·rw[ak (by simpa using h2)]
   have:=oY λ_=>h2
   simp only[aM,bne_self_eq_false,jk,if_false];exact Ok.pure ⟨by simpa using this,by simp⟩
 ·rw[ak h1];have:=oY λq=>absurd q h1
  exact Ok.pure ⟨by simpa using this,by simp⟩
def node (m:aG) (c:Int):Prop:=c∈bP m (aR m.W m.H c)
theorem yw {m:aG} {c:Int} (h:node m c):lM m c=true/\bS m c:=⟨(qE h).1,(qE h).2.1⟩
theorem KW {m:aG} {s c:Int} (h:c∈bP m s):node m c:=by
 unfold node;rw[(qE h).2.2.2];exact h
theorem R6 (h:cL g more) (hF:qY g M) (c:Int):Ok (ud.f M c g) (λr=>(¬cV g.m.W g.m.H c/\r=(none,0,false))∨(cV g.m.W g.m.H c/\r.1=some (aR g.m.W g.m.H c)/\(r.2.2=true↔node g.m c)/\(r.2.2=true->0<=r.2.1/\r.2.1<(bP g.m (aR g.m.W g.m.H c)).length/\rd (bP g.m (aR g.m.W g.m.H c)) r.2.1=c))):=by
 unfold ud.f EC.f;refine Ok.eq (Bz g) (Ok.eq (rK ..) (Ok.ite (λq=>Ok.pure (.inl ⟨Dt.1 q,J⟩)) λq=>?_));have hc:cV g.m.W g.m.H c:=pr λz=>q (Dt.2 z);have hs:=pe hc;have hp:=hF.part hs;refine Ok.br (by rw[hF.ms.len_];exact hs) ?_
 rw[hp.nodes];refine Ok.bind (Ok.bind (aaf _ c (OY ..) (by have:=wJ g.m (aR g.m.W g.m.H c);omega)) λr hr=>Ok.pure (P:=λr:Int×Bool=>(r.2=true↔node g.m c)/\(r.2=true->0<=r.1/\r.1<(bP g.m (aR g.m.W g.m.H c)).length/\rd (bP g.m (aR g.m.W g.m.H c)) r.1=c)) hr) λr hr=>Ok.pure (.inr ⟨hc,J,hr⟩)
theorem agm (hF:qY g M) (s:Int) (hs:bC g.m.W g.m.H s):yi.f M s g=some (bP g.m s):=by
 have hp:=hF.part hs;have hl:=wJ g.m s;unfold yi.f qO.f;have:=hs.1;have:=hs.2;rw[hF.ms.len_,ak U,hp.nodes];simp only[aM];rw[ak bo,ah hs,ah bo];rfl
def Comes (m:aG) (b:Int) (e:ez):Prop:=
 (e.To∈bP m (aR m.W m.H b)/\e.To≠b/\e.kG≠ct/\ ∃D,zh (dG m (aR m.W m.H b)) (cE m.W m.H b) D/\e.kG=rd D (cE m.W m.H e.To))∨
 (node m e.To/\aR m.W m.H e.To≠aR m.W m.H b/\(∃d:Int,0<=d/\d<=3/\e.To=bk m.W m.H b d)/\e.kG=rd m.C b)
theorem aba {d:Int} (h:d=ct∨(0<=d/\d<=KT)):(if(enc d != -1)=true then some (af (enc d)) else some 1099511627776)=some d:=by
 have hI:ct=1099511627776:=rfl;have hK:KT=65024:=rfl;unfold enc
 by_cases z:d=ct
 ·simp[z]
 ·have:=h.resolve_left z;rw[ak z,ah bo,wi U U]
theorem aeM (h:cL g more) (hF:qY g M) {b:Int} (hb:node g.m b) (v:Option Int×Int×Bool) (hv:0<=v.2.1/\v.2.1<(bP g.m (aR g.m.W g.m.H b)).length/\rd (bP g.m (aR g.m.W g.m.H b)) v.2.1=b)
 (Q:List ez->Prop) (J8: ∀x:List ez,x.length<=256->(∀e,e∈x↔Comes g.m b e/\aR g.m.W g.m.H e.To=aR g.m.W g.m.H b)->Ok (ig.l1 fuel M b g (aR g.m.W g.m.H b) (g.m.W,g.m.H) x 0) Q):
 ∀(n k:Nat) (i:Int) (x:List ez),((bP g.m (aR g.m.W g.m.H b)).length-i).toNat<=n->n<k->0<=i->i<=(bP g.m (aR g.m.W g.m.H b)).length->x.length<=i->
 (∀e,e∈x↔Comes g.m b e/\aR g.m.W g.m.H e.To=aR g.m.W g.m.H b/\ ∃j:Int,0<=j/\j<i/\rd (bP g.m (aR g.m.W g.m.H b)) j=e.To)->
 Ok (ig.l0 k M b g v (aR g.m.W g.m.H b) x i) Q:=by
 have b_:=(yw hb).2;have hs:=pe (fI h.ok b_);have hp:=hF.part hs;have hN:=wJ g.m (aR g.m.W g.m.H b);have GI:=KO h hs;have hI:ct=1099511627776:=rfl;have M6:KT=65024:=rfl;generalize hS:aR g.m.W g.m.H b=s at*;have Uh:=OY g.m s;have fin: ∀(k:Nat) (i:Int) (x:List ez),¬i<(bP g.m s).length->i<=(bP g.m s).length->x.length<=i->(∀e,e∈x↔Comes g.m b e/\aR g.m.W g.m.H e.To=s/\ ∃j:Int,0<=j/\j<i/\rd (bP g.m s) j=e.To)->Ok (ig.l0 (k+1) M b g v s x i) Q:=λk i x hi fa hx he=>by
  rw[ig.l0,hp.nodes,ak hi];refine Ok.eq (Bz g) (J8 x U λe=>(he e).trans ⟨λq=>⟨q.1,q.2.1⟩,λq=>⟨q.1,q.2,?_⟩⟩);rcases q.1 with⟨y,_⟩ |⟨_,y,_⟩
  ·rw[hS] at y;obtain⟨j,j0,j1,z⟩:=qD y;exact⟨j,j0,by omega,z⟩
  ·rw[hS] at y;exact absurd q.2 y
 intro n
 induction n with
 |zero=>
  intro k i x hn hk hi fa hx he;obtain⟨k,rfl⟩:=bw hk;exact fin k i x U fa hx he
 |succ n ih=>
  intro k i x hn hk hi fa hx he;obtain⟨k,rfl⟩:=bw hk
  by_cases aS:i<(bP g.m s).length
  ·obtain⟨D,d1,d2⟩:=hp.Rx v.2.1 hv.1 hv.2.1;rw[hv.2.2] at d1;have ajG:=GW hi aS hv.1 hv.2.1;have xY:((bP g.m s).length:Int)*(bP g.m s).length<=256*256:=kU U U U U;have N_:=fS hi aS;have lX:=GI.mem _ (List.mem_map_of_mem N_);have hd:rd D (cE g.m.W g.m.H (rd (bP g.m s) i))=ct∨(0<=rd D (cE g.m.W g.m.H (rd (bP g.m s) i))/\rd D (cE g.m.W g.m.H (rd (bP g.m s) i))<=KT):=by
    by_cases z:rd D (cE g.m.W g.m.H (rd (bP g.m s) i))=ct
    ·exact .inl z
    ·have:=d1.dv _ lX.1 lX.2.1 z;exact .inr ⟨this.1,this.2.1⟩
   have eb:CX.f (rd M.parts s) i v.2.1=some (rd D (cE g.m.W g.m.H (rd (bP g.m s) i))):=by
    unfold CX.f;rw[hp.nodes,wi (x:=i*((bP g.m s).length:Int)) U U,wi U U,ah (by rw[hp.len_];omega),d2 i hi aS]
    exact aba hd
   rw[ig.l0,hp.nodes,ah aS,ah (c:=0<=i/\i<_) ⟨hi,aS⟩,eb,aM,wi U U];have bK:(i≠v.2.1)↔rd (bP g.m s) i≠b:=by
    constructor
    ·intro z y;rw[<-hv.2.2] at y;rcases Int.lt_or_gt_of_ne z with w |w
     ·have:=yA Uh hi w hv.2.1;omega
     ·have:=yA Uh hv.1 w aS;omega
    ·intro z y;rw[y] at z;exact z hv.2.2
   have zJ:aR g.m.W g.m.H (rd (bP g.m s) i)=s:=(qE N_).2.2.2;generalize hV:rd D (cE g.m.W g.m.H (rd (bP g.m s) i))=V at*;have xR: ∀e:ez,e.To=rd (bP g.m s) i->(Comes g.m b e↔i≠v.2.1/\V≠ct/\e=⟨rd (bP g.m s) i,V⟩):=λe ee=>by
    obtain⟨a,c⟩:=e;simp only at ee;subst ee;unfold Comes;rw[hS];constructor
    ·rintro(⟨_,z2,z3,E,z4,z5⟩ |⟨_,z2,_⟩)
     ·have:=aih GI.DF z4 d1 lX.1 lX.2.1;simp only at z2 z3 z5;rw[this,hV] at z5;exact⟨bK.2 z2,by omega,by rw[z5]⟩
     ·exact absurd zJ z2
    ·rintro⟨z1,z2,z3⟩;simp only[ez.mk.injEq,true_and] at z3;subst z3;exact .inl ⟨N_,bK.1 z1,z2,D,d1,hV.symm⟩
   have xX: ∀e:ez,(Comes g.m b e/\aR g.m.W g.m.H e.To=s/\ ∃j:Int,0<=j/\j<i+1/\rd (bP g.m s) j=e.To)↔(e∈x∨(i≠v.2.1/\V≠ct/\e=⟨rd (bP g.m s) i,V⟩)):=λe=>by
    rw[he e];constructor
    ·rintro⟨a,b',j,j0,j1,ej⟩
     by_cases z:j=i
     ·subst z;exact .inr ((xR e ej.symm).1 a)
     ·exact .inl ⟨a,b',j,j0,by omega,ej⟩
    ·rintro(⟨a,b',j,j0,j1,ej⟩ |w)
     ·exact⟨a,b',j,j0,by omega,ej⟩
     ·have ee:e.To=rd (bP g.m s) i:=by rw[w.2.2]
      exact⟨(xR e ee).2 w,by rw[ee];exact zJ,i,hi,by omega,ee.symm⟩
   by_cases q:i≠v.2.1/\V≠ct
   ·rw[ah (by simp;exact q),ah U]
    refine Ok.eq J (ih k (i+1) _ U U U U bo λe=>?_);rw[xX e];simp[q.1,q.2]
   ·rw[ak (by simp only[Bool.and_eq_true,bne_iff_ne];exact q)]
    refine Ok.eq J (ih k (i+1) x U U U U U λe=>?_);rw[xX e];exact⟨.inl,λw=>w.resolve_right λy=>q ⟨y.1,y.2.1⟩⟩
  ·exact fin k i x aS fa hx he
theorem aeN (h:cL g more) (hF:qY g M) {b:Int} (hb:node g.m b): ∀(n k:Nat) (j:Int) (x:List ez),(4-j).toNat<=n->n<k->0<=j->j<=4->x.length<=256+j->
 (∀e,e∈x↔Comes g.m b e/\(aR g.m.W g.m.H e.To=aR g.m.W g.m.H b∨ ∃d:Int,0<=d/\d<j/\e.To=bk g.m.W g.m.H b d))->
 Ok (ig.l1 k M b g (aR g.m.W g.m.H b) (g.m.W,g.m.H) x j) (λr=>r.length<=260/\ ∀e,e∈r↔Comes g.m b e):=by
 have fin: ∀(k:Nat) (j:Int) (x:List ez),¬j<=3->x.length<=256+j->j<=4->(∀e,e∈x↔Comes g.m b e/\(aR g.m.W g.m.H e.To=aR g.m.W g.m.H b∨ ∃d:Int,0<=d/\d<j/\e.To=bk g.m.W g.m.H b d))->Ok (ig.l1 (k+1) M b g (aR g.m.W g.m.H b) (g.m.W,g.m.H) x j) (λr=>r.length<=260/\ ∀e,e∈r↔Comes g.m b e):=λk j x hj hx jq he=>by
  rw[ig.l1,ak hj];refine Ok.pure ⟨by omega,λe=>(he e).trans ⟨λq=>q.1,λq=>⟨q,?_⟩⟩⟩
  rcases q with⟨y,_⟩ |⟨_,_,⟨d,d0,d3,y⟩,_⟩
  ·exact .inl (qE y).2.2.2
  ·exact .inr ⟨d,d0,by omega,y⟩
 intro n
 induction n with
 |zero=>
  intro k j x hn hk hj jq hx he;obtain⟨k,rfl⟩:=bw hk;exact fin k j x U hx jq he
 |succ n ih=>
  intro k j x hn hk hj jq hx he;obtain⟨k,rfl⟩:=bw hk
  by_cases aS:j<=3
  ·rw[ig.l1,wi (x:=j+1) U U];have b_:=(yw hb).2;have El:je g b=rd g.m.C b:=by unfold je;rw[ah b_]
   have xX: ∀(P:Prop),(P↔node g.m (bk g.m.W g.m.H b j)/\aR g.m.W g.m.H (bk g.m.W g.m.H b j)≠aR g.m.W g.m.H b)-> ∀e:ez,(Comes g.m b e/\(aR g.m.W g.m.H e.To=aR g.m.W g.m.H b∨ ∃d:Int,0<=d/\d<j+1/\e.To=bk g.m.W g.m.H b d))↔(e∈x∨(P/\e=⟨bk g.m.W g.m.H b j,je g b⟩)):=λP hP e=>by
    rw[he e];constructor
    ·rintro⟨a,c |⟨d,d0,d1,c⟩⟩
     ·exact .inl ⟨a,.inl c⟩
     ·by_cases z:d=j
      ·subst z;rcases a with⟨y1,y2⟩ |⟨y1,y2,y3,y4⟩
       ·exact .inl ⟨.inl ⟨y1,y2⟩,.inl (qE y1).2.2.2⟩
       ·obtain⟨e1,e2⟩:=e;simp only at c y1 y2 y4;rw[c] at y1 y2;exact .inr ⟨hP.2 ⟨y1,y2⟩,by rw[c,y4,El]⟩
      ·exact .inl ⟨a,.inr ⟨d,d0,by omega,c⟩⟩
    ·rintro(⟨a,c |⟨d,d0,d1,c⟩⟩ |⟨p,rfl⟩)
     ·exact⟨a,.inl c⟩
     ·exact⟨a,.inr ⟨d,d0,by omega,c⟩⟩
     ·obtain⟨y1,y2⟩:=hP.1 p;exact⟨.inr ⟨y1,y2,⟨j,hj,aS,J⟩,El⟩,.inr ⟨j,hj,by omega,J⟩⟩
   have skip: ¬(node g.m (bk g.m.W g.m.H b j)/\aR g.m.W g.m.H (bk g.m.W g.m.H b j)≠aR g.m.W g.m.H b)->Ok (ig.l1 k M b g (aR g.m.W g.m.H b) (g.m.W,g.m.H) x (j+1)) (λr=>r.length<=260/\ ∀e,e∈r↔Comes g.m b e):=λz=>by
    refine ih k (j+1) x U U U U U λe=>?_
    rw[xX False ⟨False.elim,z⟩ e];simp
   refine Ok.pos aS (Ok.eq (E9 ..) ((R6 h hF _).bind λr hr=>?_));rcases hr with⟨r1,rfl⟩ |⟨r1,r2,r3,r4⟩
   ·exact skip λz=>r1 (fI h.ok (yw z.1).2)
   ·rw[r2]
    show Ok (if r.2.2=true then _ else _) _
    refine Ok.ite (λq=>Ok.ite (λq'=>Ok.eq (sw h _) (Ok.br U ?_)) λq'=>?_) λq=>?_
    ·have q':aR g.m.W g.m.H (bk g.m.W g.m.H b j)≠aR g.m.W g.m.H b:=by simpa using q'
     refine ih k (j+1) _ U U U U bo λe=>?_
     rw[xX True ⟨λ_=>⟨r3.1 q,q'⟩,λ_=>trivial⟩ e];simp
    ·exact skip λz=>z.2 (by simpa using q')
    ·exact skip λz=>q (r3.2 z.1)
  ·exact fin k j x aS hx jq he
theorem aeL (h:cL g more) (hF:qY g M) (b:Int):Ok (ig.f M b g) (λr=>r.length<=260/\((node g.m b/\ ∀e,e∈r↔Comes g.m b e)∨(¬node g.m b/\r=[]))):=by
 unfold ig.f;refine(R6 h hF b).bind λr hr=>?_
 rcases hr with⟨r1,rfl⟩ |⟨r1,r2,r3,r4⟩
 ·exact Ok.of (r:=[]) J (⟨by simp,.inr ⟨λz=>r1 (fI h.ok (yw z).2),J⟩⟩)
 ·rw[r2]
  show Ok (if(!r.2.2)=true then some [] else _) (λr=>r.length<=260/\((node g.m b/\ ∀e,e∈r↔Comes g.m b e)∨(¬node g.m b/\r=[])))
  by_cases q:r.2.2=true
  rotate_left
  ·refine Ok.pos (by simpa using q) (Ok.pure ⟨by simp,.inr ⟨λz=>q (r3.2 z),J⟩⟩)
  refine Ok.neg (by simp[q]) ?_
  have q:r.2.2=true:=by simpa using q
  have hb:=r3.1 q;have hs:=pe r1;have hp:=hF.part hs;have hN:=wJ g.m (aR g.m.W g.m.H b);refine Ok.br (by rw[hp.nodes,wi U U];omega) ((aeM h hF hb r (r4 q) (λr=>r.length<=260/\ ∀e,e∈r↔Comes g.m b e) (λx hx he=>aeN h hF hb 4 fuel 0 x bp (by rw[de];omega) U U U λe=>(he e).trans ⟨λq=>⟨q.1,.inl q.2⟩,λq=>⟨q.1,q.2.resolve_right λ⟨d,d0,d1,_⟩=>by omega⟩⟩) 256 fuel 0 _ U (by rw[de];omega) U U bp (λe=>⟨λq=>by simp at q,λ⟨_,_,j,j0,j1,_⟩=>by omega⟩)).mono λr hr=>⟨hr.1,.inl ⟨hb,hr.2⟩⟩)
theorem F4 (h:cL g more) {b:Int} (hb:node g.m b) {e:ez} (he:Comes g.m b e):node g.m e.To/\e.To≠b/\1<=e.kG/\e.kG<=KT:=by
 have M6:KT=65024:=rfl;have b_:=yw hb;have hs:=pe (fI h.ok b_.2);rcases he with⟨a1,a2,a3,D,a4,a5⟩ |⟨a1,a2,a3,a4⟩
 ·have GI:=KO h hs;have hm:=GI.mem _ (List.mem_map_of_mem (f:=cE g.m.W g.m.H) a1);have hd:=a4.dv _ hm.1 hm.2.1 (by rw[<-a5];exact a3)
  refine⟨KW a1,a2,?_,by omega⟩
  apply pr;intro z;obtain⟨x,hx,e1,_⟩:=aii GI.DF a4 hm.1 hm.2.1 U;simp only[nh,ra,or_false] at hx;subst hx;have hE:=qE a1;rcases Int.lt_or_gt_of_ne a2 with w |w
  ·have:=OK (fI h.ok hE.2.1) (fI h.ok b_.2) hE.2.2.2 w;simp only at e1;omega
  ·have:=OK (fI h.ok b_.2) (fI h.ok hE.2.1) hE.2.2.2.symm w;simp only at e1;omega
 ·have:=h.sm b b_.2.1 b_.2.2;exact⟨a1,λz=>a2 (by rw[z]),by omega,by omega⟩
def Cl (a b:cP):Bool:=decide (a.key<b.key)||(a.key==b.key&&decide (a.item<b.item))
theorem Jq (a b:cP):zF.f a b=some (Cl a b):=by
 unfold zF.f Cl
 by_cases h:a.key<b.key
 ·simp[h]
 ·by_cases g:a.key=b.key<;>simp[h,g]
theorem aiD: ∀(n k:Nat) (l:List cP) (i:Int),i.toNat<=n->n<k->i<l.length->l.length<=1099511627776->
 Ok (mP.l0 k l i) (λh=>h.l.length=l.length/\ ∀e,e∈h.l↔e∈l):=by
 intro n
 induction n with
 |zero=>
  intro k l i hn hk hi hb;obtain⟨k,rfl⟩: ∃q,k=q+1:=⟨k-1,by omega⟩
  rw[mP.l0,ak U];exact Ok.pure ⟨J,λ_=>Iff.rfl⟩
 |succ n ih=>
  intro k l i hn hk hi hb;obtain⟨k,rfl⟩: ∃q,k=q+1:=⟨k-1,by omega⟩
  rw[mP.l0];refine Ok.ite (λhp=>?_) (λ_=>Ok.pure ⟨J,λ_=>Iff.rfl⟩);have ew:af (di (af (i-1)) 2)=(i-1)/2:=by rw[wi (x:=i-1) U U,qe U,wi U U]
  simp only[ew];refine Ok.br U (Ok.br U (Ok.eq (Jq _ _) (Ok.ite (λ_=>Ok.pure ⟨J,λ_=>Iff.rfl⟩) λ_=>Ok.br bo ?_)));refine(ih k _ ((i-1)/2) U U bo (by simpa using hb)).mono λh hh=>⟨by simpa using hh.1,λe=>(hh.2 e).trans (PU U hi U U e)⟩
theorem EL (h:eP) (k i:Int) (hb:h.l.length<1099511627776):
 Ok (mO.f h k i) (λr=>r.l.length=h.l.length+1/\ ∀e,e∈r.l↔e∈h.l∨e=⟨k,i⟩):=by
 unfold mO.f mP.f;refine Ok.br U ((aiD h.l.length fuel _ _ ?_ (by rw[de];omega) ?_ bo).bind λr hr=>Ok.pure ⟨by simpa using hr.1,λe=>by rw[hr.2 e];simp⟩)
 ·simp only[zg,tz,List.length_nil];rw[wi U U];omega
 ·simp only[zg,tz,List.length_nil];rw[wi U U];omega
theorem aa5: ∀(n k:Nat) (l:List cP) (i m j:Int),(2*i+3-j).toNat<=n->n<k->0<=i->i<l.length->(m=i∨i<m)->m<l.length->i<j->l.length<=1099511627776->
 Ok (gk.l1 k l i m j) (λr=>r=Sum.inl ⟨l⟩∨ ∃l' m',r=Sum.inr (l',m')/\l'.length=l.length/\(∀e,e∈l'↔e∈l)/\i<m'/\m'<l.length):=by
 intro n
 induction n with
 |zero=>
  intro k l i m j hn hk i0 i1 hm m1 hj hb;obtain⟨k,rfl⟩: ∃q,k=q+1:=⟨k-1,by omega⟩
  rw[gk.l1,wi (x:=2*i) U U,wi (x:=2*i+2) U U,ak U];simp only[aM,jk,if_false];refine Ok.ite (λ_=>Ok.pure (.inl J)) λq=>Ok.br U (Ok.br U (Ok.br bo (Ok.pure (.inr ⟨_,_,J,by simp,λe=>PU i0 i1 U m1 e,?_,m1⟩))))
  have:m≠i:=λz=>q (by simp[z])
  omega
 |succ n ih=>
  intro k l i m j hn hk i0 i1 hm m1 hj hb;obtain⟨k,rfl⟩: ∃q,k=q+1:=⟨k-1,by omega⟩
  rw[gk.l1,wi (x:=2*i) U U,wi (x:=2*i+2) U U];have hx:(if j<=2*i+2 then some (decide (j<(l.length:Int))) else some false)=some (decide (j<=2*i+2/\j<l.length)):=by
   by_cases a:j<=2*i+2<;>simp[a]
  rw[hx];simp only[aM];refine Ok.ite (λq=>?_) λq=>?_
  ·have q':=of_decide_eq_true q;refine Ok.br U (Ok.br U (Ok.eq (Jq _ _) (Ok.ite (λ_=>?_) λ_=>?_)))
   ·rw[wi U U];exact ih k l i j (j+1) U U i0 i1 (.inr hj) q'.2 U hb
   ·rw[wi U U];exact ih k l i m (j+1) U U i0 i1 hm m1 U hb
  ·refine Ok.ite (λ_=>Ok.pure (.inl J)) λq=>Ok.br U (Ok.br U (Ok.br bo (Ok.pure (.inr ⟨_,_,J,by simp,λe=>PU i0 i1 U m1 e,?_,m1⟩))))
   have:m≠i:=λz=>q (by simp[z])
   omega
theorem aa4: ∀(n k:Nat) (l:List cP) (i:Int),l.length-i.toNat<=n->n<k->0<=i->i<l.length->l.length<=1099511627776->
 Ok (gk.l0 k l i) (λh=>h.l.length=l.length/\ ∀e,e∈h.l↔e∈l):=by
 intro n
 induction n with
 |zero=>intro k l i hn hk i0 i1;omega
 |succ n ih=>
  intro k l i hn hk i0 i1 hb;obtain⟨k,rfl⟩: ∃q,k=q+1:=⟨k-1,by omega⟩
  rw[gk.l0,wi (x:=2*i) U U,wi (x:=2*i+1) U U];refine(aa5 (i.toNat+3) fuel l i i (2*i+1) U (by rw[de];omega) i0 i1 (.inl J) i1 U hb).bind λr hr=>?_
  rcases hr with rfl |⟨l',m',rfl,e1,e2,e3,e4⟩
  ·exact Ok.pure ⟨J,λ_=>Iff.rfl⟩
  ·exact(ih k l' m' U U U U U).mono λh hh=>⟨by omega,λe=>(hh.2 e).trans (e2 e)⟩
def Qn (l:List cP) (r:Int×Int×Bool×eP):Prop:=
 (l=[]/\r=(0,0,false,⟨[]⟩))∨(l≠[]/\r.2.2.1=true/\⟨r.1,r.2.1⟩=rd l 0/\r.2.2.2.l.length+1=l.length/\(∀e∈r.2.2.2.l,e∈l)/\ ∀e∈l,e=rd l 0∨e∈r.2.2.2.l)
theorem EK (h:eP) (hb:h.l.length<=1099511627776):Ok (mN.f h) (Qn h.l):=by
 obtain⟨l⟩:=h;unfold mN.f Cz.f Cy.f gk.f
 by_cases hl:l=[]
 ·subst hl;exact Ok.pure (.inl ⟨rfl,rfl⟩)
 have hp:0<l.length:=List.length_pos_iff.2 hl;simp only at hb⊢;simp only[aM];rw[ak (by simpa using hl),ah U,wi (x:=(l.length:Int)-1) U U]
 simp only[aM,if_true];refine Ok.br U (Ok.br U (Ok.br bo ?_));have hs: ∀(L:List cP),L.length=l.length->aA L 0 ((l.length:Int)-1)=L.take (l.length-1):=by
  intro L hL;unfold aA;simp
 rw[hs _ bp];have lX: ∀e∈(aD l 0 (rd l ((l.length:Int)-1))).take (l.length-1),e∈l:=by
  intro e he;rcases List.mem_or_eq_of_mem_set (List.mem_of_mem_take he) with h |h
  ·exact h
  ·rw[h];exact sV U U
 have N6: ∀e∈l,e=rd l 0∨e∈(aD l 0 (rd l ((l.length:Int)-1))).take (l.length-1):=by
  intro e he;obtain⟨c,c0,c1,rfl⟩:=Hm.1 he
  by_cases z:c=0
  ·exact .inl (by rw[z])
  ·refine .inr (Hm.2 ?_);have ht: ∀d:Int,0<=d->d<(l.length:Int)-1->rd ((aD l 0 (rd l ((l.length:Int)-1))).take (l.length-1)) d=if d=0 then rd l ((l.length:Int)-1) else rd l d:=by
    intro d d0 d1;have:=Bl (L:=l) (i:=0) (c:=d) (v:=rd l ((l.length:Int)-1)) U U d0;rw[<-this];simp only[Int.toNat_zero];rw[iU (xs:=List.take _ _) bo,List.getElem_take,iU (xs:=aD _ _ _) bo]
   have hlen:((aD l 0 (rd l ((l.length:Int)-1))).take (l.length-1)).length=l.length-1:=by simp
   by_cases y:c=(l.length:Int)-1
   ·exact⟨0,by omega,by omega,by rw[ht 0 U U,ah J,y]⟩
   ·exact⟨c,c0,by omega,by rw[ht c c0 U,ak z]⟩
 by_cases h1:l.length=1
 ·have e0:(aD l 0 (rd l ((l.length:Int)-1))).take (l.length-1)=[]:=by rw[h1];rfl
  simp only[Int.toNat_zero];rw[e0] at lX N6⊢;have hd:gk.l0 fuel [] 0=some ⟨[]⟩:=by
   obtain⟨k,hk⟩: ∃q,fuel=q+1+1:=⟨fuel-2,by rw[de]⟩
   rw[hk,gk.l0,hk,gk.l1];rfl
  rw[hd];exact Ok.pure (.inr ⟨hl,J,J,by simp[h1],lX,N6⟩)
 ·refine(aa4 l.length fuel _ 0 bp (by rw[de];omega) U bo bo).bind λr hr=>Ok.pure (.inr ⟨hl,J,J,?_,λe he=>lX e ((hr.2 e).1 he),λe he=>(N6 e he).imp id λx=>(hr.2 e).2 x⟩)
  have:=hr.1;simp at this;simp only;omega
variable {g : bx} {more : Int}
def sS (g:bx) (c:Int):Prop:=bS g.m c/\je g c≠255
theorem Gi (h:cL g more) {c:Int} (hc:bS g.m c):1<=je g c/\je g c<=255:=by
 unfold je;rw[ah hc];exact h.sm c hc.1 hc.2
theorem aiY (h:cL g more) (goal cell key:Int) (m:List (Int×Int)) (hc:sS g cell) (k0:0<=key) (k1:key<=1000000000): ∀(n k:Nat) (l:List cP) (s:Int),(4-s).toNat<=n->n<k->0<=s->l.length<=10000000-4+s->
 Ok (gd.l1 k goal g (g.m.W,g.m.H) m cell key l s) (λr=>r.1=cQ m cell key/\r.2.length<=l.length+(4-s).toNat/\ ∀e∈r.2,e∈l∨(sS g e.item/\0<=e.key/\e.key<=key+254)):=by
 have fi:=Gi h hc.1;intro n
 induction n with
 |zero=>
  intro k l s hn hk s0 hl;obtain⟨k,rfl⟩:=bw hk;rw[gd.l1,ak U];exact Ok.pure ⟨J,by simp,λe he=> .inl he⟩
 |succ n ih=>
  intro k l s hn hk s0 hl;obtain⟨k,rfl⟩:=bw hk;rw[gd.l1];refine Ok.ite (λhs=>?_) λhs=>Ok.pure ⟨J,by simp only;omega,λe he=> .inl he⟩
  refine Ok.eq (E9 ..) ?_;have Oh:Ok (if bk g.m.W g.m.H cell s<0 then some true else(gG.f g.m.W g.m.H (bk g.m.W g.m.H cell s)).bind λv28=>(gG.f g.m.W g.m.H goal).bind λqR=>if(v28 !=qR)=true then some true else(jf.f g (bk g.m.W g.m.H cell s)).bind λv30=>some (v30==255)) (λb=>b=false->sS g (bk g.m.W g.m.H cell s)):=by
   refine Ok.ite (λ_=>Ok.pure bp) λq=>Ok.eq (rK ..) (Ok.eq (rK ..) (Ok.ite (λ_=>Ok.pure bp) λ_=>Ok.eq (sw h _) (Ok.pure λz=>⟨Lk q,by simpa using z⟩)))
  refine Oh.bind λb hb=>Ok.ite (λ_=>?_) λq=>?_
  ·rw[wi U U];exact(ih k l (s+1) U U U U).mono λr hr=>⟨hr.1,by have:=hr.2.1;omega,hr.2.2⟩
  ·have ho:=hb (by simpa using q)
   refine Ok.eq (sw h _) ((EL _ _ _ (by simp only;omega)).bind λr hr=>?_)
   simp only at hr;rw[wi (x:=s+1) U U];refine(ih k r.l (s+1) U U U U).mono λr' mm=>⟨mm.1,by have:=mm.2.1;omega,λe he=>?_⟩
   rcases mm.2.2 e he with z |z
   ·rcases(hr.2 e).1 z with y |rfl
    ·exact .inl y
    ·refine .inr ⟨ho,?_⟩;have:je g cell≠255:=hc.2;rw[wi U U];simp only;omega
   ·exact .inr z
def na (g:bx) (m:List (Int×Int)):Nat:=jd (λc=>!ck m c) (g.m.W*g.m.H).toNat
theorem EE (m:List (Int×Int)) (x y v:Int):ck (cQ m x v) y=if x=y then true else ck m y:=by
 unfold ck;rw[ED];split<;>rfl
theorem Xq {m:List (Int×Int)} {c v:Int} (hc:bS g.m c) (hn:ck m c=false):na g m=na g (cQ m c v)+1:=by
 unfold na;refine Mw (c:=c) hc.1 (by have:=hc.1;have:=hc.2;omega) (by simp[hn]) (by simp[EE]) (λi _ _ hi=>?_)
 rw[EE,ak (λz=>hi z.symm)]
theorem aiX (h:cL g more) (hN:g.m.W*g.m.H<=1600) (goal:Int): ∀(n k:Nat) (m:List (Int×Int)) (l:List cP) (key cell:Int) (ok:Bool),
 5*na g m+l.length+(if ok then 1 else 0)<=n->n<k->l.length+5*na g m<=9000->
 (∀c,ck m c=true->0<=aT m c/\aT m c<=500000)->
 (∀e∈l,sS g e.item/\0<=e.key/\e.key+254*(na g m:Int)<=254*1600)->(ok=true->sS g cell/\0<=key/\key+254*(na g m:Int)<=254*1600)->(ok=false->l=[])->
 Ok (gd.l0 k goal g (g.m.W,g.m.H) m l key cell ok) (λr=> ∀c,ck r c=true->0<=aT r c/\aT r c<=500000):=by
 intro n
 induction n with
 |zero=>
  intro k m l key cell ok hn hk hb hm hl hp hf;obtain⟨k,rfl⟩:=bw hk;have:ok=false:=by cases ok<;>simp_all
  subst this;rw[gd.l0];exact Ok.pure hm
 |succ n ih=>
  intro k m l key cell ok hn hk hb hm hl hp hf;obtain⟨k,rfl⟩:=bw hk;rw[gd.l0];refine Ok.ite (λq=>?_) λ_=>Ok.pure hm
  obtain⟨p1,p2,p3⟩:=hp q;subst q;simp only[if_true] at hn;have N7:Ok (if ck m cell=true then some (m,l) else gd.l1 fuel goal g (g.m.W,g.m.H) m cell key l 0) (λr=>5*na g r.1+r.2.length<=n/\r.2.length+5*na g r.1<=9000/\(∀c,ck r.1 c=true->0<=aT r.1 c/\aT r.1 c<=500000)/\ ∀e∈r.2,sS g e.item/\0<=e.key/\e.key+254*(na g r.1:Int)<=254*1600):=by
   refine Ok.ite (λ_=>Ok.pure ⟨by simp only;omega,hb,hm,hl⟩) λz=>?_
   have z:ck m cell=false:=by simpa using z
   have hu:=Xq (v:=key) p1.1 z;refine(aiY h goal cell key m p1 p2 U 4 fuel l 0 bp (by rw[de];omega) U U).mono λr hr=>?_
   obtain⟨e1,e2,e3⟩:=hr;rw[e1];have:(4-(0:Int)).toNat=4:=rfl;refine⟨by omega,by omega,λc hc=>?_,λe he=>?_⟩
   ·rw[sP];rw[EE] at hc;split
    ·omega
    ·rename_i q;rw[ak q] at hc;exact hm c hc
   ·rcases e3 e he with y |y
    ·have:=hl e y;exact⟨this.1,this.2.1,by omega⟩
    ·exact⟨y.1,y.2.1,by omega⟩
  refine N7.bind λr hr=>?_
  obtain⟨h1,h2,h3,h4⟩:=hr;refine(EK ⟨r.2⟩ (by simp only;omega)).bind λv hv=>?_
  rcases hv with⟨e1,e2⟩ |⟨e1,e2,e3,e4,e5,e6⟩
  ·subst e2;simp only at e1;exact ih k r.1 [] 0 0 false bo U bo h3 bp bp bp
  ·simp only at e1 e3 e4 e5;have Ba:=h4 (rd r.2 0) (fS U (by have:=List.length_pos_iff.2 e1;omega))
   rw[<-e3] at Ba;refine ih k r.1 v.2.2.2.l v.1 v.2.1 v.2.2.1 (by rw[e2];simp;omega) U U h3 (λe he=>h4 e (e5 e he)) (λ_=>Ba) (by rw[e2];simp)
theorem ahF (h:cL g more) (hN:g.m.W*g.m.H<=1600) (f:kc) (M:dO) {goal:Int} (hg:bS g.m goal):Ok (gd.f f goal M g) (λr=> ∀c,ck r c=true->0<=aT r c/\aT r c<=500000):=by
 unfold gd.f;refine Ok.eq (Bz g) (Ok.eq (sw h _) (Ok.ite (λ_=>Ok.pure (by simp[ck,dW])) λq=>?_))
 have hu:na g []<=1600:=by unfold na;have:=D8 (λc=>!ck ([]:List (Int×Int)) c) (g.m.W*g.m.H).toNat;omega
 refine(EL ⟨[]⟩ 0 goal bp).bind λr hr=>(EK r (by simp at hr;omega)).bind λv hv=>?_
 have ho:sS g goal:=⟨hg,by simpa using q⟩
 have qx: ∀e∈r.l,e=⟨0,goal⟩:=λe he=>by simpa using(hr.2 e).1 he
 have hlen:r.l.length=1:=by simpa using hr.1
 rcases hv with⟨e1,e2⟩ |⟨e1,e2,e3,e4,e5,e6⟩
 ·rw[e1] at hlen;simp at hlen
 ·have h0:=qx _ (fS (a:=r.l) (i:=0) U U);rw[h0] at e3;simp only[cP.mk.injEq] at e3;have xW:v.2.2.2.l=[]:=List.length_eq_zero_iff.1 U;rw[xW,e3.1,e3.2,e2];exact aiX h hN goal 9000 fuel [] [] 0 goal true bo (by rw[de];omega) bo (by simp[ck,dW]) bp (λ_=>⟨ho,by omega,by omega⟩) bp
end Go.Proofs.YthodkonhneebbaaGreatDoor
