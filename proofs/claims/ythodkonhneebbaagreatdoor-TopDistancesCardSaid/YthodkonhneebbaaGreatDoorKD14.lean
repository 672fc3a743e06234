/- What the functions do, in plain Lean, on the objects that are kept in order. -/
import Derived.Test.YthodkonhneebbaaGreatDoorKD13
import Derived.Test.YthodkonhneebbaaGreatDoorKD9
import Derived.Test.YthodkonhneebbaaGreatDoorKD10
import Derived.Test.YthodkonhneebbaaGreatDoorKD7
namespace Go.Proofs.YthodkonhneebbaaGreatDoor
open Go.Hx
open List renaming length->aa,set->aD,replicate->ct,length_set->nF,length_cons->uA,mem_cons_self->na,mem_cons_of_mem->pj,mem_cons->nG,not_mem_nil->rR,length_append->yS
open Int renaming tdiv->cZ,fdiv->fL,toNat->ax,emod_lt_of_pos->Ax,mul_comm->mv,mul_le_mul_of_nonneg_right->BL,mul_ediv_add_emod->uy,le_refl->dP
open Nat renaming le_refl->jM
open Bool renaming eq_iff_iff->nD,false_eq_true->ji
open Classical renaming byContradiction->pg
set_option linter.unusedVariables false
set_option linter.unusedSimpArgs false
theorem iI.mono {r:eU} {n n':Nat} (h:iI r n) (hn:n<=n') (hb:n'<=1000000000):iI r n':=⟨h.len_,h.at_,λb hb=>by have:=h.gone b hb;omega,h.Bw,hb⟩
structure Is (r:eU) (todo:List aX) (n:Nat) (r':eU) (K_:List aX):Prop where
 ring: ∃n',iI r' n'/\n'+K_.length<=n+todo.length
 rh: ∀k i,Has r k i->Has r' k i
 new: ∀k i,Has r' k i->Has r k i∨ ∃x∈todo,x.Key=k/\x.Cell=i
 WW: ∃a,todo=a++K_/\ ∀x∈a,Has r' x.Key x.Cell
 len_:r'.len+2*K_.length<=r.len+2*todo.length
 at_:r'.aZ=r.aZ
 end_: ∀x l,K_=x::l->x.Key<r'.aZ∨r'.aZ+256<=x.Key
theorem aa3 (s:dj): ∀(m k:Nat) (r:eU) (todo:List aX) (n:Nat),todo.length<=m->m<k->iI r n->n+todo.length<=2000000->(∀x∈todo,0<=x.Key/\x.Key<=1073741824)->
 Ok (j6.l0 k s r todo) (λq=>q.t=s.t/\q.aN=s.aN/\Is r todo n q.wait q.todo):=by
 have nil: ∀(k:Nat) (r:eU) (n:Nat),iI r n->Ok (j6.l0 (k+1) s r []) (λq=>q.t=s.t/\q.aN=s.aN/\Is r [] n q.wait q.todo):=by
  intro k r n h;rw[j6.l0,aj bd];exact Ok.pure ⟨J,J,⟨⟨n,h,by simp⟩,λ_ _ q=>q,λ_ _ q=> .inl q,⟨[],J,by simp⟩,dP _,J,by simp⟩⟩
 intro m
 induction m with
 |zero=>
  intro k r todo n hm hk h hn hx;obtain⟨k,rfl⟩:=bz hk;have:todo=[]:=List.length_eq_zero_iff.1 U;subst this;exact nil k r n h
 |succ m ih=>
  intro k r todo n hm hk h hn hx;obtain⟨k,rfl⟩:=bz hk
  cases todo with
  |nil=>exact nil k r n h
  |cons x l=>
   simp only[uA] at hm hn;have wj:=hx x (na ..);have e0:rd (x::l) 0=x:=rfl;have e1:aB (x::l) 1 ((x::l).length:Int)=l:=by unfold aB;simp
   rw[j6.l0,ah bd,ah bd,e0,e1];refine(Wj h U U wj.1 x.Cell).bind' λv hv=>?_
   obtain⟨h1,h2,h3⟩:=hv;simp only;rcases h3 with⟨a,b,c,d,e⟩ |⟨a,b,c⟩
   ·rw[a];refine Ok.pos J (Ok.br bo ((ih k v.2 l (n+1) U U h2 U (λy hy=>hx y (pj _ hy))).mono λq hq=>?_));obtain⟨q1,q2,q3⟩:=hq;obtain⟨n',f1,f2⟩:=q3.ring;obtain⟨A,g1,g2⟩:=q3.WW;refine⟨q1,q2,⟨⟨n',f1,by simp only[uA];omega⟩,λk i hh=>q3.rh k i ((e k i).2 (.inl hh)),λk i hh=>?_,⟨x::A,by rw[g1];rfl,λy hy=>?_⟩,?_,by rw[q3.at_,h1],q3.end_⟩⟩
    ·rcases q3.new k i hh with z |⟨y,hy,z⟩
     ·rcases(e k i).1 z with z |⟨rfl,rfl⟩
      ·exact .inl z
      ·exact .inr ⟨x,na ..,J,J⟩
     ·exact .inr ⟨y,pj _ hy,z⟩
    ·rcases List.mem_cons.1 hy with rfl |hy
     ·exact q3.rh _ _ ((e _ _).2 (.inr ⟨J,J⟩))
     ·exact g2 y hy
    ·have:=q3.len_;simp only[uA];omega
   ·rw[a];refine Ok.neg bd (Ok.pure ⟨J,J,?_⟩);simp only;rw[c];exact⟨⟨n,h,by simp⟩,λ_ _ q=>q,λ_ _ q=> .inl q,⟨[],J,by simp⟩,dP _,J,λy l' hy=>by simp only[List.cons.injEq] at hy;rw[<-hy.1];exact b⟩
theorem aa2 (s:dj) {n:Nat} (h:iI s.wait n) (hn:n+s.todo.length<=2000000) (hx: ∀x∈s.todo,0<=x.Key/\x.Key<=1073741824):
 Ok (j6.f s) (λq=>q.t=s.t/\q.aN=s.aN/\ ∃r,((r=s.wait/\(s.wait.len≠0∨s.todo=[]))∨(s.wait.len=0/\r.len=0/\ ∃x l,s.todo=x::l/\r.aZ=if x.Key<s.wait.aZ then s.wait.aZ else x.Key))/\(∀k i,Has r k i↔Has s.wait k i)/\Is r s.todo n q.wait q.todo):=by
 unfold j6.f;have key: ∀r,iI r n->Ok (j6.l0 fuel s r s.todo) (λq=>q.t=s.t/\q.aN=s.aN/\Is r s.todo n q.wait q.todo):=λr hr=>aa3 s s.todo.length fuel r s.todo n (jM _) (by rw[cY];omega) hr hn hx
 by_cases hl:s.todo=[]
 ·rw[aj (by simp[hl])]
  exact Ok.eq J ((key s.wait h).mono λq hq=>⟨hq.1,hq.2.1,s.wait,.inl ⟨J,.inr hl⟩,λ_ _=>Iff.rfl,hq.2.2⟩)
 ·obtain⟨x,l,e⟩:=List.exists_cons_of_ne_nil hl;have wj:=hx x (by rw[e];exact na ..)
  rw[ah (by rw[e];simp)]
  unfold wG.f
  by_cases z:s.wait.len=0
  ·have e0:rd s.todo 0=x:=by rw[e];rfl
   rw[show((some s.wait.len).bind λv5=>some (v5==0))=some true by simp[z]]
   simp only[aM,if_true,e0];rw[ah (by rw[e];simp)]
   refine((aeu h wj.1 U z).bind λv hv=>Ok.pure (P:=λr=>iI r n/\r.len=0/\r.aZ=if x.Key<s.wait.aZ then s.wait.aZ else x.Key) hv).bind λr hr=>(key r hr.1).mono λq hq=>⟨hq.1,hq.2.1,r,.inr ⟨z,hr.2.1,x,l,e,hr.2.2⟩,λk i=>⟨λy=>absurd y (hr.1.none hr.2.1 k i),λy=>absurd y (h.none z k i)⟩,hq.2.2⟩
  ·simp only[aM];rw[aj (by simpa using z)]
   exact Ok.eq J ((key s.wait h).mono λq hq=>⟨hq.1,hq.2.1,s.wait,.inl ⟨J,.inl z⟩,λ_ _=>Iff.rfl,hq.2.2⟩)
def eG (t:aF) (c s:Int):Int:=
 if s=0 then(if c/t.W>0 then c-t.W else-1) else if s=1 then(if c%t.W<t.W-1 then c+1 else-1) else if s=2 then(if c/t.W<t.H-1 then c+t.W else-1) else if c%t.W>0 then c-1 else-1
theorem K9 {t:aF} (h:rS t) {c s:Int} (c0:0<=c) (c1:c<t.C.length):eG t c s= -1∨(0<=eG t c s/\eG t c s<t.C.length):=by
 obtain⟨a,b,d,e,f,_⟩:=h;rw[f] at c1⊢;have Gp:=uy c t.W;have hm:=Int.emod_nonneg c (show t.W≠0 by omega)
 have TK:=Ax c (show 0<t.W by omega)
 have hq:0<=c/t.W:=Int.ediv_nonneg c0 U;have NQ:c/t.W<t.H:=Int.ediv_lt_of_lt_mul U (by rw[mv];exact c1)
 unfold eG;split
 ·split
  ·have:t.W*1<=t.W*(c/t.W):=Int.mul_le_mul_of_nonneg_left U U;exact .inr U
  ·exact .inl J
 ·split
  ·split
   ·have:t.W*(c/t.W)<=t.W*(t.H-1):=Int.mul_le_mul_of_nonneg_left U U;rw[Int.mul_sub,Int.mul_one] at this;exact .inr U
   ·exact .inl J
  ·split
   ·split
    ·have:t.W*(c/t.W)<=t.W*(t.H-1-1):=Int.mul_le_mul_of_nonneg_left U U;rw[Int.mul_sub,Int.mul_sub,Int.mul_one] at this;exact .inr U
    ·exact .inl J
   ·split
    ·have:0<=t.W*(c/t.W):=Int.mul_nonneg U hq;exact .inr U
    ·exact .inl J
abbrev cn:Int:=1099511627776
structure Ar (s:dj) (n:Nat) (key c:Int) (j:Nat) (q:dj):Prop where
 t_:q.t=s.t
 td:q.todo=s.todo
 ds:q.aN=s.aN
 ring:iI q.wait (n+j)
 at_:q.wait.aZ=s.wait.aZ
 len_:q.wait.len<=s.wait.len+j
 rh: ∀k i,Has s.wait k i->Has q.wait k i
 new: ∀k i,Has q.wait k i->Has s.wait k i∨(k=key/\ ∃d:Int,0<=d/\d<j/\i=eG s.t c d/\0<=i/\i<s.t.C.length/\rd s.t.C i≠255/\rd s.aN i=cn)
 all:s.wait.aZ<=key->key<s.wait.aZ+256-> ∀d:Int,0<=d->d<j->0<=eG s.t c d->rd s.t.C (eG s.t c d)≠255->rd s.aN (eG s.t c d)=cn->Has q.wait key (eG s.t c d)
section
variable {s q : dj} {n : Nat} {key c : Int} {j : Nat}
theorem IW (h:Ar s n key c j q) (hn:n+j+1<=1000000000) (hj:eG s.t c j= -1):Ar s n key c (j+1) q:=by
 refine⟨h.t_,h.td,h.ds,h.ring.mono U U,h.at_,by have:=h.len_;omega,h.rh,λk i hh=>?_,λa b d d0 d1 d2 d3 d4=>?_⟩
 ·rcases h.new k i hh with z |⟨z,d,a,b,r⟩
  ·exact .inl z
  ·exact .inr ⟨z,d,a,by omega,r⟩
 ·by_cases z:d=j
  ·subst z;omega
  ·exact h.all a b d d0 U d2 d3 d4
theorem IV (ht:mw s.t) (hd:s.aN.length=s.t.C.length) (h:Ar s n key c j q) (hn:n+j+1<=1000000000) (k0:0<=key) (k1:key<=8796093022208) (c0:0<=c) (c1:c<s.t.C.length) {p:Int} (hj:eG s.t c j=p) (hp:p≠ -1):
 Ok (lb.f q p key) (Ar s n key c (j+1)):=by
 have bY:=K9 ht.1 (s:=j) c0 c1;rw[hj] at bY;have bY:0<=p/\p<s.t.C.length:=bY.resolve_left hp;unfold lb.f;rw[h.t_,h.ds,h.td];have e:(if(0<=p/\p<(aa s.t.C:Int)) then(if((rd s.t.C p)!=255)=true then(if(0<=p/\p<(aa s.aN:Int)) then(some ((rd s.aN p)==1099511627776)) else none) else(some false)) else none)=some (decide (rd s.t.C p≠255/\rd s.aN p=cn)):=by
  rw[ah bY,ah (c:=0<=p/\p<(aa s.aN:Int)) U]
  by_cases z:rd s.t.C p=255
  ·simp[z]
  ·rw[ah (by simpa using z)];congr 1;rw[nD];simp[z]
 refine Ok.eq e (Ok.ite (λz=>?_) λz=>Ok.pure ?_)
 ·have z:=of_decide_eq_true z;refine(Wj h.ring U k1 k0 p).bind λv hv=>Ok.pure ?_
  obtain⟨a1,a2,a3⟩:=hv;rcases a3 with⟨b1,b2,b3,b4,b5⟩ |⟨b1,b2,b3⟩
  ·refine⟨J,J,J,a2,by rw[a1,h.at_],by have:=h.len_;simp only;omega,λk i hh=>(b5 k i).2 (.inl (h.rh k i hh)),λk i hh=>?_,λa b d d0 d1 d2 d3 d4=>?_⟩
   ·rcases(b5 k i).1 hh with y |⟨rfl,rfl⟩
    ·rcases h.new k i y with y |⟨y,d,a,b,r⟩
     ·exact .inl y
     ·exact .inr ⟨y,d,a,by omega,r⟩
    ·exact .inr ⟨J,j,by omega,by omega,hj.symm,bY.1,bY.2,z⟩
   ·by_cases y:d=j
    ·subst y;rw[hj];exact(b5 _ _).2 (.inr ⟨rfl,rfl⟩)
    ·exact(b5 _ _).2 (.inl (h.all a b d d0 U d2 d3 d4))
  ·refine⟨J,J,J,a2,by rw[a1,h.at_],by have:=h.len_;simp only;rw[b3];omega,λk i hh=>by simp only;rw[b3];exact h.rh k i hh,λk i hh=>?_,λa b=>?_⟩
   ·simp only at hh;rw[b3] at hh;rcases h.new k i hh with y |⟨y,d,a,b,r⟩
    ·exact .inl y
    ·exact .inr ⟨y,d,a,by omega,r⟩
   ·have:=h.at_;omega
 ·have z: ¬(rd s.t.C p≠255/\rd s.aN p=cn):=by simpa using z
  refine⟨h.t_,h.td,h.ds,h.ring.mono U U,h.at_,by have:=h.len_;omega,h.rh,λk i hh=>?_,λa b d d0 d1 d2 d3 d4=>?_⟩
  ·rcases h.new k i hh with y |⟨y,d,a,b,r⟩
   ·exact .inl y
   ·exact .inr ⟨y,d,a,by omega,r⟩
  ·by_cases y:d=j
   ·subst y;rw[hj] at d3 d4;exact absurd ⟨d3,d4⟩ z
   ·exact h.all a b d d0 U d2 d3 d4
end
theorem IU {q s:dj} (e:q.t=s.t):dj.mk (aF.mk q.t.W q.t.H s.t.C) q.wait q.todo q.aN=q:=by
 obtain⟨t,a,b,d⟩:=q;simp only at e;subst e;rfl
theorem Yn (s:dj) (ht:mw s.t) (hd:s.aN.length=s.t.C.length) {n:Nat} (h:iI s.wait n) (hn:n+4<=1000000000) {c:Int} (c0:0<=c) (c1:c<s.t.C.length) (d0:0<=rd s.aN c) (d1:rd s.aN c<=2000000000):
 Ok (yz.f s c) (Ar s n (rd s.aN c+rd s.t.C c) c 4):=by
 have hC:=ht.2 c c0 c1;have hl:=ou ht.1;obtain⟨a1,a2,a3,a4,a5,_⟩:=ht.1;have hq:0<=c/s.t.W/\c/s.t.W<=c:=⟨Int.ediv_nonneg c0 U,Int.ediv_le_self _ c0⟩;unfold yz.f;rw[wi (x:=rd s.t.C c) U U,wi (x:=rd s.aN c+rd s.t.C c) U U,pZ c0,mV c0,wi (x:=c/s.t.W) U U,wi (x:=c-s.t.W) U U,wi (x:=c+1) U U,wi (x:=c-1) U U];generalize hk:rd s.aN c+rd s.t.C c=key;have k0:0<=key:=U;have k1:key<=8796093022208:=U;have A0:Ar s n key c 0 s:=⟨J,J,J,h,J,by omega,λ_ _ z=>z,λ_ _ z=> .inl z,λ_ _ d d0 d1=>by omega⟩
 refine Ok.br U (Ok.br U (Ok.br U (Ok.br U ?_)));have n0:eG s.t c (0:Nat)=if c/s.t.W>0 then c-s.t.W else-1:=rfl
 have n1:eG s.t c (1:Nat)=if c%s.t.W<s.t.W-1 then c+1 else-1:=rfl
 have n2:eG s.t c (2:Nat)=if c/s.t.W<s.t.H-1 then c+s.t.W else-1:=rfl
 have n3:eG s.t c (3:Nat)=if c%s.t.W>0 then c-1 else-1:=rfl
 have Gp:=uy c s.t.W;have s0:Ok (if c/s.t.W>0 then(lb.f s (c-s.t.W) key).bind λv7=>some (v7.t.W,v7.t.H,v7.wait,v7.todo,v7.aN) else some (s.t.W,s.t.H,s.wait,s.todo,s.aN)) (λp=>Ar s n key c 1 ⟨⟨p.1,p.2.1,s.t.C⟩,p.2.2.1,p.2.2.2.1,p.2.2.2.2⟩):=by
  refine Ok.ite (λz=>?_) λz=>Ok.pure (IW (j:=0) A0 U (by rw[n0,aj z]))
  have bY:=K9 ht.1 (s:=(0:Nat)) c0 c1;rw[n0,ah z] at bY;refine(IV (j:=0) ht hd A0 U k0 k1 c0 c1 (by rw[n0,ah z]) (λy=>?_)).bind λv hv=>Ok.pure ?_
  ·have:s.t.W*1<=s.t.W*(c/s.t.W):=Int.mul_le_mul_of_nonneg_left U U;have:=Int.emod_nonneg c (show s.t.W≠0 by omega)
   omega
  ·simp only;rw[IU hv.t_];exact hv
 refine s0.bind λp hp=>?_
 obtain⟨x1,x2,x3,x4,x5⟩:=p;simp only at hp⊢;have et:=hp.t_;simp only at et;have e1:x1=s.t.W:=by rw[<-et]
 have e2:x2=s.t.H:=by rw[<-et]
 subst e1;subst e2;rw[wi (x:=s.t.W-1) U U];have s1:Ok (if c%s.t.W<s.t.W-1 then(lb.f (dj.mk (aF.mk s.t.W s.t.H s.t.C) x3 x4 x5) (c+1) key).bind λei=>some (ei.t.W,ei.t.H,ei.wait,ei.todo,ei.aN) else some (s.t.W,s.t.H,x3,x4,x5)) (λp=>Ar s n key c 2 ⟨⟨p.1,p.2.1,s.t.C⟩,p.2.2.1,p.2.2.2.1,p.2.2.2.2⟩):=by
  refine Ok.ite (λz=>?_) λz=>Ok.pure (IW (j:=1) hp U (by rw[n1,aj z]))
  refine(IV (j:=1) ht hd hp U k0 k1 c0 c1 (by rw[n1,ah z]) U).bind λv hv=>Ok.pure ?_
  simp only;rw[IU hv.t_];exact hv
 refine s1.bind λp hp=>?_
 obtain⟨x1,x2,x3,x4,x5⟩:=p;simp only at hp⊢;have et:=hp.t_;simp only at et;have e1:x1=s.t.W:=by rw[<-et]
 have e2:x2=s.t.H:=by rw[<-et]
 subst e1;subst e2;rw[wi (x:=s.t.H-1) U U];have s3: ∀v:dj,Ar s n key c 3 v->Ok (if c%s.t.W>0 then(lb.f v (c-1) key).bind λdI=>some (dj.mk (aF.mk dI.t.W dI.t.H s.t.C) dI.wait dI.todo dI.aN) else some v) (Ar s n key c 4):=λv hv=>by
  refine Ok.ite (λz=>?_) λz=>Ok.pure (IW (j:=3) hv U (by rw[n3,aj z]))
  refine(IV (j:=3) ht hd hv U k0 k1 c0 c1 (by rw[n3,ah z]) (λy=>?_)).bind λv hv=>Ok.pure ?_
  ·have:c=0:=U;subst this;simp at z
  ·rw[IU hv.t_];exact hv
 refine Ok.ite (λz=>?_) λz=>?_
 ·rw[wi (x:=c+s.t.W) U U];refine(IV (j:=2) ht hd hp U k0 k1 c0 c1 (by rw[n2,ah z]) U).bind λv hv=>?_
  rw[IU hv.t_];exact s3 v hv
 ·exact s3 _ (IW (j:=2) hp U (by rw[n2,aj z]))
def Fj (t:aF) (l:List aX) (D:List Int) (i k:Int):Prop:=
 (∃x∈l,x.Cell=i/\x.Key=k)∨ ∃c d:Int,0<=c/\c<t.C.length/\0<=d/\d<=3/\rd D c≠cn/\eG t c d=i/\rd D c+rd t.C c=k
def vq (t:aF) (D:List Int):Nat:=iY (λc=>rd D c==cn) t.C.length
structure BM (t:aF) (l:List aX) (K:Int) (r:eU) (todo:List aX) (D:List Int) (n:Nat):Prop where
 ring:iI r n
 room:n+todo.length+4*vq t D<=2000000
 dl:D.length=t.C.length
 dv: ∀c:Int,0<=c->c<t.C.length->rd D c≠cn->0<=rd D c/\rd D c<=r.aZ/\rd D c+254*(vq t D:Int)<=K/\rd t.C c≠255/\Fj t l D c (rd D c)
 hs: ∀k i,Has r k i->0<=i/\i<t.C.length/\rd t.C i≠255/\k+254*(vq t D:Int)<=K/\Fj t l D i k
 nb: ∀c d:Int,0<=c->c<t.C.length->rd D c≠cn->0<=d->d<=3->0<=eG t c d->rd t.C (eG t c d)≠255->(rd D (eG t c d)≠cn/\rd D (eG t c d)<=rd D c+rd t.C c)∨Has r (rd D c+rd t.C c) (eG t c d)
 sd: ∀x∈l,x∈todo∨Has r x.Key x.Cell∨(rd D x.Cell≠cn/\rd D x.Cell<=x.Key)
 td: ∀x∈todo,x∈l/\r.aZ<=x.Key
 so:todo.Pairwise (λa b=>a.Key<=b.Key)
def Full (r:eU) (todo:List aX):Prop:=todo=[]∨(r.len≠0/\ ∀x∈todo,r.aZ+256<=x.Key)
section
variable {t : aF} {l : List aX} {K : Int}
theorem OX (hl: ∀x∈l,qP t x/\x.Key+254*256<=K) (ht:mw t) (s:dj) (hs:s.t=t) {n:Nat} (h:BM t l K s.wait s.todo s.aN n):
 Ok (j6.f s) (λq=>q.t=t/\q.aN=s.aN/\q.wait.len+2*q.todo.length<=s.wait.len+2*s.todo.length/\Full q.wait q.todo/\ ∃n',BM t l K q.wait q.todo s.aN n'):=by
 have hk: ∀x∈s.todo,0<=x.Key/\x.Key<=1073741824:=λx hx=>by have:=(hl x (h.td x hx).1).1;exact⟨this.2.2.2.1,this.2.2.2.2.1⟩
 have hu:vq t s.aN<=256:=by unfold vq;have:=DU (λc=>rd s.aN c==cn) t.C.length;have:=ou ht.1;omega
 refine(aa2 s h.ring (by have:=h.room;omega) hk).mono λq hq=>?_
 obtain⟨q1,q2,r,q3,q4,q5⟩:=hq;obtain⟨n',f1,f2⟩:=q5.ring;obtain⟨A,g1,g2⟩:=q5.WW;have xC:s.wait.aZ<=r.aZ/\(∀x∈s.todo,r.aZ<=x.Key)/\r.len=s.wait.len:=by
  rcases q3 with⟨rfl,_⟩ |⟨z0,z,x,m,e,e2⟩
  ·exact⟨dP _,λx hx=>(h.td x hx).2,J⟩
  ·have hx:=(h.td x (by rw[e];exact na ..)).2
   rw[aj U] at e2;refine⟨by omega,λy hy=>?_,by omega⟩
   have so:=h.so;rw[e] at hy so;rcases List.mem_cons.1 hy with rfl |hy
   ·omega
   ·have:=(List.pairwise_cons.1 so).1 y hy;omega
 have adV:Full q.wait q.todo:=by
  cases J7:q.todo with
  |nil=>exact .inl J
  |cons y m=>
   have hy:=q5.end_ y m J7;have N3:y∈s.todo:=by rw[g1,J7];simp
   have:=xC.2.1 y N3;have ha:=q5.at_;refine .inr ⟨λz0=>?_,λx hx=>?_⟩
   ·have oQ:=f1.none z0;rcases q3 with⟨rfl,z |z⟩ |⟨_,z,x,m',e,e2⟩
    ·obtain⟨k,i,hh⟩:=h.ring.some z;exact oQ k i (q5.rh k i hh)
    ·rw[z] at N3;simp at N3
    ·rw[aj (by have:=(h.td x (by rw[e];exact na ..)).2;omega)] at e2
     cases A with
     |nil=>
      rw[List.nil_append,J7] at g1;rw[e] at g1;simp only[List.cons.injEq] at g1;rw[<-g1.1] at hy;omega
     |cons a A=>exact oQ _ _ (g2 a (na ..))
   ·have so:=h.so;rw[g1,J7] at so;have so:=(List.pairwise_append.1 so).2.1;rcases List.mem_cons.1 hx with rfl |hx
    ·omega
    ·have:=(List.pairwise_cons.1 so).1 x hx;omega
 refine⟨q1.trans hs,q2,by have:=q5.len_;omega,adV,n',⟨f1,by have:=h.room;omega,h.dl,λc c0 c1 hc=>?_,λk i hh=>?_,λc d c0 c1 hc d0 d3 p0 p1=>?_,λx hx=>?_,λx hx=>?_,?_⟩⟩
 ·obtain⟨a,b,c,d⟩:=h.dv c c0 c1 hc;exact⟨a,by rw[q5.at_];omega,c,d⟩
 ·rcases q5.new k i hh with z |⟨x,hx,rfl,rfl⟩
  ·exact h.hs k i ((q4 k i).1 z)
  ·have sm:=(h.td x hx).1;obtain⟨⟨a,b,c,d⟩,e⟩:=hl x sm;exact⟨a,b,c,by omega,.inl ⟨x,sm,J,J⟩⟩
 ·rcases h.nb c d c0 c1 hc d0 d3 p0 p1 with z |z
  ·exact .inl z
  ·exact .inr (q5.rh _ _ ((q4 _ _).2 z))
 ·rcases h.sd x hx with z |z |z
  ·rw[g1] at z;rcases List.mem_append.1 z with z |z
   ·exact .inr (.inl (g2 x z))
   ·exact .inl z
  ·exact .inr (.inl (q5.rh _ _ ((q4 _ _).2 z)))
  ·exact .inr (.inr z)
 ·have sm:x∈s.todo:=by rw[g1];exact List.mem_append_right _ hx
  exact⟨(h.td x sm).1,by rw[q5.at_];exact xC.2.1 x sm⟩
 ·have so:=h.so;rw[g1] at so;exact(List.pairwise_append.1 so).2.1
theorem OL {D D':List Int} (h: ∀c:Int,0<=c->c<t.C.length->rd D c≠cn->rd D' c=rd D c) {i k:Int} (hp:Fj t l D i k):Fj t l D' i k:=by
 rcases hp with z |⟨c,d,c0,c1,d0,d3,e,f,g⟩
 ·exact .inl z
 ·have:=h c c0 c1 e;exact .inr ⟨c,d,c0,c1,d0,d3,by rw[this];exact e,f,by rw[this];exact g⟩
structure oB (t:aF) (l:List aX) (K:Int) (D:List Int):Prop where
 dl:D.length=t.C.length
 dv: ∀c:Int,0<=c->c<t.C.length->rd D c≠cn->0<=rd D c/\rd D c<=K/\rd t.C c≠255/\Fj t l D c (rd D c)
 nb: ∀c d:Int,0<=c->c<t.C.length->rd D c≠cn->0<=d->d<=3->0<=eG t c d->rd t.C (eG t c d)≠255->rd D (eG t c d)≠cn/\rd D (eG t c d)<=rd D c+rd t.C c
 sd: ∀x∈l,rd D x.Cell≠cn/\rd D x.Cell<=x.Key
theorem ag3 (hl: ∀x∈l,qP t x/\x.Key+254*256<=K) (hK:K<=1100000000) (ht:mw t) (s:dj) (hs:s.t=t): ∀(m k:Nat) (r:eU) (todo:List aX) (D:List Int) (n:Nat),(5*vq t D+2*todo.length+r.len).toNat<=m->m<k->BM t l K r todo D n->Full r todo->
 Ok (ot.l0 k s t.W t.H r todo D) (λq=>oB t l K q.aN):=by
 have ni:=ou ht.1;have hI:cn=1099511627776:=rfl;have fin: ∀(k:Nat) (r:eU) (todo:List aX) (D:List Int) (n:Nat),BM t l K r todo D n->Full r todo->r.len=0->Ok (ot.l0 (k+1) s t.W t.H r todo D) (λq=>oB t l K q.aN):=by
  intro k r todo D n h hf h0;rw[ot.l0];refine Ok.eq (v:=r.len) J (Ok.neg U (Ok.pure ?_));have oQ:=h.ring.none h0;have J8:todo=[]:=hf.resolve_right λz=>z.1 h0
  refine⟨h.dl,λc c0 c1 hc=>?_,λc d c0 c1 hc d0 d3 p0 p1=>?_,λx hx=>?_⟩
  ·obtain⟨a1,a2,a3,a4⟩:=h.dv c c0 c1 hc;exact⟨a1,by show rd D c<=K;omega,a4⟩
  ·exact(h.nb c d c0 c1 hc d0 d3 p0 p1).resolve_right (oQ _ _)
  ·rcases h.sd x hx with z |z |z
   ·rw[J8] at z;simp at z
   ·exact absurd z (oQ _ _)
   ·exact z
 intro m
 induction m with
 |zero=>
  intro k r todo D n hm hk h hf;obtain⟨k,rfl⟩:=bz hk;have:=h.ring.CF;exact fin k r todo D n h hf U
 |succ m ih=>
  intro k r todo D n hm hk h hf;obtain⟨k,rfl⟩:=bz hk;have hlen:=h.ring.CF
  by_cases h0:r.len=0
  ·exact fin k r todo D n h hf h0
  obtain⟨x,y,GH⟩:=h.ring.some h0;rw[ot.l0];refine Ok.eq (v:=r.len) J (Ok.pos U ((agX h.ring (by have:=(h.hs x y GH).2.2.2.1;omega) GH).bind λv hv=>?_))
  obtain⟨v1,v2,v3,v4,v5,v6,v7,v8⟩:=hv;obtain⟨i0,i1,i2,i3,i4⟩:=h.hs _ _ v5;have xC:=v5.1;have ai3:=v5.2.1;have J8: ∀x∈todo,v.1<=x.Key:=λx hx=>by
   rcases hf with z |⟨_,z⟩
   ·rw[z] at hx;simp at hx
   ·have:=z x hx;omega
  refine Ok.br (by rw[h.dl];exact⟨i0,i1⟩) (Ok.ite (λq=>?_) λq=>?_)
  ·have q:rd D v.2.1=cn:=by simpa using q
   have hi:=ht.2 _ i0 i1;have dV: ∀c:Int,0<=c->rd (aD D v.2.1.toNat v.1) c=if c=v.2.1 then v.1 else rd D c:=λc c0=>mh i0 (by rw[h.dl];exact i1) c0
   have zw:0<=v.1:=by have:=h.ring.at_;omega
   have hu:vq t D=vq t (aD D v.2.1.toNat v.1)+1:=by
    unfold vq;refine L_ (c:=v.2.1) i0 i1 (by simp[q]) ?_ λi a b hi=>?_
    ·rw[dV _ i0,ah J];simp;omega
    ·rw[dV _ a,aj hi]
   have hold: ∀c:Int,0<=c->c<t.C.length->rd D c≠cn->rd (aD D v.2.1.toNat v.1) c=rd D c:=λc c0 c1 hc=>by
    rw[dV c c0,aj (λz=>hc (by rw[z];exact q))]
   have e:(dj.mk (aF.mk t.W t.H s.t.C) v.2.2.2 todo (aD D (ax v.2.1) v.1))=dj.mk t v.2.2.2 todo (aD D (ax v.2.1) v.1):=by rw[hs]
   rw[e];have hr:=h.room;refine(Yn (dj.mk t v.2.2.2 todo (aD D (ax v.2.1) v.1)) ht (by simp[h.dl]) v2 U i0 i1 (by simp only;rw[dV _ i0,ah J];exact zw) (by simp only;rw[dV _ i0,ah J];omega)).bind λa ha=>?_
   have vW:rd (aD D v.2.1.toNat v.1) v.2.1=v.1:=by rw[dV _ i0,ah J]
   have LH:=ha.td;have LA:=ha.ds;have LG:=ha.t_;have X_:=ha.len_;have Ly:=ha.at_;simp only at LH LA LG X_ Ly;have aC:a.t.C=s.t.C:=by rw[LG,hs]
   have ea:dj.mk (aF.mk a.t.W a.t.H s.t.C) a.wait a.todo a.aN=a:=by rw[<-aC]
   rw[ea];have nT:BM t l K a.wait a.todo a.aN (n+4):=by
    rw[LH,LA];refine⟨ha.ring,by omega,by simp[h.dl],λc c0 c1 hc=>?_,λk i hh=>?_,λc d c0 c1 hc d0 d3 p0 p1=>?_,λx hx=>?_,λx hx=>⟨(h.td x hx).1,by rw[Ly,v3];exact J8 x hx⟩,h.so⟩
    ·rw[Ly,v3]
     by_cases z:c=v.2.1
     ·subst z;rw[vW];exact⟨zw,dP _,by omega,i2,OL hold i4⟩
     ·rw[dV c c0,aj z] at hc⊢;obtain⟨b1,b2,b3,b4,b5⟩:=h.dv c c0 c1 hc;exact⟨b1,by omega,by omega,b4,OL hold b5⟩
    ·rcases ha.new k i hh with z |⟨rfl,d,d0,d4,rfl,w0,w1,w2,w3⟩
     ·obtain⟨b1,b2,b3,b4,b5⟩:=h.hs k i (v7 k i z);exact⟨b1,b2,b3,by omega,OL hold b5⟩
     ·simp only at w0 w1 w2 vW⊢;rw[vW];exact⟨w0,w1,w2,by omega,.inr ⟨v.2.1,d,i0,i1,d0,by omega,by rw[vW];omega,J,by rw[vW]⟩⟩
    ·have hn:0<=eG t c d/\eG t c d<t.C.length:=(K9 ht.1 c0 c1).resolve_left U
     by_cases z:c=v.2.1
     ·subst z;rw[vW]
      by_cases w:rd (aD D v.2.1.toNat v.1) (eG t v.2.1 d)=cn
      ·refine .inr ?_;have:=ha.all (by simp only;rw[vW,v3];omega) (by simp only;rw[vW,v3];omega) d d0 U p0 p1 w
       simp only at this;rw[vW] at this;exact this
      ·refine .inl ⟨w,?_⟩;rw[dV _ hn.1] at w⊢;split
       ·omega
       ·rename_i y;rw[aj y] at w;have:=(h.dv _ hn.1 hn.2 w).2.1;omega
     ·rw[dV c c0,aj z] at hc⊢;rcases h.nb c d c0 c1 hc d0 d3 p0 p1 with⟨w1,w2⟩ |w
      ·exact .inl (by rw[hold _ hn.1 hn.2 w1];exact⟨w1,w2⟩)
      ·rcases v8 _ _ w with⟨y1,y2⟩ |y
       ·refine .inl ?_;rw[y2,vW];exact⟨by omega,by omega⟩
       ·exact .inr (ha.rh _ _ y)
    ·have Ud:=(hl x hx).1;rcases h.sd x hx with z |z |⟨z1,z2⟩
     ·exact .inl z
     ·rcases v8 _ _ z with⟨y1,y2⟩ |y
      ·exact .inr (.inr (by rw[y2,vW];exact⟨by omega,by omega⟩))
      ·exact .inr (.inl (ha.rh _ _ y))
     ·exact .inr (.inr (by rw[hold _ Ud.1 Ud.2.1 z1];exact⟨z1,z2⟩))
   refine(OX hl ht a LG nT).bind λw hw=>?_
   obtain⟨w1,w2,w3,w4,n',w5⟩:=hw;rw[w1,w2];refine ih k w.wait w.todo a.aN n' ?_ U w5 w4;rw[LA] at*;rw[LH] at w3;omega
  ·have q:rd D v.2.1≠cn:=by simpa using q
   have hd:=(h.dv _ i0 i1 q).2.1;have nT:BM t l K v.2.2.2 todo D n:=by
    refine⟨v2,h.room,h.dl,λc c0 c1 hc=>?_,λk i hh=>h.hs k i (v7 k i hh),λc d c0 c1 hc d0 d3 p0 p1=>?_,λx hx=>?_,λx hx=>⟨(h.td x hx).1,by rw[v3];exact J8 x hx⟩,h.so⟩
    ·obtain⟨b1,b2,b3⟩:=h.dv c c0 c1 hc;exact⟨b1,by omega,b3⟩
    ·rcases h.nb c d c0 c1 hc d0 d3 p0 p1 with w |w
     ·exact .inl w
     ·rcases v8 _ _ w with⟨y1,y2⟩ |y
      ·exact .inl (by rw[y2];exact⟨q,by omega⟩)
      ·exact .inr y
    ·rcases h.sd x hx with z |z |z
     ·exact .inl z
     ·rcases v8 _ _ z with⟨y1,y2⟩ |y
      ·exact .inr (.inr (by rw[y2];exact⟨q,by omega⟩))
      ·exact .inr (.inl y)
     ·exact .inr (.inr z)
   have e:(dj.mk (aF.mk t.W t.H s.t.C) v.2.2.2 todo D)=dj.mk t v.2.2.2 todo D:=by rw[hs]
   rw[e];refine(OX hl ht (dj.mk t v.2.2.2 todo D) J nT).bind λw hw=>?_
   obtain⟨w1,w2,w3,w4,n',w5⟩:=hw;rw[w1,w2];exact ih k w.wait w.todo D n' (by simp only at w3;omega) U w5 w4
theorem WQ (ht:mw t) (hb:l.length<=1000000) (hK:K<=1100000000) (hl: ∀x∈l,qP t x/\x.Key+254*256<=K):Ok (uj.f t l) (λr=>r.2=0/\oB t l K r.1):=by
 have ni:=ou ht.1;unfold uj.f;refine(WK ht l hb).bind λb kn=>?_
 have:b=true:=kn.2 λx hx=>(hl x hx).1;subst this;refine Ok.neg bd ?_;obtain⟨r,e1,e2,e3,e4⟩:=agQ;refine Ok.bind (P:=λp=> ∃S:List aX,p=(t.W,t.H,t.C,r,S,ct t.C.length cn)/\S.length<=l.length/\(∀e,e∈S↔e∈l)/\S.Pairwise (λa b=> ¬tY b a)) (Ok.eq e1 ((Pk l hb).bind λS hS=>Ok.eq (Wh U U) (Ok.pure ⟨S,J,hS⟩))) λp hp=>?_
 obtain⟨S,rfl,s1,s2,s3⟩:=hp;simp only;have zs: ∀x∈S,qP t x/\x.Key+254*256<=K:=λx hx=>hl x ((s2 x).1 hx);have GA: ∀c:Int,0<=c->c<t.C.length->rd (ct t.C.length cn) c=cn:=λc c0 c1=>wA c0 U
 have hu:vq t (ct t.C.length cn)<=256:=by unfold vq;have:=DU (λc=>rd (ct t.C.length cn) c==cn) t.C.length;omega
 have nT:BM t S K r S (ct t.C.length cn) 0:=by
  refine⟨e3,by omega,by simp,λc c0 c1 hc=>absurd (GA c c0 c1) hc,λk i hh=>absurd hh (e4 k i),λc d c0 c1 hc=>absurd (GA c c0 c1) hc,λx hx=> .inl hx,λx hx=>⟨hx,by rw[e2];exact(zs x hx).1.2.2.2.1⟩,s3.imp λ{a b} h=>?_⟩
  unfold tY at h;omega
 unfold ot.f;refine Ok.bind (P:=λq=>oB t l K q.aN) ?_ λq hq=>Ok.pure ⟨J,hq⟩
 refine(OX zs ht ⟨t,r,S,ct t.C.length cn⟩ J nT).bind λw hw=>?_
 obtain⟨w1,w2,w3,w4,n',w5⟩:=hw;rw[w1,w2];have hlen:=e3.CF;have AW:r.len=0:=pg λz=>by obtain⟨k,i,hh⟩:=e3.some z;exact e4 k i hh
 refine(ag3 zs hK ht ⟨⟨t.W,t.H,t.C⟩,r,S,ct t.C.length cn⟩ J 3000000 fuel w.wait w.todo _ n' (by show(5*vq t (ct t.C.length cn)+2*w.todo.length+w.wait.len).toNat<=3000000;have w3:w.wait.len+2*w.todo.length<=r.len+2*S.length:=w3;omega) (by rw[cY];omega) w5 w4).mono λq hq=>⟨hq.dl,λc c0 c1 hc=>?_,hq.nb,λx hx=>hq.sd x ((s2 x).2 hx)⟩
 obtain⟨b1,b2,b3,b4⟩:=hq.dv c c0 c1 hc;refine⟨b1,b2,b3,?_⟩;rcases b4 with⟨x,hx,z⟩ |z
 ·exact .inl ⟨x,(s2 x).1 hx,z⟩
 ·exact .inr z
theorem Pl (ht:mw t) {K':Int} {D D':List Int} (h:oB t l K D) (h':oB t l K' D'): ∀(n:Nat) (c:Int),0<=c->c<t.C.length->rd D c≠cn->rd D c<=n->rd D' c≠cn/\rd D' c<=rd D c:=by
 intro n
 induction n with
 |zero=>
  intro c c0 c1 hc hn;obtain⟨a1,a2,a3,a4⟩:=h.dv c c0 c1 hc;rcases a4 with⟨x,hx,e1,e2⟩ |⟨q,d,q0,q1,d0,d3,e1,e2,e3⟩
  ·have:=h'.sd x hx;rw[e1] at this;exact⟨this.1,by omega⟩
  ·have:=(h.dv q q0 q1 e1).1;have:=ht.2 q q0 q1;omega
 |succ n ih=>
  intro c c0 c1 hc hn;obtain⟨a1,a2,a3,a4⟩:=h.dv c c0 c1 hc;rcases a4 with⟨x,hx,e1,e2⟩ |⟨q,d,q0,q1,d0,d3,e1,e2,e3⟩
  ·have:=h'.sd x hx;rw[e1] at this;exact⟨this.1,by omega⟩
  ·have hC:=ht.2 q q0 q1;obtain⟨b1,b2⟩:=ih q q0 q1 e1 U;have:=h'.nb q d q0 q1 b1 d0 d3 U (by rw[e2];exact a3)
   rw[e2] at this;exact⟨this.1,by omega⟩
theorem ahJ (ht:mw t) {K':Int} {D D':List Int} (h:oB t l K D) (h':oB t l K' D') {c:Int} (c0:0<=c) (c1:c<t.C.length):rd D c=rd D' c:=by
 by_cases z:rd D c=cn
 ·by_cases z':rd D' c=cn
  ·rw[z,z']
  ·exact absurd z (Pl ht h' h (rd D' c).toNat c c0 c1 z' (by have:=(h'.dv c c0 c1 z').1;omega)).1
 ·have q:=Pl ht h h' (rd D c).toNat c c0 c1 z (by have:=(h.dv c c0 c1 z).1;omega)
  have:=Pl ht h' h (rd D' c).toNat c c0 c1 q.1 (by have:=(h'.dv c c0 c1 q.1).1;omega)
  omega
theorem ahK (ht:mw t) {D:List Int} (h:oB t l K D) {c:Int} (c0:0<=c) (c1:c<t.C.length) (hc:rd D c=0): ∃x∈l,x.Cell=c/\x.Key=0:=by
 have hI:cn=1099511627776:=rfl;obtain⟨a1,a2,a3,a4⟩:=h.dv c c0 c1 U;rcases a4 with⟨x,hx,e1,e2⟩ |⟨q,d,q0,q1,d0,d3,e1,e2,e3⟩
 ·exact⟨x,hx,e1,by omega⟩
 ·have:=(h.dv q q0 q1 e1).1;have:=ht.2 q q0 q1;omega
end
section
variable {t : aF} {l : List aX} {K : Int} {D : List Int}
def uG (l:List aX) (c s:Int):Int:=(kY.f l c s).getD 0
theorem QJ (hb:l.length<=1000000) (c s:Int):kY.f l c s=some (uG l c s):=by
 obtain⟨r,e⟩:=ZF l c s hb;unfold uG;rw[e];rfl
theorem afy (ht:mw t) {c s:Int} (c0:0<=c) (c1:c<t.C.length) (s0:0<=s) (s3:s<=3):Dr.f ⟨t,l,D⟩ c s=some (eG t c s):=by
 have hl:=ou ht.1;obtain⟨a1,a2,a3,a4,a5,_⟩:=ht.1;have hq:0<=c/t.W/\c/t.W<=c:=⟨Int.ediv_nonneg c0 U,Int.ediv_le_self _ c0⟩;unfold Dr.f eG;simp only;rw[ah (show ¬t.W=0 by omega),ah (show ¬t.W=0 by omega),pZ c0,mV c0,wi (x:=c/t.W) U U,wi (x:=t.W-1) U U,wi (x:=t.H-1) U U,wi (x:=c-t.W) U U,wi (x:=c+1) U U,wi (x:=c+t.W) U U,wi (x:=c-1) U U]
 have hs:s=0∨s=1∨s=2∨s=3:=U;rcases hs with rfl |rfl |rfl |rfl
 ·by_cases z:0<c/t.W<;>simp[z]
 ·by_cases z:c%t.W<t.W-1<;>simp[z]
 ·by_cases z:c/t.W<t.H-1<;>simp[z]
 ·by_cases z:0<c%t.W<;>simp[z]
def AD (t:aF) (l:List aX) (D:List Int) (c s:Int):Bool:=
 if eG t c s<0 then uG l c s==rd D c else decide (rd t.C (eG t c s)≠255/\rd t.C (eG t c s)+rd D (eG t c s)=rd D c)
theorem ahL (hK:K<=1100000000) (h:oB t l K D) {c:Int} (c0:0<=c) (c1:c<t.C.length):0<=rd D c/\rd D c<=1099511627776:=by
 have hI:cn=1099511627776:=rfl
 by_cases z:rd D c=cn
 ·omega
 ·have:=h.dv c c0 c1 z;omega
theorem KU (ht:mw t) (hb:l.length<=1000000) (hK:K<=1100000000) (h:oB t l K D) {c s:Int} (c0:0<=c) (c1:c<t.C.length) (s0:0<=s) (s3:s<=3):kZ.f ⟨t,l,D⟩ c s=some (AD t l D c s):=by
 have Ed:=h.dl;unfold kZ.f AD;rw[afy ht c0 c1 s0 s3];simp only[aM]
 by_cases z:eG t c s<0
 ·rw[ah z,ah z,QJ hb];simp only[aM];rw[ah U]
 ·have hn:=(K9 ht.1 (s:=s) c0 c1).resolve_left U;have hC:=ht.2 _ hn.1 hn.2;have hD:=ahL hK h hn.1 hn.2;rw[aj z,aj z,ah hn]
  by_cases y:rd t.C (eG t c s)=255
  ·rw[aj (by simp[y])];simp[y]
  ·rw[ah (by simpa using y),ah U,ah U,wi (x:=rd t.C (eG t c s)) U U,wi U U]
   simp only[aM,Option.some.injEq];rw[nD];simp[y]
def Pg (t:aF) (l:List aX) (D:List Int) (c:Int):Int:=
 if AD t l D c 0=true then 0 else if AD t l D c 1=true then 1 else if AD t l D c 2=true then 2 else if AD t l D c 3=true then 3 else 5
def DW (t:aF) (l:List aX) (D:List Int) (c:Int):Int:=if rd D c=cn then 5 else if rd D c=uG l c 4 then 4 else Pg t l D c
theorem ahg (ht:mw t) (hb:l.length<=1000000) (hK:K<=1100000000) (h:oB t l K D) {c:Int} (c0:0<=c) (c1:c<t.C.length):Dq.f ⟨t,l,D⟩ c=some (DW t l D c):=by
 have Ed:=h.dl;unfold Dq.f ET.f DW Pg;simp only[KU ht hb hK h c0 c1 (dP 0) (by omega:(0:Int)<=3),KU ht hb hK h c0 c1 (by omega:(0:Int)<=1) U,KU ht hb hK h c0 c1 (by omega:(0:Int)<=2) U,KU ht hb hK h c0 c1 (by omega:(0:Int)<=3) U,QJ hb,aM,beq_self_eq_true,if_true]
 rw[ah U]
 by_cases z:rd D c=cn
 ·rw[ah (by simpa using z),ah z]
 ·rw[aj (by simpa using z),aj z]
  by_cases y:rd D c=uG l c 4
  ·rw[ah (by simpa using y),ah y]
  ·rw[aj (by simpa using y),aj y]
   repeat' split
   all_goals rfl
structure An (t:aF) (l:List aX) (K:Int) (f:gp):Prop where
 aN:oB t l K f.ez
 dl:f.cK.length=t.C.length
 dir: ∀c:Int,0<=c->c<t.C.length->rd f.cK c=DW t l f.ez c
theorem aa0 (ht:mw t) (hb:l.length<=1000000) (hK:K<=1100000000) (h:oB t l K D) (z:Int): ∀(n k:Nat) (x:List Int) (i:Int),(t.C.length-i).toNat<=n->n<k->0<=i->i<=t.C.length->(x.length:Int)=i->(∀c:Int,0<=c->c<i->rd x c=DW t l D c)->
 Ok (oq.l0 k t l (D,z) x i) (λr=>r.2=0/\An t l K r.1):=by
 have ni:=ou ht.1;have Ed:=h.dl;have fin: ∀(k:Nat) (x:List Int) (i:Int),¬i<t.C.length->i<=t.C.length->(x.length:Int)=i->(∀c:Int,0<=c->c<i->rd x c=DW t l D c)->Ok (oq.l0 (k+1) t l (D,z) x i) (λr=>r.2=0/\An t l K r.1):=λk x i hi eY hx ha=>by
  rw[oq.l0,aj (by simp only;omega)]
  exact Ok.pure ⟨J,h,by simp only;omega,λc c0 c1=>ha c c0 U⟩
 intro n
 induction n with
 |zero=>
  intro k x i hn hk hi eY hx ha;obtain⟨k,rfl⟩:=bz hk;exact fin k x i U eY hx ha
 |succ n ih=>
  intro k x i hn hk hi eY hx ha;obtain⟨k,rfl⟩:=bz hk
  by_cases aS:i<t.C.length
  ·rw[oq.l0,wi U U];refine Ok.pos (by simp only;omega) (Ok.eq (ahg ht hb hK h hi aS) (Ok.br U (ih k _ (i+1) U U U U bo λc c0 c1=>?_)))
   rw[Hu c0 U];split
   ·rename_i q;rw[q,hx]
   ·exact ha c c0 U
  ·exact fin k x i aS eY hx ha
theorem RF (ht:mw t) (hb:l.length<=1000000) (hK:K<=1100000000) (hl: ∀x∈l,qP t x/\x.Key+254*256<=K):Ok (oq.f t l) (λr=>r.2=0/\An t l K r.1):=by
 have ni:=ou ht.1;unfold oq.f;refine(WQ ht hb hK hl).bind λv hv=>?_
 obtain⟨D,z⟩:=v;simp only at hv⊢;exact Ok.neg (by simp[hv.1]) (aa0 ht hb hK hv.2 z t.C.length fuel [] 0 U (by rw[cY];omega) U U J (λc c0 c1=>by omega))
end
def jK (m:aF) (s:Int) (n:Nat):List Int:=(List.range n).map λl:Nat=>rd m.C (cu m.W m.H s (l:Int))
theorem Bt (m:aF) (s:Int) (n:Nat):(jK m s n).length=n:=by simp[jK]
theorem ah3 (m:aF) (s:Int) (n:Nat):jK m s (n+1)=jK m s n++[rd m.C (cu m.W m.H s (n:Int))]:=by
 simp[jK,List.range_succ]
theorem ah2 (m:aF) (s:Int) (n a:Nat):jK m s (n+a)=jK m s n++(List.range a).map λx:Nat=>rd m.C (cu m.W m.H s ((n+x:Nat):Int)):=by
 simp only[jK,List.range_add,List.map_append,List.map_map];rfl
theorem AO {w h s l:Int} (hs:bC w h s) (h0:0<=l) (h1:l<(ay w h s).1*(ay w h s).2):0<=cu w h s l/\cu w h s l<w*h:=by
 obtain⟨a1,a2,a3,a4,a5,a6⟩:=vT hs h0 h1;obtain⟨p1,p2,p3,p4⟩:=uf hs;have e:cu w h s l=(16*(s/(bn w h).1)+l/(ay w h s).1)*w+(16*(s%(bn w h).1)+l%(ay w h s).1):=by
  unfold cu;rw[ah ⟨hs,h0,h1⟩]
 rw[e];exact tm U a5 U a6
theorem global_row {w h s y x:Int} (hs:bC w h s) (y0:0<=y) (y1:y<(ay w h s).2) (x0:0<=x) (x1:x<(ay w h s).1):cu w h s (y*(ay w h s).1+x)=cu w h s (y*(ay w h s).1)+x:=by
 obtain⟨z1,z2,z3,z4⟩:=pV hs;have hl:=tm (w:=(ay w h s).1) (h:=(ay w h s).2) x0 x1 y0 y1;have xI:=tm (w:=(ay w h s).1) (h:=(ay w h s).2) (x:=0) U U y0 y1;have n1:=pL (a:=(ay w h s).1) (x:=x) (y:=y) x0 x1;have n0:=pL (a:=(ay w h s).1) (x:=0) (y:=y) U U;rw[Int.add_zero] at n0 xI;unfold cu;rw[ah ⟨hs,hl⟩,ah ⟨hs,xI⟩,n1.1,n1.2,n0.1,n0.2];omega
theorem ahZ {L:List Int} {lo:Int} {a:Nat} (h0:0<=lo) (h1:lo+a<=L.length):aB L lo (lo+a)=(List.range a).map λx:Nat=>rd L (lo+(x:Int)):=by
 apply List.ext_getElem
 ·simp[aB];omega
 ·intro i h2 h3;have hi:i<a:=by simpa using h3
  simp only[aB,List.getElem_take,List.getElem_drop,List.getElem_map,List.getElem_range];rw[iP U]
  congr 1;omega
theorem ah4 {m:aF} (hm:nz m) (s:Int):oc.f m s=some (aF.mk (ay m.W m.H s).1 (ay m.W m.H s).2 (jK m s ((ay m.W m.H s).1*(ay m.W m.H s).2).toNat)):=by
 unfold oc.f;rw[Wn,aM];have hz:=size_le m.W m.H s;have TQ:(ay m.W m.H s).1*(ay m.W m.H s).2<=16*16:=kT hz.1 hz.2.2.1 hz.2.1 hz.2.2.2;have hp0:0<=(ay m.W m.H s).1*(ay m.W m.H s).2:=nj hz.1 hz.2.2.1;have key: ∀(n k:Nat) (i:Int),i+n=(ay m.W m.H s).1*(ay m.W m.H s).2->0<=i->n<k->
  oc.l0 k m s (ay m.W m.H s) (jK m s i.toNat) i=some (aF.mk (ay m.W m.H s).1 (ay m.W m.H s).2 (jK m s ((ay m.W m.H s).1*(ay m.W m.H s).2).toNat)):=by
  intro n
  induction n with
  |zero=>
   intro k i hi h0 hk;obtain⟨k,rfl⟩: ∃q,k=q+1:=⟨k-1,by omega⟩
   rw[oc.l0,bc (x:=_*_) U U,aj U];have:i=(ay m.W m.H s).1*(ay m.W m.H s).2:=U;rw[this]
  |succ n ih=>
   intro k i hi h0 hk;obtain⟨k,rfl⟩: ∃q,k=q+1:=⟨k-1,by omega⟩
   have hs:bC m.W m.H s:=by
    by_cases hs:bC m.W m.H s
    ·exact hs
    ·have:ay m.W m.H s=(0,0):=by unfold ay;rw[aj hs]
     rw[this] at hi;simp at hi;omega
   have hg:=AO hs h0 (by omega:i<_)
   have hl:=hm.2.1;rw[oc.l0,bc (x:=_*_) U U,ah U,agP,aM,ah U,ah (by rw[Bt];omega),bc U U]
   have:=ih k (i+1) U U U;rw[show(i+1).toNat=i.toNat+1 by omega,ah3,show((i.toNat:Nat):Int)=i by omega] at this
   exact this
 exact key ((ay m.W m.H s).1*(ay m.W m.H s).2).toNat fuel 0 U U (by rw[r7];omega)
def F3 (g:bw) (s:Int):aF×Bool:=if bC g.m.W g.m.H s then(aF.mk (ay g.m.W g.m.H s).1 (ay g.m.W g.m.H s).2 (jK g.m s ((ay g.m.W g.m.H s).1*(ay g.m.W g.m.H s).2).toNat),true) else(aF.mk 0 0 [],false)
theorem Pw {g:bw} {more:Int} (h:cL g more) (s:Int):l9.f g s=some (F3 g s):=by
 have hl:=h.ok.2.1;unfold l9.f F3;have e0:iL.f g=some (g.m.W,g.m.H):=rfl;rw[e0,aM,ER,aM]
 by_cases hs:bC g.m.W g.m.H s
 ·have hz:=pV hs;rw[aj bo,ah hs];have TQ:(ay g.m.W g.m.H s).1*(ay g.m.W g.m.H s).2<=16*16:=kT U U hz.2.1 hz.2.2.2;have key: ∀(n k:Nat) (i:Int),i+n=(ay g.m.W g.m.H s).2->0<=i->n<k->
   l9.l0 k g s (g.m.W,g.m.H) (ay g.m.W g.m.H s) (jK g.m s (i*(ay g.m.W g.m.H s).1).toNat) i=some (aF.mk (ay g.m.W g.m.H s).1 (ay g.m.W g.m.H s).2 (jK g.m s ((ay g.m.W g.m.H s).1*(ay g.m.W g.m.H s).2).toNat),true):=by
   intro n
   induction n with
   |zero=>
    intro k i hi h0 hk;obtain⟨k,rfl⟩: ∃q,k=q+1:=⟨k-1,by omega⟩
    rw[l9.l0,aj U];have:i=(ay g.m.W g.m.H s).2:=U;rw[this,mv]
   |succ n ih=>
    intro k i hi h0 hk;obtain⟨k,rfl⟩: ∃q,k=q+1:=⟨k-1,by omega⟩
    have qY:i<(ay g.m.W g.m.H s).2:=U;have b0:0<=i*(ay g.m.W g.m.H s).1:=nj h0 U;have b1:i*(ay g.m.W g.m.H s).1+(ay g.m.W g.m.H s).1<=(ay g.m.W g.m.H s).1*(ay g.m.W g.m.H s).2:=by
     have:(i+1)*(ay g.m.W g.m.H s).1<=(ay g.m.W g.m.H s).2*(ay g.m.W g.m.H s).1:=BL U U;rw[Int.add_mul,Int.one_mul,mv (ay g.m.W g.m.H s).2] at this;exact this
    have lo:=AO hs b0 U;have hi3:=AO (l:=i*(ay g.m.W g.m.H s).1+((ay g.m.W g.m.H s).1-1)) hs U U;rw[global_row hs h0 qY U U] at hi3;have hc:=pJ h.ok.1;rw[l9.l0,ah qY,bc (x:=_*_) U U,Jp,aM];simp only[bc (x:=cu g.m.W g.m.H s (i*(ay g.m.W g.m.H s).1)+(ay g.m.W g.m.H s).1) U U];rw[ah U];have jS:(((ay g.m.W g.m.H s).1.toNat:Nat):Int)=(ay g.m.W g.m.H s).1:=U;have El:=ahZ (L:=g.m.C) (lo:=cu g.m.W g.m.H s (i*(ay g.m.W g.m.H s).1)) (a:=(ay g.m.W g.m.H s).1.toNat) U U;rw[jS] at El;rw[El,ah (by rw[Bt];simp;omega),bc U U]
    have xJ:jK g.m s (i*(ay g.m.W g.m.H s).1).toNat++(List.range (ay g.m.W g.m.H s).1.toNat).map (λx:Nat=>rd g.m.C (cu g.m.W g.m.H s (i*(ay g.m.W g.m.H s).1)+(x:Int)))=jK g.m s ((i+1)*(ay g.m.W g.m.H s).1).toNat:=by
     rw[show((i+1)*(ay g.m.W g.m.H s).1).toNat=(i*(ay g.m.W g.m.H s).1).toNat+(ay g.m.W g.m.H s).1.toNat by rw[Int.add_mul,Int.one_mul];omega,ah2]
     congr 1
     apply List.map_congr_left;intro x hx;have wk:=List.mem_range.mp hx;rw[show(((i*(ay g.m.W g.m.H s).1).toNat+x:Nat):Int)=i*(ay g.m.W g.m.H s).1+(x:Int) by omega,global_row hs h0 qY U U]
    rw[xJ];exact ih k (i+1) U U U
  have:=key (ay g.m.W g.m.H s).2.toNat fuel 0 U U (by rw[r7];omega)
  rw[show((0:Int)*(ay g.m.W g.m.H s).1).toNat=0 by simp] at this
  exact this
 ·have:ay g.m.W g.m.H s=(0,0):=by unfold ay;rw[aj hs]
  rw[this,ah bd,aj hs]
theorem abo (g:bw) (hb:g.m.C.length<=1099511627776):xx.f g=some g.m:=by
 unfold xx.f;rw[Q6 _ hb];rfl
theorem GU (w h c:Int):rE.f w h c=some (cy w h c):=by
 unfold rE.f cy;simp only[OK,aM,ru,ER]
 by_cases hc:cR w h c
 ·rw[aj (by rw[Ey];simp[hc]),ah hc]
  simp only[Bg];rw[ah hc];simp only;have hp:=ve hc;have hw:=Oi hc;have hz:=size_le w h (aQ w h c);have h5:0<=c/w%16*(ay w h (aQ w h c)).1:=nj U U;have h6:c/w%16*(ay w h (aQ w h c)).1<=16*16:=kT U U U U;rw[mV hp.2.2.1,mV hp.1,bc (x:=_*_) U U,bc U U]
 ·rw[ah (by rw[Ey];exact hc),aj hc]
theorem zD {w h c:Int} (hc:cR w h c):0<=cy w h c/\cy w h c<(ay w h (aQ w h c)).1*(ay w h (aQ w h c)).2:=by
 have me:=Oi hc;have q_:=ve hc;have h1:=tm (w:=(ay w h (aQ w h c)).1) (h:=(ay w h (aQ w h c)).2) (x:=c%w%16) (y:=c/w%16) U me.1 U me.2;have e4:cy w h c=c/w%16*(ay w h (aQ w h c)).1+c%w%16:=by unfold cy;rw[ah hc]
 rw[e4];exact h1
theorem oY {w h c:Int} (hc:cR w h c):bC w h (aQ w h c):=by
 unfold aQ;rw[ah hc];exact EM hc
theorem nR {w h c:Int} (hc:cR w h c):cu w h (aQ w h c) (cy w h c)=c:=by
 have me:=Oi hc;have q_:=ve hc;have TX:=Dg hc;have bY:=zD hc;unfold cu;rw[ah ⟨oY hc,bY⟩];have e3:aQ w h c=c/w/16*(bn w h).1+c%w/16:=by unfold aQ;rw[ah hc]
 have e4:cy w h c=c/w%16*(ay w h (aQ w h c)).1+c%w%16:=by unfold cy;rw[ah hc]
 have n1:=pL (a:=(bn w h).1) (x:=c%w/16) (y:=c/w/16) TX.1 TX.2.1;have n2:=pL (a:=(ay w h (aQ w h c)).1) (x:=c%w%16) (y:=c/w%16) U me.1;rw[<-e3] at n1;rw[<-e4] at n2;rw[n1.1,n1.2,n2.1,n2.2];have a1:16*(c/w/16)+c/w%16=c/w:=U;have a2:16*(c%w/16)+c%w%16=c%w:=U;rw[a1,a2];have e:=L7 hc;unfold oe at e;rw[ah ⟨hc.1,q_.1,q_.2.1,q_.2.2.1,q_.2.2.2⟩] at e;exact e
theorem Jq {w h s l k:Int} (hs:bC w h s) (h0:0<=l) (h1:l<k) (h2:k<(ay w h s).1*(ay w h s).2):cu w h s l<cu w h s k:=by
 obtain⟨a1,a2,a3,a4,a5,a6⟩:=vT hs h0 (by omega:l<_)
 obtain⟨b1,b2,b3,b4,b5,b6⟩:=vT (l:=k) hs U h2;have e1:cu w h s l=(16*(s/(bn w h).1)+l/(ay w h s).1)*w+(16*(s%(bn w h).1)+l%(ay w h s).1):=by unfold cu;rw[ah ⟨hs,h0,by omega⟩]
 have e2:cu w h s k=(16*(s/(bn w h).1)+k/(ay w h s).1)*w+(16*(s%(bn w h).1)+k%(ay w h s).1):=by unfold cu;rw[ah ⟨hs,by omega,h2⟩]
 have p:=uf hs;have hz:=pV hs;have m1:=uy l (ay w h s).1;have m2:=uy k (ay w h s).1;rw[e1,e2];have hle:l/(ay w h s).1<=k/(ay w h s).1:=Int.ediv_le_ediv U U
 by_cases hq:l/(ay w h s).1=k/(ay w h s).1
 ·rw[<-hq] at m2⊢;omega
 ·have:=BL (show 16*(s/(bn w h).1)+l/(ay w h s).1+1<=16*(s/(bn w h).1)+k/(ay w h s).1 by omega) (show 0<=w by omega)
  rw[Int.add_mul (16*(s/(bn w h).1)+l/(ay w h s).1),Int.one_mul] at this;omega
theorem aaq (w h s:Int):(qz w h s).Pairwise (· < ·):=by
 unfold qz vg;have hz:=wO w h s;rw[List.pairwise_map];have h1:((List.range ((ay w h s).1*(ay w h s).2).toNat).filter (λl:Nat=>Be w h s (l:Int))).Pairwise (· < ·):=List.Pairwise.sublist List.filter_sublist List.pairwise_lt_range;refine List.Pairwise.imp_of_mem ?_ h1;intro a b ha hb zn;have kb:=List.mem_range.mp (List.mem_filter.mp hb).1;exact Jq (Pj (w:=w) (h:=h) (s:=s) (l:=(b:Int)) U U) U U U
theorem Oz (m:aF) (s:Int):(bM m s).Pairwise (· < ·):=(aaq m.W m.H s).sublist List.filter_sublist
theorem qt {m:aF} {s c:Int} (h:c∈bM m s):lH m c=true/\bP m c/\bC m.W m.H s/\aQ m.W m.H c=s:=by
 obtain⟨h1,h2⟩:=List.mem_filter.mp h;unfold qz vg at h1;obtain⟨l,hl,rfl⟩:=List.mem_map.mp h1;have hz:=wO m.W m.H s;have kl:=List.mem_range.mp (List.mem_filter.mp hl).1;have hs:=Pj (w:=m.W) (h:=m.H) (s:=s) (l:=(l:Int)) U U;exact⟨h2,(o0.mp h2).1,hs,EL hs U U⟩
theorem wx (m:aF) (s:Int):(bM m s).length<=256:=by
 have:=Q5 m.W m.H s;have:=List.length_filter_le (lH m) (qz m.W m.H s);unfold bM;omega
theorem ae2 {w h s l:Int} (hs:bC w h s) (h0:0<=l) (h1:l<(ay w h s).1*(ay w h s).2):cy w h (cu w h s l)=l:=by
 have hc:=(F6 hs h0 h1).1;have e:=EL hs h0 h1;have bY:=zD hc;have hg:=nR hc;rw[e] at bY hg;rcases Int.lt_trichotomy (cy w h (cu w h s l)) l with q |q |q
 ·have:=Jq hs bY.1 q h1;omega
 ·exact q
 ·have:=Jq hs h0 q bY.2;omega
theorem Oh {w h a b:Int} (ha:cR w h a) (hb:cR w h b) (e:aQ w h a=aQ w h b) (zn:a<b):cy w h a<cy w h b:=by
 have ia:=zD ha;have ga:=nR ha;have ib:=zD hb;have gb:=nR hb;rw[e] at ia ga;rcases Int.lt_trichotomy (cy w h a) (cy w h b) with q |q |q
 ·exact q
 ·rw[q] at ga;omega
 ·have:=Jq (oY hb) ib.1 q ia.2;omega
abbrev dC (m:aF) (s:Int):aF:=aF.mk (ay m.W m.H s).1 (ay m.W m.H s).2 (jK m s ((ay m.W m.H s).1*(ay m.W m.H s).2).toNat)
theorem RW {g:bw} {s:Int} (hs:bC g.m.W g.m.H s):F3 g s=(dC g.m s,true):=by unfold F3;rw[ah hs]
theorem K7 {m:aF} {s l:Int} {n:Nat} (h0:0<=l) (h1:l<n):rd (jK m s n) l=rd m.C (cu m.W m.H s l):=by
 unfold jK;rw[iP bo];simp only[List.getElem_map,List.getElem_range];rw[show((l.toNat:Nat):Int)=l by omega]
variable {g : bw} {more : Int}
theorem Bh (h:cL g more) {s:Int} (hs:bC g.m.W g.m.H s):mw (dC g.m s):=by
 obtain⟨z1,z2,z3,z4⟩:=pV hs;have hz:=wO g.m.W g.m.H s;have hv: ∀c:Int,0<=c->c<((ay g.m.W g.m.H s).1*(ay g.m.W g.m.H s).2).toNat->1<=rd (dC g.m s).C c/\rd (dC g.m s).C c<=255:=λc c0 c1=>by
  show 1<=rd (jK _ _ _) c/\rd (jK _ _ _) c<=255
  rw[K7 c0 c1];have:=AO hs c0 U;exact h.rU _ this.1 this.2
 refine⟨⟨z1,z2,z3,z4,by simp[Bt];omega,λhm=>?_⟩,λc c0 c1=>hv c c0 (by rw[Bt] at c1;exact c1)⟩
 obtain⟨c,c0,c1,e⟩:=qq hm;have:=hv c c0 (by rw[Bt] at c1;exact c1)
 simp only at this;rw[e] at this;omega
theorem ud (h:cL g more) {c:Int} (hc:bP g.m c):0<=cy g.m.W g.m.H c/\cy g.m.W g.m.H c<(dC g.m (aQ g.m.W g.m.H c)).C.length/\rd (dC g.m (aQ g.m.W g.m.H c)).C (cy g.m.W g.m.H c)=iZ g c:=by
 have gw:=fM h.ok hc;have bY:=zD gw;refine⟨bY.1,by rw[Bt];omega,?_⟩
 show rd (jK _ _ _) _=_
 rw[K7 bY.1 U,nR gw];unfold iZ;rw[ah hc]
variable {t : aF} {l : List Int}
structure Fi (t:aF) (l:List Int):Prop where
 Du:mw t
 mem: ∀c∈l,0<=c/\c<t.C.length/\rd t.C c≠255
 up:l.Pairwise (· < ·)
 mF:l.length<=256
abbrev KT:Int:=65024
def yT (t:aF) (c:Int) (D:List Int):Prop:=oB t [⟨c,4,0⟩] KT D
theorem W2 (ht:mw t) {c:Int} (c0:0<=c) (c1:c<t.C.length) (c2:rd t.C c≠255):Ok (yA.f t c) (λr=>yT t c r.1/\r.2=0):=by
 unfold yA.f;refine(WQ (K:=KT) ht bd (by decide) (λx hx=>?_)).bind λr hr=>Ok.pure ⟨hr.2,hr.1⟩
 simp only[nG,rR,or_false] at hx;subst hx;exact⟨⟨c0,c1,c2,dP _,by show(0:Int)<=1073741824;decide,.inl J⟩,by show(0:Int)+254*256<=65024;decide⟩
theorem ah5 (h:Fi t l): ∀(n k:Nat) (i:Int),(l.length-i).toNat<=n->n<k->0<=i->qE.l0 k t l i=some true:=by
 have hf:=h.mF;have hl:=ou h.Du.1;have fin: ∀(k:Nat) (i:Int),¬i<l.length->qE.l0 (k+1) t l i=some true:=λk i hi=>by
  rw[qE.l0,aj hi,K8 _ U,decide_eq_true h.Du.1];rfl
 intro n
 induction n with
 |zero=>
  intro k i hn hk hi;obtain⟨k,rfl⟩:=bz hk;exact fin k i U
 |succ n ih=>
  intro k i hn hk hi;obtain⟨k,rfl⟩:=bz hk
  by_cases aS:i<l.length
  ·have hm:=h.mem _ (fV hi aS);have hc:=h.Du.2 _ hm.1 hm.2.1;have et:Bu.f t (rd l i)=some (rd t.C (rd l i)):=by rw[ah1 h.Du,ah ⟨hm.1,hm.2.1⟩]
   rw[qE.l0,ah aS,ah (c:=0<=i/\i<(aa l:Int)) ⟨hi,aS⟩,et,aM,aj (c:=(rd t.C (rd l i)==0||rd t.C (rd l i)==255)=true) bo]
   have e:(if i>0 then(if(0<=(af (i-1))/\(af (i-1))<(aa l:Int)) then(some (decide ((rd l i)<=(rd l (af (i-1)))))) else none) else(some false))=some false:=by
    by_cases z:i>0
    ·rw[ah z,wi U U,ah U,decide_eq_false (by have:=yi h.up (i:=i-1) (j:=i) U U aS;omega)]
    ·rw[aj z]
   rw[e,aM];simp only[ji,if_false];rw[wi U U];exact ih k (i+1) U U U
  ·exact fin k i aS
theorem GI {n i j:Int} (i0:0<=i) (i1:i<n) (j0:0<=j) (j1:j<n):0<=i*n/\i*n+j<n*n:=by
 have h1:=BL (show i+1<=n by omega) (show 0<=n by omega)
 have h2:=Int.mul_nonneg i0 (show 0<=n by omega)
 rw[Int.add_mul,Int.one_mul] at h1;omega
theorem Ui {n i j i' j':Int} (j0:0<=j) (j1:j<n) (j0':0<=j') (j1':j'<n) (e:i*n+j=i'*n+j'):i=i'/\j=j':=by
 have a:=pL (y:=i) j0 j1;have b:=pL (y:=i') j0' j1';rw[e] at a;exact⟨a.2.symm.trans b.2,a.1.symm.trans b.1⟩
def w8 (t:aF) (l:List Int) (j:Int) (x:List Int):Prop:=(x.length:Int)=l.length*l.length/\ ∀q:Int,0<=q->q<j-> ∃D,yT t (rd l q) D/\ ∀i:Int,0<=i->i<l.length->rd x (i*l.length+q)=rd D (rd l i)
theorem ae8 (h:Fi t l) {j:Int} (j0:0<=j) (j1:j<l.length) {D:List Int×Int} (hD:yT t (rd l j) D.1): ∀(n k:Nat) (x:List Int) (i:Int),(l.length-i).toNat<=n->n<k->0<=i->w8 t l j x->(∀q:Int,0<=q->q<i->rd x (q*l.length+j)=rd D.1 (rd l q))->
 Ok (jJ.l1 k l j D x i) (w8 t l (j+1)):=by
 have hf:=h.mF;have fin: ∀(k:Nat) (x:List Int) (i:Int),¬i<l.length->w8 t l j x->(∀q:Int,0<=q->q<i->rd x (q*l.length+j)=rd D.1 (rd l q))->Ok (jJ.l1 (k+1) l j D x i) (w8 t l (j+1)):=λk x i hi hx hq=>by
  rw[jJ.l1,aj hi];refine Ok.pure ⟨hx.1,λq q0 q1=>?_⟩
  by_cases z:q=j
  ·rw[z];exact⟨D.1,hD,λi i0 i1=>hq i i0 U⟩
  ·exact hx.2 q q0 U
 intro n
 induction n with
 |zero=>
  intro k x i hn hk hi hx hq;obtain⟨k,rfl⟩:=bz hk;exact fin k x i U hx hq
 |succ n ih=>
  intro k x i hn hk hi hx hq;obtain⟨k,rfl⟩:=bz hk
  by_cases aS:i<l.length
  ·have hm:=h.mem _ (fV hi aS);have bY:=GI hi aS j0 j1;have xK:(l.length:Int)*l.length<=256*256:=kT U U U U;rw[jJ.l1,wi (x:=i*(l.length:Int)) U U,wi (x:=i*(l.length:Int)+j) U U,wi (x:=i+1) U U];refine Ok.pos aS (Ok.br ⟨hi,aS⟩ (Ok.br (by rw[hD.dl];exact⟨hm.1,hm.2.1⟩) (Ok.br (by rw[hx.1];omega) ?_)))
   have dV: ∀c:Int,0<=c->rd (aD x (i*(l.length:Int)+j).toNat (rd D.1 (rd l i))) c=if c=i*(l.length:Int)+j then rd D.1 (rd l i) else rd x c:=λc c0=>mh U (by rw[hx.1];omega) c0
   refine ih k _ (i+1) U U U ⟨by simpa using hx.1,λq q0 q1=>?_⟩ (λq q0 q1=>?_)
   ·obtain⟨E,e1,e2⟩:=hx.2 q q0 q1;refine⟨E,e1,λr r0 r1=>?_⟩
    have:=GI r0 r1 q0 (show q<l.length by omega)
    rw[dV _ U,aj (λz=>by have:=Ui q0 U j0 j1 z;omega)]
    exact e2 r r0 r1
   ·have:=GI q0 (show q<l.length by omega) j0 j1
    rw[dV _ U]
    by_cases z:q=i
    ·rw[ah (by rw[z]),z]
    ·rw[aj (λy=>z (Ui j0 j1 j0 j1 y).1)];exact hq q q0 U
  ·exact fin k x i aS hx hq
theorem ae7 (h:Fi t l): ∀(n k:Nat) (x:List Int) (j:Int),(l.length-j).toNat<=n->n<k->0<=j->j<=l.length->w8 t l j x->Ok (jJ.l0 k t l x j) (λr=>r.2=0/\w8 t l l.length r.1):=by
 have hf:=h.mF;have fin: ∀(k:Nat) (x:List Int) (j:Int),j<=l.length-> ¬j<l.length->w8 t l j x->Ok (jJ.l0 (k+1) t l x j) (λr=>r.2=0/\w8 t l l.length r.1):=λk x j hj hi hx=>by
  rw[jJ.l0,aj hi];have:j=l.length:=U;subst this;exact Ok.pure ⟨J,hx⟩
 intro n
 induction n with
 |zero=>
  intro k x j hn hk hj jm hx;obtain⟨k,rfl⟩:=bz hk;exact fin k x j jm U hx
 |succ n ih=>
  intro k x j hn hk hj jm hx;obtain⟨k,rfl⟩:=bz hk
  by_cases aS:j<l.length
  ·have hm:=h.mem _ (fV hj aS);rw[jJ.l0,wi U U];refine Ok.pos aS (Ok.bind (P:=w8 t l (j+1)) (Ok.br ⟨hj,aS⟩ ((W2 h.Du hm.1 hm.2.1 hm.2.2).bind λD hD=>?_)) λr hr=>ih k r (j+1) U U U U hr);exact ae8 h hj aS hD.1 l.length fuel x 0 U (by rw[cY];omega) U hx (λq q0 q1=>by omega)
  ·exact fin k x j jm aS hx
theorem ae6 (h:Fi t l):Ok (jJ.f t l) (λr=>r.2=0/\w8 t l l.length r.1):=by
 have hf:=h.mF;unfold jJ.f qE.f;have xK:(l.length:Int)*l.length<=256*256:=kT U U U U;have AV:0<=(l.length:Int)*l.length:=Int.mul_nonneg U U;rw[ah5 h l.length fuel 0 U (by rw[cY];omega) U,wi U U]
 refine Ok.eq J (Ok.neg bd (Ok.br U (ae7 h l.length fuel _ 0 U (by rw[cY];omega) U U ⟨by simp;omega,λq q0 q1=>by omega⟩)))
variable {g : bw} {more : Int}
theorem PG (h:cL g more) (s:Int):qj.f g s=some (fS g s):=by
 unfold qj.f fS;have hv:=h.vs
 by_cases hs:0<=s/\s<dB g.m.W g.m.H
 ·rw[aj U,aM,aj bo,ah U,ah hs]
 ·by_cases h0:s<0
  ·rw[ah h0,aj hs];rfl
  ·rw[aj h0,aM,ah bo,aj hs]
abbrev A5 (m:aF) (s:Int):List Int:=(bM m s).map (cy m.W m.H)
theorem Ku (h:cL g more) {s:Int} (hs:bC g.m.W g.m.H s):Fi (dC g.m s) (A5 g.m s):=by
 refine⟨Bh h hs,λc hc=>?_,?_,by simpa using wx g.m s⟩
 ·obtain⟨x,hx,rfl⟩:=List.mem_map.1 hc;obtain⟨n1,n2,n3,n4⟩:=qt hx;have:=ud h n2;rw[n4] at this;refine⟨this.1,this.2.1,?_⟩;rw[this.2.2];unfold iZ;rw[ah n2];exact(o0.1 n1).2
 ·rw[List.pairwise_map];refine(Oz g.m s).imp_of_mem λ{a b} ha hb zn=>?_
  obtain⟨_,a2,_,a4⟩:=qt ha;obtain⟨_,b2,_,b4⟩:=qt hb;exact Oh (fM h.ok a2) (fM h.ok b2) (a4.trans b4.symm) zn
def enc (d:Int):Int:=if d=cn then-1 else d
structure BK (m:aF) (s:Int) (p:pK):Prop where
 nodes:p.nodes=bM m s
 len_:(p.aN.length:Int)=(bM m s).length*(bM m s).length
 Ra: ∀j:Int,0<=j->j<(bM m s).length-> ∃D,yT (dC m s) (cy m.W m.H (rd (bM m s) j)) D/\ ∀i:Int,0<=i->i<(bM m s).length->rd p.aN (i*(bM m s).length+j)=enc (rd D (cy m.W m.H (rd (bM m s) i)))
theorem Uh {x:Int} (h0: -2147483648<=x) (h1:x<=2147483647):IntKind.i32.wrap x=x:=by
 unfold IntKind.wrap IntKind.signed IntKind.bits;simp;omega
theorem afh (v:Int) (nodes:List Int) (T:List Int×Int) (hT: ∀c:Int,0<=c->c<T.1.length->rd T.1 c=cn∨(0<=rd T.1 c/\rd T.1 c<=KT)) (hb:T.1.length<=65536): ∀(n k:Nat) (x:List Int) (i:Int),(T.1.length-i).toNat<=n->n<k->0<=i->x.length=T.1.length->(∀c:Int,0<=c->c<i->rd x c=enc (rd T.1 c))->
 Ok (jr.l1 k v nodes T x i) (λp=>p.version=v/\p.nodes=nodes/\p.aN.length=T.1.length/\ ∀c:Int,0<=c->c<T.1.length->rd p.aN c=enc (rd T.1 c)):=by
 have hI:cn=1099511627776:=rfl;have MJ:KT=65024:=rfl;have fin: ∀(k:Nat) (x:List Int) (i:Int),¬i<T.1.length->x.length=T.1.length->(∀c:Int,0<=c->c<i->rd x c=enc (rd T.1 c))->Ok (jr.l1 (k+1) v nodes T x i) (λp=>p.version=v/\p.nodes=nodes/\p.aN.length=T.1.length/\ ∀c:Int,0<=c->c<T.1.length->rd p.aN c=enc (rd T.1 c)):=λk x i hi hx ha=>by
  rw[jr.l1,aj hi];exact Ok.pure ⟨J,J,hx,λc c0 c1=>ha c c0 U⟩
 intro n
 induction n with
 |zero=>
  intro k x i hn hk hi hx ha;obtain⟨k,rfl⟩:=bz hk;exact fin k x i U hx ha
 |succ n ih=>
  intro k x i hn hk hi hx ha;obtain⟨k,rfl⟩:=bz hk
  by_cases aS:i<T.1.length
  ·rw[jr.l1,wi (x:=i+1) U U];have s1: ∀(y:List Int) (u c:Int),y.length=T.1.length->0<=c->rd (aD y i.toNat u) c=if c=i then u else rd y c:=λy u c hy c0=>mh hi U c0
   refine Ok.pos aS (Ok.br ⟨hi,aS⟩ (Ok.br U (Ok.ite (λq=>Ok.br bo ?_) λq=>?_)))
   ·have q:rd T.1 i≠cn:=by simpa using q
    have hd:=(hT i hi aS).resolve_left q;rw[Uh U U];refine ih k _ (i+1) U U U (by simpa using hx) λc c0 c1=>?_
    rw[s1 _ _ c (by simpa using hx) c0,s1 _ _ c hx c0]
    by_cases z:c=i
    ·rw[ah z,z];unfold enc;rw[aj q]
    ·rw[aj z,aj z];exact ha c c0 U
   ·have q:rd T.1 i=cn:=by simpa using q
    refine ih k _ (i+1) U U U (by simpa using hx) λc c0 c1=>?_
    rw[s1 _ _ c hx c0]
    by_cases z:c=i
    ·rw[ah z,z];unfold enc;rw[ah q]
    ·rw[aj z];exact ha c c0 U
  ·exact fin k x i aS hx ha
theorem afg (h:cL g more) {s:Int} (hs:bC g.m.W g.m.H s) (v:Int): ∀(n k:Nat) (x:List Int) (i:Int),((bM g.m s).length-i).toNat<=n->n<k->0<=i->i<=(bM g.m s).length->x=(A5 g.m s).take i.toNat->
 Ok (jr.l0 k (g.m.W,g.m.H) (dC g.m s,true) v (bM g.m s) x i) (λp=>p.version=v/\BK g.m s p):=by
 have hl:=wx g.m s;have fin: ∀(k:Nat) (x:List Int) (i:Int),¬i<(bM g.m s).length->i<=(bM g.m s).length->x=(A5 g.m s).take i.toNat->Ok (jr.l0 (k+1) (g.m.W,g.m.H) (dC g.m s,true) v (bM g.m s) x i) (λp=>p.version=v/\BK g.m s p):=λk x i hi eY hx=>by
  rw[jr.l0,aj hi];have hx:x=A5 g.m s:=by rw[hx,List.take_of_length_le bo]
  subst hx;refine(ae6 (Ku h hs)).bind λT hT=>?_
  obtain⟨_,t1,t2⟩:=hT;have hlen:((A5 g.m s).length:Int)=(bM g.m s).length:=by simp
  have xK:((bM g.m s).length:Int)*(bM g.m s).length<=256*256:=kT U U U U;rw[hlen] at t1 t2;have hT': ∀c:Int,0<=c->c<T.1.length->rd T.1 c=cn∨(0<=rd T.1 c/\rd T.1 c<=KT):=λc c0 c1=>by
   have hp:0<((bM g.m s).length:Int):=by
    apply pg;intro z;have:((bM g.m s).length:Int)=0:=U;rw[this] at t1;omega
   have hm:=Int.emod_nonneg c (show((bM g.m s).length:Int)≠0 by omega)
   have TK:=Ax c hp;have Gp:=uy c (bM g.m s).length;have hq:c/(bM g.m s).length<(bM g.m s).length:=Int.ediv_lt_of_lt_mul hp U;have Gy:0<=c/(bM g.m s).length:=Int.ediv_nonneg c0 U;obtain⟨D,d1,d2⟩:=t2 _ hm TK;have:=d2 _ Gy hq;rw[mv,Gp] at this;rw[this];have lQ:=(Ku h hs).mem _ (fV (a:=A5 g.m s) Gy U)
   by_cases z:rd D (rd (A5 g.m s) (c/(bM g.m s).length))=cn
   ·exact .inl z
   ·have:=d1.dv _ lQ.1 lQ.2.1 z;exact .inr ⟨this.1,this.2.1⟩
  refine Ok.br U ((afh v _ T hT' U T.1.length fuel _ 0 U (by rw[cY];omega) U bd (λc c0 c1=>by omega)).mono λp hp=>⟨hp.1,hp.2.1,by rw[hp.2.2.1];exact t1,λj j0 j1=>?_⟩)
  obtain⟨D,d1,d2⟩:=t2 j j0 j1;have hr: ∀i:Int,0<=i->i<(bM g.m s).length->rd (A5 g.m s) i=cy g.m.W g.m.H (rd (bM g.m s) i):=λi i0 i1=>Wd i0 i1
  rw[hr j j0 j1] at d1;refine⟨D,d1,λi i0 i1=>?_⟩
  have:=GI i0 i1 j0 j1;rw[hp.2.2.2 _ U (by rw[t1];omega),d2 i i0 i1,hr i i0 i1]
 intro n
 induction n with
 |zero=>
  intro k x i hn hk hi eY hx;obtain⟨k,rfl⟩:=bz hk;exact fin k x i U eY hx
 |succ n ih=>
  intro k x i hn hk hi eY hx;obtain⟨k,rfl⟩:=bz hk
  by_cases aS:i<(bM g.m s).length
  ·rw[jr.l0,wi (x:=i+1) U U];refine Ok.pos aS (Ok.br ⟨hi,aS⟩ (Ok.eq (GU ..) (Ok.br (by rw[hx];simp;omega) (ih k _ (i+1) U U U U ?_))))
   rw[hx,ah0 hi (by simpa using aS),Wd hi aS]
  ·exact fin k x i aS eY hx
theorem afj (h:cL g more) {s:Int} (hs:bC g.m.W g.m.H s) (M:dK):Ok (jr.f M s g) (λp=>p.version=fS g s/\BK g.m s p):=by
 have hl:=wx g.m s;unfold jr.f;refine Ok.eq (Bk g) (Ok.eq ((Pw h s).trans (by rw[RW hs])) ?_)
 rw[PG h,U6 h];exact Ok.eq J (afg h hs _ (bM g.m s).length fuel [] 0 U (by rw[cY];omega) U U J)
structure Aw (g:bw) (M:dK):Prop where
 len_:(M.parts.length:Int)=dB g.m.W g.m.H
 le: ∀s:Int,bC g.m.W g.m.H s->(rd M.parts s).version<=g.bS
 ok: ∀s:Int,bC g.m.W g.m.H s->(rd M.parts s).version=fS g s->BK g.m s (rd M.parts s)
 cl:M.clean=g.bS-> ∀s:Int,bC g.m.W g.m.H s->(rd M.parts s).version=fS g s
 L8:M.clean<=g.bS
 iY:0<=M.count/\M.count<=1000000000000
def AM (g:bw) (M:dK) (s:Nat):Bool:=(rd M.parts (s:Int)).version !=fS g s
def qe (g:bw) (M:dK) (n:Nat):List Int:=((List.range n).filter (AM g M)).map Int.ofNat
theorem aaI (g:bw) (M:dK) (n:Nat):qe g M (n+1)=if AM g M n=true then qe g M n++[(n:Int)] else qe g M n:=by
 unfold qe;rw[List.range_succ,List.filter_append,List.map_append]
 by_cases h:AM g M n=true
 ·rw[ah h,List.filter_cons_of_pos h];rfl
 ·rw[aj h,List.filter_cons_of_neg h];simp
theorem Mh (g:bw) (M:dK) (n:Nat):(qe g M n).length<=n:=by
 unfold qe;simp only[List.length_map];have:=List.length_filter_le (AM g M) (List.range n);simpa using this
theorem Mi {M:dK} {n:Nat} {s:Int}:s∈qe g M n↔0<=s/\s<n/\(rd M.parts s).version≠fS g s:=by
 unfold qe;simp only[List.mem_map,List.mem_filter,List.mem_range];constructor
 ·rintro⟨a,⟨a1,a2⟩,rfl⟩;exact⟨by simp,by simpa using a1,by simpa[AM] using a2⟩
 ·rintro⟨h0,h1,h2⟩;refine⟨s.toNat,⟨by omega,?_⟩,by simp;omega⟩
  unfold AM;rw[show((s.toNat:Nat):Int)=s by omega];simpa using h2
theorem aaH (h:cL g more) (M:dK) (hb:M.parts.length<=4096): ∀(n k:Nat) (i:Nat),i+n=M.parts.length->n<k->nX.l0 k M g (qe g M i) (i:Int)=some (qe g M M.parts.length):=by
 intro n
 induction n with
 |zero=>
  intro k i hi hk;obtain⟨k,rfl⟩:=bz hk;rw[nX.l0,aj U];have:i=M.parts.length:=U;rw[this]
 |succ n ih=>
  intro k i hi hk;obtain⟨k,rfl⟩:=bz hk;have hl:=Mh g M i;have:=ih k (i+1) U U;rw[aaI] at this;rw[nX.l0,ah U,ah U,PG h,aM,wi U U];have ed:((rd M.parts (i:Int)).version !=fS g i)=AM g M i:=rfl;rw[ed]
  by_cases z:AM g M i=true
  ·rw[ah z] at this;rw[ah z,ah U];exact this
  ·rw[aj z] at this;rw[aj z];exact this
variable {M : dK}
theorem aaG (h:cL g more) (hM:Aw g M):nX.f M g=some (qe g M M.parts.length):=by
 unfold nX.f;have hl:=hM.len_;have hc:=nP g.m.W g.m.H;rw[FZ,aM]
 by_cases z:M.clean=g.bS
 ·rw[ah (by simpa using z)]
  congr 1
  refine(List.eq_nil_iff_forall_not_mem.2 λs hs=>?_).symm;obtain⟨a,b,c⟩:=Mi.1 hs;exact c (hM.cl z s ⟨a,by omega⟩)
 ·rw[aj (by simpa using z)]
  exact aaH h M U M.parts.length fuel 0 U (by rw[cY];omega)
structure qN (g:bw) (M:dK):Prop where
 ms:Aw g M
 all: ∀s:Int,bC g.m.W g.m.H s->(rd M.parts s).version=fS g s
theorem qN.part (h:qN g M) {s:Int} (hs:bC g.m.W g.m.H s):BK g.m s (rd M.parts s):=h.ms.ok s hs (h.all s hs)
theorem Xp {x:Int} (h1:0<=x) (h2:x<=18446744073709551615):eW x=x:=rG h1 h2
theorem Ab {a b:Int} (a0:0<=a) (a1:a<=4611686018427387904) (b0:0<=b) (b1:b<=4611686018427387904):sN.f a b=some (a+b):=by
 unfold sN.f;rw[Xp U U,aj U,Xp U U]
theorem agI (h:cL g more) (hv: ∀s:Int,bC g.m.W g.m.H s->fS g s<=g.bS) (L:List Int) (hL: ∀s∈L,bC g.m.W g.m.H s) (hb:L.length<=4096) (N:Int): ∀(n k:Nat) (i:Int) (M:dK),(L.length-i).toNat<=n->n<k->0<=i->i<=L.length->Aw g M->M.count+(L.length-i)=N->
 (∀s:Int,bC g.m.W g.m.H s->(rd M.parts s).version=fS g s∨ ∃j:Int,i<=j/\j<L.length/\rd L j=s)->N<=1000000000000->
 Ok (nY.l0 k g L M i) (λr=>r.1=L.length/\qN g r.2/\r.2.clean=g.bS/\r.2.count=N):=by
 have fin: ∀(k:Nat) (i:Int) (M:dK),¬i<L.length->i<=L.length->Aw g M->M.count+(L.length-i)=N->(∀s:Int,bC g.m.W g.m.H s->(rd M.parts s).version=fS g s∨ ∃j:Int,i<=j/\j<L.length/\rd L j=s)->Ok (nY.l0 (k+1) g L M i) (λr=>r.1=L.length/\qN g r.2/\r.2.clean=g.bS/\r.2.count=N):=λk i M hi eY hM hN ha=>by
  rw[nY.l0,aj hi];have sa: ∀s:Int,bC g.m.W g.m.H s->(rd M.parts s).version=fS g s:=λs hs=>(ha s hs).resolve_right λ⟨j,j0,j1,_⟩=>by omega
  refine Ok.eq (FZ g) (Ok.pure ⟨J,⟨⟨hM.len_,hM.le,hM.ok,λ_=>sa,dP _,hM.iY⟩,sa⟩,J,?_⟩);simp only;omega
 intro n
 induction n with
 |zero=>
  intro k i M hn hk hi eY hM hN ha R_;obtain⟨k,rfl⟩:=bz hk;exact fin k i M U eY hM hN ha
 |succ n ih=>
  intro k i M hn hk hi eY hM hN ha R_;obtain⟨k,rfl⟩:=bz hk
  by_cases aS:i<L.length
  ·have hs:=hL _ (fV hi aS);have hc:=hM.iY;rw[nY.l0,wi (x:=i+1) U U];refine Ok.pos aS (Ok.br ⟨hi,aS⟩ ((afj h hs M).bind λp hp=>Ok.br (by rw[hM.len_];exact hs) (Ok.eq (Ab hc.1 U U U) ?_)))
   have dV: ∀s:Int,0<=s->rd (aD M.parts (rd L i).toNat p) s=if s=rd L i then p else rd M.parts s:=λs s0=>mh hs.1 (by rw[hM.len_];exact hs.2) s0
   refine ih k (i+1) _ U U U U ⟨by simpa using hM.len_,λs fT=>?_,λs fT e=>?_,λe s fT=>?_,hM.L8,by simp only;omega⟩ (by simp only;omega) (λs fT=>?_) R_
   ·rw[dV s fT.1];split
    ·rw[hp.1];exact hv _ hs
    ·exact hM.le s fT
   ·rw[dV s fT.1] at e⊢;split
    ·rename_i z;rw[z];exact hp.2
    ·rename_i z;rw[aj z] at e;exact hM.ok s fT e
   ·rw[dV s fT.1];split
    ·rename_i z;rw[z];exact hp.1
    ·exact hM.cl e s fT
   ·simp only;rw[dV s fT.1]
    by_cases z:s=rd L i
    ·rw[ah z,z];exact .inl hp.1
    ·rw[aj z];rcases ha s fT with y |⟨j,j0,j1,y⟩
     ·exact .inl y
     ·refine .inr ⟨j,?_,j1,y⟩;have:j≠i:=λw=>z (by rw[<-y,w])
      omega
  ·exact fin k i M aS eY hM hN ha
theorem agH (h:cL g more) (hv: ∀s:Int,bC g.m.W g.m.H s->fS g s<=g.bS) (hM:Aw g M) (hc:M.count+4096<=1000000000000):
 Ok (nY.f M g) (λr=>qN g r.2/\r.2.clean=g.bS/\r.2.count=M.count+(qe g M M.parts.length).length):=by
 unfold nY.f;have hl:=hM.len_;have oP:=nP g.m.W g.m.H;have Ed:=Mh g M M.parts.length;refine Ok.eq (aaG h hM) ((agI h hv _ (λs hs=>?_) U (M.count+(qe g M M.parts.length).length) (qe g M M.parts.length).length fuel 0 M U (by rw[cY];omega) U U hM U (λs hs=>?_) U).mono λr hr=>hr.2)
 ·obtain⟨a,b,_⟩:=Mi.1 hs;exact⟨a,by omega⟩
 ·by_cases z:(rd M.parts s).version=fS g s
  ·exact .inl z
  ·obtain⟨j,j0,j1,e⟩:=qq ((Mi (n:=M.parts.length)).2 ⟨hs.1,by have:=hs.2;omega,z⟩)
   exact .inr ⟨j,j0,j1,e⟩
theorem afk (h:cL g more) (hv: ∀s:Int,bC g.m.W g.m.H s->1<=fS g s): ∃M,sx.f g=some (some M)/\Aw g M/\M.count=0/\M.clean=0/\ ∀s:Int,bC g.m.W g.m.H s->(rd M.parts s).version=0:=by
 unfold sx.f;have oP:=nP g.m.W g.m.H;have e:(bn g.m.W g.m.H).1*(bn g.m.W g.m.H).2=dB g.m.W g.m.H:=rfl;rw[Bk,aM,Di,aM,e,wi U U,ah U];have h0: ∀s:Int,bC g.m.W g.m.H s->(rd (ct (dB g.m.W g.m.H).toNat (default:pK)) s).version=0:=λs hs=>by
  rw[wA hs.1 (by have:=hs.2;omega)];rfl
 have Nv:=h.ep;refine⟨_,J,⟨by simp;omega,λs hs=>by simp only;rw[h0 s hs];omega,λs hs e=>?_,λe=>by simp only at e;omega,by simp only;omega,by simp⟩,J,J,h0⟩
 simp only at e;rw[h0 s hs] at e;have:=hv s hs;omega
section
variable {g : bw} {more : Int} {s : ju} {k : Int} {ord : List Int}
abbrev KF:Int:=104603678
abbrev CB:Int:=1000000000000
structure qM (c:gL) (b:Int):Prop where
 re:0<=c.bJ/\c.bJ<=b
 se:0<=c.bK/\c.bK<=b
 bu:0<=c.bH/\c.bH<=b
 hi:0<=c.bF/\c.bF<=b
 st:0<=c.bU/\c.bU<=b
 ev:0<=c.bO/\c.bO<=b
theorem qM.mono {c:gL} {b b':Int} (h:qM c b) (hb:b<=b'):qM c b':=by
 obtain⟨a1,a2,a3,a4,a5,a6⟩:=h;exact⟨by omega,by omega,by omega,by omega,by omega,by omega⟩
structure BN (g:bw) (s:ju) (k:Int) (ord:List Int):Prop where
 u':sU s.keys k ord
 fl:s.fields.length=s.keys.aw.length
 ok: ∀c:Int,0<=c->c<s.fields.length->bP g.m (rd s.keys.aw c).key.1/\bC g.m.W g.m.H (rd s.keys.aw c).key.2/\(rd s.fields c).version<=g.bS/\
  ((rd s.fields c).version=fS g (rd s.keys.aw c).key.2->(rd s.fields c).ug.length<=1000000/\An (dC g.m (rd s.keys.aw c).key.2) (rd s.fields c).ug KF (rd s.fields c).field)
def QZ (s:ju) (a b v:Int) (l:List aX):Prop:= ∃c,dR s.keys.fj (a,b)=some c/\(rd s.fields c).version=v/\(rd s.fields c).ug=l
theorem Vo (f:gp) (h1:f.ez.length<=1000) (h2:f.cK.length<=1000):uh.f f=some f:=by
 unfold uh.f qD.f;rw[ah bo,aM,ah bo,aM]
 cases f;rfl
theorem KG {c:Int} (h0:0<=c) (h1:c<=1000000000000):mQ.f c=some (c+1):=by
 unfold mQ.f;rw[Ab h0 U U U];rfl
theorem aat (l:List aX) (hb:l.length<=1000000):sK.f l=some l:=by
 unfold sK.f;rw[ah bo];rfl
theorem Mx (h:cL g more) {b:Int} (hb:bC g.m.W g.m.H b) {l:List aX} {f:gp} (hf:An (dC g.m b) l KF f):f.ez.length<=1000/\f.cK.length<=1000:=by
 have:=ou (Bh h hb).1;rw[hf.aN.dl,hf.dl];omega
structure PW (g:bw) (s:ju) (k:Int) (ord:List Int) (a b:Int) (l:List aX) (r:gp×Int×ju):Prop where
 code:r.2.1=0
 F2:An (dC g.m b) l KF r.1
 sh: ∃c A B,BN g r.2.2 k (c::(A++B))/\(rd r.2.2.keys.aw c).key=(a,b)/\(ord=A++c::B∨ord=A++B)/\
  (∀d∈A++B,(rd r.2.2.keys.aw d).key=(rd s.keys.aw d).key/\rd r.2.2.fields d=rd s.fields d)/\
  (dR s.keys.fj (a,b)=some c∨(dR s.keys.fj (a,b)=none/\(ord=A++B∨(B=[]/\(s.keys.aw.length:Int)=k))))
 now:QZ r.2.2 a b (fS g b) l
 hit:QZ s a b (fS g b) l->r.2.2.count=⟨s.count.bJ,s.count.bK,s.count.bH,s.count.bF+1,s.count.bU,s.count.bO⟩
 iY:r.2.2.count.bJ=s.count.bJ/\r.2.2.count.bK=s.count.bK/\s.count.bH<=r.2.2.count.bH/\s.count.bF<=r.2.2.count.bF/\r.2.2.count.bH+r.2.2.count.bF=s.count.bH+s.count.bF+1/\s.count.bU<=r.2.2.count.bU/\s.count.bO<=r.2.2.count.bO/\r.2.2.count.bU<=s.count.bU+1/\r.2.2.count.bO<=s.count.bO+1
theorem ahv (h:cL g more) (hv: ∀b:Int,bC g.m.W g.m.H b->fS g b<=g.bS) (hs:BN g s k ord) (hc:qM s.count CB) {a b:Int} (ha:bP g.m a) (hb:bC g.m.W g.m.H b) (l:List aX) (JY:l.length<=1000000) (hl: ∀x∈l,qP (dC g.m b) x/\x.Key+254*256<=KF):
 Ok (mP.f s a b (fS g b) (dC g.m b) l) (PW g s k ord a b l):=by
 have ht:=Bh h hb;have JW:=hs.u'.kb;have Gq:=hs.u'.mF;obtain⟨c1,c2,c3,c4,c5,c6⟩:=hc;unfold mP.f;refine(WK ht l JY).bind λm hm=>?_
 have:m=true:=hm.2 λx hx=>(hl x hx).1;subst this;refine Ok.neg bd ((ah9 hs.u' a b).bind λv NZ=>?_);obtain⟨A,B,hL,zo⟩:=NZ;have hfl:=hs.fl;have pC:=(hL.mem v.1).1 (na ..);obtain⟨T7,T8⟩:v.1∉A/\v.1∉B:=by
  have:=(List.nodup_cons.1 hL.nd).1;simpa using this
 obtain⟨X,hX,Sf,Ce⟩: ∃X,(if(v.1==(aa s.fields:Int))=true then(if(aa s.fields+1<=1099511627776) then(some (s.fields++[(qC.mk 0 [] (gp.mk [] []))])) else none) else(some s.fields))=some X/\X.length=v.2.2.2.aw.length/\ ∀d:Int,0<=d->d<s.fields.length->rd X d=rd s.fields d:=by
  rcases zo with⟨_,_,_,J3,h5,_⟩ |⟨_,_,_,_,h4,h5,_⟩ |⟨_,_,_,J3,_,h4,h5,_⟩
  ·rw[aj bo];exact⟨_,J,by omega,λ_ _ _=>rfl⟩
  ·rw[ah bo,ah U];exact⟨_,J,by simp;omega,λd d0 d1=>vf d0 d1⟩
  ·rw[aj bo];exact⟨_,J,by omega,λ_ _ _=>rfl⟩
 rw[hX,aM];refine Ok.br U ?_;have R9:KF<=1100000000:=by decide
 have Co:(rd v.2.2.2.aw v.1).key=(a,b):=by
  rcases zo with⟨_,_,h3,_,_,h6⟩ |⟨_,_,_,_,_,_,_,h6⟩ |⟨_,_,_,_,_,_,_,_,h6⟩
  ·rw[h6 _ pC.1];exact((hs.u'.sl _ _).1 h3).2.2
  ·exact h6
  ·exact h6
 have NC: ∀d∈A++B,0<=d/\d<s.fields.length/\(rd v.2.2.2.aw d).key=(rd s.keys.aw d).key:=λd hd=>by
  have uX:d≠v.1:=λz=>by rw[z] at hd;exact(List.mem_append.1 hd).elim T7 T8
  have Nt:d∈ord:=by
   rcases zo with⟨_,_,_,e,_⟩ |⟨_,_,_,e,_⟩ |⟨_,_,_,e,_⟩<;>rw[e]
   ·rcases List.mem_append.1 hd with q |q
    ·exact List.mem_append_left _ q
    ·exact List.mem_append_right _ (pj _ q)
   ·exact hd
   ·rcases List.mem_append.1 hd with q |q
    ·exact List.mem_append_left _ q
    ·exact List.mem_append_right _ (pj _ q)
  have hr:=(hs.u'.mem d).1 Nt;refine⟨hr.1,by omega,?_⟩
  rcases zo with⟨_,_,_,_,_,h6⟩ |⟨_,_,_,_,_,_,h6,_⟩ |⟨_,_,_,_,_,_,_,h6,_⟩
  ·exact h6 d hr.1
  ·exact h6 d hr.1 hr.2
  ·exact h6 d hr.1 uX
 have TP:ord=A++v.1::B∨ord=A++B:=by
  rcases zo with⟨_,_,_,e,_⟩ |⟨_,_,_,e,_⟩ |⟨_,_,_,e,_⟩
  ·exact .inl e
  ·exact .inr e
  ·exact .inl e
 have hold:dR s.keys.fj (a,b)=some v.1∨(dR s.keys.fj (a,b)=none/\(ord=A++B∨(B=[]/\(s.keys.aw.length:Int)=k))):=by
  rcases zo with⟨_,_,h3,_⟩ |⟨_,_,h3,h4,_⟩ |⟨_,_,h3,_,h5,h6,_⟩
  ·exact .inl h3
  ·exact .inr ⟨h3,.inl h4⟩
  ·exact .inr ⟨h3,.inr ⟨h5,h6⟩⟩
 have hq:(if v.2.1=true then(if((rd X v.1).version==fS g b)=true then((Bi.f ((rd X v.1).ug) l).bind λv7=>some v7) else(some false)) else(some false))=some (decide (v.2.1=true/\(rd X v.1).version=fS g b/\(rd X v.1).ug=l)):=by
  by_cases z:v.2.1=true
  ·rw[ah z]
   by_cases y:(rd X v.1).version=fS g b
   ·rw[ah (by simpa using y)]
    have hlen:(rd X v.1).ug.length<=1000000:=by
     rcases zo with⟨_,_,h3,J3,h5,h6⟩ |⟨h1,_⟩ |⟨h1,_⟩
     ·have aS:v.1<s.fields.length:=U;rw[Ce _ pC.1 aS] at y⊢;have:=(hs.ok _ pC.1 aS).2.2.2;rw[<-h6 _ pC.1,Co] at this;exact(this y).1
     ·rw[h1] at z;simp at z
     ·rw[h1] at z;simp at z
    rw[ahN _ _ hlen];simp[z,y]
   ·rw[aj (by simpa using y)];simp[y]
  ·rw[aj z];simp[z]
 rw[hq,aM];refine Ok.ite (λq=>?_) λq=>?_
 ·obtain⟨q1,q2,q3⟩:=of_decide_eq_true q;rcases zo with⟨h1,h2,h3,J3,h5,h6⟩ |⟨h1,_⟩ |⟨h1,_⟩
  rotate_left
  ·rw[h1] at q1;simp at q1
  ·rw[h1] at q1;simp at q1
  have aS:v.1<s.fields.length:=U;have Tz:An (dC g.m b) l KF (rd X v.1).field:=by
   have:=(hs.ok _ pC.1 aS).2.2.2;rw[<-h6 _ pC.1,Co] at this;rw[Ce _ pC.1 aS] at q2 q3⊢;have:=(this q2).2;rw[q3] at this;exact this
  have hlen:=Mx h hb Tz;refine Ok.eq (KG c4.1 c4.2) (Ok.eq (Vo _ hlen.1 hlen.2) (Ok.pure ⟨J,Tz,⟨v.1,A,B,⟨hL,Sf,λd d0 d1=>?_⟩,Co,TP,λd hd=>?_,hold⟩,⟨v.1,(hL.sl _ _).2 ⟨pC.1,pC.2,Co⟩,q2,q3⟩,λ_=>rfl,⟨J,J,dP _,by show s.count.bF<=s.count.bF+1;omega,by show s.count.bH+(s.count.bF+1)=s.count.bH+s.count.bF+1;omega,dP _,dP _,by show s.count.bU<=s.count.bU+1;omega,by show s.count.bO<=s.count.bO+1;omega⟩⟩))
  ·simp only at d1⊢;have Tt:d<s.fields.length:=U;rw[h6 d d0,Ce d d0 Tt];exact hs.ok d d0 Tt
  ·obtain⟨e0,e1,e2⟩:=NC d hd;exact⟨e2,Ce d e0 e1⟩
 ·have mg: ∃S,(if v.2.1=true then((mQ.f s.count.bU).bind λv12=>some v12) else(some s.count.bU))=some S/\s.count.bU<=S/\S<=s.count.bU+1:=by
   split
   ·rw[KG c5.1 c5.2];exact⟨_,J,by omega,dP _⟩
   ·exact⟨_,J,dP _,by omega⟩
  have JT: ∃S,(if v.2.2.1=true then((mQ.f s.count.bO).bind λv12=>some v12) else(some s.count.bO))=some S/\s.count.bO<=S/\S<=s.count.bO+1:=by
   split
   ·rw[KG c6.1 c6.2];exact⟨_,J,by omega,dP _⟩
   ·exact⟨_,J,dP _,by omega⟩
  obtain⟨S,eS,S1,S2⟩:=mg;obtain⟨E,eE,E1,E2⟩:=JT;rw[eS,aM,eE,aM,KG c3.1 c3.2,aM];refine(RF ht JY R9 hl).bind λf hf=>Ok.eq (aat l JY) (Ok.eq (Vo _ (Mx h hb hf.2).1 (Mx h hb hf.2).2) (Ok.pure ?_));have dV: ∀d:Int,0<=d->rd (aD X (ax v.1) (qC.mk (fS g b) l f.1)) d=if d=v.1 then qC.mk (fS g b) l f.1 else rd X d:=λd d0=>mh pC.1 U d0
  refine⟨rfl,hf.2,⟨v.1,A,B,⟨hL,by simpa using Sf,λd d0 d1=>?_⟩,Co,TP,λd hd=>?_,hold⟩,⟨v.1,(hL.sl _ _).2 ⟨pC.1,pC.2,Co⟩,?_,?_⟩,λ⟨c,k1,k2,k3⟩=>?_,⟨rfl,rfl,by show s.count.bH<=s.count.bH+1;omega,dP _,by show s.count.bH+1+s.count.bF=s.count.bH+s.count.bF+1;omega,S1,E1,S2,E2⟩⟩
  ·simp only[nF] at d1⊢;rw[dV d d0]
   by_cases z:d=v.1
   ·rw[ah z,z,Co];exact⟨ha,hb,hv b hb,λ_=>⟨JY,hf.2⟩⟩
   ·rw[aj z];have Nt:d∈A++B:=by
     have:=(hL.mem d).2 ⟨d0,by omega⟩
     exact(List.mem_cons.1 this).resolve_left z
    obtain⟨e0,e1,e2⟩:=NC d Nt;rw[e2,Ce d e0 e1];exact hs.ok d e0 e1
  ·obtain⟨e0,e1,e2⟩:=NC d hd;have uX:d≠v.1:=λz=>by rw[z] at hd;exact(List.mem_append.1 hd).elim T7 T8
   refine⟨e2,?_⟩;simp only;rw[dV d e0,aj uX];exact Ce d e0 e1
  ·simp only;rw[dV _ pC.1,ah J]
  ·simp only;rw[dV _ pC.1,ah J]
  ·exfalso;rcases zo with⟨h1,h2,h3,J3,h5,h6⟩ |⟨_,_,h3,_⟩ |⟨_,_,h3,_⟩
   ·rw[h3] at k1;simp only[Option.some.injEq] at k1;subst k1;have aS:v.1<s.fields.length:=U;have q: ¬(v.2.1=true/\(rd X v.1).version=fS g b/\(rd X v.1).ug=l):=by simpa using q
    rw[Ce _ pC.1 aS] at q;exact q ⟨h1,k2,k3⟩
   ·rw[h3] at k1;simp at k1
   ·rw[h3] at k1;simp at k1
theorem ahB {k:Int} (h1:1<=k) (h2:k<=1000000): ∃s,yv.f k=some (some s)/\sU s.keys k []/\s.fields=[]/\s.count=⟨0,0,0,0,0,0⟩:=by
 obtain⟨l,e,hl⟩:=ae1 h1 h2;unfold yv.f;rw[aj U,e];exact⟨_,J,hl,J,J⟩
theorem RN (h:sU s.keys k ord): ∃s',pU.f s=some s'/\sU s'.keys k []/\s'.fields=[]/\s'.count=s.count:=by
 obtain⟨l,e,hl⟩:=aar h;unfold pU.f;rw[e];exact⟨_,J,hl,J,J⟩
theorem BN.empty (g:bw) (h:sU s.keys k []) (hf:s.fields=[]):BN g s k []:=by
 have hl:s.keys.aw.length=0:=by
  apply pg;intro z;have:=(h.mem 0).2 U;simp at this
 exact⟨h,by rw[hf,hl];rfl,λc c0 c1=>by rw[hf] at c1;simp at c1;omega⟩
end
variable {g : bw} {more : Int} {M : dK}
theorem ae0 (x y:Int):cmp_Less_int.f x y=some (decide (x<y)):=by
 unfold cmp_Less_int.f cmp_isNaN_int.f;simp
theorem ZN (x:List Int) (t:Int) (hx:x.Pairwise (· < ·)) (hb:x.length<=1000000): ∀(n k:Nat) (i j:Int),(j-i).toNat<=n->n<k->0<=i->i<=j->j<=x.length->(∀c:Int,0<=c->c<i->rd x c<t)->(∀c:Int,j<=c->c<x.length->t<=rd x c)->
 Ok (oZ.l0 k x t i j) (λr=>0<=r/\r<=x.length/\(∀c:Int,0<=c->c<r->rd x c<t)/\(∀c:Int,r<=c->c<x.length->t<=rd x c)):=by
 have fin: ∀(k:Nat) (i j:Int),¬i<j->0<=i->i<=j->j<=x.length->(∀c:Int,0<=c->c<i->rd x c<t)->(∀c:Int,j<=c->c<x.length->t<=rd x c)->Ok (oZ.l0 (k+1) x t i j) (λr=>0<=r/\r<=x.length/\(∀c:Int,0<=c->c<r->rd x c<t)/\(∀c:Int,r<=c->c<x.length->t<=rd x c)):=λk i j Gr h0 h1 h2 ha hb=>by
  rw[oZ.l0,aj Gr];exact Ok.pure ⟨h0,by omega,ha,λc c0 c1=>hb c U c1⟩
 intro n
 induction n with
 |zero=>
  intro k i j hn hk h0 h1 h2 ha hb;obtain⟨k,rfl⟩:=bz hk;exact fin k i j U h0 h1 h2 ha hb
 |succ n ih=>
  intro k i j hn hk h0 h1 h2 ha hb;obtain⟨k,rfl⟩:=bz hk
  by_cases aS:i<j
  ·have e:af (fL (eW (af (i+j))) (2^1))=(i+j)/2:=by
    rw[wi (x:=i+j) U U,rG U U,Int.fdiv_eq_ediv_of_nonneg _ (by decide),show(2:Int)^1=2 from rfl,wi U U]
   rw[oZ.l0,e,wi (x:=(i+j)/2+1) U U];refine Ok.pos aS (Ok.br U (Ok.eq (ae0 ..) (Ok.ite (λq=>?_) λq=>?_)))
   ·have q:=of_decide_eq_true q;refine ih k _ j U U U U h2 (λc c0 c1=>?_) hb
    by_cases z:c=(i+j)/2
    ·rw[z];exact q
    ·have:=yi hx (i:=c) (j:=(i+j)/2) c0 U U;omega
   ·have q: ¬rd x ((i+j)/2)<t:=by simpa using q
    refine ih k i _ U U h0 U U ha (λc c0 c1=>?_)
    by_cases z:c=(i+j)/2
    ·rw[z];omega
    ·have:=yi hx (i:=(i+j)/2) (j:=c) U U c1;omega
  ·exact fin k i j aS h0 h1 h2 ha hb
theorem ZM (x:List Int) (t:Int) (hx:x.Pairwise (· < ·)) (hb:x.length<=1000000):Ok (oZ.f x t) (λr=>(r.2=true↔t∈x)/\(r.2=true->0<=r.1/\r.1<x.length/\rd x r.1=t)):=by
 unfold oZ.f Bm.f;refine(ZN x t hx hb x.length fuel 0 x.length U (by rw[cY];omega) U U U (λc c0 c1=>by omega) (λc c0 c1=>by omega)).bind λr hr=>?_
 obtain⟨r0,r1,r2,r3⟩:=hr;have oQ:(r<x.length->rd x r≠t)->t∉x:=λh hm=>by
  obtain⟨c,c0,c1,e⟩:=qq hm;rcases Int.lt_trichotomy c r with q |q |q
  ·have:=r2 c c0 q;omega
  ·subst q;exact h c1 e
  ·have:=yi hx r0 q c1;have:=r3 r U U;omega
 by_cases h1:r<x.length
 ·rw[ah h1,ah ⟨r0,h1⟩]
  by_cases h2:rd x r=t
  ·rw[ah (by simpa using h2)]
   exact Ok.pure ⟨⟨λ_=>by rw[<-h2];exact fV r0 h1,λ_=>rfl⟩,λ_=>⟨r0,h1,h2⟩⟩
  ·rw[aj (by simpa using h2)]
   have:=oQ λ_=>h2
   simp only[aM,bne_self_eq_false,ji,if_false];exact Ok.pure ⟨by simpa using this,by simp⟩
 ·rw[aj h1];have:=oQ λq=>absurd q h1
  exact Ok.pure ⟨by simpa using this,by simp⟩
def node (m:aF) (c:Int):Prop:=c∈bM m (aQ m.W m.H c)
theorem ye {m:aF} {c:Int} (h:node m c):lH m c=true/\bP m c:=⟨(qt h).1,(qt h).2.1⟩
theorem KC {m:aF} {s c:Int} (h:c∈bM m s):node m c:=by
 unfold node;rw[(qt h).2.2.2];exact h
theorem RK (h:cL g more) (hF:qN g M) (c:Int):Ok (tK.f M c g) (λr=>(¬cR g.m.W g.m.H c/\r=(none,0,false))∨(cR g.m.W g.m.H c/\r.1=some (aQ g.m.W g.m.H c)/\(r.2.2=true↔node g.m c)/\(r.2.2=true->0<=r.2.1/\r.2.1<(bM g.m (aQ g.m.W g.m.H c)).length/\rd (bM g.m (aQ g.m.W g.m.H c)) r.2.1=c))):=by
 unfold tK.f Es.f;refine Ok.eq (Bk g) (Ok.eq (ru ..) (Ok.ite (λq=>Ok.pure (.inl ⟨Dh.1 q,J⟩)) λq=>?_));have hc:cR g.m.W g.m.H c:=pg λz=>q (Dh.2 z);have hs:=oY hc;have hp:=hF.part hs;refine Ok.br (by rw[hF.ms.len_];exact hs) ?_
 rw[hp.nodes];refine Ok.bind (Ok.bind (ZM _ c (Oz ..) (by have:=wx g.m (aQ g.m.W g.m.H c);omega)) λr hr=>Ok.pure (P:=λr:Int×Bool=>(r.2=true↔node g.m c)/\(r.2=true->0<=r.1/\r.1<(bM g.m (aQ g.m.W g.m.H c)).length/\rd (bM g.m (aQ g.m.W g.m.H c)) r.1=c)) hr) λr hr=>Ok.pure (.inr ⟨hc,J,hr⟩)
theorem afN (hF:qN g M) (s:Int) (hs:bC g.m.W g.m.H s):xW.f M s g=some (bM g.m s):=by
 have hp:=hF.part hs;have hl:=wx g.m s;unfold xW.f qD.f;have:=hs.1;have:=hs.2;rw[hF.ms.len_,aj U,hp.nodes];simp only[aM];rw[aj bo,ah hs,ah bo];rfl
def Comes (m:aF) (b:Int) (e:d_):Prop:=
 (e.To∈bM m (aQ m.W m.H b)/\e.To≠b/\e.kE≠cn/\ ∃D,yT (dC m (aQ m.W m.H b)) (cy m.W m.H b) D/\e.kE=rd D (cy m.W m.H e.To))∨
 (node m e.To/\aQ m.W m.H e.To≠aQ m.W m.H b/\(∃d:Int,0<=d/\d<=3/\e.To=bj m.W m.H b d)/\e.kE=rd m.C b)
theorem aaR {d:Int} (h:d=cn∨(0<=d/\d<=KT)):(if(enc d != -1)=true then some (af (enc d)) else some 1099511627776)=some d:=by
 have hI:cn=1099511627776:=rfl;have hK:KT=65024:=rfl;unfold enc
 by_cases z:d=cn
 ·simp[z]
 ·have:=h.resolve_left z;rw[aj z,ah bo,wi U U]
theorem aek (h:cL g more) (hF:qN g M) {b:Int} (hb:node g.m b) (v:Option Int×Int×Bool) (hv:0<=v.2.1/\v.2.1<(bM g.m (aQ g.m.W g.m.H b)).length/\rd (bM g.m (aQ g.m.W g.m.H b)) v.2.1=b)
 (Q:List d_->Prop) (JS: ∀x:List d_,x.length<=256->(∀e,e∈x↔Comes g.m b e/\aQ g.m.W g.m.H e.To=aQ g.m.W g.m.H b)->Ok (gZ.l1 fuel M b g (aQ g.m.W g.m.H b) (g.m.W,g.m.H) x 0) Q):
 ∀(n k:Nat) (i:Int) (x:List d_),((bM g.m (aQ g.m.W g.m.H b)).length-i).toNat<=n->n<k->0<=i->i<=(bM g.m (aQ g.m.W g.m.H b)).length->x.length<=i->
 (∀e,e∈x↔Comes g.m b e/\aQ g.m.W g.m.H e.To=aQ g.m.W g.m.H b/\ ∃j:Int,0<=j/\j<i/\rd (bM g.m (aQ g.m.W g.m.H b)) j=e.To)->
 Ok (gZ.l0 k M b g v (aQ g.m.W g.m.H b) x i) Q:=by
 have bY:=(ye hb).2;have hs:=oY (fM h.ok bY);have hp:=hF.part hs;have hN:=wx g.m (aQ g.m.W g.m.H b);have Gu:=Ku h hs;have hI:cn=1099511627776:=rfl;have MJ:KT=65024:=rfl;generalize hS:aQ g.m.W g.m.H b=s at*;have TU:=Oz g.m s;have fin: ∀(k:Nat) (i:Int) (x:List d_),¬i<(bM g.m s).length->i<=(bM g.m s).length->x.length<=i->(∀e,e∈x↔Comes g.m b e/\aQ g.m.W g.m.H e.To=s/\ ∃j:Int,0<=j/\j<i/\rd (bM g.m s) j=e.To)->Ok (gZ.l0 (k+1) M b g v s x i) Q:=λk i x hi eY hx he=>by
  rw[gZ.l0,hp.nodes,aj hi];refine Ok.eq (Bk g) (JS x U λe=>(he e).trans ⟨λq=>⟨q.1,q.2.1⟩,λq=>⟨q.1,q.2,?_⟩⟩);rcases q.1 with⟨y,_⟩ |⟨_,y,_⟩
  ·rw[hS] at y;obtain⟨j,j0,j1,z⟩:=qq y;exact⟨j,j0,by omega,z⟩
  ·rw[hS] at y;exact absurd q.2 y
 intro n
 induction n with
 |zero=>
  intro k i x hn hk hi eY hx he;obtain⟨k,rfl⟩:=bz hk;exact fin k i x U eY hx he
 |succ n ih=>
  intro k i x hn hk hi eY hx he;obtain⟨k,rfl⟩:=bz hk
  by_cases aS:i<(bM g.m s).length
  ·obtain⟨D,d1,d2⟩:=hp.Ra v.2.1 hv.1 hv.2.1;rw[hv.2.2] at d1;have ai_:=GI hi aS hv.1 hv.2.1;have xK:((bM g.m s).length:Int)*(bM g.m s).length<=256*256:=kT U U U U;have NL:=fV hi aS;have lQ:=Gu.mem _ (List.mem_map_of_mem NL);have hd:rd D (cy g.m.W g.m.H (rd (bM g.m s) i))=cn∨(0<=rd D (cy g.m.W g.m.H (rd (bM g.m s) i))/\rd D (cy g.m.W g.m.H (rd (bM g.m s) i))<=KT):=by
    by_cases z:rd D (cy g.m.W g.m.H (rd (bM g.m s) i))=cn
    ·exact .inl z
    ·have:=d1.dv _ lQ.1 lQ.2.1 z;exact .inr ⟨this.1,this.2.1⟩
   have eb:CJ.f (rd M.parts s) i v.2.1=some (rd D (cy g.m.W g.m.H (rd (bM g.m s) i))):=by
    unfold CJ.f;rw[hp.nodes,wi (x:=i*((bM g.m s).length:Int)) U U,wi U U,ah (by rw[hp.len_];omega),d2 i hi aS]
    exact aaR hd
   rw[gZ.l0,hp.nodes,ah aS,ah (c:=0<=i/\i<_) ⟨hi,aS⟩,eb,aM,wi U U];have bI:(i≠v.2.1)↔rd (bM g.m s) i≠b:=by
    constructor
    ·intro z y;rw[<-hv.2.2] at y;rcases Int.lt_or_gt_of_ne z with w |w
     ·have:=yi TU hi w hv.2.1;omega
     ·have:=yi TU hv.1 w aS;omega
    ·intro z y;rw[y] at z;exact z hv.2.2
   have zu:aQ g.m.W g.m.H (rd (bM g.m s) i)=s:=(qt NL).2.2.2;generalize hV:rd D (cy g.m.W g.m.H (rd (bM g.m s) i))=V at*;have xD: ∀e:d_,e.To=rd (bM g.m s) i->(Comes g.m b e↔i≠v.2.1/\V≠cn/\e=⟨rd (bM g.m s) i,V⟩):=λe ee=>by
    obtain⟨a,c⟩:=e;simp only at ee;subst ee;unfold Comes;rw[hS];constructor
    ·rintro(⟨_,z2,z3,E,z4,z5⟩ |⟨_,z2,_⟩)
     ·have:=ahJ Gu.Du z4 d1 lQ.1 lQ.2.1;simp only at z2 z3 z5;rw[this,hV] at z5;exact⟨bI.2 z2,by omega,by rw[z5]⟩
     ·exact absurd zu z2
    ·rintro⟨z1,z2,z3⟩;simp only[d_.mk.injEq,true_and] at z3;subst z3;exact .inl ⟨NL,bI.1 z1,z2,D,d1,hV.symm⟩
   have xJ: ∀e:d_,(Comes g.m b e/\aQ g.m.W g.m.H e.To=s/\ ∃j:Int,0<=j/\j<i+1/\rd (bM g.m s) j=e.To)↔(e∈x∨(i≠v.2.1/\V≠cn/\e=⟨rd (bM g.m s) i,V⟩)):=λe=>by
    rw[he e];constructor
    ·rintro⟨a,b',j,j0,j1,ej⟩
     by_cases z:j=i
     ·subst z;exact .inr ((xD e ej.symm).1 a)
     ·exact .inl ⟨a,b',j,j0,by omega,ej⟩
    ·rintro(⟨a,b',j,j0,j1,ej⟩ |w)
     ·exact⟨a,b',j,j0,by omega,ej⟩
     ·have ee:e.To=rd (bM g.m s) i:=by rw[w.2.2]
      exact⟨(xD e ee).2 w,by rw[ee];exact zu,i,hi,by omega,ee.symm⟩
   by_cases q:i≠v.2.1/\V≠cn
   ·rw[ah (by simp;exact q),ah U]
    refine Ok.eq J (ih k (i+1) _ U U U U bo λe=>?_);rw[xJ e];simp[q.1,q.2]
   ·rw[aj (by simp only[Bool.and_eq_true,bne_iff_ne];exact q)]
    refine Ok.eq J (ih k (i+1) x U U U U U λe=>?_);rw[xJ e];exact⟨.inl,λw=>w.resolve_right λy=>q ⟨y.1,y.2.1⟩⟩
  ·exact fin k i x aS eY hx he
theorem ael (h:cL g more) (hF:qN g M) {b:Int} (hb:node g.m b): ∀(n k:Nat) (j:Int) (x:List d_),(4-j).toNat<=n->n<k->0<=j->j<=4->x.length<=256+j->
 (∀e,e∈x↔Comes g.m b e/\(aQ g.m.W g.m.H e.To=aQ g.m.W g.m.H b∨ ∃d:Int,0<=d/\d<j/\e.To=bj g.m.W g.m.H b d))->
 Ok (gZ.l1 k M b g (aQ g.m.W g.m.H b) (g.m.W,g.m.H) x j) (λr=>r.length<=260/\ ∀e,e∈r↔Comes g.m b e):=by
 have fin: ∀(k:Nat) (j:Int) (x:List d_),¬j<=3->x.length<=256+j->j<=4->(∀e,e∈x↔Comes g.m b e/\(aQ g.m.W g.m.H e.To=aQ g.m.W g.m.H b∨ ∃d:Int,0<=d/\d<j/\e.To=bj g.m.W g.m.H b d))->Ok (gZ.l1 (k+1) M b g (aQ g.m.W g.m.H b) (g.m.W,g.m.H) x j) (λr=>r.length<=260/\ ∀e,e∈r↔Comes g.m b e):=λk j x hj hx jm he=>by
  rw[gZ.l1,aj hj];refine Ok.pure ⟨by omega,λe=>(he e).trans ⟨λq=>q.1,λq=>⟨q,?_⟩⟩⟩
  rcases q with⟨y,_⟩ |⟨_,_,⟨d,d0,d3,y⟩,_⟩
  ·exact .inl (qt y).2.2.2
  ·exact .inr ⟨d,d0,by omega,y⟩
 intro n
 induction n with
 |zero=>
  intro k j x hn hk hj jm hx he;obtain⟨k,rfl⟩:=bz hk;exact fin k j x U hx jm he
 |succ n ih=>
  intro k j x hn hk hj jm hx he;obtain⟨k,rfl⟩:=bz hk
  by_cases aS:j<=3
  ·rw[gZ.l1,wi (x:=j+1) U U];have bY:=(ye hb).2;have Eb:iZ g b=rd g.m.C b:=by unfold iZ;rw[ah bY]
   have xJ: ∀(P:Prop),(P↔node g.m (bj g.m.W g.m.H b j)/\aQ g.m.W g.m.H (bj g.m.W g.m.H b j)≠aQ g.m.W g.m.H b)-> ∀e:d_,(Comes g.m b e/\(aQ g.m.W g.m.H e.To=aQ g.m.W g.m.H b∨ ∃d:Int,0<=d/\d<j+1/\e.To=bj g.m.W g.m.H b d))↔(e∈x∨(P/\e=⟨bj g.m.W g.m.H b j,iZ g b⟩)):=λP hP e=>by
    rw[he e];constructor
    ·rintro⟨a,c |⟨d,d0,d1,c⟩⟩
     ·exact .inl ⟨a,.inl c⟩
     ·by_cases z:d=j
      ·subst z;rcases a with⟨y1,y2⟩ |⟨y1,y2,y3,y4⟩
       ·exact .inl ⟨.inl ⟨y1,y2⟩,.inl (qt y1).2.2.2⟩
       ·obtain⟨e1,e2⟩:=e;simp only at c y1 y2 y4;rw[c] at y1 y2;exact .inr ⟨hP.2 ⟨y1,y2⟩,by rw[c,y4,Eb]⟩
      ·exact .inl ⟨a,.inr ⟨d,d0,by omega,c⟩⟩
    ·rintro(⟨a,c |⟨d,d0,d1,c⟩⟩ |⟨p,rfl⟩)
     ·exact⟨a,.inl c⟩
     ·exact⟨a,.inr ⟨d,d0,by omega,c⟩⟩
     ·obtain⟨y1,y2⟩:=hP.1 p;exact⟨.inr ⟨y1,y2,⟨j,hj,aS,J⟩,Eb⟩,.inr ⟨j,hj,by omega,J⟩⟩
   have skip: ¬(node g.m (bj g.m.W g.m.H b j)/\aQ g.m.W g.m.H (bj g.m.W g.m.H b j)≠aQ g.m.W g.m.H b)->Ok (gZ.l1 k M b g (aQ g.m.W g.m.H b) (g.m.W,g.m.H) x (j+1)) (λr=>r.length<=260/\ ∀e,e∈r↔Comes g.m b e):=λz=>by
    refine ih k (j+1) x U U U U U λe=>?_
    rw[xJ False ⟨False.elim,z⟩ e];simp
   refine Ok.pos aS (Ok.eq (EW ..) ((RK h hF _).bind λr hr=>?_));rcases hr with⟨r1,rfl⟩ |⟨r1,r2,r3,r4⟩
   ·exact skip λz=>r1 (fM h.ok (ye z.1).2)
   ·rw[r2]
    show Ok (if r.2.2=true then _ else _) _
    refine Ok.ite (λq=>Ok.ite (λq'=>Ok.eq (rX h _) (Ok.br U ?_)) λq'=>?_) λq=>?_
    ·have q':aQ g.m.W g.m.H (bj g.m.W g.m.H b j)≠aQ g.m.W g.m.H b:=by simpa using q'
     refine ih k (j+1) _ U U U U bo λe=>?_
     rw[xJ True ⟨λ_=>⟨r3.1 q,q'⟩,λ_=>trivial⟩ e];simp
    ·exact skip λz=>z.2 (by simpa using q')
    ·exact skip λz=>q (r3.2 z.1)
  ·exact fin k j x aS hx jm he
theorem aej (h:cL g more) (hF:qN g M) (b:Int):Ok (gZ.f M b g) (λr=>r.length<=260/\((node g.m b/\ ∀e,e∈r↔Comes g.m b e)∨(¬node g.m b/\r=[]))):=by
 unfold gZ.f;refine(RK h hF b).bind λr hr=>?_
 rcases hr with⟨r1,rfl⟩ |⟨r1,r2,r3,r4⟩
 ·exact Ok.of (r:=[]) J (⟨by simp,.inr ⟨λz=>r1 (fM h.ok (ye z).2),J⟩⟩)
 ·rw[r2]
  show Ok (if(!r.2.2)=true then some [] else _) (λr=>r.length<=260/\((node g.m b/\ ∀e,e∈r↔Comes g.m b e)∨(¬node g.m b/\r=[])))
  by_cases q:r.2.2=true
  rotate_left
  ·refine Ok.pos (by simpa using q) (Ok.pure ⟨by simp,.inr ⟨λz=>q (r3.2 z),J⟩⟩)
  refine Ok.neg (by simp[q]) ?_
  have q:r.2.2=true:=by simpa using q
  have hb:=r3.1 q;have hs:=oY r1;have hp:=hF.part hs;have hN:=wx g.m (aQ g.m.W g.m.H b);refine Ok.br (by rw[hp.nodes,wi U U];omega) ((aek h hF hb r (r4 q) (λr=>r.length<=260/\ ∀e,e∈r↔Comes g.m b e) (λx hx he=>ael h hF hb 4 fuel 0 x bd (by rw[cY];omega) U U U λe=>(he e).trans ⟨λq=>⟨q.1,.inl q.2⟩,λq=>⟨q.1,q.2.resolve_right λ⟨d,d0,d1,_⟩=>by omega⟩⟩) 256 fuel 0 _ U (by rw[cY];omega) U U bd (λe=>⟨λq=>by simp at q,λ⟨_,_,j,j0,j1,_⟩=>by omega⟩)).mono λr hr=>⟨hr.1,.inl ⟨hb,hr.2⟩⟩)
theorem FU (h:cL g more) {b:Int} (hb:node g.m b) {e:d_} (he:Comes g.m b e):node g.m e.To/\e.To≠b/\1<=e.kE/\e.kE<=KT:=by
 have MJ:KT=65024:=rfl;have bY:=ye hb;have hs:=oY (fM h.ok bY.2);rcases he with⟨a1,a2,a3,D,a4,a5⟩ |⟨a1,a2,a3,a4⟩
 ·have Gu:=Ku h hs;have hm:=Gu.mem _ (List.mem_map_of_mem (f:=cy g.m.W g.m.H) a1);have hd:=a4.dv _ hm.1 hm.2.1 (by rw[<-a5];exact a3)
  refine⟨KC a1,a2,?_,by omega⟩
  apply pg;intro z;obtain⟨x,hx,e1,_⟩:=ahK Gu.Du a4 hm.1 hm.2.1 U;simp only[nG,rR,or_false] at hx;subst hx;have hE:=qt a1;rcases Int.lt_or_gt_of_ne a2 with w |w
  ·have:=Oh (fM h.ok hE.2.1) (fM h.ok bY.2) hE.2.2.2 w;simp only at e1;omega
  ·have:=Oh (fM h.ok bY.2) (fM h.ok hE.2.1) hE.2.2.2.symm w;simp only at e1;omega
 ·have:=h.rU b bY.2.1 bY.2.2;exact⟨a1,λz=>a2 (by rw[z]),by omega,by omega⟩
def B_ (a b:cN):Bool:=decide (a.key<b.key)||(a.key==b.key&&decide (a.item<b.item))
theorem Jb (a b:cN):zp.f a b=some (B_ a b):=by
 unfold zp.f B_
 by_cases h:a.key<b.key
 ·simp[h]
 ·by_cases g:a.key=b.key<;>simp[h,g]
theorem ah6: ∀(n k:Nat) (l:List cN) (i:Int),i.toNat<=n->n<k->i<l.length->l.length<=1099511627776->
 Ok (mL.l0 k l i) (λh=>h.l.length=l.length/\ ∀e,e∈h.l↔e∈l):=by
 intro n
 induction n with
 |zero=>
  intro k l i hn hk hi hb;obtain⟨k,rfl⟩: ∃q,k=q+1:=⟨k-1,by omega⟩
  rw[mL.l0,aj U];exact Ok.pure ⟨J,λ_=>Iff.rfl⟩
 |succ n ih=>
  intro k l i hn hk hi hb;obtain⟨k,rfl⟩: ∃q,k=q+1:=⟨k-1,by omega⟩
  rw[mL.l0];refine Ok.ite (λhp=>?_) (λ_=>Ok.pure ⟨J,λ_=>Iff.rfl⟩);have ew:af (cZ (af (i-1)) 2)=(i-1)/2:=by rw[wi (x:=i-1) U U,pZ U,wi U U]
  simp only[ew];refine Ok.br U (Ok.br U (Ok.eq (Jb _ _) (Ok.ite (λ_=>Ok.pure ⟨J,λ_=>Iff.rfl⟩) λ_=>Ok.br bo ?_)));refine(ih k _ ((i-1)/2) U U bo (by simpa using hb)).mono λh hh=>⟨by simpa using hh.1,λe=>(hh.2 e).trans (Pt U hi U U e)⟩
theorem EB (h:eJ) (k i:Int) (hb:h.l.length<1099511627776):
 Ok (mJ.f h k i) (λr=>r.l.length=h.l.length+1/\ ∀e,e∈r.l↔e∈h.l∨e=⟨k,i⟩):=by
 unfold mJ.f mL.f;refine Ok.br U ((ah6 h.l.length fuel _ _ ?_ (by rw[cY];omega) ?_ bo).bind λr hr=>Ok.pure ⟨by simpa using hr.1,λe=>by rw[hr.2 e];simp⟩)
 ·simp only[yS,uA,List.length_nil];rw[wi U U];omega
 ·simp only[yS,uA,List.length_nil];rw[wi U U];omega
theorem aaK: ∀(n k:Nat) (l:List cN) (i m j:Int),(2*i+3-j).toNat<=n->n<k->0<=i->i<l.length->(m=i∨i<m)->m<l.length->i<j->l.length<=1099511627776->
 Ok (gf.l1 k l i m j) (λr=>r=Sum.inl ⟨l⟩∨ ∃l' m',r=Sum.inr (l',m')/\l'.length=l.length/\(∀e,e∈l'↔e∈l)/\i<m'/\m'<l.length):=by
 intro n
 induction n with
 |zero=>
  intro k l i m j hn hk i0 i1 hm m1 hj hb;obtain⟨k,rfl⟩: ∃q,k=q+1:=⟨k-1,by omega⟩
  rw[gf.l1,wi (x:=2*i) U U,wi (x:=2*i+2) U U,aj U];simp only[aM,ji,if_false];refine Ok.ite (λ_=>Ok.pure (.inl J)) λq=>Ok.br U (Ok.br U (Ok.br bo (Ok.pure (.inr ⟨_,_,J,by simp,λe=>Pt i0 i1 U m1 e,?_,m1⟩))))
  have:m≠i:=λz=>q (by simp[z])
  omega
 |succ n ih=>
  intro k l i m j hn hk i0 i1 hm m1 hj hb;obtain⟨k,rfl⟩: ∃q,k=q+1:=⟨k-1,by omega⟩
  rw[gf.l1,wi (x:=2*i) U U,wi (x:=2*i+2) U U];have hx:(if j<=2*i+2 then some (decide (j<(l.length:Int))) else some false)=some (decide (j<=2*i+2/\j<l.length)):=by
   by_cases a:j<=2*i+2<;>simp[a]
  rw[hx];simp only[aM];refine Ok.ite (λq=>?_) λq=>?_
  ·have q':=of_decide_eq_true q;refine Ok.br U (Ok.br U (Ok.eq (Jb _ _) (Ok.ite (λ_=>?_) λ_=>?_)))
   ·rw[wi U U];exact ih k l i j (j+1) U U i0 i1 (.inr hj) q'.2 U hb
   ·rw[wi U U];exact ih k l i m (j+1) U U i0 i1 hm m1 U hb
  ·refine Ok.ite (λ_=>Ok.pure (.inl J)) λq=>Ok.br U (Ok.br U (Ok.br bo (Ok.pure (.inr ⟨_,_,J,by simp,λe=>Pt i0 i1 U m1 e,?_,m1⟩))))
   have:m≠i:=λz=>q (by simp[z])
   omega
theorem aaJ: ∀(n k:Nat) (l:List cN) (i:Int),l.length-i.toNat<=n->n<k->0<=i->i<l.length->l.length<=1099511627776->
 Ok (gf.l0 k l i) (λh=>h.l.length=l.length/\ ∀e,e∈h.l↔e∈l):=by
 intro n
 induction n with
 |zero=>intro k l i hn hk i0 i1;omega
 |succ n ih=>
  intro k l i hn hk i0 i1 hb;obtain⟨k,rfl⟩: ∃q,k=q+1:=⟨k-1,by omega⟩
  rw[gf.l0,wi (x:=2*i) U U,wi (x:=2*i+1) U U];refine(aaK (i.toNat+3) fuel l i i (2*i+1) U (by rw[cY];omega) i0 i1 (.inl J) i1 U hb).bind λr hr=>?_
  rcases hr with rfl |⟨l',m',rfl,e1,e2,e3,e4⟩
  ·exact Ok.pure ⟨J,λ_=>Iff.rfl⟩
  ·exact(ih k l' m' U U U U U).mono λh hh=>⟨by omega,λe=>(hh.2 e).trans (e2 e)⟩
def P4 (l:List cN) (r:Int×Int×Bool×eJ):Prop:=
 (l=[]/\r=(0,0,false,⟨[]⟩))∨(l≠[]/\r.2.2.1=true/\⟨r.1,r.2.1⟩=rd l 0/\r.2.2.2.l.length+1=l.length/\(∀e∈r.2.2.2.l,e∈l)/\ ∀e∈l,e=rd l 0∨e∈r.2.2.2.l)
theorem EA (h:eJ) (hb:h.l.length<=1099511627776):Ok (mH.f h) (P4 h.l):=by
 obtain⟨l⟩:=h;unfold mH.f Cm.f Cl.f gf.f
 by_cases hl:l=[]
 ·subst hl;exact Ok.pure (.inl ⟨rfl,rfl⟩)
 have hp:0<l.length:=List.length_pos_iff.2 hl;simp only at hb⊢;simp only[aM];rw[aj (by simpa using hl),ah U,wi (x:=(l.length:Int)-1) U U]
 simp only[aM,if_true];refine Ok.br U (Ok.br U (Ok.br bo ?_));have hs: ∀(L:List cN),L.length=l.length->aB L 0 ((l.length:Int)-1)=L.take (l.length-1):=by
  intro L hL;unfold aB;simp
 rw[hs _ bd];have lQ: ∀e∈(aD l 0 (rd l ((l.length:Int)-1))).take (l.length-1),e∈l:=by
  intro e he;rcases List.mem_or_eq_of_mem_set (List.mem_of_mem_take he) with h |h
  ·exact h
  ·rw[h];exact sG U U
 have NH: ∀e∈l,e=rd l 0∨e∈(aD l 0 (rd l ((l.length:Int)-1))).take (l.length-1):=by
  intro e he;obtain⟨c,c0,c1,rfl⟩:=G6.1 he
  by_cases z:c=0
  ·exact .inl (by rw[z])
  ·refine .inr (G6.2 ?_);have ht: ∀d:Int,0<=d->d<(l.length:Int)-1->rd ((aD l 0 (rd l ((l.length:Int)-1))).take (l.length-1)) d=if d=0 then rd l ((l.length:Int)-1) else rd l d:=by
    intro d d0 d1;have:=A9 (L:=l) (i:=0) (c:=d) (v:=rd l ((l.length:Int)-1)) U U d0;rw[<-this];simp only[Int.toNat_zero];rw[iP (xs:=List.take _ _) bo,List.getElem_take,iP (xs:=aD _ _ _) bo]
   have hlen:((aD l 0 (rd l ((l.length:Int)-1))).take (l.length-1)).length=l.length-1:=by simp
   by_cases y:c=(l.length:Int)-1
   ·exact⟨0,by omega,by omega,by rw[ht 0 U U,ah J,y]⟩
   ·exact⟨c,c0,by omega,by rw[ht c c0 U,aj z]⟩
 by_cases h1:l.length=1
 ·have e0:(aD l 0 (rd l ((l.length:Int)-1))).take (l.length-1)=[]:=by rw[h1];rfl
  simp only[Int.toNat_zero];rw[e0] at lQ NH⊢;have hd:gf.l0 fuel [] 0=some ⟨[]⟩:=by
   obtain⟨k,hk⟩: ∃q,fuel=q+1+1:=⟨fuel-2,by rw[cY]⟩
   rw[hk,gf.l0,hk,gf.l1];rfl
  rw[hd];exact Ok.pure (.inr ⟨hl,J,J,by simp[h1],lQ,NH⟩)
 ·refine(aaJ l.length fuel _ 0 bd (by rw[cY];omega) U bo bo).bind λr hr=>Ok.pure (.inr ⟨hl,J,J,?_,λe he=>lQ e ((hr.2 e).1 he),λe he=>(NH e he).imp id λx=>(hr.2 e).2 x⟩)
  have:=hr.1;simp at this;simp only;omega
variable {g : bw} {more : Int}
def sD (g:bw) (c:Int):Prop:=bP g.m c/\iZ g c≠255
theorem F5 (h:cL g more) {c:Int} (hc:bP g.m c):1<=iZ g c/\iZ g c<=255:=by
 unfold iZ;rw[ah hc];exact h.rU c hc.1 hc.2
theorem aip (h:cL g more) (goal cell key:Int) (m:List (Int×Int)) (hc:sD g cell) (k0:0<=key) (k1:key<=1000000000): ∀(n k:Nat) (l:List cN) (s:Int),(4-s).toNat<=n->n<k->0<=s->l.length<=10000000-4+s->
 Ok (fW.l1 k goal g (g.m.W,g.m.H) m cell key l s) (λr=>r.1=cO m cell key/\r.2.length<=l.length+(4-s).toNat/\ ∀e∈r.2,e∈l∨(sD g e.item/\0<=e.key/\e.key<=key+254)):=by
 have eI:=F5 h hc.1;intro n
 induction n with
 |zero=>
  intro k l s hn hk s0 hl;obtain⟨k,rfl⟩:=bz hk;rw[fW.l1,aj U];exact Ok.pure ⟨J,by simp,λe he=> .inl he⟩
 |succ n ih=>
  intro k l s hn hk s0 hl;obtain⟨k,rfl⟩:=bz hk;rw[fW.l1];refine Ok.ite (λhs=>?_) λhs=>Ok.pure ⟨J,by simp only;omega,λe he=> .inl he⟩
  refine Ok.eq (EW ..) ?_;have NU:Ok (if bj g.m.W g.m.H cell s<0 then some true else(gy.f g.m.W g.m.H (bj g.m.W g.m.H cell s)).bind λv28=>(gy.f g.m.W g.m.H goal).bind λqG=>if(v28 !=qG)=true then some true else(i_.f g (bj g.m.W g.m.H cell s)).bind λv30=>some (v30==255)) (λb=>b=false->sD g (bj g.m.W g.m.H cell s)):=by
   refine Ok.ite (λ_=>Ok.pure bd) λq=>Ok.eq (ru ..) (Ok.eq (ru ..) (Ok.ite (λ_=>Ok.pure bd) λ_=>Ok.eq (rX h _) (Ok.pure λz=>⟨K4 q,by simpa using z⟩)))
  refine NU.bind λb hb=>Ok.ite (λ_=>?_) λq=>?_
  ·rw[wi U U];exact(ih k l (s+1) U U U U).mono λr hr=>⟨hr.1,by have:=hr.2.1;omega,hr.2.2⟩
  ·have ho:=hb (by simpa using q)
   refine Ok.eq (rX h _) ((EB _ _ _ (by simp only;omega)).bind λr hr=>?_)
   simp only at hr;rw[wi (x:=s+1) U U];refine(ih k r.l (s+1) U U U U).mono λr' mf=>⟨mf.1,by have:=mf.2.1;omega,λe he=>?_⟩
   rcases mf.2.2 e he with z |z
   ·rcases(hr.2 e).1 z with y |rfl
    ·exact .inl y
    ·refine .inr ⟨ho,?_⟩;have:iZ g cell≠255:=hc.2;rw[wi U U];simp only;omega
   ·exact .inr z
def mX (g:bw) (m:List (Int×Int)):Nat:=iY (λc=>!cj m c) (g.m.W*g.m.H).toNat
theorem Eu (m:List (Int×Int)) (x y v:Int):cj (cO m x v) y=if x=y then true else cj m y:=by
 unfold cj;rw[Et];split<;>rfl
theorem W7 {m:List (Int×Int)} {c v:Int} (hc:bP g.m c) (hn:cj m c=false):mX g m=mX g (cO m c v)+1:=by
 unfold mX;refine L_ (c:=c) hc.1 (by have:=hc.1;have:=hc.2;omega) (by simp[hn]) (by simp[Eu]) (λi _ _ hi=>?_)
 rw[Eu,aj (λz=>hi z.symm)]
theorem aio (h:cL g more) (hN:g.m.W*g.m.H<=1600) (goal:Int): ∀(n k:Nat) (m:List (Int×Int)) (l:List cN) (key cell:Int) (ok:Bool),
 5*mX g m+l.length+(if ok then 1 else 0)<=n->n<k->l.length+5*mX g m<=9000->
 (∀c,cj m c=true->0<=aT m c/\aT m c<=500000)->
 (∀e∈l,sD g e.item/\0<=e.key/\e.key+254*(mX g m:Int)<=254*1600)->(ok=true->sD g cell/\0<=key/\key+254*(mX g m:Int)<=254*1600)->(ok=false->l=[])->
 Ok (fW.l0 k goal g (g.m.W,g.m.H) m l key cell ok) (λr=> ∀c,cj r c=true->0<=aT r c/\aT r c<=500000):=by
 intro n
 induction n with
 |zero=>
  intro k m l key cell ok hn hk hb hm hl hp hf;obtain⟨k,rfl⟩:=bz hk;have:ok=false:=by cases ok<;>simp_all
  subst this;rw[fW.l0];exact Ok.pure hm
 |succ n ih=>
  intro k m l key cell ok hn hk hb hm hl hp hf;obtain⟨k,rfl⟩:=bz hk;rw[fW.l0];refine Ok.ite (λq=>?_) λ_=>Ok.pure hm
  obtain⟨p1,p2,p3⟩:=hp q;subst q;simp only[if_true] at hn;have NI:Ok (if cj m cell=true then some (m,l) else fW.l1 fuel goal g (g.m.W,g.m.H) m cell key l 0) (λr=>5*mX g r.1+r.2.length<=n/\r.2.length+5*mX g r.1<=9000/\(∀c,cj r.1 c=true->0<=aT r.1 c/\aT r.1 c<=500000)/\ ∀e∈r.2,sD g e.item/\0<=e.key/\e.key+254*(mX g r.1:Int)<=254*1600):=by
   refine Ok.ite (λ_=>Ok.pure ⟨by simp only;omega,hb,hm,hl⟩) λz=>?_
   have z:cj m cell=false:=by simpa using z
   have hu:=W7 (v:=key) p1.1 z;refine(aip h goal cell key m p1 p2 U 4 fuel l 0 bd (by rw[cY];omega) U U).mono λr hr=>?_
   obtain⟨e1,e2,e3⟩:=hr;rw[e1];have:(4-(0:Int)).toNat=4:=rfl;refine⟨by omega,by omega,λc hc=>?_,λe he=>?_⟩
   ·rw[sB];rw[Eu] at hc;split
    ·omega
    ·rename_i q;rw[aj q] at hc;exact hm c hc
   ·rcases e3 e he with y |y
    ·have:=hl e y;exact⟨this.1,this.2.1,by omega⟩
    ·exact⟨y.1,y.2.1,by omega⟩
  refine NI.bind λr hr=>?_
  obtain⟨h1,h2,h3,h4⟩:=hr;refine(EA ⟨r.2⟩ (by simp only;omega)).bind λv hv=>?_
  rcases hv with⟨e1,e2⟩ |⟨e1,e2,e3,e4,e5,e6⟩
  ·subst e2;simp only at e1;exact ih k r.1 [] 0 0 false bo U bo h3 bd bd bd
  ·simp only at e1 e3 e4 e5;have AW:=h4 (rd r.2 0) (fV U (by have:=List.length_pos_iff.2 e1;omega))
   rw[<-e3] at AW;refine ih k r.1 v.2.2.2.l v.1 v.2.1 v.2.2.1 (by rw[e2];simp;omega) U U h3 (λe he=>h4 e (e5 e he)) (λ_=>AW) (by rw[e2];simp)
theorem ag8 (h:cL g more) (hN:g.m.W*g.m.H<=1600) (f:jY) (M:dK) {goal:Int} (hg:bP g.m goal):Ok (fW.f f goal M g) (λr=> ∀c,cj r c=true->0<=aT r c/\aT r c<=500000):=by
 unfold fW.f;refine Ok.eq (Bk g) (Ok.eq (rX h _) (Ok.ite (λ_=>Ok.pure (by simp[cj,dR])) λq=>?_))
 have hu:mX g []<=1600:=by unfold mX;have:=DU (λc=>!cj ([]:List (Int×Int)) c) (g.m.W*g.m.H).toNat;omega
 refine(EB ⟨[]⟩ 0 goal bd).bind λr hr=>(EA r (by simp at hr;omega)).bind λv hv=>?_
 have ho:sD g goal:=⟨hg,by simpa using q⟩
 have sa: ∀e∈r.l,e=⟨0,goal⟩:=λe he=>by simpa using(hr.2 e).1 he
 have hlen:r.l.length=1:=by simpa using hr.1
 rcases hv with⟨e1,e2⟩ |⟨e1,e2,e3,e4,e5,e6⟩
 ·rw[e1] at hlen;simp at hlen
 ·have h0:=sa _ (fV (a:=r.l) (i:=0) U U);rw[h0] at e3;simp only[cN.mk.injEq] at e3;have xI:v.2.2.2.l=[]:=List.length_eq_zero_iff.1 U;rw[xI,e3.1,e3.2,e2];exact aio h hN goal 9000 fuel [] [] 0 goal true bo (by rw[cY];omega) bo (by simp[cj,dR]) bd (λ_=>⟨ho,by omega,by omega⟩) bd
end Go.Proofs.YthodkonhneebbaaGreatDoor
