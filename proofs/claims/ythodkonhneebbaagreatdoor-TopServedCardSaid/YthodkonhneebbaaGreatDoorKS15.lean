/- What the functions do, in plain Lean, on the objects that are kept in order. -/
import Derived.Laws.Strings
import Derived.Test.YthodkonhneebbaaGreatDoorKS14
import Derived.Test.YthodkonhneebbaaGreatDoorKS10
import Derived.Test.YthodkonhneebbaaGreatDoorKS11
import Derived.Test.YthodkonhneebbaaGreatDoorKS13
import Derived.Test.YthodkonhneebbaaGreatDoorKS5
import Derived.Test.YthodkonhneebbaaGreatDoorKS6
namespace Go.Proofs.YthodkonhneebbaaGreatDoor
open Go.Hx
open Int renaming tmod->fC,tdiv->di,fdiv->fQ,toNat->ax,emod_lt_of_pos->AN,mul_comm->mC,mul_le_mul_of_nonneg_right->BZ,mul_ediv_add_emod->uQ,le_refl->dU
open List renaming length->aa,set->aD,replicate->cy,length_set->nO,drop_of_length_le->DT,mem_cons_self->mD,mem_cons_of_mem->oH,mem_cons->nh,not_mem_nil->ra,length_append->zg
open BitVec renaming toNat->gf,ofInt->cj
open Nat renaming le_refl->jW
open Bool renaming eq_iff_iff->nM,false_eq_true->jk
open Classical renaming byContradiction->pr
set_option linter.unusedVariables false
set_option linter.unusedSimpArgs false
abbrev dN:Int:=2147483647
abbrev RB:Int:=104538400
def qc (f:Int->Int):Nat->Int
 |0=>0
 |n+1=>qc f n+f n
theorem PS {f:Int->Int} {B:Int}: ∀(n:Nat),(∀i:Int,0<=i->i<n->f i<=B)->qc f n<=n*B
 |0,_=>by simp[qc]
 |n+1,h=>by
  have:=PS n (λi a b=>h i a U);have:=h n U U;rw[qc,Int.natCast_add,Int.add_mul,Int.natCast_one,Int.one_mul];omega
theorem PT {f:Int->Int}: ∀(n:Nat),(∀i:Int,0<=i->i<n->0<=f i)->0<=qc f n
 |0,_=>dU _
 |n+1,h=>by
  have:=PT n (λi a b=>h i a U);have:=h n U U;rw[qc];omega
theorem Xh {f f':Int->Int}: ∀(n:Nat),(∀i:Int,0<=i->i<n->f' i=f i)->qc f' n=qc f n
 |0,_=>rfl
 |n+1,h=>by rw[qc,qc,Xh n (λi a b=>h i a U),h n U U]
theorem PQ {f f':Int->Int} {c:Int}: ∀(n:Nat),0<=c->c<n->f' c+1<=f c->(∀i:Int,0<=i->i<n->i≠c->f' i=f i)->qc f' n+1<=qc f n
 |0,h0,h1,_,_=>by omega
 |n+1,h0,h1,hd,he=>by
  rw[qc,qc]
  by_cases z:c=n
  ·subst z;rw[Xh n (λi a b=>he i a U U)];omega
  ·have:=PQ n h0 U hd (λi a b=>he i a U);rw[he n U U (λy=>z y.symm)];omega
theorem Mx {p q:Int->Bool}: ∀{n:Nat},(∀i:Int,0<=i->i<n->p i=true->q i=true)->jd p n<=jd q n
 |0,_=>jW _
 |n+1,h=>by
  have:=Mx (p:=p) (q:=q) (n:=n) (λi a b=>h i a U);unfold jd;have h':=h n U U
  cases hp:p n
  ·simp;omega
  ·rw[h' hp];simp;omega
theorem Ru {p q:Int->Bool} {c:Int}: ∀{n:Nat},0<=c->c<n->p c=false->q c=true->(∀i:Int,0<=i->i<n->p i=true->q i=true)->jd p n+1<=jd q n
 |0,h0,h1,_,_,_=>by omega
 |n+1,h0,h1,hp,hq,he=>by
  unfold jd
  by_cases z:c=n
  ·subst z;have:=Mx (p:=p) (q:=q) (n:=n) (λi a b=>he i a U);rw[hp,hq];simp;omega
  ·have:=Ru (n:=n) h0 U hp hq (λi a b=>he i a U);have h':=he n U U
   cases hp':p n
   ·simp;omega
   ·rw[h' hp'];simp;omega
def z7 (D:List Int) (v:Int):Nat:=jd (λc=>decide (rd D c<v)) D.length
def oe (D:List Int):Int:=qc (λc=>min (rd D c) (RB+1)) D.length
section
variable {g : bx} {more : Int} {M : dO} {goal : Int} {im : List (Int × Int)}
def Pv (g:bx) (goal:Int) (im:List (Int×Int)) (D:List Int) (c d:Int):Prop:=
 (c∈bP g.m (aR g.m.W g.m.H goal)/\ck im c=true/\aT im c=d)∨ ∃b e,node g.m b/\rd D b≠dN/\Comes g.m b e/\e.To=c/\rd D b+e.kG<=d
structure Rt (g:bx) (goal:Int) (im:List (Int×Int)) (D:List Int) (l:List cP) (x:Int):Prop where
 len_:(D.length:Int)=g.m.W*g.m.H
 dv: ∀c:Int,0<=c->c<D.length->rd D c≠dN->node g.m c/\0<=rd D c/\rd D c<=500000+65024*(z7 D (rd D c):Int)/\Pv g goal im D c (rd D c)
 hp: ∀e∈l,node g.m e.item/\rd D e.item≠dN/\rd D e.item<=e.key
 rel: ∀c,node g.m c->c≠x->rd D c≠dN->⟨rd D c,c⟩∈l∨ ∀e,Comes g.m c e->rd D e.To≠dN/\rd D e.To<=rd D c+e.kG
theorem Wu (D:List Int) (v:Int):z7 D v<=D.length:=D8 _ _
theorem Rt.bound {D:List Int} {l:List cP} {x:Int} (hN:g.m.W*g.m.H<=1600) (h:Rt g goal im D l x) {c:Int} (c0:0<=c) (c1:c<D.length) (hc:rd D c≠dN):0<=rd D c/\rd D c<=RB:=by
 have xN:RB=104538400:=rfl;obtain⟨_,a,b,_⟩:=h.dv c c0 c1 hc;have:=Wu D (rd D c);have:=h.len_;omega
theorem uh (h:cL g more) {D:List Int} (hl:(D.length:Int)=g.m.W*g.m.H) {c:Int} (hc:node g.m c):0<=c/\c<D.length:=by
 have:=(yw hc).2;rw[hl];exact this
theorem VP {D D':List Int} (hd: ∀b,node g.m b->rd D b≠dN->rd D' b≠dN/\rd D' b<=rd D b) {c d:Int} (h:Pv g goal im D c d):Pv g goal im D' c d:=by
 rcases h with z |⟨b,e,h1,h2,h3,h4,h5⟩
 ·exact .inl z
 ·have:=hd b h1 h2;exact .inr ⟨b,e,h1,this.1,h3,h4,by omega⟩
theorem agB {D:List Int} (hD: ∀c:Int,0<=c->c<D.length->0<=rd D c):0<=oe D/\oe D<=D.length*(RB+1):=by
 refine⟨PT _ λi a b=>?_,PS _ λi a b=>by omega⟩
 have:=hD i a b;have xN:RB=104538400:=rfl;omega
theorem Wz (h:cL g more) (hN:g.m.W*g.m.H<=1600) {D:List Int} {l:List cP} {x:Int} (hr:Rt g goal im D l x) (hlen:l.length+2*oe D<1000000000000) {v nd ge:Int} (gg ep:Int) (hv:node g.m v) (hx:v≠x) (n0:0<=nd) (n1:nd<=500000+65024*(z7 D nd:Int)) (hp:Pv g goal im D v nd):
 Ok (um.f ⟨gg,ep,D⟩ v nd) (λr=>(r=(false,⟨gg,ep,D⟩)/\rd D v≠dN/\rd D v<=nd)∨ ∃D',r=(true,⟨gg,ep,D'⟩)/\oe D'+1<=oe D/\rd D' v=nd/\(∀c:Int,0<=c->c≠v->rd D' c=rd D c)/\nd<rd D v/\D'.length=D.length/\
  ∀l':List cP,(∀e,e∈l'↔e∈l∨e=⟨nd,v⟩)->Rt g goal im D' l' x):=by
 have hF:dN=2147483647:=rfl;have xN:RB=104538400:=rfl;have Bd:=uh h hr.len_ hv;have hrk:=Wu D nd;have Em:=hr.len_;have hvb:rd D v=dN∨(0<=rd D v/\rd D v<=RB):=by
  by_cases z:rd D v=dN
  ·exact .inl z
  ·exact .inr (hr.bound hN Bd.1 Bd.2 z)
 unfold um.f;simp only;rw[ah Bd,wi U U];refine Ok.ite (λq=>Ok.pure (.inl ⟨J,by omega,by omega⟩)) λq=>?_
 rw[Uz U U];have ei: ∀c:Int,0<=c->rd (aD D v.toNat nd) c=if c=v then nd else rd D c:=λc c0=>mr Bd.1 Bd.2 c0
 have Ey:rd (aD D v.toNat nd) v=nd:=by rw[ei v Bd.1,ah J]
 have hle: ∀c:Int,0<=c->rd (aD D v.toNat nd) c<=rd D c:=λc c0=>by
  rw[ei c c0];split
  ·rename_i z;rw[z];omega
  ·omega
 have hnf: ∀c:Int,0<=c->rd D c≠dN->rd (aD D v.toNat nd) c≠dN:=λc c0 hc=>by
  rw[ei c c0];split
  ·omega
  ·exact hc
 have Kf: ∀b,node g.m b->rd D b≠dN->rd (aD D v.toNat nd) b≠dN/\rd (aD D v.toNat nd) b<=rd D b:=λb hb hf=>by
  have:=uh h hr.len_ hb;exact⟨hnf b this.1 hf,hle b this.1⟩
 have Uf: ∀w,z7 D w<=z7 (aD D v.toNat nd) w:=λw=>by
  unfold z7;rw[nO];refine Mx λi a b c=>?_
  have:=hle i a;simp only[decide_eq_true_iff] at c⊢;omega
 refine Ok.pure (.inr ⟨_,J,?_,Ey,λc c0 hc=>by rw[ei c c0,ak hc],by omega,by simp,λl' zH=>?_⟩)
 ·unfold oe;rw[nO];refine PQ D.length Bd.1 Bd.2 ?_ λi a b hi=>?_
  ·rw[Ey];omega
  ·rw[ei i a,ak hi]
 ·refine⟨by simpa using hr.len_,λc c0 c1 hc=>?_,λe he=>?_,λc hc xU hf=>?_⟩
  ·rw[nO] at c1
   by_cases z:c=v
   ·subst z;rw[Ey];have:=Uf nd;exact⟨hv,n0,by omega,VP Kf hp⟩
   ·rw[ei c c0,ak z] at hc⊢;obtain⟨a1,a2,a3,a4⟩:=hr.dv c c0 c1 hc;have:=Uf (rd D c);exact⟨a1,a2,by omega,VP Kf a4⟩
  ·rcases(zH e).1 he with z |rfl
   ·obtain⟨b1,b2,b3⟩:=hr.hp e z;have:=Kf _ b1 b2;exact⟨b1,this.1,by omega⟩
   ·exact⟨hv,by simp only;rw[Ey];omega,by simp only;rw[Ey];omega⟩
  ·have xS:=uh h hr.len_ hc
   by_cases z:c=v
   ·subst z;rw[Ey];exact .inl ((zH _).2 (.inr J))
   ·rw[ei c xS.1,ak z] at hf⊢;rcases hr.rel c hc xU hf with y |y
    ·exact .inl ((zH _).2 (.inl y))
    ·refine .inr λe he=>?_
     obtain⟨q1,q2⟩:=y e he;have:=Kf _ (F4 h hc he).1 q1;exact⟨this.1,by omega⟩
theorem Dm (hN:g.m.W*g.m.H<=1600) {D:List Int} {l:List cP} {x:Int} (hr:Rt g goal im D l x):0<=oe D/\oe D<=200000000000:=by
 have hF:dN=2147483647:=rfl;have xN:RB=104538400:=rfl;have hl:=hr.len_;have:=agB (D:=D) λc c0 c1=>by
  by_cases z:rd D c=dN
  ·omega
  ·exact(hr.bound hN c0 c1 z).1
 have:(D.length:Int)*(RB+1)<=1600*(RB+1):=BZ U U;omega
theorem ahT (h:cL g more) (hN:g.m.W*g.m.H<=1600) (gg ep gl:Int) {b key:Int} (hb:node g.m b) (E:List ez) (hE: ∀e∈E,Comes g.m b e) (hEb:E.length<=260): ∀(n k:Nat) (D:List Int) (l:List cP) (i:Int),(E.length-i).toNat<=n->n<k->0<=i->i<=E.length->Rt g goal im D l b->rd D b=key->key≠dN->l.length+2*oe D+(E.length-i)<1000000000000->
 (∀j:Int,0<=j->j<i->rd D (rd E j).To≠dN/\rd D (rd E j).To<=key+(rd E j).kG)->
 Ok (gm.l2 k gl key E gg ep D l i) (λr=>r.1=gg/\r.2.1=ep/\Rt g goal im r.2.2.1 r.2.2.2 b/\rd r.2.2.1 b=key/\r.2.2.2.length+2*oe r.2.2.1<=l.length+2*oe D/\(∀e∈E,rd r.2.2.1 e.To≠dN/\rd r.2.2.1 e.To<=key+e.kG)/\ ∀c,node g.m c->rd D c≠dN->rd r.2.2.1 c≠dN/\rd r.2.2.1 c<=rd D c):=by
 have hF:dN=2147483647:=rfl;have xN:RB=104538400:=rfl;have fin: ∀(k:Nat) (D:List Int) (l:List cP) (i:Int),¬i<E.length->Rt g goal im D l b->rd D b=key->(∀j:Int,0<=j->j<i->rd D (rd E j).To≠dN/\rd D (rd E j).To<=key+(rd E j).kG)->
  Ok (gm.l2 (k+1) gl key E gg ep D l i) (λr=>r.1=gg/\r.2.1=ep/\Rt g goal im r.2.2.1 r.2.2.2 b/\rd r.2.2.1 b=key/\r.2.2.2.length+2*oe r.2.2.1<=l.length+2*oe D/\(∀e∈E,rd r.2.2.1 e.To≠dN/\rd r.2.2.1 e.To<=key+e.kG)/\ ∀c,node g.m c->rd D c≠dN->rd r.2.2.1 c≠dN/\rd r.2.2.1 c<=rd D c):=λk D l i hi hr hk ha=>by
  rw[gm.l2,ak hi];refine Ok.pure ⟨J,J,hr,hk,dU _,λe he=>?_,λc _ hc=>⟨hc,dU _⟩⟩
  obtain⟨j,j0,j1,rfl⟩:=qD he;exact ha j j0 U
 intro n
 induction n with
 |zero=>
  intro k D l i hn hk hi fa hr ky Eo hlen ha;obtain⟨k,rfl⟩:=bw hk;exact fin k D l i U hr ky ha
 |succ n ih=>
  intro k D l i hn hk hi fa hr ky Eo hlen ha;obtain⟨k,rfl⟩:=bw hk
  by_cases aS:i<E.length
  ·have lX:=fS hi aS;have wq:=hE _ lX;obtain⟨c1,c2,c3,c4⟩:=F4 h hb wq;have ve:=uh h hr.len_ hb;obtain⟨d1,d2,d3,d4⟩:=hr.dv b ve.1 ve.2 (by rw[ky];exact Eo)
   have NO:=hr.bound hN ve.1 ve.2 (by rw[ky];exact Eo)
   rw[ky] at d2 d3 d4 NO;have M6:KT=65024:=rfl;have Ev:=Dm hN hr;have hrk:z7 D key+1<=z7 D (key+(rd E i).kG):=by
    unfold z7;refine Ru ve.1 ve.2 (by rw[ky];simp) (by rw[ky];simp;omega) λc _ _ hc=>?_
    simp only[decide_eq_true_iff] at hc⊢;omega
   rw[gm.l2,wi (x:=key+(rd E i).kG) U U,wi (x:=i+1) U U];refine Ok.pos aS (Ok.br ⟨hi,aS⟩ ((Wz (ge:=0) h hN hr U gg ep c1 c2 U U (.inr ⟨b,_,hb,by rw[ky];exact Eo,wq,J,by rw[ky];omega⟩)).bind λr mm=>?_))
   rcases mm with⟨rfl,z1,z2⟩ |⟨D',rfl,z1,z2,z3,z4,z5,z6⟩
   ·refine Ok.neg bp (ih k D l (i+1) U U U U hr ky Eo U λj j0 j1=>?_)
    by_cases z:j=i
    ·subst z;exact⟨z1,z2⟩
    ·exact ha j j0 U
   ·refine Ok.pos J ((EL ⟨l⟩ _ _ (by simp only;omega)).bind λq hq=>?_)
    have Of:=z6 q.l hq.2;have kt:rd D' b=key:=by rw[z3 b ve.1 (λy=>c2 y.symm),ky]
    have Oe:=hq.1;simp only at Oe;refine(ih k D' q.l (i+1) U U U U Of kt Eo U λj j0 j1=>?_).mono λr CE=>⟨CE.1,CE.2.1,CE.2.2.1,CE.2.2.2.1,by have:=CE.2.2.2.2.1;omega,CE.2.2.2.2.2.1,λc hc rn=>?_⟩
    rotate_left
    ·have xS:=uh h hr.len_ hc;have hd:rd D' c≠dN/\rd D' c<=rd D c:=by
      by_cases y:c=(rd E i).To
      ·rw[y,z2];rw[y] at rn;have:=hr.bound hN (y▸xS.1) (y▸xS.2) rn;exact⟨by omega,by omega⟩
      ·rw[z3 c xS.1 y];exact⟨rn,dU _⟩
     have:=CE.2.2.2.2.2.2 c hc hd.1;exact⟨this.1,by omega⟩
    by_cases y:(rd E j).To=(rd E i).To
    ·rw[y,z2]
     by_cases z:j=i
     ·subst z;exact⟨by omega,dU _⟩
     ·have w:=(ha j j0 U).2;rw[y] at w;exact⟨by omega,by omega⟩
    ·have hj:=F4 h hb (hE _ (fS j0 (show j<E.length by omega)))
     have:=uh h hr.len_ hj.1;rw[z3 _ this.1 y];refine ha j j0 ?_;have:j≠i:=λz=>y (by rw[z])
     omega
  ·exact fin k D l i aS hr ky ha
structure Fz (g:bx) (goal:Int) (im:List (Int×Int)) (D:List Int):Prop where
 len_:(D.length:Int)=g.m.W*g.m.H
 dv: ∀c:Int,0<=c->c<D.length->rd D c≠dN->node g.m c/\0<=rd D c/\rd D c<=RB/\Pv g goal im D c (rd D c)
 rel: ∀c,node g.m c->rd D c≠dN-> ∀e,Comes g.m c e->rd D e.To≠dN/\rd D e.To<=rd D c+e.kG
 sd: ∀c∈bP g.m (aR g.m.W g.m.H goal),ck im c=true->rd D c≠dN/\rd D c<=aT im c
theorem WV (h:cL g more) (hN:g.m.W*g.m.H<=1600) (hF':qY g M) (gg ep gl:Int): ∀(n k:Nat) (D:List Int) (l:List cP) (key b:Int) (ok:Bool),(l.length+2*oe D+(if ok then 1 else 0)).toNat<=n->n<k->l.length+2*oe D<999999990000->
 (ok=true->Rt g goal im D (⟨key,b⟩::l) (-1))->(ok=false->l=[]/\Rt g goal im D [] (-1))->(∀c∈bP g.m (aR g.m.W g.m.H goal),ck im c=true->rd D c≠dN/\rd D c<=aT im c)->
 Ok (gm.l1 k gl M g gg ep D l key b ok) (λr=> ∃D',r=some ⟨gg,ep,D'⟩/\Fz g goal im D'):=by
 have M4:dN=2147483647:=rfl;have xN:RB=104538400:=rfl;have fin: ∀(k:Nat) (D:List Int) (l:List cP) (key b:Int) (ok:Bool),ok=false->Rt g goal im D [] (-1)->(∀c∈bP g.m (aR g.m.W g.m.H goal),ck im c=true->rd D c≠dN/\rd D c<=aT im c)->Ok (gm.l1 (k+1) gl M g gg ep D l key b ok) (λr=> ∃D',r=some ⟨gg,ep,D'⟩/\Fz g goal im D'):=λk D l key b ok sH hr hs=>by
  subst sH;rw[gm.l1];refine Ok.neg bp (Ok.pure ⟨D,J,hr.len_,λc c0 c1 hc=>?_,λc hc hf e he=>?_,hs⟩)
  ·obtain⟨a,b,_,d⟩:=hr.dv c c0 c1 hc;exact⟨a,b,(hr.bound hN c0 c1 hc).2,d⟩
  ·have:=uh h hr.len_ hc;exact((hr.rel c hc U hf).resolve_left bp) e he
 intro n
 induction n with
 |zero=>
  intro k D l key b ok hn hk hlen hp hf hs;obtain⟨k,rfl⟩:=bw hk
  cases ok
  ·exact fin k D l key b false J (hf J).2 hs
  ·have:=Dm hN (hp J);simp only[if_true] at hn;omega
 |succ n ih=>
  intro k D l key b ok hn hk hlen hp hf hs;obtain⟨k,rfl⟩:=bw hk
  cases ok
  ·exact fin k D l key b false J (hf J).2 hs
  have hr:=hp J;simp only[if_true] at hn;have hph:=Dm hN hr;obtain⟨b1,b2,b3⟩:=hr.hp ⟨key,b⟩ (mD ..);simp only at b1 b2 b3;have ve:=uh h hr.len_ b1;have NO:=hr.bound hN ve.1 ve.2 b2;rw[gm.l1];refine Ok.pos J (Ok.bind (P:=λr=>r.1=gg/\r.2.1=ep/\Rt g goal im r.2.2.1 r.2.2.2 (-1)/\r.2.2.2.length+2*oe r.2.2.1<=l.length+2*oe D/\ ∀c∈bP g.m (aR g.m.W g.m.H goal),ck im c=true->rd r.2.2.1 c≠dN/\rd r.2.2.1 c<=aT im c) (Ok.br ve ?_) λr mm=>?_)
  ·rw[wi U U];refine Ok.ite (λq=>Ok.pure ⟨J,J,⟨hr.len_,hr.dv,λe he=>hr.hp e (oH _ he),λc hc xU rn=>?_⟩,dU _,hs⟩) λq=>?_
   ·rcases hr.rel c hc xU rn with y |y
    ·rcases List.mem_cons.1 y with y |y
     ·simp only[cP.mk.injEq] at y;rw[y.2] at y;omega
     ·exact .inl y
    ·exact .inr y
   ·have ky:rd D b=key:=U;have Ba:Rt g goal im D l b:=⟨hr.len_,hr.dv,λe he=>hr.hp e (oH _ he),λc hc xU rn=>by
     have:=uh h hr.len_ hc;rcases hr.rel c hc U rn with y |y
     ·rcases List.mem_cons.1 y with y |y
      ·simp only[cP.mk.injEq] at y;exact absurd y.2 xU
      ·exact .inl y
     ·exact .inr y⟩
    refine(aeL h hF' b).bind λE hE=>?_
    obtain⟨hE1,Gl⟩:=hE;have Sn:=(Gl.resolve_right λz=>z.1 b1).2;refine(ahT h hN gg ep gl b1 E (λe he=>(Sn e).1 he) hE1 260 fuel D l 0 U (by rw[de];omega) U U Ba ky U U (λj j0 j1=>by omega)).mono λr Of=>?_
    obtain⟨s1,s2,s3,s4,s5,s6,s7⟩:=Of;refine⟨s1,s2,⟨s3.len_,s3.dv,s3.hp,λc hc xU rn=>?_⟩,s5,λc hc hm=>?_⟩
    ·by_cases z:c=b
     ·subst z;exact .inr λe he=>by rw[s4];exact s6 e ((Sn e).2 he)
     ·exact s3.rel c hc z rn
    ·have w:=hs c hc hm;have:=s7 c (KW hc) w.1;exact⟨this.1,by omega⟩
  ·obtain⟨q1,q2,q3,q4,q5⟩:=mm;obtain⟨r1,r2,D',l'⟩:=r;simp only at q1 q2 q3 q4 q5⊢;subst q1;subst q2;have ajH:=Dm hN q3;refine(EK ⟨l'⟩ (by simp only;omega)).bind λv hv=>?_
   rcases hv with⟨e1,e2⟩ |⟨e1,e2,e3,e4,e5,e6⟩
   ·simp only at e1;subst e1;subst e2;exact ih k D' [] 0 0 false (by simp only[List.length_nil] at*;simp;omega) U (by simp;simp at q4;omega) bp (λ_=>⟨J,q3⟩) q5
   ·simp only at e1 e3 e4 e5 e6;rw[e2];refine ih k D' v.2.2.2.l v.1 v.2.1 true (by simp only[if_true];omega) U U (λ_=>?_) bp q5
    rw[e3];have h0:=fS (a:=l') (i:=0) U (by have:=List.length_pos_iff.2 e1;omega)
    refine⟨q3.len_,q3.dv,λe he=>?_,λc hc xU rn=>?_⟩
    ·rcases List.mem_cons.1 he with rfl |he
     ·exact q3.hp _ h0
     ·exact q3.hp e (e5 e he)
    ·rcases q3.rel c hc xU rn with y |y
     ·refine .inl ?_;rcases e6 _ y with z |z
      ·rw[z];exact mD ..
      ·exact oH _ z
     ·exact .inr y
end
section
variable {g : bx} {more : Int} {M : dO} {goal : Int} {im : List (Int × Int)}
theorem ahS (h:cL g more) (hN:g.m.W*g.m.H<=1600) (hF:qY g M) (Ka: ∀c,ck im c=true->0<=aT im c/\aT im c<=500000) (gg ep:Int) (L:List Int) (hL:L=bP g.m (aR g.m.W g.m.H goal)): ∀(n k:Nat) (D:List Int) (l:List cP) (i:Int),(L.length-i).toNat<=n->n<k->0<=i->i<=L.length->Rt g goal im D l (-1)->l.length+2*oe D+(L.length-i)<999999990000->
 (∀j:Int,0<=j->j<i->ck im (rd L j)=true->rd D (rd L j)≠dN/\rd D (rd L j)<=aT im (rd L j))->
 Ok (gm.l0 k goal M g im L gg ep D l i) (λr=> ∃D',r=some ⟨gg,ep,D'⟩/\Fz g goal im D'):=by
 have M4:dN=2147483647:=rfl;have hlN:L.length<=256:=by rw[hL];exact wJ ..
 have fin: ∀(k:Nat) (D:List Int) (l:List cP) (i:Int),¬i<L.length->Rt g goal im D l (-1)->l.length+2*oe D<999999990000->(∀j:Int,0<=j->j<i->ck im (rd L j)=true->rd D (rd L j)≠dN/\rd D (rd L j)<=aT im (rd L j))->
  Ok (gm.l0 (k+1) goal M g im L gg ep D l i) (λr=> ∃D',r=some ⟨gg,ep,D'⟩/\Fz g goal im D'):=λk D l i hi hr hlen ha=>by
  rw[gm.l0,ak hi];have Ev:=Dm hN hr;have Uj: ∀c∈bP g.m (aR g.m.W g.m.H goal),ck im c=true->rd D c≠dN/\rd D c<=aT im c:=λc hc hm=>by
   rw[<-hL] at hc;obtain⟨j,j0,j1,rfl⟩:=qD hc;exact ha j j0 U hm
  refine(EK ⟨l⟩ (by simp only;omega)).bind λv hv=>?_
  rcases hv with⟨e1,e2⟩ |⟨e1,e2,e3,e4,e5,e6⟩
  ·simp only at e1;subst e1;subst e2;exact WV h hN hF gg ep goal 1000000000000 fuel D [] 0 0 false bo (by rw[de];omega) (by simp;simp at hlen;omega) bp (λ_=>⟨J,hr⟩) Uj
  ·simp only at e1 e3 e4 e5 e6;rw[e2];refine WV h hN hF gg ep goal 1000000000000 fuel D v.2.2.2.l v.1 v.2.1 true (by simp only[if_true];omega) (by rw[de];omega) U (λ_=>?_) bp Uj
   rw[e3];have h0:=fS (a:=l) (i:=0) U (by have:=List.length_pos_iff.2 e1;omega)
   refine⟨hr.len_,hr.dv,λe he=>?_,λc hc xU rn=>?_⟩
   ·rcases List.mem_cons.1 he with rfl |he
    ·exact hr.hp _ h0
    ·exact hr.hp e (e5 e he)
   ·rcases hr.rel c hc xU rn with y |y
    ·refine .inl ?_;rcases e6 _ y with z |z
     ·rw[z];exact mD ..
     ·exact oH _ z
    ·exact .inr y
 intro n
 induction n with
 |zero=>
  intro k D l i hn hk hi fa hr hlen ha;obtain⟨k,rfl⟩:=bw hk;exact fin k D l i U hr U ha
 |succ n ih=>
  intro k D l i hn hk hi fa hr hlen ha;obtain⟨k,rfl⟩:=bw hk
  by_cases aS:i<L.length
  ·have lX:rd L i∈bP g.m (aR g.m.W g.m.H goal):=by rw[<-hL];exact fS hi aS
   have Ua:=KW lX;have Ev:=Dm hN hr;rw[gm.l0,wi (x:=i+1) U U];refine Ok.pos aS ?_;rw[ah (show 0<=i/\i<(L.length:Int) from⟨hi,aS⟩)]
   cases hm:ck im (rd L i)
   ·simp only[jk,if_false,aM];refine ih k D l (i+1) U U U U hr U λj j0 j1 hj=>?_
    by_cases z:j=i
    ·subst z;rw[hm] at hj;simp at hj
    ·exact ha j j0 U hj
   ·have hv:=Ka _ hm;simp only[if_true];have hrx:=Wz (ge:=0) h hN hr U gg ep Ua (by have:=uh h hr.len_ Ua;omega) hv.1 U (.inl ⟨lX,hm,J⟩)
    obtain⟨r,e,mm⟩:=hrx;rw[e];simp only[aM];rcases mm with⟨rfl,z1,z2⟩ |⟨D',rfl,z1,z2,z3,z4,z5,z6⟩
    ·simp only[jk,if_false,aM];refine ih k D l (i+1) U U U U hr U λj j0 j1 hj=>?_
     by_cases z:j=i
     ·subst z;exact⟨z1,z2⟩
     ·exact ha j j0 U hj
    ·simp only[if_true];obtain⟨q,eq,hq⟩:=EL ⟨l⟩ (aT im (rd L i)) (rd L i) (by simp only;omega)
     rw[eq];simp only[aM];have Oe:=hq.1;simp only at Oe;refine ih k D' q.l (i+1) U U U U (z6 q.l hq.2) U λj j0 j1 hj=>?_
     by_cases y:rd L j=rd L i
     ·rw[y,z2];exact⟨by omega,dU _⟩
     ·have hjm:rd L j∈bP g.m (aR g.m.W g.m.H goal):=by rw[<-hL];exact fS j0 U
      have:=uh h hr.len_ (KW hjm);rw[z3 _ this.1 y];refine ha j j0 ?_ hj;have:j≠i:=λz=>y (by rw[z])
      omega
  ·exact fin k D l i aS hr U ha
def Qq (g:bx) (goal:Int) (im:List (Int×Int)):Prop:=(∀f M,gd.f f goal M g=some im)/\ ∀c,ck im c=true->0<=aT im c/\aT im c<=500000
def rf (g:bx) (r:gO):Prop:=r.bV=g.bV/\ ∃im,Qq g r.goal im/\Fz g r.goal im r.aN
theorem ahR (h:cL g more) (hN:g.m.W*g.m.H<=1600) (hF:qY g M) (f:kc) (hg:bS g.m goal):Ok (gm.f f goal M g) (λr=> ∃R,r=some R/\R.goal=goal/\rf g R):=by
 have M4:dN=2147483647:=rfl;have xN:RB=104538400:=rfl;have hmp:=pP h.ok.1;unfold gm.f;obtain⟨im,e,Ka⟩:=ahF h hN f M hg;have aez:Qq g goal im:=⟨λf' M'=>e,Ka⟩
 have hs:=pe (fI h.ok hg);refine Ok.eq (Bz g) (Ok.eq (F_ g) ?_);simp only;rw[wi U U];have GO:=ahl (v:=dN) (n:=(g.m.W*g.m.H).toNat) U U;rw[show(((g.m.W*g.m.H).toNat:Nat):Int)=g.m.W*g.m.H by omega] at GO
 refine Ok.eq GO (Ok.eq (v:=some ⟨[]⟩) J ?_);refine Ok.eq e (Ok.eq (rK ..) (Ok.eq (agm hF _ hs) ?_));have TP: ∀c:Int,0<=c->c<(g.m.W*g.m.H).toNat->rd (cy (g.m.W*g.m.H).toNat dN) c=dN:=λc c0 c1=>wM c0 c1
 have hR:Rt g goal im (cy (g.m.W*g.m.H).toNat dN) [] (-1):=by
  refine⟨by simp;omega,λc c0 c1 hc=>?_,by simp,λc hc _ rn=>?_⟩
  ·rw[List.length_replicate] at c1;exact absurd (TP c c0 c1) hc
  ·have:=(yw hc).2;exact absurd (TP c this.1 (by have:=this.2;omega)) rn
 have hph:=Dm hN hR;have Ki:=wJ g.m (aR g.m.W g.m.H goal);refine(ahS h hN hF Ka goal g.bV _ J 256 fuel _ [] 0 U (by rw[de];omega) U U hR bo (λj j0 j1=>by omega)).mono λr hr=>?_
 obtain⟨D',rfl,hD⟩:=hr;exact⟨_,J,J,J,im,aez,hD⟩
structure LI (g:bx) (f:kc):Prop where
 kept: ∀R,f.kept=some R->bS g.m R.goal/\R.bV<=g.bV/\(R.bV=g.bV->rf g R)
 jd:0<=f.count/\f.count<=1000000000000
def UL (g:bx) (f:kc) (goal:Int):Prop:= ∃R,f.kept=some R/\R.goal=goal/\R.bV=g.bV
theorem ahn (h:cL g more) (hN:g.m.W*g.m.H<=1600) (hv: ∀s:Int,bC g.m.W g.m.H s->fX g s<=g.bV) {f:kc} (hf:LI g f) (hM:AM g M) (hc:M.count+4096<=1000000000000) (NW:f.count+1<=1000000000000) (hg:bS g.m goal):
 Ok (yG.f f goal M g) (λr=> ∃R,r.1=some R/\R.goal=goal/\rf g R/\r.2.1.kept=some R/\LI g r.2.1/\f.count<=r.2.1.count/\r.2.1.count<=f.count+1/\(UL g f goal->r.2.1=f)/\qY g r.2.2/\r.2.2.clean=g.bV/\r.2.2.count=M.count+(qm g M M.parts.length).length):=by
 have El:=Gi h hg;unfold yG.f;refine Ok.eq (sw h _) (Ok.neg bo ((ahf h hv hM hc).bind λv Om=>?_));obtain⟨hF,eO,iR⟩:=Om;have e:(dM f.kept (some true) (λx5=>if(x5.goal !=goal)=true then(some true) else((pE.f g).bind λv6=>some (x5.bV !=v6))))=some (match f.kept with |none=>true |some R=>(R.goal !=goal||R.bV !=g.bV)):=by
  cases f.kept with
  |none=>rfl
  |some R=>
   show(if(R.goal !=goal)=true then _ else _)=some (R.goal !=goal||R.bV !=g.bV)
   by_cases z:R.goal=goal
   ·rw[ak (by simp[z]),F_];simp[z]
   ·rw[ah (by simpa using z)];simp[z]
 refine Ok.eq e (Ok.ite (λq=>?_) λq=>?_)
 ·refine(ahR h hN hF f hg).bind λr hr=>?_
  obtain⟨R,rfl,r1,r2⟩:=hr;have ajE:=hf.jd;refine Ok.eq (v:=f.count+1) (Ap U U U U) (Ok.pure ⟨R,rfl,r1,r2,rfl,⟨λR' JP=>?_,?_⟩,?_,?_,λ⟨R',k1,k2,k3⟩=>?_,hF,eO,iR⟩)
  ·simp only[Option.some.injEq] at JP;subst JP;exact⟨by rw[r1];exact hg,by rw[r2.1];omega,λ_=>r2⟩
  ·simp only;omega
  ·simp only;omega
  ·simp only;omega
  ·rw[k1] at q;simp[k2,k3] at q
 ·cases hk:f.kept with
  |none=>rw[hk] at q;simp at q
  |some R=>
   rw[hk] at q;simp at q;have hkk:=hf.kept R hk;exact Ok.pure ⟨R,J,q.1,hkk.2.2 q.2,hk,hf,dU _,by simp only;omega,λ_=>rfl,hF,eO,iR⟩
theorem Zf (h:cL g more) (hN:g.m.W*g.m.H<=1600) {R:gO} (hR:rf g R) (c:Int):Dk.f R c=some (if bS g.m c/\rd R.aN c≠dN then rd R.aN c else ct):=by
 have M4:dN=2147483647:=rfl;have xN:RB=104538400:=rfl;obtain⟨_,im,_,hD⟩:=hR;have hl:=hD.len_;unfold Dk.f;have e:(if c<0 then(some true) else(if c≥(aa R.aN:Int) then(some true) else(if(0<=c/\c<(aa R.aN:Int)) then(some ((rd R.aN c)==2147483647)) else none)))=some (decide (¬(bS g.m c/\rd R.aN c≠dN))):=by
  unfold bS
  by_cases a:c<0
  ·rw[ah a];simp;omega
  ·by_cases b:c≥(aa R.aN:Int)
   ·rw[ak a,ah b];simp;omega
   ·rw[ak a,ak b,ah U];congr 1;rw[nM];simp;omega
 rw[e];simp only[aM]
 by_cases z:bS g.m c/\rd R.aN c≠dN
 ·have hz:=z.1;obtain⟨z0,z1⟩:=hz;have:=hD.dv c z0 U z.2;rw[ak (by simpa using z),ah U,ah z,wi U U]
 ·rw[ah (decide_eq_true z),ak z]
end
section
variable {g : bx} {more : Int} {R : gO}
def qW (g:bx) (R:gO) (c:Int):Int:=if bS g.m c/\rd R.aN c≠dN then rd R.aN c else ct
theorem FV (hN:g.m.W*g.m.H<=1600) (hR:rf g R) {c:Int} (hc:qW g R c≠ct):bS g.m c/\rd R.aN c≠dN/\qW g R c=rd R.aN c/\0<=qW g R c/\qW g R c<=RB:=by
 unfold qW at hc⊢;split at hc
 ·rename_i z;obtain⟨_,im,_,hD⟩:=hR;have hl:=hD.len_;have hz:=z.1;obtain⟨z0,z1⟩:=hz;have:=hD.dv c z0 U z.2;rw[ah z];exact⟨z.1,z.2,J,this.2.1,this.2.2.1⟩
 ·exact absurd J hc
def uS (g:bx) (R:gO) (c:Int) (e:ez) (x:aX):Prop:=qW g R e.To≠ct/\x=⟨cE g.m.W g.m.H c,Dr g.m.W g.m.H c e.To,e.kG+qW g R e.To⟩
theorem aeK (h:cL g more) (hN:g.m.W*g.m.H<=1600) (hR:rf g R) (L:List Int) (i:Int) (E:List ez) (hE:E.length<=4) (hEc: ∀e∈E,0<=e.kG/\e.kG<=255) (x0:List aX) (wC:x0.length<=10000): ∀(n k:Nat) (x:List aX) (j:Int),(E.length-j).toNat<=n->n<k->0<=j->j<=E.length->(x.length:Int)<=x0.length+j->
 (∀y,y∈x↔y∈x0∨ ∃q:Int,0<=q/\q<j/\uS g R (rd L i) (rd E q) y)->
 Ok (iS.l1 k R (g.m.W,g.m.H) L i E x j) (λr=>r.length<=x0.length+4/\ ∀y,y∈r↔y∈x0∨ ∃e∈E,uS g R (rd L i) e y):=by
 have xN:RB=104538400:=rfl;have fin: ∀(k:Nat) (x:List aX) (j:Int),¬j<E.length->j<=E.length->(x.length:Int)<=x0.length+j->(∀y,y∈x↔y∈x0∨ ∃q:Int,0<=q/\q<j/\uS g R (rd L i) (rd E q) y)->
  Ok (iS.l1 (k+1) R (g.m.W,g.m.H) L i E x j) (λr=>r.length<=x0.length+4/\ ∀y,y∈r↔y∈x0∨ ∃e∈E,uS g R (rd L i) e y):=λk x j hj jq hl hm=>by
  rw[iS.l1,ak hj];refine Ok.pure ⟨by omega,λy=>(hm y).trans (or_congr_right ⟨λ⟨q,q0,q1,w⟩=>⟨_,fS q0 U,w⟩,λ⟨e,he,w⟩=>?_⟩)⟩
  obtain⟨q,q0,q1,rfl⟩:=qD he;exact⟨q,q0,by omega,w⟩
 intro n
 induction n with
 |zero=>
  intro k x j hn hk hj jq hl hm;obtain⟨k,rfl⟩:=bw hk;exact fin k x j U jq hl hm
 |succ n ih=>
  intro k x j hn hk hj jq hl hm;obtain⟨k,rfl⟩:=bw hk
  by_cases aS:j<E.length
  ·have hc:=hEc _ (fS hj aS);have xX: ∀y,(y∈x0∨ ∃q:Int,0<=q/\q<j+1/\uS g R (rd L i) (rd E q) y)↔y∈x∨uS g R (rd L i) (rd E j) y:=λy=>by
    rw[hm y];constructor
    ·rintro(a |⟨q,q0,q1,w⟩)
     ·exact .inl (.inl a)
     ·by_cases z:q=j
      ·subst z;exact .inr w
      ·exact .inl (.inr ⟨q,q0,by omega,w⟩)
    ·rintro((a |⟨q,q0,q1,w⟩) |w)
     ·exact .inl a
     ·exact .inr ⟨q,q0,by omega,w⟩
     ·exact .inr ⟨j,hj,by omega,w⟩
   rw[iS.l1,wi (x:=j+1) U U];refine Ok.pos aS (Ok.br ⟨hj,aS⟩ (Ok.eq (v:=qW g R (rd E j).To) (Zf h hN hR _) (Ok.ite (λq=>Ok.eq (G8 ..) (Ok.eq (ah8 ..) (Ok.br U ?_))) λq=>?_)))
   ·have q:qW g R (rd E j).To≠ct:=by simpa using q
    have ha:=FV hN hR q;rw[wi U U];refine ih k _ (j+1) U U U U bo λy=>?_
    rw[xX y];unfold uS;simp[q]
   ·have q:qW g R (rd E j).To=ct:=by simpa using q
    refine ih k x (j+1) U U U U U λy=>?_
    rw[xX y];unfold uS;simp[q]
  ·exact fin k x j aS jq hl hm
def xu (g:bx) (R:gO) (s:Int) (x:aX):Prop:=
 (∃c∈bP g.m s,∃e∈uq g.m c,uS g R c e x)∨(aR g.m.W g.m.H R.goal=s/\je g R.goal≠255/\x=⟨cE g.m.W g.m.H R.goal,4,0⟩)
theorem F5 {m:aG} {c:Int} {e:ez} (he:e∈uq m c): ∃d:Int,0<=d/\d<=3/\lM m (fo m.W m.H c d)=true/\e=⟨fo m.W m.H c d,rd m.C (fo m.W m.H c d)⟩:=by
 unfold uq at he;split at he
 ·unfold wX at he;obtain⟨j,hj,rfl⟩:=List.mem_map.1 he;obtain⟨j1,j2⟩:=List.mem_filter.1 hj;have:=List.mem_range.1 j1;exact⟨j,by omega,by omega,j2,J⟩
 ·simp at he
theorem aeJ (h:cL g more) (hN:g.m.W*g.m.H<=1600) (hR:rf g R) (s:Int): ∀(n k:Nat) (x:List aX) (i:Int),((bP g.m s).length-i).toNat<=n->n<k->0<=i->i<=(bP g.m s).length->(x.length:Int)<=4*i->
 (∀y,y∈x↔ ∃q:Int,0<=q/\q<i/\ ∃e∈uq g.m (rd (bP g.m s) q),uS g R (rd (bP g.m s) q) e y)->
 Ok (iS.l0 k g R s (g.m.W,g.m.H) (bP g.m s) x i) (λr=>r.length<=1025/\(∀y,y∈r↔xu g R s y)/\r.Pairwise (λa b=> ¬ur b a)):=by
 have hl:=wJ g.m s;have fin: ∀(k:Nat) (x:List aX) (i:Int),¬i<(bP g.m s).length->i<=(bP g.m s).length->(x.length:Int)<=4*i->(∀y,y∈x↔ ∃q:Int,0<=q/\q<i/\ ∃e∈uq g.m (rd (bP g.m s) q),uS g R (rd (bP g.m s) q) e y)->
  Ok (iS.l0 (k+1) g R s (g.m.W,g.m.H) (bP g.m s) x i) (λr=>r.length<=1025/\(∀y,y∈r↔xu g R s y)/\r.Pairwise (λa b=> ¬ur b a)):=λk x i hi fa hx hm=>by
  rw[iS.l0,ak hi];have sJ: ∀y,y∈x↔ ∃c∈bP g.m s,∃e∈uq g.m c,uS g R c e y:=λy=>(hm y).trans ⟨λ⟨q,q0,q1,w⟩=>⟨_,fS q0 U,w⟩,λ⟨c,hc,w⟩=>by
   obtain⟨q,q0,q1,rfl⟩:=qD hc;exact⟨q,q0,by omega,w⟩⟩
  refine Ok.eq (v:=R.goal) J (Ok.eq (v:=decide (aR g.m.W g.m.H R.goal=s/\je g R.goal≠255)) ?_ (Ok.ite (λq=>?_) λq=>?_))
  ·simp only[rK,aM]
   by_cases z:aR g.m.W g.m.H R.goal=s
   ·rw[ah (by simpa using z),sw h];simp[z];rw[nM];simp
   ·rw[ak (by simpa using z)];simp[z]
  ·have q:=of_decide_eq_true q;refine Ok.eq (G8 ..) (Ok.br U ((PK _ bo).bind λr hr=>Ok.pure ⟨by have:=hr.1;simp at this;omega,λy=>?_,hr.2.2⟩))
   rw[hr.2.1 y,List.mem_append,sJ y];unfold xu;simp[q.1,q.2]
  ·have q: ¬(aR g.m.W g.m.H R.goal=s/\je g R.goal≠255):=by simpa using q
   refine(PK _ U).bind λr hr=>Ok.pure ⟨by omega,λy=>?_,hr.2.2⟩
   rw[hr.2.1 y,sJ y];unfold xu;exact⟨.inl,λw=>w.resolve_right λz=>q ⟨z.1,z.2.1⟩⟩
 intro n
 induction n with
 |zero=>
  intro k x i hn hk hi fa hx hm;obtain⟨k,rfl⟩:=bw hk;exact fin k x i U fa hx hm
 |succ n ih=>
  intro k x i hn hk hi fa hx hm;obtain⟨k,rfl⟩:=bw hk
  by_cases aS:i<(bP g.m s).length
  ·rw[iS.l0,wi U U];refine Ok.pos aS (Ok.bind (Ok.br ⟨hi,aS⟩ (Ok.eq (aaZ h _) (aeK h hN hR (bP g.m s) i (uq g.m (rd (bP g.m s) i)) (RE ..) (λe he=>?_) x U 4 fuel x 0 (by have:=RE g.m (rd (bP g.m s) i);omega) (by rw[de];omega) U U U (λy=>⟨.inl,λw=>w.resolve_right λ⟨q,q0,q1,_⟩=>by omega⟩)))) λr hr=>ih k r (i+1) U U U U U λy=>?_)
   ·obtain⟨d,_,_,d2,rfl⟩:=F5 he;have:=(ph.1 d2).1;have:=h.sm _ this.1 this.2;simp only;omega
   ·rw[hr.2 y,hm y];constructor
    ·rintro(⟨q,q0,q1,w⟩ |w)
     ·exact⟨q,q0,by omega,w⟩
     ·exact⟨i,hi,by omega,w⟩
    ·rintro⟨q,q0,q1,w⟩
     by_cases z:q=i
     ·subst z;exact .inr w
     ·exact .inl ⟨q,q0,by omega,w⟩
  ·exact fin k x i aS fa hx hm
theorem UD (h:cL g more) (hN:g.m.W*g.m.H<=1600) (hR:rf g R) (s:Int):Ok (iS.f g R s) (λr=>r.length<=1025/\(∀y,y∈r↔xu g R s y)/\r.Pairwise (λa b=> ¬ur b a)):=by
 have hl:=wJ g.m s;unfold iS.f;refine Ok.eq (Bz g) (Ok.eq (v:=R.bV) rfl (Ok.eq (F_ g) (Ok.neg (by simp[hR.1]) (Ok.eq (Vn h s) (aeJ h hN hR s 256 fuel [] 0 U (by rw[de];omega) U U bp (λy=>⟨λq=>by simp at q,λ⟨q,q0,q1,_⟩=>by omega⟩))))))
theorem WY (h:cL g more) (hN:g.m.W*g.m.H<=1600) (hR:rf g R) (hg:bS g.m R.goal) {s:Int} (hs:bC g.m.W g.m.H s) {x:aX} (hx:xu g R s x):rh (dG g.m s) x/\x.Key+254*256<=104603678:=by
 have xN:RB=104538400:=rfl;rcases hx with⟨c,hc,e,he,ha,rfl⟩ |⟨h1,h2,rfl⟩
 ·obtain⟨n1,n2,n3,n4⟩:=qE hc;obtain⟨d,d0,d3,d4,rfl⟩:=F5 he;have gC:=fI h.ok n2;have qB:=uy h n2;rw[n4] at qB;have aQ:=(ph.1 d4).1;have qz:=HD (w:=g.m.W) (h:=g.m.H) (c:=c) (side:=d) aQ.1;have hb:=h.sm _ aQ.1 aQ.2;have Cx:=FV hN hR ha;simp only at ha Cx;have bK:=(ph.1 d4).2;have b_:=zQ gC;have lD:=nX gC;rw[n4] at b_ lD;have TW:=K0 hs b_.1 b_.2 d0 d3;rw[lD] at TW;have CF:Dr g.m.W g.m.H c (fo g.m.W g.m.H c d)=d:=by
   rw[qz.2.2.2.2.1];exact PH gC d0 U (by rw[<-qz.2.2.2.2.1];exact qz.2.2.2.1)
  refine⟨⟨qB.1,qB.2.1,?_,by simp only;omega,by simp only;omega,?_⟩,by simp only;omega⟩
  ·simp only;rw[qB.2.2];unfold je;rw[ah n2];exact(ph.1 n1).2
  ·simp only;rw[CF];exact .inr ⟨d0,d3,(TW.1 aQ.1).2⟩
 ·have qB:=uy h hg;rw[h1] at qB;exact⟨⟨qB.1,qB.2.1,by simp only;rw[qB.2.2];exact h2,by simp,by simp,.inl J⟩,by simp⟩
end
section
theorem PR {a b:g_} (ha:qX a CB) (hb:qX b CB):mX.f a b=some ⟨a.bM+b.bM,a.bN+b.bN,a.bJ+b.bJ,a.bF+b.bF,a.bW+b.bW,a.bR+b.bR⟩:=by
 obtain⟨a1,a2,a3,a4,a5,a6⟩:=ha;obtain⟨b1,b2,b3,b4,b5,b6⟩:=hb;have M1:CB=1000000000000:=rfl;unfold mX.f mv.f;simp only[aM];have e0: ∀a b c d e f:Int,rd [a,b,c,d,e,f] 0=a:=λ_ _ _ _ _ _=>rfl
 have e1: ∀a b c d e f:Int,rd [a,b,c,d,e,f] 1=b:=λ_ _ _ _ _ _=>rfl
 have e2: ∀a b c d e f:Int,rd [a,b,c,d,e,f] 2=c:=λ_ _ _ _ _ _=>rfl
 have e3: ∀a b c d e f:Int,rd [a,b,c,d,e,f] 3=d:=λ_ _ _ _ _ _=>rfl
 have e4: ∀a b c d e f:Int,rd [a,b,c,d,e,f] 4=e:=λ_ _ _ _ _ _=>rfl
 have e5: ∀a b c d e f:Int,rd [a,b,c,d,e,f] 5=f:=λ_ _ _ _ _ _=>rfl
 have s0: ∀a b c d e f v:Int,aD [a,b,c,d,e,f] (ax 0) v=[v,b,c,d,e,f]:=λ_ _ _ _ _ _ _=>rfl
 have s1: ∀a b c d e f v:Int,aD [a,b,c,d,e,f] (ax 1) v=[a,v,c,d,e,f]:=λ_ _ _ _ _ _ _=>rfl
 have s2: ∀a b c d e f v:Int,aD [a,b,c,d,e,f] (ax 2) v=[a,b,v,d,e,f]:=λ_ _ _ _ _ _ _=>rfl
 have s3: ∀a b c d e f v:Int,aD [a,b,c,d,e,f] (ax 3) v=[a,b,c,v,e,f]:=λ_ _ _ _ _ _ _=>rfl
 have s4: ∀a b c d e f v:Int,aD [a,b,c,d,e,f] (ax 4) v=[a,b,c,d,v,f]:=λ_ _ _ _ _ _ _=>rfl
 have s5: ∀a b c d e f v:Int,aD [a,b,c,d,e,f] (ax 5) v=[a,b,c,d,e,v]:=λ_ _ _ _ _ _ _=>rfl
 have w0:af (0+1)=1:=rfl;have w1:af (1+1)=2:=rfl;have w2:af (2+1)=3:=rfl;have w3:af (3+1)=4:=rfl;have w4:af (4+1)=5:=rfl;have w5:af (5+1)=6:=rfl;simp only[e0,e1,e2,e3,e4,e5];have st: ∀(k:Nat) (x7 x8 x9 aL a_ bl y7 y8 y9 Az AA AB i v:Int),0<=i->i<6->tg.f (rd [y7,y8,y9,Az,AA,AB] i) (rd [x7,x8,x9,aL,a_,bl] i)=some v->
  mX.l0 (k+1) x7 x8 x9 aL a_ bl y7 y8 y9 Az AA AB i=mX.l0 k x7 x8 x9 aL a_ bl (rd (aD [y7,y8,y9,Az,AA,AB] (ax i) v) 0) (rd (aD [y7,y8,y9,Az,AA,AB] (ax i) v) 1) (rd (aD [y7,y8,y9,Az,AA,AB] (ax i) v) 2) (rd (aD [y7,y8,y9,Az,AA,AB] (ax i) v) 3) (rd (aD [y7,y8,y9,Az,AA,AB] (ax i) v) 4) (rd (aD [y7,y8,y9,Az,AA,AB] (ax i) v) 5) (af (i+1)):=by
  intro k x7 x8 x9 aL a_ bl y7 y8 y9 Az AA AB i v h0 h1 hv;rw[mX.l0,ah h1,ah ⟨h0,h1⟩,ah ⟨h0,h1⟩,hv,aM,ah ⟨h0,h1⟩]
 obtain⟨k,hk⟩: ∃q,fuel=q+1+1+1+1+1+1+1:=⟨fuel-7,by rw[de]⟩
 rw[hk];rw[st _ _ _ _ _ _ _ _ _ _ _ _ _ 0 (a.bM+b.bM) U U (by rw[e0,e0];exact Ap U U U U)]
 simp only[s0,e0,e1,e2,e3,e4,e5,w0];rw[st _ _ _ _ _ _ _ _ _ _ _ _ _ 1 (a.bN+b.bN) U U (by rw[e1,e1];exact Ap U U U U)]
 simp only[s1,e0,e1,e2,e3,e4,e5,w1];rw[st _ _ _ _ _ _ _ _ _ _ _ _ _ 2 (a.bJ+b.bJ) U U (by rw[e2,e2];exact Ap U U U U)]
 simp only[s2,e0,e1,e2,e3,e4,e5,w2];rw[st _ _ _ _ _ _ _ _ _ _ _ _ _ 3 (a.bF+b.bF) U U (by rw[e3,e3];exact Ap U U U U)]
 simp only[s3,e0,e1,e2,e3,e4,e5,w3];rw[st _ _ _ _ _ _ _ _ _ _ _ _ _ 4 (a.bW+b.bW) U U (by rw[e4,e4];exact Ap U U U U)]
 simp only[s4,e0,e1,e2,e3,e4,e5,w4];rw[st _ _ _ _ _ _ _ _ _ _ _ _ _ 5 (a.bR+b.bR) U U (by rw[e5,e5];exact Ap U U U U)]
 simp only[s5,e0,e1,e2,e3,e4,e5,w5];rw[mX.l0,ak U]
structure Ql (m:aG):Prop where
 ok:nK m
 sm: ∀c:Int,0<=c->c<m.W*m.H->1<=rd m.C c/\rd m.C c<=255
 lW:m.W*m.H<=1600
structure Qe (c:fe) (b:Int):Prop where
 gs:cL c.aK 0
 lW:c.aK.m.W*c.aK.m.H<=1600
 Fh: ∀s:Int,bC c.aK.m.W c.aK.m.H s->1<=fX c.aK s/\fX c.aK s<=c.aK.bV
 ep:c.aK.bV<=b
 ms:AM c.aK c.jv
 fs:LI c.aK c.kQ
def jB (n:cI):g_:=⟨n.aU.bM+(match n.core with |none=>0 |some c=>c.jv.count)+n.gF.count.bM,n.aU.bN+(match n.core with |none=>0 |some c=>c.kQ.count)+n.gF.count.bN,n.aU.bJ+n.gF.count.bJ,n.aU.bF+n.gF.count.bF,n.aU.bW+n.gF.count.bW,n.aU.bR+n.gF.count.bR⟩
structure jF (n:cI) (k b:Int) (ord:List Int):Prop where
 sN:q_ n.gF.keys k ord
 aU:qX n.aU b
 sc:qX n.gF.count b
 z:n.gF.count.bM=0/\n.gF.count.bN=0
 kF:qX (jB n) b
 none_:n.core=none->n.gF.fields=[]/\ord=[]
 core: ∀c,n.core=some c->Qe c b/\c.jv.count<=b/\c.kQ.count<=b/\B1 c.aK n.gF k ord
def kP (n:cI):g_:=⟨(match n.core with |none=>0 |some c=>c.jv.count),(match n.core with |none=>0 |some c=>c.kQ.count),0,0,0,0⟩
section
variable {n : cI} {k b : Int} {ord : List Int}
theorem Rv (n:cI):zW.f n=some (kP n):=by
 unfold zW.f kP
 cases n.core with
 |none=>rfl
 |some c=>rfl
theorem jF.cv (h:jF n k b ord) (hb:0<=b):qX (kP n) b:=by
 unfold kP
 cases hc:n.core with
 |none=>exact⟨⟨dU _,hb⟩,⟨dU _,hb⟩,⟨dU _,hb⟩,⟨dU _,hb⟩,⟨dU _,hb⟩,⟨dU _,hb⟩⟩
 |some c=>
  obtain⟨h1,h2,h3,_⟩:=h.core c hc;exact⟨⟨h1.ms.jd.1,h2⟩,⟨h1.fs.jd.1,h3⟩,⟨dU _,hb⟩,⟨dU _,hb⟩,⟨dU _,hb⟩,⟨dU _,hb⟩⟩
theorem aaQ {x y:g_} {b c:Int} (hx:qX x b) (hy:qX y c):qX ⟨x.bM+y.bM,x.bN+y.bN,x.bJ+y.bJ,x.bF+y.bF,x.bW+y.bW,x.bR+y.bR⟩ (b+c):=by
 obtain⟨a1,a2,a3,a4,a5,a6⟩:=hx;obtain⟨b1,b2,b3,b4,b5,b6⟩:=hy;exact⟨by simp only;omega,by simp only;omega,by simp only;omega,by simp only;omega,by simp only;omega,by simp only;omega⟩
theorem ain (h:jF n k b ord) (hb:0<=b/\b<=100000000000):C3.f n=some (jB n):=by
 have M1:CB=1000000000000:=rfl;have GC:=h.cv hb.1;unfold C3.f E3.f;rw[Rv,aM,PR (h.aU.mono U) (GC.mono U),aM,aM,PR ((aaQ h.aU GC).mono U) (h.sc.mono U)];simp[jB,kP]
theorem age {k:Int} (h1:1<=k) (h2:k<=1000000): ∃n,yv.f k=some (some n)/\jF n k 0 []/\n.core=none/\jB n=⟨0,0,0,0,0,0⟩:=by
 obtain⟨s,e,hs,hf,hc⟩:=ah_ h1 h2;have hz:qX ⟨0,0,0,0,0,0⟩ 0:=⟨by simp,by simp,by simp,by simp,by simp,by simp⟩
 unfold yv.f;rw[ak U,e];exact⟨_,J,⟨hs,hz,by rw[hc];exact hz,by rw[hc];exact⟨J,J⟩,by simp[jB,hc];exact hz,λ_=>⟨hf,J⟩,λc hc=>by simp at hc⟩,J,by simp[jB,hc]⟩
theorem KU {c:fe} (h:jF n k b ord) (hc:n.core=some c) (x:Int):ug.f n x=some (je c.aK x):=by
 unfold ug.f;rw[hc]
 show(jf.f c.aK x).bind _=_
 rw[sw (h.core c hc).1.gs];rfl
theorem Vp {c:fe} (hc:n.core=some c):zV.f n=some (c.aK.m.W,c.aK.m.H):=by
 unfold zV.f;rw[hc];rfl
theorem jF.mono {b':Int} (h:jF n k b ord) (hb:b<=b'):jF n k b' ord:=
 ⟨h.sN,h.aU.mono hb,h.sc.mono hb,h.z,h.kF.mono hb,h.none_,λc hc=>by
   obtain⟨h1,h2,h3,h4⟩:=h.core c hc;exact⟨⟨h1.gs,h1.lW,h1.Fh,by have:=h1.ep;omega,h1.ms,h1.fs⟩,by omega,by omega,h4⟩⟩
structure DN (n:cI) (k b:Int) (ord:List Int) (c:fe) (goal s:Int) (r:eJ×Er×cI):Prop where
 err:r.2.1=Er.nil
 Gd: ∃R l c' ui,rf c.aK R/\R.goal=goal/\l.length<=1025/\(∀y,y∈l↔xu c.aK R s y)/\l.Pairwise (λa b=> ¬ur b a)/\AF (dG c.aK.m s) l KF r.1/\
  r.2.2.core=some c'/\c'.aK=c.aK/\c'.kQ.kept=some R/\qY c.aK c'.jv/\c'.jv.clean=c.aK.bV/\c'.jv.count=c.jv.count+(qm c.aK c.jv c.jv.parts.length).length/\
  c.kQ.count<=c'.kQ.count/\c'.kQ.count<=c.kQ.count+1/\(UL c.aK c.kQ goal->c'.kQ=c.kQ)/\
  jF r.2.2 k (b+5000) ui/\Qf c.aK n.gF k ord goal s l (r.1,0,r.2.2.gF)/\r.2.2.aU=n.aU/\iS.f c.aK R s=some l
theorem Vj {c:fe} (h:jF n k b ord) (hb:0<=b/\b<=100000000000) (hc:n.core=some c) {goal s:Int} (hg:bS c.aK.m goal) (hs:bC c.aK.m.W c.aK.m.H s):
 Ok (rF.f n goal s) (DN n k b ord c goal s):=by
 have M1:CB=1000000000000:=rfl;obtain⟨fi,wA,NW,vn⟩:=h.core c hc;have hG:=fi.gs;have El:=Gi hG hg;have Em:=ME c.aK c.jv c.jv.parts.length;have hml:=fi.ms.len_;have oX:=np c.aK.m.W c.aK.m.H;unfold rF.f;rw[hc];refine Ok.eq (v:=false) J (Ok.neg bp ?_)
 show Ok ((mg.f c.aK s).bind _) _
 refine Ok.eq ((PX hG s).trans (by rw[Sh hs])) (Ok.eq (sw hG _) (Ok.neg bo ((ahn hG fi.lW (λs hs=>(fi.Fh s hs).2) fi.fs fi.ms U U hg).bind λv hv=>?_)))
 obtain⟨R,e1,e2,e3,e4,e5,e6,e7,e8,e9,qn,zu⟩:=hv;rw[e1]
 show Ok ((iS.f c.aK R s).bind _) _
 obtain⟨l,el,l1,l2,l3⟩:=UD hG fi.lW e3 s;refine Ok.eq el ?_;rw[P4 hG,aM];have aeo:=ah4 hG (λs hs=>(fi.Fh s hs).2) vn (h.sc.mono U) hg hs l U (λx hx=>WY hG fi.lW e3 (by rw[e2];exact hg) hs ((l2 x).1 hx))
 refine(aeo.bind' (g:=λv32:eJ×Int×ji=>(v32.1.cN,v32.1.cx,v32.2.1,v32.2.2)) λq hq=>?_);have GM:=hq.code;obtain⟨f,z,sh⟩:=q;simp only at GM;subst GM;simp only;refine Ok.neg bp (Ok.pure ⟨J,R,l,⟨c.aK,v.2.2,v.2.1⟩,?_⟩);obtain⟨cc,A,B,g1,g2⟩:=hq.sh;obtain⟨k1,k2,k3,k4,k5,k6,k7,k8,k9⟩:=hq.jd;simp only at g1 g2 k1 k2 k3 k4 k5 k6 k7 k8 k9;obtain⟨s1,s2,s3,s4,s5,s6⟩:=h.sc;refine⟨cc::(A++B),e3,e2,l1,l2,l3,hq.Gd,J,J,e4,e9,qn,zu,e6,e7,e8,⟨g1.sN,h.aU.mono U,⟨by simp only;omega,by simp only;omega,by simp only;omega,by simp only;omega,by simp only;omega,by simp only;omega⟩,?_,?_,λz=>by simp at z,λc' mj=>?_⟩,hq,J,el⟩
 ·have:=h.z;simp only;omega
 ·have ht:=h.kF;unfold jB at ht⊢;simp only[hc] at ht;obtain⟨t1,t2,t3,t4,t5,t6⟩:=ht;simp only at t1 t2 t3 t4 t5 t6;exact⟨by simp only;omega,by simp only;omega,by simp only;omega,by simp only;omega,by simp only;omega,by simp only;omega⟩
 ·simp only[Option.some.injEq] at mj;subst mj;exact⟨⟨hG,fi.lW,fi.Fh,by have:=fi.ep;simp only;omega,e9.ms,e5⟩,by simp only;omega,by simp only;omega,g1⟩
theorem af_ {c:fe} (h:jF n k b ord) (hc:n.core=some c) {goal s:Int} (oY: ¬(bS c.aK.m goal/\bC c.aK.m.W c.aK.m.H s)):
 rF.f n goal s=some (⟨[],[]⟩,Er.wrap 222 [goal] (Er.dR 3),n):=by
 obtain⟨fi,wA,NW,vn⟩:=h.core c hc;unfold rF.f;rw[hc];simp only[dM,aM,jk,if_false];rw[PX fi.gs,aM,sw fi.gs,aM,ah]
 by_cases z:bS c.aK.m goal
 ·have: ¬bC c.aK.m.W c.aK.m.H s:=λy=>oY ⟨z,y⟩
  unfold Ge;rw[ak this];simp
 ·unfold je;rw[ak z];simp
theorem Vg:zY.f Er.nil=some 0:=rfl
theorem af6 (g:Int):zY.f (Er.wrap 222 [g] (Er.dR 3))=some 7:=rfl
theorem af' (h:jF n k b ord): ∃n',yo.f n=some n'/\jF n' k b []/\jB n'=jB n/\n'.aU=n.aU/\n'.gF.count=n.gF.count/\
 ((n.core=none/\n'.core=none)∨ ∃c,n.core=some c/\n'.core=some ⟨c.aK,c.jv,⟨none,c.kQ.count⟩⟩):=by
 obtain⟨s,e,hs,hf,iR⟩:=R9 h.sN;unfold yo.f;rw[e,aM]
 cases hc:n.core with
 |none=>
  have wa:jB ⟨none,s,n.aU⟩=jB n:=by simp[jB,iR,hc]
  exact⟨_,J,⟨hs,h.aU,by rw[iR];exact h.sc,by rw[iR];exact h.z,by rw[wa];exact h.kF,λ_=>⟨hf,J⟩,λc hc=>by simp at hc⟩,wa,J,iR,.inl ⟨J,J⟩⟩
 |some c=>
  obtain⟨h1,h2,h3,h4⟩:=h.core c hc;have wa:jB ⟨some ⟨c.aK,c.jv,⟨none,c.kQ.count⟩⟩,s,n.aU⟩=jB n:=by simp[jB,iR,hc]
  refine⟨_,J,⟨hs,h.aU,by rw[iR];exact h.sc,by rw[iR];exact h.z,by rw[wa];exact h.kF,λz=>by simp at z,λc' mj=>?_⟩,wa,J,iR,.inr ⟨c,J,J⟩⟩
  ·simp only[Option.some.injEq] at mj;subst mj;exact⟨⟨h1.gs,h1.lW,h1.Fh,h1.ep,h1.ms,⟨λR hR=>by simp at hR,h1.fs.jd⟩⟩,h2,h3,B1.empty _ hs hf⟩
theorem agd {c:fe} (h:jF n k b ord) (hc:n.core=some c):yu.f n=some c.aK.m:=by
 obtain⟨fi,_⟩:=h.core c hc;have:=fi.lW;have:=fi.gs.ok.2.1;unfold yu.f;rw[hc];simp only[dM];rw[abK _ U];rfl
theorem aga (h:jF n k b ord):yp.f n=some (ord.map λc=>(rd n.gF.keys.aw c).key):=by
 unfold yp.f Al.f;rw[afu h.sN];rfl
theorem agb (h:jF n k b ord) (hb:0<=b/\b<=100000000000) {m:aG} (hm:Ql m): ∃n' c',yq.f n m=some (0,n')/\n'.core=some c'/\jF n' k (b+1) []/\c'.aK.m=m/\c'.kQ=⟨none,0⟩/\jB n'=jB n/\(∀s:Int,bC m.W m.H s->(rd c'.jv.parts s).version≠fX c'.aK s)/\n'.gF.count=n.gF.count:=by
 have M1:CB=1000000000000:=rfl;have J_:=hm.lW;have hl:=hm.ok.2.1;obtain⟨s,e,hs,hf,iR⟩:=R9 h.sN;have GC:=h.cv hb.1;have Ex:=PR (h.aU.mono (b':=CB) U) (GC.mono (b':=CB) U);have key: ∀ep:Int,0<=ep->ep<=b-> ∃n' c',((mh.f m ep).bind λv6=>dM v6 none λyZ=>(sO.f yZ).bind λv7=>dM v7 none λrX=>(uk.f rX yZ).bind λv8=>dM v8 none λFk=>(p8.f n.gF).bind λv9=>some ((0:Int),cI.mk (some (fe.mk yZ rX Fk)) v9 ⟨n.aU.bM+(kP n).bM,n.aU.bN+(kP n).bN,n.aU.bJ+(kP n).bJ,n.aU.bF+(kP n).bF,n.aU.bW+(kP n).bW,n.aU.bR+(kP n).bR⟩))=some (0,n')/\n'.core=some c'/\jF n' k (b+1) []/\c'.aK.m=m/\c'.kQ=⟨none,0⟩/\jB n'=jB n/\(∀s:Int,bC m.W m.H s->(rd c'.jv.parts s).version≠fX c'.aK s)/\n'.gF.count=n.gF.count:=by
  intro ep h0 h1;have hgn:Jz m ep=some (bx.mk m (ep+1) (cy (dy m.W m.H).toNat (ep+1))):=by unfold Jz;rw[ah ⟨hm.ok,h0,by omega⟩]
  rw[abL m ep U,hgn];have oX:=np m.W m.H;have hG:cL (bx.mk m (ep+1) (cy (dy m.W m.H).toNat (ep+1))) 0:=⟨hm.ok,hm.sm,by simp;omega,by simp only;omega⟩
  have On: ∀s:Int,bC m.W m.H s->fX (bx.mk m (ep+1) (cy (dy m.W m.H).toNat (ep+1))) s=ep+1:=λs hs=>by
   unfold fX;rw[ah hs];simp only;rw[wM hs.1 (by have:=hs.2;omega)]
  obtain⟨M,eM,hM,hM0,_,hMv⟩:=afQ hG (λs hs=>by rw[On s hs];omega)
  simp only[dM,aM,eM,uk.f,e];have ht:=h.kF;have hz:=h.z;have hpc:qX ⟨n.aU.bM+(kP n).bM,n.aU.bN+(kP n).bN,n.aU.bJ+(kP n).bJ,n.aU.bF+(kP n).bF,n.aU.bW+(kP n).bW,n.aU.bR+(kP n).bR⟩ (b+1):=by
   obtain⟨t1,t2,t3,t4,t5,t6⟩:=ht;obtain⟨s1,s2,s3,s4,s5,s6⟩:=h.sc;obtain⟨p1,p2,p3,p4,p5,p6⟩:=h.aU;obtain⟨v1,v2,v3,v4,v5,v6⟩:=GC;simp only[jB] at t1 t2 t3 t4 t5 t6;simp only[kP] at v1 v2 v3 v4 v5 v6⊢;exact⟨by simp only;omega,by simp only;omega,by simp only;omega,by simp only;omega,by simp only;omega,by simp only;omega⟩
  have wa: ∀G,jB ⟨some ⟨G,M,⟨none,0⟩⟩,s,⟨n.aU.bM+(kP n).bM,n.aU.bN+(kP n).bN,n.aU.bJ+(kP n).bJ,n.aU.bF+(kP n).bF,n.aU.bW+(kP n).bW,n.aU.bR+(kP n).bR⟩⟩=jB n:=λG=>by simp only[jB,iR,hM0,kP];congr 1<;>omega
  refine⟨_,_,J,J,⟨hs,hpc,by rw[iR];exact h.sc.mono U,by rw[iR];exact h.z,by rw[wa];exact ht.mono U,λz=>by simp at z,λc' mj=>?_⟩,J,J,wa _,λs hs=>?_,iR⟩
  ·simp only[Option.some.injEq] at mj;subst mj;refine⟨⟨hG,J_,λs hs=>?_,by simp only;omega,hM,⟨λR hR=>by simp at hR,by simp⟩⟩,by simp only;omega,by simp only;omega,B1.empty _ hs hf⟩
   rw[On s hs];simp only;omega
  ·simp only;rw[hMv s hs,On s hs];omega
 unfold yq.f;rw[QT m U,decide_eq_true hm.ok];simp only[aM,Bool.not_true,jk,if_false];rw[Rv,aM,Ex,aM]
 cases hc:n.core with
 |none=>exact key 0 (dU _) hb.1
 |some c=>
  obtain⟨h1,_⟩:=h.core c hc;have:=h1.gs.ep;exact key c.aK.bV U h1.ep
end
end
section
variable {g : bx} {more : Int}
theorem UY (h:cL g more) {c v:Int} (hc:bS g.m c) {d:Int} (d0:0<=d):rd (qt g c v).m.C d=if d=c then v else rd g.m.C d:=by
 have hl:=h.ok.2.1;exact mr hc.1 (by rw[hl];exact hc.2) d0
theorem UZ (h:cL g more) {c v:Int} (hc:bS g.m c) {s:Int} (hs:bC g.m.W g.m.H s) (bK:s≠aR g.m.W g.m.H c):dG (qt g c v).m s=dG g.m s:=by
 have hz:=uD g.m.W g.m.H s
 show aG.mk _ _ _=aG.mk _ _ _
 congr 1
 unfold jV;refine List.map_congr_left λl hl=>?_
 have hl:l<((ay g.m.W g.m.H s).1*(ay g.m.W g.m.H s).2).toNat:=List.mem_range.1 hl;have b_:=A6 hs (l:=(l:Int)) U U;have zJ:=EY hs (l:=(l:Int)) U U
 show rd (qt g c v).m.C (cA g.m.W g.m.H s l)=_
 rw[UY h hc b_.1,ak (λz=>bK (by rw[<-z,zJ]))]
theorem aaH {w h s c:Int} (hc:c∈qK w h s):0<=c/\bC w h s/\aR w h c=s:=by
 unfold qK vx at hc;obtain⟨l,hl,rfl⟩:=List.mem_map.mp hc;have hz:=uD w h s;have kl:=List.mem_range.mp (List.mem_filter.mp hl).1;have hs:=PI (w:=w) (h:=h) (s:=s) (l:=(l:Int)) U U;exact⟨(A6 hs U U).1,hs,EY hs U U⟩
theorem afm (h:cL g more) {c v:Int} (hc:bS g.m c) {s:Int} (bK:s≠aR g.m.W g.m.H c):bP (qt g c v).m s=bP g.m s:=by
 unfold bP;refine List.filter_congr λd hd=>?_
 obtain⟨d0,_,d2⟩:=aaH hd;have hd2:aR g.m.W g.m.H d=s:=d2;unfold lM;rw[UY h hc d0,ak (λz=>bK (by rw[<-z];exact hd2.symm))]
 rfl
theorem OB (h:cL g more) {c v:Int} (hc:bS g.m c) {s:Int} (hs:bC g.m.W g.m.H s):fX (qt g c v) s=if s=aR g.m.W g.m.H c then g.bV+1 else fX g s:=by
 have ku:=pe (fI h.ok hc);have Us:=h.vs;have e:fX (qt g c v) s=rd (aD g.qf (aR g.m.W g.m.H c).toNat (g.bV+1)) s:=by unfold fX;exact ah hs
 rw[e,mr ku.1 (by rw[Us];exact ku.2) hs.1]
 split
 ·rfl
 ·unfold fX;rw[ah hs]
variable {n : cI} {k b : Int} {ord : List Int}
theorem af8 {c:fe} (h:jF n k b ord) (hb:0<=b/\b<=100000000000) (hc:n.core=some c) {x v:Int} (hx:bS c.aK.m x) (v1:1<=v) (v2:v<=255):
 ∃n',yn.f n x v=some (0,n')/\n'.core=some ⟨qt c.aK x v,c.jv,c.kQ⟩/\n'.gF=n.gF/\n'.aU=n.aU/\jF n' k (b+1) ord/\jB n'=jB n:=by
 obtain⟨fi,wA,NW,vn⟩:=h.core c hc;have hG:=fi.gs;have NV:=hG.ep;have ajD:=fi.ep;have hG1:cL c.aK 1:=⟨hG.ok,hG.sm,hG.vs,by omega⟩
 have JN:=afn hG1 (dU 1) hx v1 v2;unfold yn.f;rw[hc];simp only[dM];rw[aa8 hG];have e:Jy c.aK x v=(0,qt c.aK x v):=by unfold Jy;rw[ak (λq=>q hx),ak U]
 rw[e];have part: ∀s p,bC c.aK.m.W c.aK.m.H s->s≠aR c.aK.m.W c.aK.m.H x->BX c.aK.m s p->BX (qt c.aK x v).m s p:=λs p hs bK hp=>by
  have e1:=afm (v:=v) hG hx bK;have e2:=UZ (v:=v) hG hx hs bK;refine⟨by rw[e1];exact hp.nodes,by rw[e1];exact hp.len_,?_⟩
  rw[e1,e2];exact hp.Rx
 have wa: ∀G,jB ⟨some ⟨G,c.jv,c.kQ⟩,n.gF,n.aU⟩=jB n:=λG=>by simp[jB,hc]
 refine⟨_,J,J,J,J,⟨h.sN,h.aU.mono U,h.sc.mono U,h.z,by rw[wa];exact h.kF.mono U,λz=>by simp at z,λc' mj=>?_⟩,wa _⟩
 simp only[Option.some.injEq] at mj;subst mj;have wq:(qt c.aK x v).bV=c.aK.bV+1:=rfl;refine⟨⟨JN,fi.lW,λs hs=>?_,by rw[wq];omega,⟨fi.ms.len_,λs hs=>?_,λs hs e=>?_,λe=>?_,?_,fi.ms.jd⟩,⟨λR hR=>?_,fi.fs.jd⟩⟩,by simp only;omega,by simp only;omega,⟨vn.sN,vn.fl,λd d0 d1=>?_⟩⟩
 ·have fZ:bC c.aK.m.W c.aK.m.H s:=hs;have:=fi.Fh s fZ;simp only[wq];rw[OB hG hx fZ];split<;>omega
 ·have:=fi.ms.le s hs;simp only[wq];omega
 ·have fZ:bC c.aK.m.W c.aK.m.H s:=hs;have hle:=fi.ms.le s fZ;simp only at e⊢;rw[OB hG hx fZ] at e
  by_cases z:s=aR c.aK.m.W c.aK.m.H x
  ·rw[ah z] at e;omega
  ·rw[ak z] at e;exact part s _ fZ z (fi.ms.ok s fZ e)
 ·have:=fi.ms.Mu;simp only[wq] at e;omega
 ·have:=fi.ms.Mu;simp only[wq];omega
 ·obtain⟨k1,k2,k3⟩:=fi.fs.kept R hR;exact⟨k1,by simp only[wq];omega,λe=>by simp only[wq] at e;omega⟩
 ·obtain⟨s1,s2,s3,s4⟩:=vn.ok d d0 d1;refine⟨s1,s2,by simp only[wq];omega,λe=>?_⟩
  simp only at e⊢;rw[OB hG hx s2] at e
  by_cases z:(rd n.gF.keys.aw d).key.2=aR c.aK.m.W c.aK.m.H x
  ·rw[ah z] at e;omega
  ·rw[ak z] at e;have:=s4 e;rw[UZ hG hx s2 z];exact this
theorem agc {c:fe} (h:jF n k b ord) (hb:0<=b/\b<=100000000000) (hc:n.core=some c) (goal x:Int):
 Ok (yr.f n goal x) (λr=>(bS c.aK.m goal/\bS c.aK.m x/\r.2.2.1=0/\ ∃f,DN n k b ord c goal (aR c.aK.m.W c.aK.m.H x) (f,Er.nil,r.2.2.2)/\r.1=rd f.cN (cE c.aK.m.W c.aK.m.H x)/\r.2.1=rd f.cx (cE c.aK.m.W c.aK.m.H x))∨
  (¬(bS c.aK.m goal/\bS c.aK.m x)/\r.2.2.1=7/\r.2.2.2=n)):=by
 obtain⟨fi,_⟩:=h.core c hc;have hG:=fi.gs;unfold yr.f zX.f;rw[Vp hc,aM,rK,aM];simp only
 by_cases z:bS c.aK.m goal/\bS c.aK.m x
 ·have hs:=pe (fI hG.ok z.2);have qB:=uy hG z.2;refine Ok.bind (P:=λr=>r.2.2.1=Er.nil/\ ∃f,DN n k b ord c goal (aR c.aK.m.W c.aK.m.H x) (f,Er.nil,r.2.2.2)/\r.1=rd f.cN (cE c.aK.m.W c.aK.m.H x)/\r.2.1=rd f.cx (cE c.aK.m.W c.aK.m.H x)) ((Vj h hb hc z.1 hs).bind λr hr=>?_) λr hr=>?_
  ·obtain⟨f,e,n'⟩:=r;have he:=hr.err;simp only at he;subst he;obtain⟨R,l,c',ui,_,_,_,_,_,hF,_⟩:=hr.Gd;simp only at hF⊢;refine Ok.neg (by simp[Er.isNil]) (Ok.eq (G8 ..) (Ok.br (by rw[hF.aN.dl];exact⟨qB.1,qB.2.1⟩) (Ok.br (by rw[hF.dl];exact⟨qB.1,qB.2.1⟩) (Ok.pure ⟨J,f,hr,J,J⟩))))
  ·rw[hr.1];exact Ok.eq Vg (Ok.pure (.inl ⟨z.1,z.2,J,hr.2⟩))
 ·have oY: ¬(bS c.aK.m goal/\bC c.aK.m.W c.aK.m.H (aR c.aK.m.W c.aK.m.H x)):=λy=>z ⟨y.1,by
   have mj:cV c.aK.m.W c.aK.m.H x:=pr λw=>by
    have:=Dt.2 w;have:=y.2.1;omega
   exact mj.2⟩
  rw[af_ h hc oY];refine Ok.bind (P:=λr=>r.2.2.1=Er.wrap 222 [goal] (Er.dR 3)/\r.2.2.2=n) (Ok.eq J (Ok.pos J (Ok.pure ⟨J,J⟩))) λr hr=>?_
  rw[hr.1];exact Ok.eq (af6 goal) (Ok.pure (.inr ⟨z,J,hr.2⟩))
end
theorem abw (s:List Int) (hb:s.length<=4611686018427387904): ∀(n k:Nat) (i:Int),i+n=s.length->0<=i->n<k->qH.l0 k s i=some (decide (0∉s.drop i.toNat)):=by
 intro n
 induction n with
 |zero=>
  intro k i hi h0 hk;obtain⟨k,rfl⟩: ∃q,k=q+1:=⟨k-1,by omega⟩
  rw[qH.l0,ak U,DT U];simp
 |succ n ih=>
  intro k i hi h0 hk;obtain⟨k,rfl⟩: ∃q,k=q+1:=⟨k-1,by omega⟩
  rw[qH.l0,ah U,ah U,RH h0 U]
  by_cases he:rd s i=0
  ·rw[ah (by simpa using he)];simp[he]
  ·rw[ak (by simpa using he),bd U U,ih k (i+1) U U U]
   congr 1
   rw[nM];simp;intro _ h;exact he h.symm
theorem abv (s:List Int) (hb:s.length<4611686018427387904):qH.f s=some (decide (0∉s)):=by
 unfold qH.f;rw[abw s U s.length fuel 0 U U (by rw[sC];omega)];simp
theorem aeZ {c:List Int} (hc:c.length<=100000) {a:Int} (a0:0<=a) (a1:a<c.length): ∀(n k:Nat) (x:Int),a+x+n=c.length->1<=x->n<k->(∀j:Int,a<=j->j<a+x->rd c j=rd c a)->
 ∃e,iF.l1 k c a x=some e/\x<=e/\a+e<=c.length/\(∀j:Int,a<=j->j<a+e->rd c j=rd c a)/\(a+e=c.length∨rd c (a+e)≠rd c a):=by
 intro n
 induction n with
 |zero=>
  intro k x hx x1 hk hr;obtain⟨k,rfl⟩:=bw hk;refine⟨x,?_,by omega,by omega,hr,.inl U⟩
  rw[iF.l1,bd U U,ak (c:=a+x<_) U,aM,ak bp]
 |succ n ih=>
  intro k x hx x1 hk hr;obtain⟨k,rfl⟩:=bw hk;rw[iF.l1,bd (x:=a+x) U U,ah U,ah U,ah U,aM]
  by_cases hq:rd c (a+x)=rd c a
  ·rw[ah (by simpa using hq),bd U U]
   obtain⟨e,h1,h2,h3,h4,h5⟩:=ih k (x+1) U U U (λj j0 j1=>by
    by_cases hj:j=a+x
    ·rw[hj,hq]
    ·exact hr j j0 U)
   exact⟨e,h1,by omega,h3,h4,h5⟩
  ·rw[ak (by simpa using hq)]
   exact⟨x,J,by omega,by omega,hr,.inr hq⟩
inductive BS (c:List Int):Int->List Int->Prop
 |done:BS c c.length []
 |run {a e:Int} {L:List Int} (a0:0<=a) (e1:1<=e) (he:a+e<=c.length) (same: ∀j:Int,a<=j->j<a+e->rd c j=rd c a) (stop:a+e=c.length∨rd c (a+e)≠rd c a) (rest:BS c (a+e) L):BS c a ((e-1)::rd c a::L)
theorem ahD {c:List Int} (hc:c.length<=256): ∀(n k:Nat) (a:Int) (x:List Int),a+n=c.length->0<=a->n<k->x.length<=1+2*a.toNat->
 ∃L,iF.l0 k c x a=some (x++L)/\(n=0->L=[])/\L.length<=2*n/\(∃q,L.length=2*q)/\(0<n->2<=L.length/\(L.length=2↔ ∀j:Int,a<=j->j<c.length->rd c j=rd c a))/\BS c a L:=by
 intro n
 induction n using Nat.strongRecOn with
 |_ n ih=>
  intro k a x ha a0 hk hx;obtain⟨k,rfl⟩:=bw hk
  by_cases hn:n=0
  ·subst hn;have:a=c.length:=U;refine⟨[],by rw[iF.l0,ak U];simp,λ_=>rfl,by simp,⟨0,J⟩,λq=>by omega,by rw[this];exact .done⟩
  ·have a1:a<(c.length:Int):=U;obtain⟨e,h1,h2,h3,h4,h5⟩:=aeZ (c:=c) U a0 a1 (n-1) fuel 1 U U (by rw[sC];omega) (λj j0 j1=>by rw[show j=a by omega])
   have ewu:bQ (af (e-1))=e-1:=by rw[bd U U,Fi U U]
   obtain⟨L,e1,e2,e3,⟨q,e4⟩,e5,e6⟩:=ih (n-e.toNat) U k (a+e) (x++[e-1,rd c a]) U U U bo;refine⟨(e-1)::rd c a::L,?_,λq=>by omega,by simp;omega,⟨q+1,by simp;omega⟩,λ_=>⟨by simp,?_⟩,.run a0 h2 h3 h4 h5 e6⟩
   ·rw[iF.l0,ah a1,h1,aM,ah ⟨a0,a1⟩,ah U,bd (x:=a+e) U U,ewu];simp only[aM];rw[e1];simp
   ·constructor
    ·intro hl;have vk:L.length=0:=by simp at hl;simp[hl]
     have J8:a+e=c.length:=by
      by_cases hz:n-e.toNat=0
      ·omega
      ·have:=(e5 U).1;omega
     intro j j0 j1;exact h4 j j0 U
    ·intro qx;have J8:a+e=c.length:=by
      rcases h5 with h5 |h5
      ·exact h5
      ·by_cases hz:a+e=c.length
       ·exact hz
       ·exact absurd (qx (a+e) U U) h5
     have:=e2 U;rw[this];rfl
theorem agH (t:aG): ∀(k:Nat) (a x:Int),jz.l1 k t a x=iF.l1 k t.C a x:=by
 intro k
 induction k with
 |zero=>intro a x;rfl
 |succ k ih=>intro a x;simp only[jz.l1,iF.l1,ih]
theorem agG (t:aG): ∀(k:Nat) (x:List Int) (a:Int),jz.l0 k t x a=iF.l0 k t.C x a:=by
 intro k
 induction k with
 |zero=>intro x a;rfl
 |succ k ih=>intro x a;simp only[jz.l0,iF.l0,ih,agH]
def uI (c:List Int):Prop:= ∀j:Int,0<=j->j<c.length->rd c j=rd c 0
theorem contains_diff (t:aG) (h1:1<=t.C.length) (hb:t.C.length<=100000): ∃b,Dy.f t.C t=some b/\(b=false↔uI t.C):=by
 unfold Dy.f rN.f;have key: ∀(n k:Nat) (i:Int),i+n=t.C.length->0<=i->n<k-> ∃r,rN.l0 k t.C t i=some r/\(r<0↔ ∀j:Int,i<=j->j<t.C.length->rd t.C j=rd t.C 0):=by
  intro n
  induction n with
  |zero=>
   intro k i hi h0 hk;obtain⟨k,rfl⟩:=bw hk;exact⟨-1,by rw[rN.l0,ak U],⟨λ_ j j0 j1=>by omega,λ_=>by omega⟩⟩
  |succ n ih=>
   intro k i hi h0 hk;obtain⟨k,rfl⟩:=bw hk;have e:Dc.f (rd t.C i) t=some (rd t.C i !=rd t.C 0):=by unfold Dc.f;rw[ah U]
   rw[rN.l0,ah U,ah U,e,aM]
   by_cases hq:rd t.C i=rd t.C 0
   ·rw[ak (by simpa using hq),bd U U]
    obtain⟨r,r1,r2⟩:=ih k (i+1) U U U;refine⟨r,r1,?_⟩;rw[r2];constructor
    ·intro h j j0 j1
     by_cases hj:j=i
     ·rw[hj,hq]
     ·exact h j U j1
    ·intro h j j0 j1;exact h j U j1
   ·rw[ah (by simpa using hq)]
    exact⟨i,J,⟨λh=>by omega,λh=>absurd (h i U U) hq⟩⟩
 obtain⟨r,r1,r2⟩:=key t.C.length fuel 0 U U (by rw[sC];omega)
 rw[r1,aM];refine⟨_,J,?_⟩;unfold uI;rw[<-r2];simp
structure BV (t:aG) (L:List Int) (f:Int) (out:List Int):Prop where
 runs:iF.f t.C=some (2::L)
 two:L.length=2↔uI t.C
 even: ∃q,L.length=2*q
 enc:BS t.C 0 L
 ge:2<=L.length
 le:L.length<=512
 Ik:uI t.C->f=0/\out=[0,rd t.C 0]
 G9: ¬uI t.C-> ¬L.length<t.C.length->f=1/\out=1::t.C
 short: ¬uI t.C->L.length<t.C.length->f=2/\out=2::L
theorem afs (t:aG) (h1:1<=t.C.length) (hb:t.C.length<=256): ∃L f out,lG.f t=some (f,out)/\BV t L f out:=by
 obtain⟨L,e1,_,e3,e4,e5,e8⟩:=ahD (c:=t.C) U t.C.length fuel 0 [2] U U (by rw[sC];omega) bp
 have e5:=e5 U;have e6:L.length=2↔uI t.C:=e5.2;obtain⟨b,c1,c2⟩:=contains_diff t h1 U;obtain⟨k,hk⟩: ∃k,fuel=k+4:=⟨fuel-4,by rw[sC]⟩
 have p0:jz.f t 0=some (if b=true then[] else[0,rd t.C 0]):=by
  unfold jz.f;have:bQ 0=0:=Fi U U;rw[ah (by rfl),c1,aM,this]
  cases b
  ·rw[ak bp,ah U,ah bp];rfl
  ·rfl
 have p1:jz.f t 1=some (1::t.C):=by
  unfold jz.f;have:bQ 1=1:=Fi U U;rw[ak bp,ah (by rfl),this,ah bo];rfl
 have p2:jz.f t 2=some (2::L):=by
  unfold jz.f;have:bQ 2=2:=Fi U U;rw[ak bp,ak bp,this,agG,e1];rfl
 have n1:af (0+1)=1:=bd U U;have n2:af (1+1)=2:=bd U U;have n3:af (2+1)=3:=bd U U;have nZ:iF.f t.C=some (2::L):=by unfold iF.f;rw[e1];rfl
 unfold lG.f;rw[hk,lG.l0,ah U,p0,aM,n1]
 by_cases hu:uI t.C
 ·have hbf:b=false:=c2.mpr hu;subst hbf;rw[ak (c:=false=true) bp];simp only[List.isEmpty_cons,List.isEmpty_nil,Bool.not_false,if_true,aM];rw[lG.l0,ah U,p1,aM,n2];simp only[List.isEmpty_cons,Bool.not_false,if_true,jk,if_false,aM];rw[ak bo,lG.l0,ah U,p2,aM,n3];simp only[List.isEmpty_cons,Bool.not_false,if_true,jk,if_false,aM];rw[ak bo,lG.l0,ak U];exact⟨L,0,[0,rd t.C 0],J,⟨nZ,e6,e4,e8,e5.1,by omega,λ_=>⟨J,J⟩,λq=>absurd hu q,λq=>absurd hu q⟩⟩
 ·have hbt:b=true:=by
   cases hb:b
   ·exact absurd (c2.mp hb) hu
   ·rfl
  subst hbt;simp only[if_true,List.isEmpty_nil,Bool.not_true,jk,if_false,aM];rw[lG.l0,ah U,p1,aM,n2];simp only[List.isEmpty_cons,List.isEmpty_nil,Bool.not_false,if_true,aM];rw[lG.l0,ah U,p2,aM,n3];simp only[List.isEmpty_cons,Bool.not_false,if_true,jk,if_false,aM]
  by_cases hs:L.length<t.C.length
  ·rw[ah bo,lG.l0,ak U];exact⟨L,2,2::L,J,⟨nZ,e6,e4,e8,e5.1,by omega,λq=>absurd q hu,λ_ q=>absurd hs q,λ_ _=>⟨J,J⟩⟩⟩
  ·rw[ak bo,lG.l0,ak U];exact⟨L,1,1::t.C,J,⟨nZ,e6,e4,e8,e5.1,by omega,λq=>absurd q hu,λ_ _=>⟨J,J⟩,λ_ q=>absurd q hs⟩⟩
theorem VO {t:aG} (h:si t): ∃L f out,sU.f t=some (out,0)/\BV t L f out:=by
 have hl:=oB h;obtain⟨L,f,out,e,hL⟩:=afs t hl.1 hl.2;refine⟨L,f,out,?_,hL⟩;unfold sU.f;rw[Lp t U,decide_eq_true h,aM,ak bp,e];rfl
theorem Qw {x:Int} (h0:0<=x) (h1:x<=4294967295):(((cj (IntKind.bits .u64) x&&&cj (IntKind.bits .u64) 4294967295).toNat:Nat):Int)=x:=by
 rw[BitVec.toNat_and];have e1:(cj (IntKind.bits .u64) 4294967295).toNat=2^32-1:=by decide
 have e2:(cj (IntKind.bits .u64) x).toNat=x.toNat:=by
  rw[BitVec.toNat_ofInt]
  show(x%((2^64:Nat):Int)).toNat=x.toNat
  rw[Int.emod_eq_of_lt h0 U]
 rw[e1,e2,Nat.and_two_pow_sub_one_eq_mod,Nat.mod_eq_of_lt U];omega
theorem MS {x:Int} (h0:0<=x) (h1:x<=4294967295):fQ x (2^32)=0:=by
 rw[Int.fdiv_eq_ediv_of_nonneg _ U];exact Int.ediv_eq_zero_of_lt h0 U
theorem Q7 {x y:Int} (hx:0<=x/\x<=1) (hy:0<=y/\y<=65536):uc.f x y=some (0,x*y):=by
 have GV:0<=x*y/\x*y<=65536:=by
  have:x=0∨x=1:=U;rcases this with rfl |rfl<;>omega
 unfold uc.f CW.f;simp only[aM];rw[MS hx.1 U,MS hy.1 U];simp only[Int.zero_mul,Int.mul_zero];rw[Qw hx.1 U,Qw hy.1 U,rT hx.1 U,rT hy.1 U,rT GV.1 U,MS GV.1 U];have z:eZ 0=0:=rT U U;simp only[Int.add_zero,z];have f0:fQ 0 (2^32)=0:=by decide
 rw[f0];have a0:(((cj (IntKind.bits .u64) 0&&&cj (IntKind.bits .u64) 4294967295).toNat:Nat):Int)=0:=by decide
 simp only[a0,z,Int.add_zero,f0]
theorem aae {c m:Int} {v1:Int×Int} (hv:af v1.2=m) (hm:1<=m/\m<=8192): ∀(n k:Nat) (x:List Int) (p:Int),p+n=m->1<=p->n<k->(x.length:Int)=m->(∀j:Int,0<=j->j<p->rd x j=c)->
 kN.l0 k v1 m x p=some (cy m.toNat c):=by
 intro n
 induction n using Nat.strongRecOn with
 |_ n ih=>
  intro k x p hp p1 hk hx hc;obtain⟨k,rfl⟩:=bw hk;rw[kN.l0,hv]
  by_cases hn:n=0
  ·rw[ak U]
   congr 1
   refine yB bo (λj j0 j1=>?_);rw[hc j j0 U,wM j0 U]
  ·have aa9:(if m<p then m else p)=p:=by rw[ak U]
   rw[ah U,aa9,ah U,ah U];have vj:(aA x 0 p).length=p.toNat:=by simp[aA];omega
   have vk:(aA x p (x.length:Int)).length=(m-p).toNat:=by simp[aA];omega
   have eO:(cB x p.toNat (min (aA x 0 p).length (aA x p (x.length:Int)).length) (aA x 0 p)).length=x.length:=A1 U U;rw[vj,vk] at eO⊢;rw[bd U U];refine ih (n-(min p.toNat (m-p).toNat)) U k _ _ U U U U (λj j0 j1=>?_);have sI:rd (cB x p.toNat (min p.toNat (m-p).toNat) (aA x 0 p)) j=if j<p then rd x j else rd x (j-p):=by
    unfold cB
    by_cases hj:j<p
    ·rw[ah hj,vw j0 bo];unfold rd;rw[List.getD_eq_getElem?_getD,List.getD_eq_getElem?_getD,List.getElem?_take_of_lt U]
    ·rw[ak hj,og bo,vw bo (by simp[aA];omega)]
     have e:j-((List.take p.toNat x).length:Int)=j-p:=by simp;omega
     rw[e];unfold rd aA;rw[List.getD_eq_getElem?_getD,List.getD_eq_getElem?_getD,List.getElem?_take_of_lt U,List.getElem?_take_of_lt U];simp
   rw[sI]
   by_cases hj:j<p
   ·rw[ah hj];exact hc j j0 hj
   ·rw[ak hj];exact hc (j-p) U U
theorem HK {c m:Int} (hm:1<=m/\m<=8192):kN.f [c] m=some (cy m.toNat c):=by
 unfold kN.f;have e1:eZ ((aa [c]:Nat):Int)=1:=rT bp bp;have e2:eZ m=m:=rT U U;rw[ak bo,ak U,e1,e2,Q7 U U,aM,Int.one_mul];have e3:af m=m:=bd U U;have hb:((decide ((0:Int)>0))||(decide (m>9223372036854775807)))=false:=by
  rw[decide_eq_false U,decide_eq_false U];rfl
 simp only[hb,e3];rw[ak bp,ak bp,ak U,aM,ah U];refine YG (agn m) (λx hx=>?_);obtain⟨hl,_⟩:=hx;rw[ah U];have Es:min (aa [c]) x.length=1:=by simp;omega
 rw[Es];have:=aae (c:=c) (v1:=(0,m)) (m:=m) e3 hm (m-1).toNat fuel (cB x 0 1 [c]) 1 U U (by rw[sC];omega) (by rw[A1 U bp];omega) (λj j0 j1=>by
  have:j=0:=U;subst this;simp[cB];rfl)
 rw[show(((1:Nat):Int))=1 by rfl,this,aM]
theorem WA {m:Int} (hm:1<=m/\m<=8192):kN.f [] m=some []:=by
 unfold kN.f;have e1:eZ ((aa ([]:List Int):Nat):Int)=0:=rT bp bp;have e2:eZ m=m:=rT U U;rw[ak bo,ak U,e1,e2,Q7 U U,aM,Int.zero_mul];simp
theorem Dh {L:List Int} {lo hi j:Int} (h0:0<=lo) (j0:0<=j) (j1:lo+j<hi):rd (aA L lo hi) j=rd L (lo+j):=by
 unfold rd aA;rw[List.getD_eq_getElem?_getD,List.getD_eq_getElem?_getD,List.getElem?_take_of_lt U,List.getElem?_drop,show(lo+j).toNat=lo.toNat+j.toNat by omega]
theorem uF {L:List Int} {lo hi:Int} (h0:0<=lo) (h1:lo<=hi) (h2:hi<=L.length):((aA L lo hi).length:Int)=hi-lo:=by rw[iV ⟨h0,h1,h2⟩];omega
theorem Ii {L:List Int} {lo hi:Int} {P:Int->Prop} (h: ∀y∈L,P y): ∀y∈aA L lo hi,P y:=λy hy=>h y (List.mem_of_mem_drop (List.mem_of_mem_take hy))
theorem Ln {b:List Int} {a n:Int} (hb:b.length<=100000) (a0:0<=a) (a1:a<=b.length) (h:b.length<a+n):ny.f ⟨b,a⟩ n=some ([],.dR 6,⟨b,a⟩):=by
 unfold ny.f;simp only;rw[bd (x:=_-a) U U,ah U]
theorem Lm {b:List Int} {a n:Int} (hb:b.length<=100000) (a0:0<=a) (n0:0<=n) (h:a+n<=b.length):ny.f ⟨b,a⟩ n=some (aA b a (a+n),.nil,⟨b,a+n⟩):=by
 unfold ny.f;simp only;rw[bd (x:=_-a) U U,ak U,bd (x:=a+n) U U,bd (x:=a+n-n) U U,ah U,show a+n-n=a by omega]
inductive nP where
 |short:nP
 |form:nP
 |ok:List Int->Int->nP
theorem u8 {b:List Int} (hb: ∀y∈b,dV y) {i:Int} (h0:0<=i) (h1:i<b.length):0<=rd b i/\rd b i<=255:=by
 have:=hb _ (sV h0 h1);unfold dV at this;omega
theorem aa_ {C b:List Int} (hC: ∀y∈C,1<=y/\y<=255) (hl:C.length<=256) (hb:b.length<=100000) (c:Int) {i:Int} {L:List Int} (he:BS C i L): ∀(a:Int) (k:Nat),0<=i->i<=C.length->C.length-i<k->0<=a->a<=b.length->
 (∀j:Int,0<=j->j<L.length->a+j<b.length->rd b (a+j)=rd L j)->(i=0∨i=C.length∨rd C (i-1)≠rd C i)->
 (a+L.length<=b.length->lH.l0 k ⟨b,c⟩ C.length a (C.take i.toNat)=some (.inr (C,a+L.length)))/\
 (¬a+L.length<=b.length-> ∃q,lH.l0 k ⟨b,c⟩ C.length a (C.take i.toNat)=some (.inl ([],.dR 6,⟨b,q⟩))):=by
 induction he with
 |done=>
  intro a k i0 i1 hk a0 a1 vb mo;obtain⟨k,rfl⟩: ∃q,k=q+1:=⟨k-1,by omega⟩
  rw[lH.l0,ak bp];exact⟨λ_=>by simp,λq=>absurd (by simpa using a1) q⟩
 | @run i e L i0' e1 hie same stop rest ih=>
  intro a k i0 i1 hk a0 a1 vb mo;obtain⟨k,rfl⟩: ∃q,k=q+1:=⟨k-1,by omega⟩
  have nt:((C.take i.toNat).length:Int)=i:=by simp;omega
  rw[lH.l0,nt,ah U]
  by_cases hs:(b.length:Int)<a+2
  ·rw[Ln hb a0 a1 hs];exact⟨λq=>by simp at q;omega,λ_=>⟨a,J⟩⟩
  ·have Nc:a+2<=b.length:=U;rw[Lm hb a0 U Nc,aM];simp only[Er.isNil,Bool.not_true,jk,if_false];have r0:rd (aA b a (a+2)) 0=e-1:=by
    rw[Dh a0 U U,vb 0 U bo U];rfl
   have r1:rd (aA b a (a+2)) 1=rd C i:=by
    rw[Dh a0 U U,vb 1 U bo U];rfl
   have sl:((aA b a (a+2)).length:Int)=2:=by rw[uF a0 U Nc];omega
   have oX:=hC _ (sV i0 (show i<(C.length:Int) by omega))
   rw[sl,r0,r1,ah U,ah U,bd (x:=e-1) U U,bd (x:=e-1+1) U U,bd (x:=(C.length:Int)-i) U U];have z':(rd C i==0)=false:=by simp;omega
   have g':decide (e-1+1>(C.length:Int)-i)=false:=by simp;omega
   simp only[z',g',Bool.false_or,jk,if_false];have go:((a+(((e-1)::rd C i::L).length:Nat)<=b.length->((kN.f [rd C i] (e-1+1)).bind λv12=>if(C.take i.toNat).length+v12.length<=1099511627776 then lH.l0 k ⟨b,c⟩ C.length (a+2) (C.take i.toNat++v12) else none)=some (.inr (C,a+(((e-1)::rd C i::L).length:Nat)))))/\
    (¬a+(((e-1)::rd C i::L).length:Nat)<=b.length-> ∃q,((kN.f [rd C i] (e-1+1)).bind λv12=>if(C.take i.toNat).length+v12.length<=1099511627776 then lH.l0 k ⟨b,c⟩ C.length (a+2) (C.take i.toNat++v12) else none)=some (.inl ([],.dR 6,⟨b,q⟩))):=by
    have Ez:C.take i.toNat++cy (e-1+1).toNat (rd C i)=C.take (i+e).toNat:=by
     refine yB bo (λj j0 j1=>?_);have aS:j<i+e:=by simp at j1;omega
     have e2:rd (C.take (i+e).toNat) j=rd C j:=by
      unfold rd;rw[List.getD_eq_getElem?_getD,List.getD_eq_getElem?_getD,List.getElem?_take_of_lt U]
     rw[e2]
     by_cases hj:j<i
     ·rw[vw j0 U];unfold rd;rw[List.getD_eq_getElem?_getD,List.getD_eq_getElem?_getD,List.getElem?_take_of_lt U]
     ·rw[og U,wM U U,same j U aS]
    rw[HK U,aM,ah bo,Ez];have:=ih (a+2) k U U U U Nc (λj j0 j1 j2=>by
     have:=vb (j+2) U bo U;rw[show a+2+j=a+(j+2) by omega,this]
     unfold rd;rw[show(j+2).toNat=j.toNat+2 by omega];rfl) (by
     rcases stop with h |h
     ·exact .inr (.inl h)
     ·refine .inr (.inr ?_);rw[same (i+e-1) U U];exact λq=>h q.symm)
    have e3:a+(((e-1)::rd C i::L).length:Nat)=a+2+L.length:=by simp;omega
    rw[e3];exact this
   by_cases hz:i>0
   ·rw[ah hz,bd (x:=i-1) U U,ah U];have e2:rd (C.take i.toNat) (i-1)=rd C (i-1):=by
     unfold rd;rw[List.getD_eq_getElem?_getD,List.getD_eq_getElem?_getD,List.getElem?_take_of_lt U]
    have bK:rd C (i-1)≠rd C i:=by
     rcases mo with h |h |h
     ·omega
     ·omega
     ·exact h
    have Od:(rd (C.take i.toNat) (i-1)==rd C i)=false:=by rw[e2];simpa using bK
    simp only[Od,jk,if_false,aM];exact go
   ·rw[ak hz];simp only[jk,if_false,aM];exact go
theorem MA {b:List Int} {a n:Int} (hb:b.length<=100000) (a0:0<=a) (a1:a<=b.length) (h:b.length<a+n):qG.f ⟨b,a⟩ n=some ([],.dR 6,⟨b,a⟩):=by
 unfold qG.f;rw[Ln hb a0 a1 h];rfl
theorem Mz {b:List Int} {a n:Int} (hb:b.length<=100000) (a0:0<=a) (n0:0<=n) (h:a+n<=b.length):qG.f ⟨b,a⟩ n=some (aA b a (a+n),if 0∈aA b a (a+n) then .dR 5 else .nil,⟨b,a+n⟩):=by
 unfold qG.f;have hl:=uF a0 (show a<=a+n by omega) h
 rw[Lm hb a0 n0 h,aM];simp only[Er.isNil,if_true];rw[My _ _ U];simp only[aM]
 by_cases hz:0∈aA b a (a+n)
 ·rw[ah hz,ah (by simpa using hz)]
 ·rw[ak hz,ak (by simpa using hz)]
theorem ahh {t:aG} {L:List Int} {f:Int} {out:List Int} (h1:1<=t.C.length) (hb:t.C.length<=256) (h:BV t L f out):yC.f t=some (f,out):=by
 unfold yC.f;rw[h.runs,aM];have hge:=h.ge;have hle:=h.le;have hlen:(((2::L:List Int).length:Nat):Int)=L.length+1:=by simp
 rw[hlen]
 by_cases hu:uI t.C
 ·have:=h.two.mpr hu;obtain⟨e1,e2⟩:=h.Ik hu;rw[ah bo,ah U,e1,e2]
 ·have bK: ¬L.length=2:=λq=>hu (h.two.mp q);rw[ak bo,bd U U]
  by_cases hs:L.length<t.C.length
  ·obtain⟨e1,e2⟩:=h.short hu hs;rw[ah U,e1,e2]
  ·obtain⟨e1,e2⟩:=h.G9 hu hs;rw[ak U,ah bo,e1,e2];rfl
theorem Sg {b:List Int} {w h n:Int} (hw:1<=w/\w<=16) (hh:1<=h/\h<=16) (hn:af (w*h)=n) {x:List Int} {q:Int} (hx:x.length<=100000) (hr:qF.f ⟨b,0⟩ n=some (x,.dR 6,⟨b,q⟩)):pT.f b w h=some (⟨0,0,[]⟩,0,2):=by
 unfold pT.f wK.f oy.f;have e:(((decide (w<1)||decide (w>16))||decide (h<1))||decide (h>16))=false:=by simp;omega
 rw[hn,hr];simp only[e,jk,if_false,aM,Er.isNil];rw[ah bo]
 rfl
theorem abF {b:List Int} {w h n:Int} (hw:1<=w/\w<=16) (hh:1<=h/\h<=16) (hn:af (w*h)=n) {x:List Int} {q:Int} (hx:x.length<=100000) (hr:qF.f ⟨b,0⟩ n=some (x,.dR 5,⟨b,q⟩)):pT.f b w h=some (⟨0,0,[]⟩,0,3):=by
 unfold pT.f wK.f oy.f;have e:(((decide (w<1)||decide (w>16))||decide (h<1))||decide (h>16))=false:=by simp;omega
 rw[hn,hr];simp only[e,jk,if_false,aM,Er.isNil];rw[ah bo]
 rfl
theorem Sf {b:List Int} {w h n:Int} (hw:1<=w/\w<=16) (hh:1<=h/\h<=16) (hn:af (w*h)=n) {x:List Int} {p:Int} (hx:x.length<=100000) (hp:0<=p/\p<=b.length) (hr:qF.f ⟨b,0⟩ n=some (x,.nil,⟨b,p⟩)) {out:List Int} {f:Int} (Oc:sU.f ⟨w,h,x⟩=some (out,f)):
 pT.f b w h=some (if DE out (aA b 0 p)=true then(⟨w,h,x⟩,p,0) else(⟨0,0,[]⟩,0,3)):=by
 unfold pT.f wK.f oy.f D6.f;have e:(((decide (w<1)||decide (w>16))||decide (h<1))||decide (h>16))=false:=by simp;omega
 rw[hn,hr];simp only[e,jk,if_false,aM,Er.isNil,if_true,List.nil_append];rw[ah bo];simp only[aM,Er.isNil,if_true];rw[Oc];simp only[aM];rw[ah U]
 cases hs:DE out (aA b 0 p)
 ·rfl
 ·rfl
theorem abG {t:aG} (h:si t) (hu: ∀y∈t.C,1<=y/\y<=255) {L:List Int} {f:Int} {out:List Int} (Oc:sU.f t=some (out,0)) (hL:BV t L f out) {b:List Int} (hb:b.length<=100000)
 (vb: ∀j:Int,0<=j->j<out.length->j<b.length->rd b j=rd out j):
 pT.f b t.W t.H=some (if out.length<=b.length then(t,(out.length:Int),0) else(⟨0,0,[]⟩,0,2)):=by
 obtain⟨w1,w2,h1,h2,hc,hz⟩:=h;have hl:1<=t.C.length/\t.C.length<=256:=oB ⟨w1,w2,h1,h2,hc,hz⟩;have hn:af (t.W*t.H)=t.C.length:=by rw[bd U U];omega
 have key:(out.length<=b.length->qF.f ⟨b,0⟩ t.C.length=some (t.C,.nil,⟨b,out.length⟩))/\(¬out.length<=b.length-> ∃x q,x.length<=100000/\qF.f ⟨b,0⟩ t.C.length=some (x,.dR 6,⟨b,q⟩)):=by
  unfold qF.f
  by_cases h0:(b.length:Int)=0
  ·rw[Ln hb U U U];refine⟨λq=>?_,λ_=>⟨[],0,by simp,J⟩⟩
   have h0':b.length=0:=U;rw[h0'] at q;have tY:out.length=0:=U
   by_cases jL:uI t.C
   ·rw[(hL.Ik jL).2] at tY;simp at tY
   ·by_cases hs:L.length<t.C.length
    ·rw[(hL.short jL hs).2] at tY;simp at tY
    ·rw[(hL.G9 jL hs).2] at tY;simp at tY
  ·rw[Lm hb U U U,aM];simp only[Er.isNil,Bool.not_true,jk,if_false];have sl:((aA b 0 (0+1)).length:Int)=1:=by rw[uF U U U];omega
   have r0:rd (aA b 0 (0+1)) 0=rd b 0:=by rw[Dh U U U,Int.add_zero]
   rw[ah (show 0<=(0:Int)/\(0:Int)<((aA b 0 (0+1)).length:Int) by omega),r0,show(0:Int)+1=1 by omega]
   by_cases jL:uI t.C
   ·obtain⟨_,e⟩:=hL.Ik jL;have ol:out.length=2:=by rw[e];rfl
    have b0:rd b 0=0:=by rw[vb 0 U U U,e];rfl
    rw[b0];simp only[beq_self_eq_true,if_true]
    by_cases hs:(b.length:Int)<2
    ·rw[MA hb U U U,aM,WA U];exact⟨λq=>by omega,λ_=>⟨_,_,by simp,J⟩⟩
    ·have b1:rd b 1=rd t.C 0:=by rw[vb 1 U U U,e];rfl
     have e1:aA b 1 2=[rd t.C 0]:=by
      have vj:=uF (L:=b) (lo:=1) (hi:=2) U U U;refine yB bo (λj j0 j1=>?_);rw[Dh U j0 U,show j=0 by omega,show(1:Int)+0=1 by omega,b1];rfl
     have hm:=hu _ (sV (a:=t.C) (i:=0) U U);rw[Mz hb U U U,aM,show(1:Int)+1=2 by omega,e1,ak bo]
     simp only;rw[HK U,aM];refine⟨λ_=>?_,λq=>by omega⟩
     have e2:cy (t.C.length:Int).toNat (rd t.C 0)=t.C:=by
      refine yB bp (λj j0 j1=>?_);rw[wM j0 (by simpa using j1),jL j j0 (by simpa using j1)]
     rw[e2,ol];rfl
   ·by_cases hs:L.length<t.C.length
    ·obtain⟨_,e⟩:=hL.short jL hs;have ol:out.length=L.length+1:=by rw[e];simp
     have b0:rd b 0=2:=by rw[vb 0 U U U,e];rfl
     rw[b0];have c0:((2:Int)==0)=false:=rfl;have c1:((2:Int)==1)=false:=rfl;simp only[c0,c1,jk,if_false,beq_self_eq_true,if_true];unfold lH.f;obtain⟨k1,k2⟩:=aa_ hu hl.2 hb 1 hL.enc 1 fuel U U (by rw[sC];omega) U U (λj j0 j1 j2=>by
      rw[vb (1+j) U U U,e];unfold rd;rw[show(1+j).toNat=j.toNat+1 by omega];rfl) (.inl J)
     have et:t.C.take (0:Int).toNat=[]:=rfl;rw[et] at k1 k2;refine⟨λq=>?_,λq=>?_⟩
     ·rw[k1 U];simp only[aM];rw[show 1+(L.length:Int)=out.length by omega]
     ·obtain⟨q',k2⟩:=k2 U;rw[k2];exact⟨_,_,by simp,J⟩
    ·obtain⟨_,e⟩:=hL.G9 jL hs;have ol:out.length=t.C.length+1:=by rw[e];simp
     have b0:rd b 0=1:=by rw[vb 0 U U U,e];rfl
     rw[b0];have c0:((1:Int)==0)=false:=rfl;simp only[c0,jk,if_false,beq_self_eq_true,if_true]
     by_cases hs:(b.length:Int)-1<t.C.length
     ·rw[MA hb U U U];exact⟨λq=>by omega,λ_=>⟨_,_,by simp,J⟩⟩
     ·have e1:aA b 1 (1+t.C.length)=t.C:=by
       have vj:=uF (L:=b) (lo:=1) (hi:=1+t.C.length) U U U;refine yB U (λj j0 j1=>?_);rw[Dh U j0 U,vb (1+j) U U U,e];unfold rd;rw[show(1+j).toNat=j.toNat+1 by omega];rfl
      rw[Mz hb U U U,e1,ak hz];refine⟨λ_=>?_,λq=>by omega⟩
      rw[show 1+(t.C.length:Int)=out.length by omega];rfl
 by_cases hlen:out.length<=b.length
 ·rw[ah hlen,Sf ⟨w1,w2⟩ ⟨h1,h2⟩ hn U U (key.1 hlen) Oc];have e1:aA b 0 out.length=out:=by
   have vj:=uF (L:=b) (lo:=0) (hi:=out.length) U U U;refine yB U (λj j0 j1=>?_);rw[Dh U j0 U,Int.zero_add,vb j j0 U U]
  rw[e1,aiw,ah J]
 ·rw[ak hlen];obtain⟨x,q,hx,e⟩:=key.2 hlen;exact Sg ⟨w1,w2⟩ ⟨h1,h2⟩ hn hx e
abbrev EX (w h s:Int):Nat:=((ay w h s).1*(ay w h s).2).toNat
theorem Pz {w h s:Int} (hs:bC w h s):1<=EX w h s/\EX w h s<=256/\((EX w h s:Nat):Int)=(ay w h s).1*(ay w h s).2:=by
 obtain⟨z1,z2,z3,z4⟩:=p9 hs;have h1:(ay w h s).1*(ay w h s).2<=16*16:=kU U U z2 z4;have h2:1*1<=(ay w h s).1*(ay w h s).2:=kU U U z1 z3;unfold EX;omega
theorem ahw {m:aG} (hm:nK m) (s:Int):oq.f m s=some (dG m s):=aiB hm s
def oZ (w h s c:Int):Prop:=16*(s%(bq w h).1)<=c%w/\c%w<16*(s%(bq w h).1)+(ay w h s).1/\16*(s/(bq w h).1)<=c/w/\c/w<16*(s/(bq w h).1)+(ay w h s).2
instance (w h s c:Int):Decidable (oZ w h s c):=by unfold oZ;infer_instance
def loc (w h s c:Int):Int:=(c/w-16*(s/(bq w h).1))*(ay w h s).1+(c%w-16*(s%(bq w h).1))
theorem ahq {w h s:Int} (hs:bC w h s):16*(s%(bq w h).1)+(ay w h s).1<=w/\16*(s/(bq w h).1)+(ay w h s).2<=h:=by
 unfold ay;rw[ah hs];simp only;omega
theorem OJ {w h s c:Int} (hs:bC w h s) (hi:oZ w h s c):0<=loc w h s c/\loc w h s c<(ay w h s).1*(ay w h s).2:=by
 obtain⟨i1,i2,i3,i4⟩:=hi;unfold loc;exact tM U U U U
theorem abJ {w h s c:Int} (hs:bC w h s) (hi:oZ w h s c):cA w h s (loc w h s c)=c:=by
 have hl:=OJ hs hi;have⟨i1,i2,i3,i4⟩:=hi;have n:=pR (a:=(ay w h s).1) (x:=c%w-16*(s%(bq w h).1)) (y:=c/w-16*(s/(bq w h).1)) U U;have hq:=uQ c w;rw[mC] at hq;unfold cA;rw[ah ⟨hs,hl⟩];unfold loc;rw[n.1,n.2];have e1:16*(s/(bq w h).1)+(c/w-16*(s/(bq w h).1))=c/w:=U;rw[e1];omega
theorem WW {w h c:Int} (hc:cV w h c): ∃s,bC w h s/\oZ w h s c:=by
 have hs:=EZ hc;obtain⟨a,b,d,e⟩:=Ds hc;have hn:=pR (a:=(bq w h).1) (x:=c%w/16) (y:=c/w/16) a b;have hp:=vv hc;refine⟨_,hs,?_⟩;unfold oZ ay;rw[ah hs,hn.1,hn.2];simp only;generalize c%w=x at*;generalize c/w=y at*;omega
theorem aht {w a X tw c:Int} (hw:0<w) (X0:0<=X) (ht:X+tw<=w):(a*w+X<=c/\c<a*w+X+tw)↔(c/w=a/\X<=c%w/\c%w<X+tw):=by
 constructor
 ·rintro⟨h1,h2⟩;have:=pR (a:=w) (x:=c-a*w) (y:=a) U U;rw[show a*w+(c-a*w)=c by omega] at this
  obtain⟨e1,e2⟩:=this;rw[e1,e2];exact⟨J,by omega,by omega⟩
 ·rintro⟨rfl,h2,h3⟩;have:=uQ c w;rw[mC] at this;omega
theorem ahb {x S:List Int} {p n c:Int} (p0:0<=p) (n0:0<=n) (hx:p+n<=x.length) (hS:n<=S.length) (c0:0<=c):rd (cB x p.toNat n.toNat S) c=if p<=c/\c<p+n then rd S (c-p) else rd x c:=by
 unfold cB
 by_cases h1:c<p
 ·rw[ak U,vw c0 bo];unfold rd;rw[List.getD_eq_getElem?_getD,List.getD_eq_getElem?_getD,List.getElem?_take_of_lt U]
 ·have e:c-((List.take p.toNat x).length:Int)=c-p:=by simp;omega
  rw[og bo,e]
  by_cases h2:c<p+n
  ·rw[ah ⟨by omega,h2⟩,vw U bo]
   unfold rd;rw[List.getD_eq_getElem?_getD,List.getD_eq_getElem?_getD,List.getElem?_take_of_lt U]
  ·rw[ak U,og bo];have e2:c-p-((List.take n.toNat S).length:Int)=c-p-n:=by simp;omega
   rw[e2];unfold rd;rw[List.getD_eq_getElem?_getD,List.getD_eq_getElem?_getD,List.getElem?_drop,show p.toNat+n.toNat+(c-p-n).toNat=c.toNat by omega]
theorem UX {w h s:Int} (hs:bC w h s) {t:aG} (hW:t.W=(ay w h s).1) (hH:t.H=(ay w h s).2) (hC:(t.C.length:Int)=(ay w h s).1*(ay w h s).2) {x:List Int} (hx:(x.length:Int)=w*h):
 ∃x',oL.f ⟨w,h,x⟩ s t=some x'/\(x'.length:Int)=w*h/\ ∀c,0<=c->c<w*h->rd x' c=if oZ w h s c then rd t.C (loc w h s c) else rd x c:=by
 have hz:=p9 hs;have N5:=uz hs;have hmp:=pP N5;obtain⟨r1,r2⟩:=ahq hs;obtain⟨p1,p2,p3,p4⟩:=uA hs;obtain⟨sn1,sn2,sn3⟩:=Pz hs;unfold oL.f;simp only;rw[JD,aM];have hg:cA w h s 0=16*(s/(bq w h).1)*w+16*(s%(bq w h).1):=by
  unfold cA;rw[ah ⟨hs,by omega,by omega⟩,Int.zero_ediv,Int.zero_emod,Int.add_zero,Int.add_zero]
 rw[hg];generalize hX:16*(s%(bq w h).1)=X at*;generalize hY:16*(s/(bq w h).1)=Y at*;generalize Ol:(ay w h s).1=tw at*;generalize Ul:(ay w h s).2=th at*;have key: ∀(n k:Nat) (y:Int) (z:List Int),y+n=th->0<=y->n<k->(z.length:Int)=w*h->(∀c,0<=c->c<w*h->rd z c=if oZ w h s c/\c/w<Y+y then rd t.C (loc w h s c) else rd x c)->
  ∃x',oL.l0 k ⟨w,h,x⟩ t (Y*w+X) z y=some x'/\(x'.length:Int)=w*h/\ ∀c,0<=c->c<w*h->rd x' c=if oZ w h s c then rd t.C (loc w h s c) else rd x c:=by
  intro n
  induction n with
  |zero=>
   intro k y z hy y0 hk Uy Ou;obtain⟨k,rfl⟩:=bw hk;refine⟨z,by rw[oL.l0,ak U],Uy,λc c0 c1=>?_⟩
   rw[Ou c c0 c1]
   by_cases hi:oZ w h s c
   ·have:c/w<Y+y:=by
     have⟨_,_,_,i4⟩:=hi;rw[hY,Ul] at i4;omega
    rw[ah ⟨hi,this⟩,ah hi]
   ·rw[ak (λq=>hi q.1),ak hi]
  |succ n ih=>
   intro k y z hy y0 hk Uy Ou;obtain⟨k,rfl⟩:=bw hk;have e1:(Y+y)*w=Y*w+y*w:=Int.add_mul _ _ _;have e2:(y+1)*tw=y*tw+tw:=by rw[Int.add_mul,Int.one_mul]
   have e3:(Y+y+1)*w=(Y+y)*w+w:=by rw[Int.add_mul,Int.one_mul]
   have b1:(Y+y+1)*w<=h*w:=BZ U U;have b2:h*w=w*h:=mC _ _;have b3:(y+1)*tw<=th*tw:=BZ U U;have b4:th*tw=tw*th:=mC _ _;have b5:0<=y*tw:=nu y0 U;have b6:0<=y*w:=nu y0 U;have b7:0<=Y*w:=nu U U;rw[oL.l0,hH,ah U];simp only;rw[hW,bd (x:=y*w) U U,bd (x:=Y*w+X+y*w) U U,bd (x:=y*tw) U U,bd (x:=y+1) U U,bd (x:=(y+1)*tw) U U];have hpe:Y*w+X+y*w=(Y+y)*w+X:=U;rw[hpe,ah U,ah U];have l1:=uF (L:=t.C) (lo:=y*tw) (hi:=(y+1)*tw) b5 U U;have l2:=uF (L:=z) (lo:=(Y+y)*w+X) (hi:=(z.length:Int)) U U U;have Es:min (aA t.C (y*tw) ((y+1)*tw)).length (aA z ((Y+y)*w+X) (z.length:Int)).length=tw.toNat:=U;rw[Es];have eO:(cB z ((Y+y)*w+X).toNat tw.toNat (aA t.C (y*tw) ((y+1)*tw))).length=z.length:=A1 U U;refine ih k (y+1) _ U U U U (λc c0 c1=>?_);rw[ahb U U U U c0];have Ug:=aht (w:=w) (a:=Y+y) (X:=X) (tw:=tw) (c:=c) U U r1
   by_cases x_:(Y+y)*w+X<=c/\c<(Y+y)*w+X+tw
   ·obtain⟨q1,q2,q3⟩:=Ug.mp x_;have b_:oZ w h s c:=by unfold oZ;rw[hX,hY,Ol,Ul];exact⟨q2,q3,by omega,by omega⟩
    rw[ah x_,ah ⟨b_,by omega⟩,Dh b5 U U]
    congr 1
    unfold loc;rw[hX,hY,Ol,q1];have e4:(Y+y-Y)*tw=y*tw:=by rw[show Y+y-Y=y by omega]
    have:=uQ c w;rw[mC,q1] at this;omega
   ·rw[ak x_,Ou c c0 c1]
    by_cases b_:oZ w h s c
    ·have⟨i1,i2,i3,i4⟩:=b_;rw[hX] at i1;rw[hX,Ol] at i2;have bK:c/w≠Y+y:=λq=>x_ (Ug.mpr ⟨q,i1,i2⟩)
     by_cases aS:c/w<Y+y
     ·rw[ah ⟨b_,aS⟩,ah ⟨b_,by omega⟩]
     ·rw[ak (λq=>aS q.2),ak (λq=>by have:=q.2;omega)]
    ·rw[ak (λq=>b_ q.1),ak (λq=>b_ q.1)]
 exact key th.toNat fuel 0 x U U (by rw[sC];omega) hx (λc c0 c1=>by
  by_cases hi:oZ w h s c
  ·have⟨_,_,i3,_⟩:=hi;rw[hY] at i3;rw[ak (λq=>by have:=q.2;omega)]
  ·rw[ak (λq=>hi q.1)])
theorem agt {x y:Nat} (hx:x<256):x|||(y*256)=x+256*y:=by
 have:=Nat.shiftLeft_add_eq_or_of_lt (b:=x) (i:=8) U y;rw[Nat.shiftLeft_eq] at this;have e8:(2:Nat)^8=256:=by decide
 rw[e8] at this;rw[Nat.or_comm,<-this];omega
theorem vg {x y:Int} (hx:dV x) (hy:dV y):af (gf (cj (IntKind.bits .i64) (af x)|||cj (IntKind.bits .i64) (af ((af y)*2^8))))=x+256*y:=by
 unfold dV at hx hy;rw[bd (x:=x) U U,bd (x:=y) U U,bd (x:=y*2^8) U U,BitVec.toNat_or];have e: ∀z:Int,0<=z->z<=1000000->(cj (IntKind.bits .i64) z).toNat=z.toNat:=by
  intro z z0 z1;rw[BitVec.toNat_ofInt]
  show(z%((2^64:Nat):Int)).toNat=z.toNat
  rw[Int.emod_eq_of_lt z0 U]
 rw[e x U U,e (y*2^8) U U];have e2:(y*2^8).toNat=y.toNat*256:=U;rw[e2,agt U,bd U U];omega
theorem Qb {x:Int}:bQ x=x%256:=by
 unfold bQ IntKind.wrap IntKind.signed IntKind.bits;simp
structure tr (m:aG):Prop where
 ok:nK m
 sm: ∀y∈m.C,1<=y/\y<=255
theorem Lc {m:aG} (hm:tr m) {s:Int} (hs:bC m.W m.H s):si (dG m s)/\ ∀y∈(dG m s).C,1<=y/\y<=255:=by
 have hz:=p9 hs;obtain⟨n1,n2,n3⟩:=Pz hs;have hb: ∀y∈(dG m s).C,1<=y/\y<=255:=by
  intro y hy;unfold dG jV at hy;simp only[List.mem_map,List.mem_range] at hy;obtain⟨l,hl,rfl⟩:=hy;have hg:=A6 (l:=(l:Int)) hs U U;exact hm.sm _ (sV hg.1 (by rw[hm.ok.2.1];exact hg.2))
 refine⟨⟨hz.1,hz.2.1,hz.2.2.1,hz.2.2.2,?_,λq=>by have:=hb 0 q;omega⟩,hb⟩
 show((jV m s (EX m.W m.H s)).length:Int)=_
 rw[BI,n3]
def vt (m:aG) (s:Int):List Int:=((sU.f (dG m s)).getD ([],0)).1
theorem O_ {m:aG} (hm:tr m) {s:Int} (hs:bC m.W m.H s): ∃L f,sU.f (dG m s)=some (vt m s,0)/\BV (dG m s) L f (vt m s):=by
 obtain⟨L,f,out,e,hL⟩:=VO (Lc hm hs).1;have:vt m s=out:=by unfold vt;rw[e];rfl
 exact⟨L,f,by rw[this];exact e,by rw[this];exact hL⟩
theorem VC {t:aG} (h:si t) {L:List Int} {f:Int} {out:List Int} (hL:BV t L f out):2<=out.length/\out.length<=1+t.C.length:=by
 have hl:=oB h;have h2:=hL.ge
 by_cases hu:uI t.C
 ·rw[(hL.Ik hu).2];simp;omega
 ·by_cases hs:L.length<t.C.length
  ·rw[(hL.short hu hs).2];simp;omega
  ·rw[(hL.G9 hu hs).2];simp;omega
theorem aa' {t:aG} (h:si t) (hu: ∀y∈t.C,1<=y/\y<=255) {i:Int} {L:List Int} (he:BS t.C i L): ∀y∈L,dV y:=by
 have hl:=oB h
 induction he with
 |done=>intro y hy;simp at hy
 | @run i e L i0 e1 hie same stop rest ih=>
  intro y hy;simp only[nh] at hy;have hm:=hu _ (sV i0 (show i<(t.C.length:Int) by omega))
  rcases hy with q |q |q
  ·rw[q];exact⟨by omega,by omega⟩
  ·rw[q];exact⟨by omega,by omega⟩
  ·exact ih y q
theorem agx {v:aG} (hv:si v) (hu: ∀y∈v.C,1<=y/\y<=255) {L:List Int} {f:Int} {out:List Int} (hL:BV v L f out): ∀y∈out,dV y:=by
 have hC: ∀y∈v.C,dV y:=λy hy=>by have:=hu y hy;exact⟨by omega,by omega⟩
 have Us:=oB hv
 by_cases hn:uI v.C
 ·rw[(hL.Ik hn).2];intro y hy;simp only[nh,ra,or_false] at hy;rcases hy with q |q
  ·rw[q];exact⟨by omega,by omega⟩
  ·rw[q];exact hC _ (sV U U)
 ·by_cases hs:L.length<v.C.length
  ·rw[(hL.short hn hs).2];intro y hy;simp only[nh] at hy;rcases hy with q |q
   ·rw[q];exact⟨by omega,by omega⟩
   ·exact aa' hv hu hL.enc y q
  ·rw[(hL.G9 hn hs).2];intro y hy;simp only[nh] at hy;rcases hy with q |q
   ·rw[q];exact⟨by omega,by omega⟩
   ·exact hC y q
def outs (m:aG):Nat->Int->List Int
 |0,_=>[]
 |n+1,s=>vt m s++outs m n (s+1)
theorem VD {m:aG} (hm:tr m): ∀(n:Nat) (i:Int),i+n=dy m.W m.H->0<=i->(2*n<=(outs m n i).length/\(outs m n i).length<=257*n)/\ ∀y∈outs m n i,dV y:=by
 intro n
 induction n with
 |zero=>intro i _ _;exact⟨by simp[outs],by simp[outs]⟩
 |succ n ih=>
  intro i hi i0;have hs:bC m.W m.H i:=⟨i0,by omega⟩
  obtain⟨L,f,e,hL⟩:=O_ hm hs;obtain⟨t1,t2⟩:=Lc hm hs;have hl:=VC t1 hL;have hc:=oB t1;obtain⟨h1,h2⟩:=ih (i+1) U U;refine⟨by simp only[outs,zg];omega,λy hy=>?_⟩
  simp only[outs,List.mem_append] at hy;rcases hy with q |q
  ·exact agx t1 t2 hL y q
  ·exact h2 y q
def xV (m:aG):List Int:=[bQ m.W,bQ (fQ m.W (2^8)),bQ m.H,bQ (fQ m.H (2^8))]
def bytesOf (m:aG):List Int:=xV m++outs m (dy m.W m.H).toNat 0
theorem ahv {m:aG} (hm:tr m): ∀(n k:Nat) (i:Int) (x:List Int),i+n=dy m.W m.H->0<=i->n<k->x.length<=10+257*i.toNat->lJ.l0 k m x i=some (x++outs m n i):=by
 have iR:=np m.W m.H;intro n
 induction n with
 |zero=>
  intro k i x hi i0 hk hx;obtain⟨k,rfl⟩:=bw hk;rw[lJ.l0,K5,aM,ak U];simp[outs]
 |succ n ih=>
  intro k i x hi i0 hk hx;obtain⟨k,rfl⟩:=bw hk;have hs:bC m.W m.H i:=⟨i0,by omega⟩
  obtain⟨L,f,e,hL⟩:=O_ hm hs;obtain⟨t1,t2⟩:=Lc hm hs;have hl:=VC t1 hL;have hc:=oB t1;rw[lJ.l0,K5,aM,ah U,ahw hm.ok,aM,ahh hc.1 hc.2 hL,aM];simp only;rw[ah U,bd U U,ih k (i+1) _ U U U (by simp only[zg];omega)]
  simp[outs]
theorem Pm {m:aG} (hm:tr m):lJ.f m=some (bytesOf m):=by
 have hc:=np m.W m.H;unfold lJ.f;exact ahv hm (dy m.W m.H).toNat fuel 0 (xV m) U U (by rw[sC];omega) (by simp[xV])
theorem aei (m:aG): ∀y∈xV m,dV y:=by
 intro y hy;unfold xV at hy;simp only[nh,ra,or_false,Qb] at hy;unfold dV;rcases hy with q |q |q |q<;>omega
theorem Q9 {m:aG} (hm:tr m): ∀y∈bytesOf m,dV y:=by
 intro y hy;have hc:=np m.W m.H;unfold bytesOf at hy;rw[List.mem_append] at hy;rcases hy with q |q
 ·exact aei m y q
 ·exact(VD hm (dy m.W m.H).toNat 0 U U).2 y q
theorem Q8 {m:aG} (hm:tr m):6<=(bytesOf m).length/\(bytesOf m).length<=4+257*(dy m.W m.H).toNat:=by
 have hc:=np m.W m.H;have hp:=aaV hm.ok.1;have:=(VD hm (dy m.W m.H).toNat 0 U U).1;unfold bytesOf;rw[zg];have:(xV m).length=4:=rfl;omega
theorem abh {x:Int} (h0:0<=x):fQ x (2^8)=x/256:=by
 rw[Int.fdiv_eq_ediv_of_nonneg _ U];rfl
theorem J7 {w:Int} (h0:0<=w) (h1:w<=65535):bQ w+256*bQ (fQ w (2^8))=w:=by
 rw[abh h0,Qb,Qb];omega
def LH (b:List Int) (n:Int) (r:List Int×Er×ff):Prop:=
 r.2.2.b=b/\0<=r.2.2.aZ/\r.2.2.aZ<=b.length/\r.1.length<=1000/\(r.2.1= .dR 5∨r.2.1= .dR 6∨(r.2.1= .nil/\(r.1.length:Int)=n/\ ∀y∈r.1,1<=y/\y<=255))
section
variable {b : List Int} {n : Int}
theorem PV (hl:b.length<=100000) {a m:Int} (a0:0<=a) (a1:a<=b.length) (m0:0<=m):(b.length<a+m/\ny.f ⟨b,a⟩ m=some ([],.dR 6,⟨b,a⟩))∨(a+m<=b.length/\ny.f ⟨b,a⟩ m=some (aA b a (a+m),.nil,⟨b,a+m⟩)):=by
 by_cases z:b.length<a+m
 ·exact .inl ⟨z,Ln hl a0 a1 z⟩
 ·exact .inr ⟨by omega,Lm hl a0 m0 U⟩
theorem RA (hb: ∀y∈b,dV y) (hl:b.length<=100000) {a m:Int} (a0:0<=a) (a1:a<=b.length) (m0:0<=m) (m1:m<=256):Ok (qG.f ⟨b,a⟩ m) (λr=>LH b m r/\(r.1.length:Int)<=m):=by
 by_cases z:b.length<a+m
 ·exact Ok.of (MA hl a0 a1 z) ⟨⟨J,a0,a1,by simp,.inr (.inl J)⟩,by simpa using m0⟩
 ·have hs:=uF a0 (show a<=a+m by omega) (show a+m<=b.length by omega)
  refine Ok.of (Mz hl a0 m0 U) ⟨⟨J,by simp only;omega,by simp only;omega,by simp only;omega,?_⟩,by simp only;omega⟩
  simp only
  by_cases y:0∈aA b a (a+m)
  ·rw[ah y];exact .inl J
  ·rw[ak y];refine .inr (.inr ⟨J,by omega,λx hx=>?_⟩)
   have h8:=Ii (P:=dV) hb x hx;unfold dV at h8;have:x≠0:=λq=>y (by rw[<-q];exact hx)
   omega
theorem ahE (hb: ∀y∈b,dV y) (hl:b.length<=100000) (n1:1<=n/\n<=256) (q:Int): ∀(m k:Nat) (a:Int) (x:List Int),(b.length-a).toNat<=m->m<k->0<=a->a<=b.length->(x.length:Int)<=n->(∀y∈x,1<=y/\y<=255)->
 Ok (lH.l0 k ⟨b,q⟩ n a x) (λz=>(∃e p,z= .inl ([],e,⟨b,p⟩)/\0<=p/\p<=b.length/\(e= .dR 5∨e= .dR 6))∨ ∃x' p,z= .inr (x',p)/\(x'.length:Int)=n/\0<=p/\p<=b.length/\ ∀y∈x',1<=y/\y<=255):=by
 intro m
 induction m with
 |zero=>
  intro k a x hm hk a0 a1 hx hy;obtain⟨k,rfl⟩:=bw hk;rw[lH.l0];refine Ok.ite (λz=>?_) λz=>Ok.pure (.inr ⟨x,a,J,by omega,a0,a1,hy⟩)
  rcases PV hl a0 a1 (show(0:Int)<=2 by omega) with⟨_,e⟩ |⟨t,e⟩
  ·exact Ok.eq e (Ok.pos J (Ok.pure (.inl ⟨_,_,J,a0,a1,.inr J⟩)))
  ·omega
 |succ m ih=>
  intro k a x hm hk a0 a1 hx hy;obtain⟨k,rfl⟩:=bw hk;rw[lH.l0];refine Ok.ite (λz=>?_) λz=>Ok.pure (.inr ⟨x,a,J,by omega,a0,a1,hy⟩)
  rcases PV hl a0 a1 (show(0:Int)<=2 by omega) with⟨_,e⟩ |⟨t,e⟩
  ·exact Ok.eq e (Ok.pos J (Ok.pure (.inl ⟨_,_,J,a0,a1,.inr J⟩)))
  ·refine Ok.eq e (Ok.neg (by simp[Er.isNil]) ?_)
   have hs:=uF a0 (show a<=a+2 by omega) t
   have r0:=fS (a:=aA b a (a+2)) (i:=0) U U;have r1:=fS (a:=aA b a (a+2)) (i:=1) U U;have u0:=Ii (P:=dV) hb _ r0;have u1:=Ii (P:=dV) hb _ r1;unfold dV at u0 u1;simp only;generalize rd (aA b a (a+2)) 0=c at*;generalize rd (aA b a (a+2)) 1=v at*;rw[wi (x:=c) U U,wi (x:=c+1) U U,wi (x:=n-(x.length:Int)) U U,wi (x:=(x.length:Int)-1) U U];refine Ok.br U (Ok.br U ?_);refine Ok.bind (P:=λy:Bool=>y=false->v≠0/\c+1<=n-x.length) (Ok.ite (λy=>Ok.pure bp) λy=>?_) λy Kv=>?_
   ·have y: ¬(v=0∨c+1>n-x.length):=by simpa using y
    refine Ok.ite (λw=>Ok.br U (Ok.pure λ_=>by omega)) λw=>Ok.pure λ_=>by omega
   ·refine Ok.ite (λw=>Ok.pure (.inl ⟨_,_,J,by omega,by omega,.inl J⟩)) λw=>?_
    obtain⟨v0,c1⟩:=Kv (by simpa using w)
    refine Ok.eq (HK U) (Ok.br bo (ih k (a+2) _ U U U U bo λy aeA=>?_));rcases List.mem_append.1 aeA with w |w
    ·exact hy y w
    ·have:=List.eq_of_mem_replicate w;omega
theorem aac (hb: ∀y∈b,dV y) (hl:b.length<=100000) (n1:1<=n/\n<=256):Ok (qF.f ⟨b,0⟩ n) (LH b n):=by
 unfold qF.f;rcases PV (b:=b) hl (dU 0) U (show(0:Int)<=1 by omega) with⟨_,e⟩ |⟨t,e⟩
 ·exact Ok.eq e (Ok.pos J (Ok.pure ⟨J,dU _,by simp only;omega,by simp,.inr (.inl J)⟩))
 refine Ok.eq e (Ok.neg (by simp[Er.isNil]) ?_)
 have hs:=uF (L:=b) (dU 0) (show(0:Int)<=0+1 by omega) t
 refine Ok.br (by simp only;omega) (Ok.ite (λz=>?_) λz=>Ok.ite (λz=>?_) λz=>Ok.ite (λz=>?_) λz=>Ok.pure ⟨J,by simp only;omega,by simp only;omega,by simp,.inl J⟩)
 ·refine(RA hb hl (a:=0+1) (m:=1) U U U U).bind λr hr=>?_
  obtain⟨⟨h1,h2,h3,h4,h5⟩,h9⟩:=hr;rcases h5 with h5 |h5 |⟨h5,h6,h7⟩
  rotate_left 2
  ·obtain⟨y,hy⟩: ∃y,r.1=[y]:=List.length_eq_one_iff.1 U;have:=h7 y (by rw[hy];exact mD ..)
   rw[hy];refine Ok.eq (HK U) (Ok.pure ⟨J,h2,h3,by simp;omega,.inr (.inr ⟨h5,by simp;omega,λx hx=>?_⟩)⟩)
   have:=List.eq_of_mem_replicate hx;omega
  all_goals
   obtain⟨x,ex,lx⟩: ∃x,kN.f r.1 n=some x/\x.length<=1000:=by
    cases vj:r.1 with
    |nil=>exact⟨_,WA U,by simp⟩
    |cons c l=>
     rw[vj] at h9;have:l=[]:=List.length_eq_zero_iff.1 (by simp at h9;omega)
     subst this;exact⟨_,HK U,by simp;omega⟩
   exact Ok.eq ex (Ok.pure ⟨J,h2,h3,lx,by simp[h5]⟩)
 ·refine(RA hb hl (a:=0+1) (m:=n) U U U U).bind λr hr=>Ok.pure ?_
  obtain⟨⟨h1,h2,h3,h4,h5⟩,_⟩:=hr;exact⟨J,h2,h3,h4,h5⟩
 ·unfold lH.f;refine Ok.bind (P:=LH b n) ?_ λr hr=>Ok.pure ⟨J,hr.2.1,hr.2.2.1,hr.2.2.2.1,hr.2.2.2.2⟩
  refine(ahE hb hl n1 (0+1) 100000 fuel (0+1) [] U (by rw[de];omega) U U bo bp).bind λz hz=>?_
  rcases hz with⟨e',p,rfl,p0,p1,he⟩ |⟨x',p,rfl,hx,p0,p1,hy⟩
  ·exact Ok.pure ⟨J,p0,p1,by simp,he.imp id .inl⟩
  ·exact Ok.pure ⟨J,p0,p1,by simp only;omega,.inr (.inr ⟨J,hx,hy⟩)⟩
end
theorem Pg {x:Int} (h0:0<=x) (h1:x<=255): ∃v,wN.f x=some v/\1<=v/\v<=255:=by
 unfold wN.f;rw[mY h0,mY h0]
 by_cases h7:x%8=7
 ·rw[ah (by simpa using h7)];exact⟨_,J,by omega,by omega⟩
 ·rw[ak (by simpa using h7)]
  by_cases h2:x<160
  ·rw[ah h2,Fi U U];exact⟨_,J,by omega,by omega⟩
  ·rw[ak h2];exact⟨_,J,by omega,by omega⟩
theorem afz {c:List Int} (hc: ∀y∈c,0<=y/\y<=255) {w h:Int} (hw:1<=w/\w<=40) (hh:1<=h/\h<=40): ∀(n k:Nat) (x:List Int) (i:Int),i+n=w*h->i=x.length->n<k->(∀y∈x,1<=y/\y<=255)->
 ∃m,lI.l0 k c w h x i=some m/\m.W=w/\m.H=h/\(m.C.length:Int)=w*h/\ ∀y∈m.C,1<=y/\y<=255:=by
 have N4:w*h<=40*40:=kU U U hw.2 hh.2;have CD:0<=w*h:=nu U U;intro n
 induction n with
 |zero=>
  intro k x i hi hx hk ha;obtain⟨k,rfl⟩: ∃q,k=q+1:=⟨k-1,by omega⟩
  rw[lI.l0,bd (x:=w*h) U U,ak U];exact⟨_,J,J,J,by simp only;omega,ha⟩
 |succ n ih=>
  intro k x i hi hx hk ha;obtain⟨k,rfl⟩: ∃q,k=q+1:=⟨k-1,by omega⟩
  rw[lI.l0,bd (x:=w*h) U U,ah U];have next: ∀v,1<=v->v<=255-> ∃m,lI.l0 k c w h (x++[v]) (af (i+1))=some m/\m.W=w/\m.H=h/\(m.C.length:Int)=w*h/\ ∀y∈m.C,1<=y/\y<=255:=by
   intro v v0 v1;rw[bd U U];refine ih k _ (i+1) U bo U (λy hy=>?_);rw[List.mem_append] at hy;rcases hy with hy |hy
   ·exact ha y hy
   ·simp at hy;omega
  by_cases hz:(c.length:Int)>0
  ·have bK: ¬(c.length:Int)=0:=U;rw[ah hz,ah bK,ah bK];have xY:0<=af (i+af (af (di i c.length)*5)):=by
    have hd:0<=i/c.length/\i/c.length<=i:=⟨Int.ediv_nonneg U U,Int.ediv_le_self _ U⟩;rw[qe U,bd (x:=i/_) U U,bd (x:=_*5) U U,bd U U];omega
   have r0:0<=fC (af (i+af (af (di i c.length)*5))) c.length:=by rw[mY xY];exact Int.emod_nonneg _ U
   have r1:fC (af (i+af (af (di i c.length)*5))) c.length<c.length:=by rw[mY xY];exact AN _ U
   rw[ah ⟨r0,r1⟩];have lX:=sV (a:=c) r0 r1;obtain⟨q0,q1⟩:=hc _ lX;obtain⟨v,e,v0,v1⟩:=Pg q0 q1;rw[e,aM,ah U];exact next v v0 v1
  ·rw[ak hz];obtain⟨v,e,v0,v1⟩:=Pg (x:=1) U U;rw[e,aM,ah U];exact next v v0 v1
theorem afy (w h:Int) {c:List Int} (hc: ∀y∈c,0<=y/\y<=255): ∃m,lI.f w h c=some m/\nK m/\m.W<=40/\m.H<=40/\ ∀y∈m.C,1<=y/\y<=255:=by
 unfold lI.f;have h1:=P9 (n:=w) (lo:=1) (hi:=40) U;have h2:=P9 (n:=h) (lo:=1) (hi:=40) U;rw[P8 U U U U,P8 U U U U];simp only[aM];generalize 1+w%(40-1+1)=a at h1⊢;generalize 1+h%(40-1+1)=b at h2⊢;have N4:a*b<=40*40:=kU U U h1.2 h2.2;have CD:0<=a*b:=nu U U;obtain⟨m,e,e1,e2,e3,e4⟩:=afz hc h1 h2 (a*b).toNat fuel [] 0 U bp (by rw[sC];omega) bp
 refine⟨m,e,⟨⟨by omega,by omega,by omega,by omega⟩,by rw[e1,e2];exact e3,λh0=>?_⟩,by omega,by omega,e4⟩
 have:=e4 0 h0;omega
section
theorem abE {b:List Int} (hb: ∀y∈b,dV y) (hl:b.length<=100000) {w h:Int} (hw:1<=w/\w<=16) (hh:1<=h/\h<=16):
 Ok (pT.f b w h) (λr=>(r.2.2=2∨r.2.2=3)∨(r.2.2=0/\r.1.W=w/\r.1.H=h/\(r.1.C.length:Int)=w*h/\(∀y∈r.1.C,1<=y/\y<=255)/\0<=r.2.1/\r.2.1<=b.length)):=by
 have hn:1*1<=w*h:=kU U U hw.1 hh.1;have GL:w*h<=16*16:=kU U U hw.2 hh.2;have GS:af (w*h)=w*h:=wi U U;obtain⟨⟨x,e,rr⟩,hr,h1,h2,h3,h4,h5⟩:=aac hb hl (n:=w*h) U;simp only at h1 h2 h3 h4 h5;obtain⟨rb,p⟩:=rr;simp only at h1 h2 h3;subst h1;rcases h5 with rfl |rfl |⟨rfl,h6,h7⟩
 ·exact Ok.of (abF hw hh GS U hr) (.inl (.inr J))
 ·exact Ok.of (Sg hw hh GS U hr) (.inl (.inl J))
 ·have ht:si ⟨w,h,x⟩:=⟨hw.1,hw.2,hh.1,hh.2,h6,λq=>by have:=h7 0 q;omega⟩
  obtain⟨L,f,out,e,_⟩:=VO ht;refine Ok.of (Sf hw hh GS U ⟨h2,h3⟩ hr e) ?_;split
  ·exact .inr ⟨J,J,J,h6,h7,h2,h3⟩
  ·exact .inl (.inr J)
theorem Qy:zv.f .nil=some none:=rfl
theorem Qz (n:Int):zv.f (.num 243 n)=some (some n):=rfl
theorem YO (q n:Int):zv.f (.wrap 301 [q] (.num 243 n))=some (some n):=rfl
theorem ahd {w h:Int} (N5:iJ w h) {b:List Int} (hw:rd b 0+256*rd b 1=w) (hh:rd b 2+256*rd b 3=h) (u0:dV (rd b 0)) (u1:dV (rd b 1)) (u2:dV (rd b 2)) (u3:dV (rd b 3)):
 ∀(n k:Nat) (i:Int) (r x:List Int),i+n=dy w h->0<=i->n<k->(∀y∈r,dV y)->r.length<=100000->(x.length:Int)=w*h->
 (∀c,0<=c->c<w*h->(∃s,0<=s/\s<i/\bC w h s/\oZ w h s c)->1<=rd x c/\rd x c<=255)->
 Ok (mL.l0 k b (dy w h) r x i) (λres=>(∃e c,res=(⟨0,0,[]⟩,e)/\zv.f e=some (some c)/\(c=2∨c=3))∨ ∃x',res=(⟨w,h,x'⟩,.nil)/\(x'.length:Int)=w*h/\ ∀c,0<=c->c<w*h->1<=rd x' c/\rd x' c<=255):=by
 have iR:=np w h;intro n
 induction n with
 |zero=>
  intro k i r x hi i0 hk hr GP hx ha;obtain⟨k,rfl⟩:=bw hk;rw[mL.l0,vg u0 u1,vg u2 u3,hw,hh,ak U];refine Ok.ite (λhz=>Ok.pure (.inl ⟨_,3,J,J,.inr J⟩)) λhz=>Ok.pure (.inr ⟨x,J,hx,λc c0 c1=>?_⟩);obtain⟨s,s1,s2⟩:=WW (w:=w) (h:=h) (c:=c) ⟨N5,c0,c1⟩;exact ha c c0 c1 ⟨s,s1.1,by have:=s1.2;omega,s1,s2⟩
 |succ n ih=>
  intro k i r x hi i0 hk hr GP hx ha;obtain⟨k,rfl⟩:=bw hk;have hs:bC w h i:=⟨i0,by omega⟩
  have hz:=p9 hs;rw[mL.l0,vg u0 u1,vg u2 u3,hw,hh];refine Ok.pos U (Ok.eq (E5 ..) ((abE hr GP ⟨hz.1,hz.2.1⟩ ⟨hz.2.2.1,hz.2.2.2⟩).bind λres Og=>?_));rcases Og with q |⟨q1,tW,tH,tC,tB,p0,p1⟩
  ·exact Ok.pos (by rcases q with q |q<;>simp[q]) (Ok.pure (.inl ⟨_,res.2.2,rfl,YO _ _,q⟩))
  ·obtain⟨x1,f1,f2,f3⟩:=UX hs (t:=res.1) tW tH tC (x:=x) hx;have sl:=uF (L:=r) (lo:=res.2.1) (hi:=(r.length:Int)) p0 p1 U;rw[wi (x:=i+1) U U];refine Ok.neg (by simp[q1]) (Ok.eq f1 (Ok.br U (ih k (i+1) _ x1 U U U (Ii hr) U f2 λc c0 c1 ⟨s,s0,s1,s2,s3⟩=>?_)))
   rw[f3 c c0 c1]
   by_cases z:oZ w h i c
   ·rw[ah z];have N3:=OJ hs z;exact tB _ (sV N3.1 U)
   ·rw[ak z];refine ha c c0 c1 ⟨s,s0,?_,s2,s3⟩;have:s≠i:=λq=>z (by rw[<-q];exact s3)
    omega
theorem YB {b:List Int} (hb: ∀y∈b,dV y) (hl:b.length<=100000):Ok (tJ.f b) (λr=>(r.2=2∨r.2=3)∨(r.2=0/\nK r.1/\(∀c:Int,0<=c->c<r.1.W*r.1.H->1<=rd r.1.C c/\rd r.1.C c<=255)/\r.1.W=rd b 0+256*rd b 1/\r.1.H=rd b 2+256*rd b 3)):=by
 unfold tJ.f mL.f
 by_cases h4:(b.length:Int)<4
 ·rw[ah h4];exact Ok.eq J (Ok.eq (Qz 2) (Ok.pos J (Ok.pure (.inl (.inl J)))))
 have u0:dV (rd b 0):=hb _ (sV U U);have u1:dV (rd b 1):=hb _ (sV U U);have u2:dV (rd b 2):=hb _ (sV U U);have u3:dV (rd b 3):=hb _ (sV U U);rw[ak h4,ah (show 0<=(0:Int)/\(0:Int)<(b.length:Int) by omega),ah (show 0<=(1:Int)/\(1:Int)<(b.length:Int) by omega),ah (show 0<=(2:Int)/\(2:Int)<(b.length:Int) by omega),ah (show 0<=(3:Int)/\(3:Int)<(b.length:Int) by omega),vg u0 u1,vg u2 u3,zT,aM]
 generalize hw:rd b 0+256*rd b 1=w;generalize hh:rd b 2+256*rd b 3=h
 by_cases hm:iJ w h
 ·have hp:=pP hm;have hc:=np w h;rw[decide_eq_true hm,ak bp,ah (show 0<=(4:Int)/\(4:Int)<=(b.length:Int)/\(b.length:Int)<=(b.length:Int) by omega),bd (x:=w*h) U U,ah (show 0<=w*h/\w*h<=1099511627776 by omega)]
  have e:AQ.f w h=some (dy w h):=by
   unfold AQ.f;rw[Du,aM];have e:(bq w h).1*(bq w h).2=dy w h:=rfl;rw[e,wi U U]
  rw[e,aM];have sl:=uF (L:=b) (lo:=4) (hi:=(b.length:Int)) U U U;refine(ahd hm hw hh u0 u1 u2 u3 (dy w h).toNat fuel 0 (aA b 4 (b.length:Int)) (cy (w*h).toNat 0) U U (by rw[de];omega) (Ii hb) U bo (λc _ _ ⟨s,s0,s1,_⟩=>by omega)).bind λres Og=>?_
  rcases Og with⟨e',c,rfl,h1,h2⟩ |⟨x',rfl,xl,xb⟩
  ·exact Ok.eq h1 (Ok.pos J (Ok.pure (.inl h2)))
  ·refine Ok.eq Qy (Ok.neg bp (Ok.pure (.inr ⟨J,⟨hm,xl,λq=>?_⟩,xb,J,J⟩)));obtain⟨c,c0,c1,e⟩:=qD q;have:=xb c c0 (by simp only at c1;omega)
   simp only at e;rw[e] at this;omega
 ·rw[decide_eq_false hm,ah bp];exact Ok.eq J (Ok.eq (Qz 3) (Ok.pos J (Ok.pure (.inl (.inr J)))))
theorem Pj (w h:Int) {c:List Int} (hc: ∀y∈c,dV y): ∃m,lI.f w h c=some m/\tr m/\m.W<=40/\m.H<=40:=by
 obtain⟨m,e,ok,w40,h40,hb⟩:=afy w h (c:=c) (λy hy=>by have:=hc y hy;unfold dV at this;omega)
 exact⟨m,e,⟨ok,hb⟩,w40,h40⟩
end
end Go.Proofs.YthodkonhneebbaaGreatDoor
