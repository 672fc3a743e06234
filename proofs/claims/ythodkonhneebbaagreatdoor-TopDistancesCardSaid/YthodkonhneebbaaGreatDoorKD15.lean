/- What the functions do, in plain Lean, on the objects that are kept in order. -/
import Derived.Laws.Strings
import Derived.Test.YthodkonhneebbaaGreatDoorKD14
import Derived.Test.YthodkonhneebbaaGreatDoorKD10
import Derived.Test.YthodkonhneebbaaGreatDoorKD11
import Derived.Test.YthodkonhneebbaaGreatDoorKD13
import Derived.Test.YthodkonhneebbaaGreatDoorKD5
import Derived.Test.YthodkonhneebbaaGreatDoorKD6
namespace Go.Proofs.YthodkonhneebbaaGreatDoor
open Go.Hx
open Int renaming tmod->fy,tdiv->cZ,fdiv->fL,toNat->ax,emod_lt_of_pos->Ax,mul_comm->mv,mul_le_mul_of_nonneg_right->BL,mul_ediv_add_emod->uy,le_refl->dP
open List renaming length->aa,set->aD,replicate->ct,length_set->nF,mem_cons_self->na,mem_cons_of_mem->pj,mem_cons->nG,not_mem_nil->rR,length_append->yS
open BitVec renaming toNat->fX,ofInt->cg
open Nat renaming le_refl->jM
open Bool renaming eq_iff_iff->nD,false_eq_true->ji
open Classical renaming byContradiction->pg
set_option linter.unusedVariables false
set_option linter.unusedSimpArgs false
abbrev dJ:Int:=2147483647
abbrev RB:Int:=104538400
def pY (f:Int->Int):Nat->Int
 |0=>0
 |n+1=>pY f n+f n
theorem Pr {f:Int->Int} {B:Int}: ∀(n:Nat),(∀i:Int,0<=i->i<n->f i<=B)->pY f n<=n*B
 |0,_=>by simp[pY]
 |n+1,h=>by
  have:=Pr n (λi a b=>h i a U);have:=h n U U;rw[pY,Int.natCast_add,Int.add_mul,Int.natCast_one,Int.one_mul];omega
theorem Ps {f:Int->Int}: ∀(n:Nat),(∀i:Int,0<=i->i<n->0<=f i)->0<=pY f n
 |0,_=>dP _
 |n+1,h=>by
  have:=Ps n (λi a b=>h i a U);have:=h n U U;rw[pY];omega
theorem WX {f f':Int->Int}: ∀(n:Nat),(∀i:Int,0<=i->i<n->f' i=f i)->pY f' n=pY f n
 |0,_=>rfl
 |n+1,h=>by rw[pY,pY,WX n (λi a b=>h i a U),h n U U]
theorem Pp {f f':Int->Int} {c:Int}: ∀(n:Nat),0<=c->c<n->f' c+1<=f c->(∀i:Int,0<=i->i<n->i≠c->f' i=f i)->pY f' n+1<=pY f n
 |0,h0,h1,_,_=>by omega
 |n+1,h0,h1,hd,he=>by
  rw[pY,pY]
  by_cases z:c=n
  ·subst z;rw[WX n (λi a b=>he i a U U)];omega
  ·have:=Pp n h0 U hd (λi a b=>he i a U);rw[he n U U (λy=>z y.symm)];omega
theorem Ma {p q:Int->Bool}: ∀{n:Nat},(∀i:Int,0<=i->i<n->p i=true->q i=true)->iY p n<=iY q n
 |0,_=>jM _
 |n+1,h=>by
  have:=Ma (p:=p) (q:=q) (n:=n) (λi a b=>h i a U);unfold iY;have h':=h n U U
  cases hp:p n
  ·simp;omega
  ·rw[h' hp];simp;omega
theorem Q_ {p q:Int->Bool} {c:Int}: ∀{n:Nat},0<=c->c<n->p c=false->q c=true->(∀i:Int,0<=i->i<n->p i=true->q i=true)->iY p n+1<=iY q n
 |0,h0,h1,_,_,_=>by omega
 |n+1,h0,h1,hp,hq,he=>by
  unfold iY
  by_cases z:c=n
  ·subst z;have:=Ma (p:=p) (q:=q) (n:=n) (λi a b=>he i a U);rw[hp,hq];simp;omega
  ·have:=Q_ (n:=n) h0 U hp hq (λi a b=>he i a U);have h':=he n U U
   cases hp':p n
   ·simp;omega
   ·rw[h' hp'];simp;omega
def zN (D:List Int) (v:Int):Nat:=iY (λc=>decide (rd D c<v)) D.length
def nZ (D:List Int):Int:=pY (λc=>min (rd D c) (RB+1)) D.length
section
variable {g : bw} {more : Int} {M : dK} {goal : Int} {im : List (Int × Int)}
def Pv (g:bw) (goal:Int) (im:List (Int×Int)) (D:List Int) (c d:Int):Prop:=
 (c∈bM g.m (aQ g.m.W g.m.H goal)/\cj im c=true/\aT im c=d)∨ ∃b e,node g.m b/\rd D b≠dJ/\Comes g.m b e/\e.To=c/\rd D b+e.kE<=d
structure Rt (g:bw) (goal:Int) (im:List (Int×Int)) (D:List Int) (l:List cN) (x:Int):Prop where
 len_:(D.length:Int)=g.m.W*g.m.H
 dv: ∀c:Int,0<=c->c<D.length->rd D c≠dJ->node g.m c/\0<=rd D c/\rd D c<=500000+65024*(zN D (rd D c):Int)/\Pv g goal im D c (rd D c)
 hp: ∀e∈l,node g.m e.item/\rd D e.item≠dJ/\rd D e.item<=e.key
 rel: ∀c,node g.m c->c≠x->rd D c≠dJ->⟨rd D c,c⟩∈l∨ ∀e,Comes g.m c e->rd D e.To≠dJ/\rd D e.To<=rd D c+e.kE
theorem Wa (D:List Int) (v:Int):zN D v<=D.length:=DU _ _
theorem Rt.bound {D:List Int} {l:List cN} {x:Int} (hN:g.m.W*g.m.H<=1600) (h:Rt g goal im D l x) {c:Int} (c0:0<=c) (c1:c<D.length) (hc:rd D c≠dJ):0<=rd D c/\rd D c<=RB:=by
 have xz:RB=104538400:=rfl;obtain⟨_,a,b,_⟩:=h.dv c c0 c1 hc;have:=Wa D (rd D c);have:=h.len_;omega
theorem tP (h:cL g more) {D:List Int} (hl:(D.length:Int)=g.m.W*g.m.H) {c:Int} (hc:node g.m c):0<=c/\c<D.length:=by
 have:=(ye hc).2;rw[hl];exact this
theorem Vv {D D':List Int} (hd: ∀b,node g.m b->rd D b≠dJ->rd D' b≠dJ/\rd D' b<=rd D b) {c d:Int} (h:Pv g goal im D c d):Pv g goal im D' c d:=by
 rcases h with z |⟨b,e,h1,h2,h3,h4,h5⟩
 ·exact .inl z
 ·have:=hd b h1 h2;exact .inr ⟨b,e,h1,this.1,h3,h4,by omega⟩
theorem af2 {D:List Int} (hD: ∀c:Int,0<=c->c<D.length->0<=rd D c):0<=nZ D/\nZ D<=D.length*(RB+1):=by
 refine⟨Ps _ λi a b=>?_,Pr _ λi a b=>by omega⟩
 have:=hD i a b;have xz:RB=104538400:=rfl;omega
theorem Wf (h:cL g more) (hN:g.m.W*g.m.H<=1600) {D:List Int} {l:List cN} {x:Int} (hr:Rt g goal im D l x) (hlen:l.length+2*nZ D<1000000000000) {v nd ge:Int} (gg ep:Int) (hv:node g.m v) (hx:v≠x) (n0:0<=nd) (n1:nd<=500000+65024*(zN D nd:Int)) (hp:Pv g goal im D v nd):
 Ok (tU.f ⟨gg,ep,D⟩ v nd) (λr=>(r=(false,⟨gg,ep,D⟩)/\rd D v≠dJ/\rd D v<=nd)∨ ∃D',r=(true,⟨gg,ep,D'⟩)/\nZ D'+1<=nZ D/\rd D' v=nd/\(∀c:Int,0<=c->c≠v->rd D' c=rd D c)/\nd<rd D v/\D'.length=D.length/\
  ∀l':List cN,(∀e,e∈l'↔e∈l∨e=⟨nd,v⟩)->Rt g goal im D' l' x):=by
 have hF:dJ=2147483647:=rfl;have xz:RB=104538400:=rfl;have AZ:=tP h hr.len_ hv;have hrk:=Wa D nd;have Ed:=hr.len_;have hvb:rd D v=dJ∨(0<=rd D v/\rd D v<=RB):=by
  by_cases z:rd D v=dJ
  ·exact .inl z
  ·exact .inr (hr.bound hN AZ.1 AZ.2 z)
 unfold tU.f;simp only;rw[ah AZ,wi U U];refine Ok.ite (λq=>Ok.pure (.inl ⟨J,by omega,by omega⟩)) λq=>?_
 rw[Uh U U];have dV: ∀c:Int,0<=c->rd (aD D v.toNat nd) c=if c=v then nd else rd D c:=λc c0=>mh AZ.1 AZ.2 c0
 have En:rd (aD D v.toNat nd) v=nd:=by rw[dV v AZ.1,ah J]
 have hle: ∀c:Int,0<=c->rd (aD D v.toNat nd) c<=rd D c:=λc c0=>by
  rw[dV c c0];split
  ·rename_i z;rw[z];omega
  ·omega
 have hnf: ∀c:Int,0<=c->rd D c≠dJ->rd (aD D v.toNat nd) c≠dJ:=λc c0 hc=>by
  rw[dV c c0];split
  ·omega
  ·exact hc
 have JZ: ∀b,node g.m b->rd D b≠dJ->rd (aD D v.toNat nd) b≠dJ/\rd (aD D v.toNat nd) b<=rd D b:=λb hb hf=>by
  have:=tP h hr.len_ hb;exact⟨hnf b this.1 hf,hle b this.1⟩
 have TS: ∀w,zN D w<=zN (aD D v.toNat nd) w:=λw=>by
  unfold zN;rw[nF];refine Ma λi a b c=>?_
  have:=hle i a;simp only[decide_eq_true_iff] at c⊢;omega
 refine Ok.pure (.inr ⟨_,J,?_,En,λc c0 hc=>by rw[dV c c0,aj hc],by omega,by simp,λl' zs=>?_⟩)
 ·unfold nZ;rw[nF];refine Pp D.length AZ.1 AZ.2 ?_ λi a b hi=>?_
  ·rw[En];omega
  ·rw[dV i a,aj hi]
 ·refine⟨by simpa using hr.len_,λc c0 c1 hc=>?_,λe he=>?_,λc hc xF hf=>?_⟩
  ·rw[nF] at c1
   by_cases z:c=v
   ·subst z;rw[En];have:=TS nd;exact⟨hv,n0,by omega,Vv JZ hp⟩
   ·rw[dV c c0,aj z] at hc⊢;obtain⟨a1,a2,a3,a4⟩:=hr.dv c c0 c1 hc;have:=TS (rd D c);exact⟨a1,a2,by omega,Vv JZ a4⟩
  ·rcases(zs e).1 he with z |rfl
   ·obtain⟨b1,b2,b3⟩:=hr.hp e z;have:=JZ _ b1 b2;exact⟨b1,this.1,by omega⟩
   ·exact⟨hv,by simp only;rw[En];omega,by simp only;rw[En];omega⟩
  ·have xE:=tP h hr.len_ hc
   by_cases z:c=v
   ·subst z;rw[En];exact .inl ((zs _).2 (.inr J))
   ·rw[dV c xE.1,aj z] at hf⊢;rcases hr.rel c hc xF hf with y |y
    ·exact .inl ((zs _).2 (.inl y))
    ·refine .inr λe he=>?_
     obtain⟨q1,q2⟩:=y e he;have:=JZ _ (FU h hc he).1 q1;exact⟨this.1,by omega⟩
theorem Db (hN:g.m.W*g.m.H<=1600) {D:List Int} {l:List cN} {x:Int} (hr:Rt g goal im D l x):0<=nZ D/\nZ D<=200000000000:=by
 have hF:dJ=2147483647:=rfl;have xz:RB=104538400:=rfl;have hl:=hr.len_;have:=af2 (D:=D) λc c0 c1=>by
  by_cases z:rd D c=dJ
  ·omega
  ·exact(hr.bound hN c0 c1 z).1
 have:(D.length:Int)*(RB+1)<=1600*(RB+1):=BL U U;omega
theorem ahk (h:cL g more) (hN:g.m.W*g.m.H<=1600) (gg ep gl:Int) {b key:Int} (hb:node g.m b) (E:List d_) (hE: ∀e∈E,Comes g.m b e) (hEb:E.length<=260): ∀(n k:Nat) (D:List Int) (l:List cN) (i:Int),(E.length-i).toNat<=n->n<k->0<=i->i<=E.length->Rt g goal im D l b->rd D b=key->key≠dJ->l.length+2*nZ D+(E.length-i)<1000000000000->
 (∀j:Int,0<=j->j<i->rd D (rd E j).To≠dJ/\rd D (rd E j).To<=key+(rd E j).kE)->
 Ok (gh.l2 k gl key E gg ep D l i) (λr=>r.1=gg/\r.2.1=ep/\Rt g goal im r.2.2.1 r.2.2.2 b/\rd r.2.2.1 b=key/\r.2.2.2.length+2*nZ r.2.2.1<=l.length+2*nZ D/\(∀e∈E,rd r.2.2.1 e.To≠dJ/\rd r.2.2.1 e.To<=key+e.kE)/\ ∀c,node g.m c->rd D c≠dJ->rd r.2.2.1 c≠dJ/\rd r.2.2.1 c<=rd D c):=by
 have hF:dJ=2147483647:=rfl;have xz:RB=104538400:=rfl;have fin: ∀(k:Nat) (D:List Int) (l:List cN) (i:Int),¬i<E.length->Rt g goal im D l b->rd D b=key->(∀j:Int,0<=j->j<i->rd D (rd E j).To≠dJ/\rd D (rd E j).To<=key+(rd E j).kE)->
  Ok (gh.l2 (k+1) gl key E gg ep D l i) (λr=>r.1=gg/\r.2.1=ep/\Rt g goal im r.2.2.1 r.2.2.2 b/\rd r.2.2.1 b=key/\r.2.2.2.length+2*nZ r.2.2.1<=l.length+2*nZ D/\(∀e∈E,rd r.2.2.1 e.To≠dJ/\rd r.2.2.1 e.To<=key+e.kE)/\ ∀c,node g.m c->rd D c≠dJ->rd r.2.2.1 c≠dJ/\rd r.2.2.1 c<=rd D c):=λk D l i hi hr hk ha=>by
  rw[gh.l2,aj hi];refine Ok.pure ⟨J,J,hr,hk,dP _,λe he=>?_,λc _ hc=>⟨hc,dP _⟩⟩
  obtain⟨j,j0,j1,rfl⟩:=qq he;exact ha j j0 U
 intro n
 induction n with
 |zero=>
  intro k D l i hn hk hi eY hr ko Ef hlen ha;obtain⟨k,rfl⟩:=bz hk;exact fin k D l i U hr ko ha
 |succ n ih=>
  intro k D l i hn hk hi eY hr ko Ef hlen ha;obtain⟨k,rfl⟩:=bz hk
  by_cases aS:i<E.length
  ·have lQ:=fV hi aS;have vZ:=hE _ lQ;obtain⟨c1,c2,c3,c4⟩:=FU h hb vZ;have uT:=tP h hr.len_ hb;obtain⟨d1,d2,d3,d4⟩:=hr.dv b uT.1 uT.2 (by rw[ko];exact Ef)
   have Nn:=hr.bound hN uT.1 uT.2 (by rw[ko];exact Ef)
   rw[ko] at d2 d3 d4 Nn;have MJ:KT=65024:=rfl;have Ek:=Db hN hr;have hrk:zN D key+1<=zN D (key+(rd E i).kE):=by
    unfold zN;refine Q_ uT.1 uT.2 (by rw[ko];simp) (by rw[ko];simp;omega) λc _ _ hc=>?_
    simp only[decide_eq_true_iff] at hc⊢;omega
   rw[gh.l2,wi (x:=key+(rd E i).kE) U U,wi (x:=i+1) U U];refine Ok.pos aS (Ok.br ⟨hi,aS⟩ ((Wf (ge:=0) h hN hr U gg ep c1 c2 U U (.inr ⟨b,_,hb,by rw[ko];exact Ef,vZ,J,by rw[ko];omega⟩)).bind λr mf=>?_))
   rcases mf with⟨rfl,z1,z2⟩ |⟨D',rfl,z1,z2,z3,z4,z5,z6⟩
   ·refine Ok.neg bd (ih k D l (i+1) U U U U hr ko Ef U λj j0 j1=>?_)
    by_cases z:j=i
    ·subst z;exact⟨z1,z2⟩
    ·exact ha j j0 U
   ·refine Ok.pos J ((EB ⟨l⟩ _ _ (by simp only;omega)).bind λq hq=>?_)
    have NS:=z6 q.l hq.2;have kn:rd D' b=key:=by rw[z3 b uT.1 (λy=>c2 y.symm),ko]
    have NR:=hq.1;simp only at NR;refine(ih k D' q.l (i+1) U U U U NS kn Ef U λj j0 j1=>?_).mono λr Cq=>⟨Cq.1,Cq.2.1,Cq.2.2.1,Cq.2.2.2.1,by have:=Cq.2.2.2.2.1;omega,Cq.2.2.2.2.2.1,λc hc qX=>?_⟩
    rotate_left
    ·have xE:=tP h hr.len_ hc;have hd:rd D' c≠dJ/\rd D' c<=rd D c:=by
      by_cases y:c=(rd E i).To
      ·rw[y,z2];rw[y] at qX;have:=hr.bound hN (y▸xE.1) (y▸xE.2) qX;exact⟨by omega,by omega⟩
      ·rw[z3 c xE.1 y];exact⟨qX,dP _⟩
     have:=Cq.2.2.2.2.2.2 c hc hd.1;exact⟨this.1,by omega⟩
    by_cases y:(rd E j).To=(rd E i).To
    ·rw[y,z2]
     by_cases z:j=i
     ·subst z;exact⟨by omega,dP _⟩
     ·have w:=(ha j j0 U).2;rw[y] at w;exact⟨by omega,by omega⟩
    ·have hj:=FU h hb (hE _ (fV j0 (show j<E.length by omega)))
     have:=tP h hr.len_ hj.1;rw[z3 _ this.1 y];refine ha j j0 ?_;have:j≠i:=λz=>y (by rw[z])
     omega
  ·exact fin k D l i aS hr ko ha
structure Fk (g:bw) (goal:Int) (im:List (Int×Int)) (D:List Int):Prop where
 len_:(D.length:Int)=g.m.W*g.m.H
 dv: ∀c:Int,0<=c->c<D.length->rd D c≠dJ->node g.m c/\0<=rd D c/\rd D c<=RB/\Pv g goal im D c (rd D c)
 rel: ∀c,node g.m c->rd D c≠dJ-> ∀e,Comes g.m c e->rd D e.To≠dJ/\rd D e.To<=rd D c+e.kE
 sd: ∀c∈bM g.m (aQ g.m.W g.m.H goal),cj im c=true->rd D c≠dJ/\rd D c<=aT im c
theorem Ww (h:cL g more) (hN:g.m.W*g.m.H<=1600) (hF':qN g M) (gg ep gl:Int): ∀(n k:Nat) (D:List Int) (l:List cN) (key b:Int) (ok:Bool),(l.length+2*nZ D+(if ok then 1 else 0)).toNat<=n->n<k->l.length+2*nZ D<999999990000->
 (ok=true->Rt g goal im D (⟨key,b⟩::l) (-1))->(ok=false->l=[]/\Rt g goal im D [] (-1))->(∀c∈bM g.m (aQ g.m.W g.m.H goal),cj im c=true->rd D c≠dJ/\rd D c<=aT im c)->
 Ok (gh.l1 k gl M g gg ep D l key b ok) (λr=> ∃D',r=some ⟨gg,ep,D'⟩/\Fk g goal im D'):=by
 have MH:dJ=2147483647:=rfl;have xz:RB=104538400:=rfl;have fin: ∀(k:Nat) (D:List Int) (l:List cN) (key b:Int) (ok:Bool),ok=false->Rt g goal im D [] (-1)->(∀c∈bM g.m (aQ g.m.W g.m.H goal),cj im c=true->rd D c≠dJ/\rd D c<=aT im c)->Ok (gh.l1 (k+1) gl M g gg ep D l key b ok) (λr=> ∃D',r=some ⟨gg,ep,D'⟩/\Fk g goal im D'):=λk D l key b ok sj hr hs=>by
  subst sj;rw[gh.l1];refine Ok.neg bd (Ok.pure ⟨D,J,hr.len_,λc c0 c1 hc=>?_,λc hc hf e he=>?_,hs⟩)
  ·obtain⟨a,b,_,d⟩:=hr.dv c c0 c1 hc;exact⟨a,b,(hr.bound hN c0 c1 hc).2,d⟩
  ·have:=tP h hr.len_ hc;exact((hr.rel c hc U hf).resolve_left bd) e he
 intro n
 induction n with
 |zero=>
  intro k D l key b ok hn hk hlen hp hf hs;obtain⟨k,rfl⟩:=bz hk
  cases ok
  ·exact fin k D l key b false J (hf J).2 hs
  ·have:=Db hN (hp J);simp only[if_true] at hn;omega
 |succ n ih=>
  intro k D l key b ok hn hk hlen hp hf hs;obtain⟨k,rfl⟩:=bz hk
  cases ok
  ·exact fin k D l key b false J (hf J).2 hs
  have hr:=hp J;simp only[if_true] at hn;have hph:=Db hN hr;obtain⟨b1,b2,b3⟩:=hr.hp ⟨key,b⟩ (na ..);simp only at b1 b2 b3;have uT:=tP h hr.len_ b1;have Nn:=hr.bound hN uT.1 uT.2 b2;rw[gh.l1];refine Ok.pos J (Ok.bind (P:=λr=>r.1=gg/\r.2.1=ep/\Rt g goal im r.2.2.1 r.2.2.2 (-1)/\r.2.2.2.length+2*nZ r.2.2.1<=l.length+2*nZ D/\ ∀c∈bM g.m (aQ g.m.W g.m.H goal),cj im c=true->rd r.2.2.1 c≠dJ/\rd r.2.2.1 c<=aT im c) (Ok.br uT ?_) λr mf=>?_)
  ·rw[wi U U];refine Ok.ite (λq=>Ok.pure ⟨J,J,⟨hr.len_,hr.dv,λe he=>hr.hp e (pj _ he),λc hc xF qX=>?_⟩,dP _,hs⟩) λq=>?_
   ·rcases hr.rel c hc xF qX with y |y
    ·rcases List.mem_cons.1 y with y |y
     ·simp only[cN.mk.injEq] at y;rw[y.2] at y;omega
     ·exact .inl y
    ·exact .inr y
   ·have ko:rd D b=key:=U;have AW:Rt g goal im D l b:=⟨hr.len_,hr.dv,λe he=>hr.hp e (pj _ he),λc hc xF qX=>by
     have:=tP h hr.len_ hc;rcases hr.rel c hc U qX with y |y
     ·rcases List.mem_cons.1 y with y |y
      ·simp only[cN.mk.injEq] at y;exact absurd y.2 xF
      ·exact .inl y
     ·exact .inr y⟩
    refine(aej h hF' b).bind λE hE=>?_
    obtain⟨hE1,F8⟩:=hE;have R5:=(F8.resolve_right λz=>z.1 b1).2;refine(ahk h hN gg ep gl b1 E (λe he=>(R5 e).1 he) hE1 260 fuel D l 0 U (by rw[cY];omega) U U AW ko U U (λj j0 j1=>by omega)).mono λr NS=>?_
    obtain⟨s1,s2,s3,s4,s5,s6,s7⟩:=NS;refine⟨s1,s2,⟨s3.len_,s3.dv,s3.hp,λc hc xF qX=>?_⟩,s5,λc hc hm=>?_⟩
    ·by_cases z:c=b
     ·subst z;exact .inr λe he=>by rw[s4];exact s6 e ((R5 e).2 he)
     ·exact s3.rel c hc z qX
    ·have w:=hs c hc hm;have:=s7 c (KC hc) w.1;exact⟨this.1,by omega⟩
  ·obtain⟨q1,q2,q3,q4,q5⟩:=mf;obtain⟨r1,r2,D',l'⟩:=r;simp only at q1 q2 q3 q4 q5⊢;subst q1;subst q2;have ai':=Db hN q3;refine(EA ⟨l'⟩ (by simp only;omega)).bind λv hv=>?_
   rcases hv with⟨e1,e2⟩ |⟨e1,e2,e3,e4,e5,e6⟩
   ·simp only at e1;subst e1;subst e2;exact ih k D' [] 0 0 false (by simp only[List.length_nil] at*;simp;omega) U (by simp;simp at q4;omega) bd (λ_=>⟨J,q3⟩) q5
   ·simp only at e1 e3 e4 e5 e6;rw[e2];refine ih k D' v.2.2.2.l v.1 v.2.1 true (by simp only[if_true];omega) U U (λ_=>?_) bd q5
    rw[e3];have h0:=fV (a:=l') (i:=0) U (by have:=List.length_pos_iff.2 e1;omega)
    refine⟨q3.len_,q3.dv,λe he=>?_,λc hc xF qX=>?_⟩
    ·rcases List.mem_cons.1 he with rfl |he
     ·exact q3.hp _ h0
     ·exact q3.hp e (e5 e he)
    ·rcases q3.rel c hc xF qX with y |y
     ·refine .inl ?_;rcases e6 _ y with z |z
      ·rw[z];exact na ..
      ·exact pj _ z
     ·exact .inr y
end
section
variable {g : bw} {more : Int} {M : dK} {goal : Int} {im : List (Int × Int)}
theorem ahj (h:cL g more) (hN:g.m.W*g.m.H<=1600) (hF:qN g M) (JV: ∀c,cj im c=true->0<=aT im c/\aT im c<=500000) (gg ep:Int) (L:List Int) (hL:L=bM g.m (aQ g.m.W g.m.H goal)): ∀(n k:Nat) (D:List Int) (l:List cN) (i:Int),(L.length-i).toNat<=n->n<k->0<=i->i<=L.length->Rt g goal im D l (-1)->l.length+2*nZ D+(L.length-i)<999999990000->
 (∀j:Int,0<=j->j<i->cj im (rd L j)=true->rd D (rd L j)≠dJ/\rd D (rd L j)<=aT im (rd L j))->
 Ok (gh.l0 k goal M g im L gg ep D l i) (λr=> ∃D',r=some ⟨gg,ep,D'⟩/\Fk g goal im D'):=by
 have MH:dJ=2147483647:=rfl;have hlN:L.length<=256:=by rw[hL];exact wx ..
 have fin: ∀(k:Nat) (D:List Int) (l:List cN) (i:Int),¬i<L.length->Rt g goal im D l (-1)->l.length+2*nZ D<999999990000->(∀j:Int,0<=j->j<i->cj im (rd L j)=true->rd D (rd L j)≠dJ/\rd D (rd L j)<=aT im (rd L j))->
  Ok (gh.l0 (k+1) goal M g im L gg ep D l i) (λr=> ∃D',r=some ⟨gg,ep,D'⟩/\Fk g goal im D'):=λk D l i hi hr hlen ha=>by
  rw[gh.l0,aj hi];have Ek:=Db hN hr;have TW: ∀c∈bM g.m (aQ g.m.W g.m.H goal),cj im c=true->rd D c≠dJ/\rd D c<=aT im c:=λc hc hm=>by
   rw[<-hL] at hc;obtain⟨j,j0,j1,rfl⟩:=qq hc;exact ha j j0 U hm
  refine(EA ⟨l⟩ (by simp only;omega)).bind λv hv=>?_
  rcases hv with⟨e1,e2⟩ |⟨e1,e2,e3,e4,e5,e6⟩
  ·simp only at e1;subst e1;subst e2;exact Ww h hN hF gg ep goal 1000000000000 fuel D [] 0 0 false bo (by rw[cY];omega) (by simp;simp at hlen;omega) bd (λ_=>⟨J,hr⟩) TW
  ·simp only at e1 e3 e4 e5 e6;rw[e2];refine Ww h hN hF gg ep goal 1000000000000 fuel D v.2.2.2.l v.1 v.2.1 true (by simp only[if_true];omega) (by rw[cY];omega) U (λ_=>?_) bd TW
   rw[e3];have h0:=fV (a:=l) (i:=0) U (by have:=List.length_pos_iff.2 e1;omega)
   refine⟨hr.len_,hr.dv,λe he=>?_,λc hc xF qX=>?_⟩
   ·rcases List.mem_cons.1 he with rfl |he
    ·exact hr.hp _ h0
    ·exact hr.hp e (e5 e he)
   ·rcases hr.rel c hc xF qX with y |y
    ·refine .inl ?_;rcases e6 _ y with z |z
     ·rw[z];exact na ..
     ·exact pj _ z
    ·exact .inr y
 intro n
 induction n with
 |zero=>
  intro k D l i hn hk hi eY hr hlen ha;obtain⟨k,rfl⟩:=bz hk;exact fin k D l i U hr U ha
 |succ n ih=>
  intro k D l i hn hk hi eY hr hlen ha;obtain⟨k,rfl⟩:=bz hk
  by_cases aS:i<L.length
  ·have lQ:rd L i∈bM g.m (aQ g.m.W g.m.H goal):=by rw[<-hL];exact fV hi aS
   have TN:=KC lQ;have Ek:=Db hN hr;rw[gh.l0,wi (x:=i+1) U U];refine Ok.pos aS ?_;rw[ah (show 0<=i/\i<(L.length:Int) from⟨hi,aS⟩)]
   cases hm:cj im (rd L i)
   ·simp only[ji,if_false,aM];refine ih k D l (i+1) U U U U hr U λj j0 j1 hj=>?_
    by_cases z:j=i
    ·subst z;rw[hm] at hj;simp at hj
    ·exact ha j j0 U hj
   ·have hv:=JV _ hm;simp only[if_true];have hrx:=Wf (ge:=0) h hN hr U gg ep TN (by have:=tP h hr.len_ TN;omega) hv.1 U (.inl ⟨lQ,hm,J⟩)
    obtain⟨r,e,mf⟩:=hrx;rw[e];simp only[aM];rcases mf with⟨rfl,z1,z2⟩ |⟨D',rfl,z1,z2,z3,z4,z5,z6⟩
    ·simp only[ji,if_false,aM];refine ih k D l (i+1) U U U U hr U λj j0 j1 hj=>?_
     by_cases z:j=i
     ·subst z;exact⟨z1,z2⟩
     ·exact ha j j0 U hj
    ·simp only[if_true];obtain⟨q,eq,hq⟩:=EB ⟨l⟩ (aT im (rd L i)) (rd L i) (by simp only;omega)
     rw[eq];simp only[aM];have NR:=hq.1;simp only at NR;refine ih k D' q.l (i+1) U U U U (z6 q.l hq.2) U λj j0 j1 hj=>?_
     by_cases y:rd L j=rd L i
     ·rw[y,z2];exact⟨by omega,dP _⟩
     ·have hjm:rd L j∈bM g.m (aQ g.m.W g.m.H goal):=by rw[<-hL];exact fV j0 U
      have:=tP h hr.len_ (KC hjm);rw[z3 _ this.1 y];refine ha j j0 ?_ hj;have:j≠i:=λz=>y (by rw[z])
      omega
  ·exact fin k D l i aS hr U ha
def P8 (g:bw) (goal:Int) (im:List (Int×Int)):Prop:=(∀f M,fW.f f goal M g=some im)/\ ∀c,cj im c=true->0<=aT im c/\aT im c<=500000
def qO (g:bw) (r:gI):Prop:=r.bS=g.bS/\ ∃im,P8 g r.goal im/\Fk g r.goal im r.aN
theorem ahi (h:cL g more) (hN:g.m.W*g.m.H<=1600) (hF:qN g M) (f:jY) (hg:bP g.m goal):Ok (gh.f f goal M g) (λr=> ∃R,r=some R/\R.goal=goal/\qO g R):=by
 have MH:dJ=2147483647:=rfl;have xz:RB=104538400:=rfl;have hmp:=pJ h.ok.1;unfold gh.f;obtain⟨im,e,JV⟩:=ag8 h hN f M hg;have ad8:P8 g goal im:=⟨λf' M'=>e,JV⟩
 have hs:=oY (fM h.ok hg);refine Ok.eq (Bk g) (Ok.eq (FZ g) ?_);simp only;rw[wi U U];have GA:=agN (v:=dJ) (n:=(g.m.W*g.m.H).toNat) U U;rw[show(((g.m.W*g.m.H).toNat:Nat):Int)=g.m.W*g.m.H by omega] at GA
 refine Ok.eq GA (Ok.eq (v:=some ⟨[]⟩) J ?_);refine Ok.eq e (Ok.eq (ru ..) (Ok.eq (afN hF _ hs) ?_));have Tv: ∀c:Int,0<=c->c<(g.m.W*g.m.H).toNat->rd (ct (g.m.W*g.m.H).toNat dJ) c=dJ:=λc c0 c1=>wA c0 c1
 have hR:Rt g goal im (ct (g.m.W*g.m.H).toNat dJ) [] (-1):=by
  refine⟨by simp;omega,λc c0 c1 hc=>?_,by simp,λc hc _ qX=>?_⟩
  ·rw[List.length_replicate] at c1;exact absurd (Tv c c0 c1) hc
  ·have:=(ye hc).2;exact absurd (Tv c this.1 (by have:=this.2;omega)) qX
 have hph:=Db hN hR;have J2:=wx g.m (aQ g.m.W g.m.H goal);refine(ahj h hN hF JV goal g.bS _ J 256 fuel _ [] 0 U (by rw[cY];omega) U U hR bo (λj j0 j1=>by omega)).mono λr hr=>?_
 obtain⟨D',rfl,hD⟩:=hr;exact⟨_,J,J,J,im,ad8,hD⟩
structure Ln (g:bw) (f:jY):Prop where
 kept: ∀R,f.kept=some R->bP g.m R.goal/\R.bS<=g.bS/\(R.bS=g.bS->qO g R)
 iY:0<=f.count/\f.count<=1000000000000
def Us (g:bw) (f:jY) (goal:Int):Prop:= ∃R,f.kept=some R/\R.goal=goal/\R.bS=g.bS
theorem agO (h:cL g more) (hN:g.m.W*g.m.H<=1600) (hv: ∀s:Int,bC g.m.W g.m.H s->fS g s<=g.bS) {f:jY} (hf:Ln g f) (hM:Aw g M) (hc:M.count+4096<=1000000000000) (Nw:f.count+1<=1000000000000) (hg:bP g.m goal):
 Ok (yq.f f goal M g) (λr=> ∃R,r.1=some R/\R.goal=goal/\qO g R/\r.2.1.kept=some R/\Ln g r.2.1/\f.count<=r.2.1.count/\r.2.1.count<=f.count+1/\(Us g f goal->r.2.1=f)/\qN g r.2.2/\r.2.2.clean=g.bS/\r.2.2.count=M.count+(qe g M M.parts.length).length):=by
 have Eb:=F5 h hg;unfold yq.f;refine Ok.eq (rX h _) (Ok.neg bo ((agH h hv hM hc).bind λv NZ=>?_));obtain⟨hF,eH,ja⟩:=NZ;have e:(dF f.kept (some true) (λx5=>if(x5.goal !=goal)=true then(some true) else((pz.f g).bind λv6=>some (x5.bS !=v6))))=some (match f.kept with |none=>true |some R=>(R.goal !=goal||R.bS !=g.bS)):=by
  cases f.kept with
  |none=>rfl
  |some R=>
   show(if(R.goal !=goal)=true then _ else _)=some (R.goal !=goal||R.bS !=g.bS)
   by_cases z:R.goal=goal
   ·rw[aj (by simp[z]),FZ];simp[z]
   ·rw[ah (by simpa using z)];simp[z]
 refine Ok.eq e (Ok.ite (λq=>?_) λq=>?_)
 ·refine(ahi h hN hF f hg).bind λr hr=>?_
  obtain⟨R,rfl,r1,r2⟩:=hr;have ai8:=hf.iY;refine Ok.eq (v:=f.count+1) (Ab U U U U) (Ok.pure ⟨R,rfl,r1,r2,rfl,⟨λR' JA=>?_,?_⟩,?_,?_,λ⟨R',k1,k2,k3⟩=>?_,hF,eH,ja⟩)
  ·simp only[Option.some.injEq] at JA;subst JA;exact⟨by rw[r1];exact hg,by rw[r2.1];omega,λ_=>r2⟩
  ·simp only;omega
  ·simp only;omega
  ·simp only;omega
  ·rw[k1] at q;simp[k2,k3] at q
 ·cases hk:f.kept with
  |none=>rw[hk] at q;simp at q
  |some R=>
   rw[hk] at q;simp at q;have hkk:=hf.kept R hk;exact Ok.pure ⟨R,J,q.1,hkk.2.2 q.2,hk,hf,dP _,by simp only;omega,λ_=>rfl,hF,eH,ja⟩
theorem YV (h:cL g more) (hN:g.m.W*g.m.H<=1600) {R:gI} (hR:qO g R) (c:Int):C_.f R c=some (if bP g.m c/\rd R.aN c≠dJ then rd R.aN c else cn):=by
 have MH:dJ=2147483647:=rfl;have xz:RB=104538400:=rfl;obtain⟨_,im,_,hD⟩:=hR;have hl:=hD.len_;unfold C_.f;have e:(if c<0 then(some true) else(if c≥(aa R.aN:Int) then(some true) else(if(0<=c/\c<(aa R.aN:Int)) then(some ((rd R.aN c)==2147483647)) else none)))=some (decide (¬(bP g.m c/\rd R.aN c≠dJ))):=by
  unfold bP
  by_cases a:c<0
  ·rw[ah a];simp;omega
  ·by_cases b:c≥(aa R.aN:Int)
   ·rw[aj a,ah b];simp;omega
   ·rw[aj a,aj b,ah U];congr 1;rw[nD];simp;omega
 rw[e];simp only[aM]
 by_cases z:bP g.m c/\rd R.aN c≠dJ
 ·have hz:=z.1;obtain⟨z0,z1⟩:=hz;have:=hD.dv c z0 U z.2;rw[aj (by simpa using z),ah U,ah z,wi U U]
 ·rw[ah (decide_eq_true z),aj z]
end
section
variable {g : bw} {more : Int} {R : gI}
def qL (g:bw) (R:gI) (c:Int):Int:=if bP g.m c/\rd R.aN c≠dJ then rd R.aN c else cn
theorem FK (hN:g.m.W*g.m.H<=1600) (hR:qO g R) {c:Int} (hc:qL g R c≠cn):bP g.m c/\rd R.aN c≠dJ/\qL g R c=rd R.aN c/\0<=qL g R c/\qL g R c<=RB:=by
 unfold qL at hc⊢;split at hc
 ·rename_i z;obtain⟨_,im,_,hD⟩:=hR;have hl:=hD.len_;have hz:=z.1;obtain⟨z0,z1⟩:=hz;have:=hD.dv c z0 U z.2;rw[ah z];exact⟨z.1,z.2,J,this.2.1,this.2.2.1⟩
 ·exact absurd J hc
def uB (g:bw) (R:gI) (c:Int) (e:d_) (x:aX):Prop:=qL g R e.To≠cn/\x=⟨cy g.m.W g.m.H c,Df g.m.W g.m.H c e.To,e.kE+qL g R e.To⟩
theorem aei (h:cL g more) (hN:g.m.W*g.m.H<=1600) (hR:qO g R) (L:List Int) (i:Int) (E:List d_) (hE:E.length<=4) (hEc: ∀e∈E,0<=e.kE/\e.kE<=255) (x0:List aX) (wj:x0.length<=10000): ∀(n k:Nat) (x:List aX) (j:Int),(E.length-j).toNat<=n->n<k->0<=j->j<=E.length->(x.length:Int)<=x0.length+j->
 (∀y,y∈x↔y∈x0∨ ∃q:Int,0<=q/\q<j/\uB g R (rd L i) (rd E q) y)->
 Ok (iN.l1 k R (g.m.W,g.m.H) L i E x j) (λr=>r.length<=x0.length+4/\ ∀y,y∈r↔y∈x0∨ ∃e∈E,uB g R (rd L i) e y):=by
 have xz:RB=104538400:=rfl;have fin: ∀(k:Nat) (x:List aX) (j:Int),¬j<E.length->j<=E.length->(x.length:Int)<=x0.length+j->(∀y,y∈x↔y∈x0∨ ∃q:Int,0<=q/\q<j/\uB g R (rd L i) (rd E q) y)->
  Ok (iN.l1 (k+1) R (g.m.W,g.m.H) L i E x j) (λr=>r.length<=x0.length+4/\ ∀y,y∈r↔y∈x0∨ ∃e∈E,uB g R (rd L i) e y):=λk x j hj jm hl hm=>by
  rw[iN.l1,aj hj];refine Ok.pure ⟨by omega,λy=>(hm y).trans (or_congr_right ⟨λ⟨q,q0,q1,w⟩=>⟨_,fV q0 U,w⟩,λ⟨e,he,w⟩=>?_⟩)⟩
  obtain⟨q,q0,q1,rfl⟩:=qq he;exact⟨q,q0,by omega,w⟩
 intro n
 induction n with
 |zero=>
  intro k x j hn hk hj jm hl hm;obtain⟨k,rfl⟩:=bz hk;exact fin k x j U jm hl hm
 |succ n ih=>
  intro k x j hn hk hj jm hl hm;obtain⟨k,rfl⟩:=bz hk
  by_cases aS:j<E.length
  ·have hc:=hEc _ (fV hj aS);have xJ: ∀y,(y∈x0∨ ∃q:Int,0<=q/\q<j+1/\uB g R (rd L i) (rd E q) y)↔y∈x∨uB g R (rd L i) (rd E j) y:=λy=>by
    rw[hm y];constructor
    ·rintro(a |⟨q,q0,q1,w⟩)
     ·exact .inl (.inl a)
     ·by_cases z:q=j
      ·subst z;exact .inr w
      ·exact .inl (.inr ⟨q,q0,by omega,w⟩)
    ·rintro((a |⟨q,q0,q1,w⟩) |w)
     ·exact .inl a
     ·exact .inr ⟨q,q0,by omega,w⟩
     ·exact .inr ⟨j,hj,by omega,w⟩
   rw[iN.l1,wi (x:=j+1) U U];refine Ok.pos aS (Ok.br ⟨hj,aS⟩ (Ok.eq (v:=qL g R (rd E j).To) (YV h hN hR _) (Ok.ite (λq=>Ok.eq (GU ..) (Ok.eq (ahz ..) (Ok.br U ?_))) λq=>?_)))
   ·have q:qL g R (rd E j).To≠cn:=by simpa using q
    have ha:=FK hN hR q;rw[wi U U];refine ih k _ (j+1) U U U U bo λy=>?_
    rw[xJ y];unfold uB;simp[q]
   ·have q:qL g R (rd E j).To=cn:=by simpa using q
    refine ih k x (j+1) U U U U U λy=>?_
    rw[xJ y];unfold uB;simp[q]
  ·exact fin k x j aS jm hl hm
def xd (g:bw) (R:gI) (s:Int) (x:aX):Prop:=
 (∃c∈bM g.m s,∃e∈tX g.m c,uB g R c e x)∨(aQ g.m.W g.m.H R.goal=s/\iZ g R.goal≠255/\x=⟨cy g.m.W g.m.H R.goal,4,0⟩)
theorem FV {m:aF} {c:Int} {e:d_} (he:e∈tX m c): ∃d:Int,0<=d/\d<=3/\lH m (fi m.W m.H c d)=true/\e=⟨fi m.W m.H c d,rd m.C (fi m.W m.H c d)⟩:=by
 unfold tX at he;split at he
 ·unfold wJ at he;obtain⟨j,hj,rfl⟩:=List.mem_map.1 he;obtain⟨j1,j2⟩:=List.mem_filter.1 hj;have:=List.mem_range.1 j1;exact⟨j,by omega,by omega,j2,J⟩
 ·simp at he
theorem aeh (h:cL g more) (hN:g.m.W*g.m.H<=1600) (hR:qO g R) (s:Int): ∀(n k:Nat) (x:List aX) (i:Int),((bM g.m s).length-i).toNat<=n->n<k->0<=i->i<=(bM g.m s).length->(x.length:Int)<=4*i->
 (∀y,y∈x↔ ∃q:Int,0<=q/\q<i/\ ∃e∈tX g.m (rd (bM g.m s) q),uB g R (rd (bM g.m s) q) e y)->
 Ok (iN.l0 k g R s (g.m.W,g.m.H) (bM g.m s) x i) (λr=>r.length<=1025/\(∀y,y∈r↔xd g R s y)/\r.Pairwise (λa b=> ¬tY b a)):=by
 have hl:=wx g.m s;have fin: ∀(k:Nat) (x:List aX) (i:Int),¬i<(bM g.m s).length->i<=(bM g.m s).length->(x.length:Int)<=4*i->(∀y,y∈x↔ ∃q:Int,0<=q/\q<i/\ ∃e∈tX g.m (rd (bM g.m s) q),uB g R (rd (bM g.m s) q) e y)->
  Ok (iN.l0 (k+1) g R s (g.m.W,g.m.H) (bM g.m s) x i) (λr=>r.length<=1025/\(∀y,y∈r↔xd g R s y)/\r.Pairwise (λa b=> ¬tY b a)):=λk x i hi eY hx hm=>by
  rw[iN.l0,aj hi];have sm: ∀y,y∈x↔ ∃c∈bM g.m s,∃e∈tX g.m c,uB g R c e y:=λy=>(hm y).trans ⟨λ⟨q,q0,q1,w⟩=>⟨_,fV q0 U,w⟩,λ⟨c,hc,w⟩=>by
   obtain⟨q,q0,q1,rfl⟩:=qq hc;exact⟨q,q0,by omega,w⟩⟩
  refine Ok.eq (v:=R.goal) J (Ok.eq (v:=decide (aQ g.m.W g.m.H R.goal=s/\iZ g R.goal≠255)) ?_ (Ok.ite (λq=>?_) λq=>?_))
  ·simp only[ru,aM]
   by_cases z:aQ g.m.W g.m.H R.goal=s
   ·rw[ah (by simpa using z),rX h];simp[z];rw[nD];simp
   ·rw[aj (by simpa using z)];simp[z]
  ·have q:=of_decide_eq_true q;refine Ok.eq (GU ..) (Ok.br U ((Pk _ bo).bind λr hr=>Ok.pure ⟨by have:=hr.1;simp at this;omega,λy=>?_,hr.2.2⟩))
   rw[hr.2.1 y,List.mem_append,sm y];unfold xd;simp[q.1,q.2]
  ·have q: ¬(aQ g.m.W g.m.H R.goal=s/\iZ g R.goal≠255):=by simpa using q
   refine(Pk _ U).bind λr hr=>Ok.pure ⟨by omega,λy=>?_,hr.2.2⟩
   rw[hr.2.1 y,sm y];unfold xd;exact⟨.inl,λw=>w.resolve_right λz=>q ⟨z.1,z.2.1⟩⟩
 intro n
 induction n with
 |zero=>
  intro k x i hn hk hi eY hx hm;obtain⟨k,rfl⟩:=bz hk;exact fin k x i U eY hx hm
 |succ n ih=>
  intro k x i hn hk hi eY hx hm;obtain⟨k,rfl⟩:=bz hk
  by_cases aS:i<(bM g.m s).length
  ·rw[iN.l0,wi U U];refine Ok.pos aS (Ok.bind (Ok.br ⟨hi,aS⟩ (Ok.eq (aaE h _) (aei h hN hR (bM g.m s) i (tX g.m (rd (bM g.m s) i)) (Rh ..) (λe he=>?_) x U 4 fuel x 0 (by have:=Rh g.m (rd (bM g.m s) i);omega) (by rw[cY];omega) U U U (λy=>⟨.inl,λw=>w.resolve_right λ⟨q,q0,q1,_⟩=>by omega⟩)))) λr hr=>ih k r (i+1) U U U U U λy=>?_)
   ·obtain⟨d,_,_,d2,rfl⟩:=FV he;have:=(o0.1 d2).1;have:=h.rU _ this.1 this.2;simp only;omega
   ·rw[hr.2 y,hm y];constructor
    ·rintro(⟨q,q0,q1,w⟩ |w)
     ·exact⟨q,q0,by omega,w⟩
     ·exact⟨i,hi,by omega,w⟩
    ·rintro⟨q,q0,q1,w⟩
     by_cases z:q=i
     ·subst z;exact .inr w
     ·exact .inl ⟨q,q0,by omega,w⟩
  ·exact fin k x i aS eY hx hm
theorem Uk (h:cL g more) (hN:g.m.W*g.m.H<=1600) (hR:qO g R) (s:Int):Ok (iN.f g R s) (λr=>r.length<=1025/\(∀y,y∈r↔xd g R s y)/\r.Pairwise (λa b=> ¬tY b a)):=by
 have hl:=wx g.m s;unfold iN.f;refine Ok.eq (Bk g) (Ok.eq (v:=R.bS) rfl (Ok.eq (FZ g) (Ok.neg (by simp[hR.1]) (Ok.eq (U6 h s) (aeh h hN hR s 256 fuel [] 0 U (by rw[cY];omega) U U bd (λy=>⟨λq=>by simp at q,λ⟨q,q0,q1,_⟩=>by omega⟩))))))
theorem Wz (h:cL g more) (hN:g.m.W*g.m.H<=1600) (hR:qO g R) (hg:bP g.m R.goal) {s:Int} (hs:bC g.m.W g.m.H s) {x:aX} (hx:xd g R s x):qP (dC g.m s) x/\x.Key+254*256<=104603678:=by
 have xz:RB=104538400:=rfl;rcases hx with⟨c,hc,e,he,ha,rfl⟩ |⟨h1,h2,rfl⟩
 ·obtain⟨n1,n2,n3,n4⟩:=qt hc;obtain⟨d,d0,d3,d4,rfl⟩:=FV he;have gw:=fM h.ok n2;have qn:=ud h n2;rw[n4] at qn;have aR:=(o0.1 d4).1;have qm:=Hh (w:=g.m.W) (h:=g.m.H) (c:=c) (side:=d) aR.1;have hb:=h.rU _ aR.1 aR.2;have Ck:=FK hN hR ha;simp only at ha Ck;have bI:=(o0.1 d4).2;have bY:=zD gw;have lA:=nR gw;rw[n4] at bY lA;have TC:=KH hs bY.1 bY.2 d0 d3;rw[lA] at TC;have Cr:Df g.m.W g.m.H c (fi g.m.W g.m.H c d)=d:=by
   rw[qm.2.2.2.2.1];exact Ph gw d0 U (by rw[<-qm.2.2.2.2.1];exact qm.2.2.2.1)
  refine⟨⟨qn.1,qn.2.1,?_,by simp only;omega,by simp only;omega,?_⟩,by simp only;omega⟩
  ·simp only;rw[qn.2.2];unfold iZ;rw[ah n2];exact(o0.1 n1).2
  ·simp only;rw[Cr];exact .inr ⟨d0,d3,(TC.1 aR.1).2⟩
 ·have qn:=ud h hg;rw[h1] at qn;exact⟨⟨qn.1,qn.2.1,by simp only;rw[qn.2.2];exact h2,by simp,by simp,.inl J⟩,by simp⟩
end
section
theorem Pq {a b:gL} (ha:qM a CB) (hb:qM b CB):mT.f a b=some ⟨a.bJ+b.bJ,a.bK+b.bK,a.bH+b.bH,a.bF+b.bF,a.bU+b.bU,a.bO+b.bO⟩:=by
 obtain⟨a1,a2,a3,a4,a5,a6⟩:=ha;obtain⟨b1,b2,b3,b4,b5,b6⟩:=hb;have MF:CB=1000000000000:=rfl;unfold mT.f ml.f;simp only[aM];have e0: ∀a b c d e f:Int,rd [a,b,c,d,e,f] 0=a:=λ_ _ _ _ _ _=>rfl
 have e1: ∀a b c d e f:Int,rd [a,b,c,d,e,f] 1=b:=λ_ _ _ _ _ _=>rfl
 have e2: ∀a b c d e f:Int,rd [a,b,c,d,e,f] 2=c:=λ_ _ _ _ _ _=>rfl
 have e3: ∀a b c d e f:Int,rd [a,b,c,d,e,f] 3=d:=λ_ _ _ _ _ _=>rfl
 have e4: ∀a b c d e f:Int,rd [a,b,c,d,e,f] 4=e:=λ_ _ _ _ _ _=>rfl
 have e5: ∀a b c d e f:Int,rd [a,b,c,d,e,f] 5=f:=λ_ _ _ _ _ _=>rfl
 have s0: ∀a b c d e f v:Int,aD [a,b,c,d,e,f] (ax 0) v=[v,b,c,d,e,f]:=λ_ _ _ _ _ _ _=>rfl
 have s1: ∀a b c d e f v:Int,aD [a,b,c,d,e,f] (ax 1) v=[a,v,c,d,e,f]:=λ_ _ _ _ _ _ _=>rfl
 have s2: ∀a b c d e f v:Int,aD [a,b,c,d,e,f] (ax 2) v=[a,b,v,d,e,f]:=λ_ _ _ _ _ _ _=>rfl
 have s3: ∀a b c d e f v:Int,aD [a,b,c,d,e,f] (ax 3) v=[a,b,c,v,e,f]:=λ_ _ _ _ _ _ _=>rfl
 have s4: ∀a b c d e f v:Int,aD [a,b,c,d,e,f] (ax 4) v=[a,b,c,d,v,f]:=λ_ _ _ _ _ _ _=>rfl
 have s5: ∀a b c d e f v:Int,aD [a,b,c,d,e,f] (ax 5) v=[a,b,c,d,e,v]:=λ_ _ _ _ _ _ _=>rfl
 have w0:af (0+1)=1:=rfl;have w1:af (1+1)=2:=rfl;have w2:af (2+1)=3:=rfl;have w3:af (3+1)=4:=rfl;have w4:af (4+1)=5:=rfl;have w5:af (5+1)=6:=rfl;simp only[e0,e1,e2,e3,e4,e5];have st: ∀(k:Nat) (x7 x8 x9 aK bf bt y7 y8 y9 Ai Aj Ak i v:Int),0<=i->i<6->sN.f (rd [y7,y8,y9,Ai,Aj,Ak] i) (rd [x7,x8,x9,aK,bf,bt] i)=some v->
  mT.l0 (k+1) x7 x8 x9 aK bf bt y7 y8 y9 Ai Aj Ak i=mT.l0 k x7 x8 x9 aK bf bt (rd (aD [y7,y8,y9,Ai,Aj,Ak] (ax i) v) 0) (rd (aD [y7,y8,y9,Ai,Aj,Ak] (ax i) v) 1) (rd (aD [y7,y8,y9,Ai,Aj,Ak] (ax i) v) 2) (rd (aD [y7,y8,y9,Ai,Aj,Ak] (ax i) v) 3) (rd (aD [y7,y8,y9,Ai,Aj,Ak] (ax i) v) 4) (rd (aD [y7,y8,y9,Ai,Aj,Ak] (ax i) v) 5) (af (i+1)):=by
  intro k x7 x8 x9 aK bf bt y7 y8 y9 Ai Aj Ak i v h0 h1 hv;rw[mT.l0,ah h1,ah ⟨h0,h1⟩,ah ⟨h0,h1⟩,hv,aM,ah ⟨h0,h1⟩]
 obtain⟨k,hk⟩: ∃q,fuel=q+1+1+1+1+1+1+1:=⟨fuel-7,by rw[cY]⟩
 rw[hk];rw[st _ _ _ _ _ _ _ _ _ _ _ _ _ 0 (a.bJ+b.bJ) U U (by rw[e0,e0];exact Ab U U U U)]
 simp only[s0,e0,e1,e2,e3,e4,e5,w0];rw[st _ _ _ _ _ _ _ _ _ _ _ _ _ 1 (a.bK+b.bK) U U (by rw[e1,e1];exact Ab U U U U)]
 simp only[s1,e0,e1,e2,e3,e4,e5,w1];rw[st _ _ _ _ _ _ _ _ _ _ _ _ _ 2 (a.bH+b.bH) U U (by rw[e2,e2];exact Ab U U U U)]
 simp only[s2,e0,e1,e2,e3,e4,e5,w2];rw[st _ _ _ _ _ _ _ _ _ _ _ _ _ 3 (a.bF+b.bF) U U (by rw[e3,e3];exact Ab U U U U)]
 simp only[s3,e0,e1,e2,e3,e4,e5,w3];rw[st _ _ _ _ _ _ _ _ _ _ _ _ _ 4 (a.bU+b.bU) U U (by rw[e4,e4];exact Ab U U U U)]
 simp only[s4,e0,e1,e2,e3,e4,e5,w4];rw[st _ _ _ _ _ _ _ _ _ _ _ _ _ 5 (a.bO+b.bO) U U (by rw[e5,e5];exact Ab U U U U)]
 simp only[s5,e0,e1,e2,e3,e4,e5,w5];rw[mT.l0,aj U]
structure P2 (m:aF):Prop where
 ok:nz m
 rU: ∀c:Int,0<=c->c<m.W*m.H->1<=rd m.C c/\rd m.C c<=255
 mF:m.W*m.H<=1600
structure PU (c:fe) (b:Int):Prop where
 gs:cL c.aL 0
 mF:c.aL.m.W*c.aL.m.H<=1600
 E6: ∀s:Int,bC c.aL.m.W c.aL.m.H s->1<=fS c.aL s/\fS c.aL s<=c.aL.bS
 ep:c.aL.bS<=b
 ms:Aw c.aL c.jq
 fs:Ln c.aL c.kO
def jv (n:cF):gL:=⟨n.aU.bJ+(match n.core with |none=>0 |some c=>c.jq.count)+n.hZ.count.bJ,n.aU.bK+(match n.core with |none=>0 |some c=>c.kO.count)+n.hZ.count.bK,n.aU.bH+n.hZ.count.bH,n.aU.bF+n.hZ.count.bF,n.aU.bU+n.hZ.count.bU,n.aU.bO+n.hZ.count.bO⟩
structure ka (n:cF) (k b:Int) (ord:List Int):Prop where
 u':sU n.hZ.keys k ord
 aU:qM n.aU b
 sc:qM n.hZ.count b
 z:n.hZ.count.bJ=0/\n.hZ.count.bK=0
 kD:qM (jv n) b
 none_:n.core=none->n.hZ.fields=[]/\ord=[]
 core: ∀c,n.core=some c->PU c b/\c.jq.count<=b/\c.kO.count<=b/\BN c.aL n.hZ k ord
def kN (n:cF):gL:=⟨(match n.core with |none=>0 |some c=>c.jq.count),(match n.core with |none=>0 |some c=>c.kO.count),0,0,0,0⟩
section
variable {n : cF} {k b : Int} {ord : List Int}
theorem Q' (n:cF):zJ.f n=some (kN n):=by
 unfold zJ.f kN
 cases n.core with
 |none=>rfl
 |some c=>rfl
theorem ka.cv (h:ka n k b ord) (hb:0<=b):qM (kN n) b:=by
 unfold kN
 cases hc:n.core with
 |none=>exact⟨⟨dP _,hb⟩,⟨dP _,hb⟩,⟨dP _,hb⟩,⟨dP _,hb⟩,⟨dP _,hb⟩,⟨dP _,hb⟩⟩
 |some c=>
  obtain⟨h1,h2,h3,_⟩:=h.core c hc;exact⟨⟨h1.ms.iY.1,h2⟩,⟨h1.fs.iY.1,h3⟩,⟨dP _,hb⟩,⟨dP _,hb⟩,⟨dP _,hb⟩,⟨dP _,hb⟩⟩
theorem aav {x y:gL} {b c:Int} (hx:qM x b) (hy:qM y c):qM ⟨x.bJ+y.bJ,x.bK+y.bK,x.bH+y.bH,x.bF+y.bF,x.bU+y.bU,x.bO+y.bO⟩ (b+c):=by
 obtain⟨a1,a2,a3,a4,a5,a6⟩:=hx;obtain⟨b1,b2,b3,b4,b5,b6⟩:=hy;exact⟨by simp only;omega,by simp only;omega,by simp only;omega,by simp only;omega,by simp only;omega,by simp only;omega⟩
theorem ahP (h:ka n k b ord) (hb:0<=b/\b<=100000000000):CO.f n=some (jv n):=by
 have MF:CB=1000000000000:=rfl;have Gn:=h.cv hb.1;unfold CO.f EO.f;rw[Q',aM,Pq (h.aU.mono U) (Gn.mono U),aM,aM,Pq ((aav h.aU Gn).mono U) (h.sc.mono U)];simp[jv,kN]
theorem afG {k:Int} (h1:1<=k) (h2:k<=1000000): ∃n,yd.f k=some (some n)/\ka n k 0 []/\n.core=none/\jv n=⟨0,0,0,0,0,0⟩:=by
 obtain⟨s,e,hs,hf,hc⟩:=ahB h1 h2;have hz:qM ⟨0,0,0,0,0,0⟩ 0:=⟨by simp,by simp,by simp,by simp,by simp,by simp⟩
 unfold yd.f;rw[aj U,e];exact⟨_,J,⟨hs,hz,by rw[hc];exact hz,by rw[hc];exact⟨J,J⟩,by simp[jv,hc];exact hz,λ_=>⟨hf,J⟩,λc hc=>by simp at hc⟩,J,by simp[jv,hc]⟩
theorem KA {c:fe} (h:ka n k b ord) (hc:n.core=some c) (x:Int):tN.f n x=some (iZ c.aL x):=by
 unfold tN.f;rw[hc]
 show(i_.f c.aL x).bind _=_
 rw[rX (h.core c hc).1.gs];rfl
theorem U8 {c:fe} (hc:n.core=some c):zI.f n=some (c.aL.m.W,c.aL.m.H):=by
 unfold zI.f;rw[hc];rfl
theorem ka.mono {b':Int} (h:ka n k b ord) (hb:b<=b'):ka n k b' ord:=
 ⟨h.u',h.aU.mono hb,h.sc.mono hb,h.z,h.kD.mono hb,h.none_,λc hc=>by
   obtain⟨h1,h2,h3,h4⟩:=h.core c hc;exact⟨⟨h1.gs,h1.mF,h1.E6,by have:=h1.ep;omega,h1.ms,h1.fs⟩,by omega,by omega,h4⟩⟩
structure DC (n:cF) (k b:Int) (ord:List Int) (c:fe) (goal s:Int) (r:gp×Er×cF):Prop where
 err:r.2.1=Er.nil
 F2: ∃R l c' tQ,qO c.aL R/\R.goal=goal/\l.length<=1025/\(∀y,y∈l↔xd c.aL R s y)/\l.Pairwise (λa b=> ¬tY b a)/\An (dC c.aL.m s) l KF r.1/\
  r.2.2.core=some c'/\c'.aL=c.aL/\c'.kO.kept=some R/\qN c.aL c'.jq/\c'.jq.clean=c.aL.bS/\c'.jq.count=c.jq.count+(qe c.aL c.jq c.jq.parts.length).length/\
  c.kO.count<=c'.kO.count/\c'.kO.count<=c.kO.count+1/\(Us c.aL c.kO goal->c'.kO=c.kO)/\
  ka r.2.2 k (b+5000) tQ/\PW c.aL n.hZ k ord goal s l (r.1,0,r.2.2.hZ)/\r.2.2.aU=n.aU/\iN.f c.aL R s=some l
theorem U2 {c:fe} (h:ka n k b ord) (hb:0<=b/\b<=100000000000) (hc:n.core=some c) {goal s:Int} (hg:bP c.aL.m goal) (hs:bC c.aL.m.W c.aL.m.H s):
 Ok (rk.f n goal s) (DC n k b ord c goal s):=by
 have MF:CB=1000000000000:=rfl;obtain⟨eI,wg,Nw,zv⟩:=h.core c hc;have hG:=eI.gs;have Eb:=F5 hG hg;have Ed:=Mh c.aL c.jq c.jq.parts.length;have hml:=eI.ms.len_;have oP:=nP c.aL.m.W c.aL.m.H;unfold rk.f;rw[hc];refine Ok.eq (v:=false) J (Ok.neg bd ?_)
 show Ok ((l9.f c.aL s).bind _) _
 refine Ok.eq ((Pw hG s).trans (by rw[RW hs])) (Ok.eq (rX hG _) (Ok.neg bo ((agO hG eI.mF (λs hs=>(eI.E6 s hs).2) eI.fs eI.ms U U hg).bind λv hv=>?_)))
 obtain⟨R,e1,e2,e3,e4,e5,e6,e7,e8,e9,qf,zg⟩:=hv;rw[e1]
 show Ok ((iN.f c.aL R s).bind _) _
 obtain⟨l,el,l1,l2,l3⟩:=Uk hG eI.mF e3 s;refine Ok.eq el ?_;rw[PG hG,aM];have adX:=ahv hG (λs hs=>(eI.E6 s hs).2) zv (h.sc.mono U) hg hs l U (λx hx=>Wz hG eI.mF e3 (by rw[e2];exact hg) hs ((l2 x).1 hx))
 refine(adX.bind' (g:=λv32:gp×Int×ju=>(v32.1.ez,v32.1.cK,v32.2.1,v32.2.2)) λq hq=>?_);have Gy:=hq.code;obtain⟨f,z,sh⟩:=q;simp only at Gy;subst Gy;simp only;refine Ok.neg bd (Ok.pure ⟨J,R,l,⟨c.aL,v.2.2,v.2.1⟩,?_⟩);obtain⟨cc,A,B,g1,g2⟩:=hq.sh;obtain⟨k1,k2,k3,k4,k5,k6,k7,k8,k9⟩:=hq.iY;simp only at g1 g2 k1 k2 k3 k4 k5 k6 k7 k8 k9;obtain⟨s1,s2,s3,s4,s5,s6⟩:=h.sc;refine⟨cc::(A++B),e3,e2,l1,l2,l3,hq.F2,J,J,e4,e9,qf,zg,e6,e7,e8,⟨g1.u',h.aU.mono U,⟨by simp only;omega,by simp only;omega,by simp only;omega,by simp only;omega,by simp only;omega,by simp only;omega⟩,?_,?_,λz=>by simp at z,λc' mc=>?_⟩,hq,J,el⟩
 ·have:=h.z;simp only;omega
 ·have ht:=h.kD;unfold jv at ht⊢;simp only[hc] at ht;obtain⟨t1,t2,t3,t4,t5,t6⟩:=ht;simp only at t1 t2 t3 t4 t5 t6;exact⟨by simp only;omega,by simp only;omega,by simp only;omega,by simp only;omega,by simp only;omega,by simp only;omega⟩
 ·simp only[Option.some.injEq] at mc;subst mc;exact⟨⟨hG,eI.mF,eI.E6,by have:=eI.ep;simp only;omega,e9.ms,e5⟩,by simp only;omega,by simp only;omega,g1⟩
theorem afB {c:fe} (h:ka n k b ord) (hc:n.core=some c) {goal s:Int} (oQ: ¬(bP c.aL.m goal/\bC c.aL.m.W c.aL.m.H s)):
 rk.f n goal s=some (⟨[],[]⟩,Er.wrap 222 [goal] (Er.dM 3),n):=by
 obtain⟨eI,wg,Nw,zv⟩:=h.core c hc;unfold rk.f;rw[hc];simp only[dF,aM,ji,if_false];rw[Pw eI.gs,aM,rX eI.gs,aM,ah]
 by_cases z:bP c.aL.m goal
 ·have: ¬bC c.aL.m.W c.aL.m.H s:=λy=>oQ ⟨z,y⟩
  unfold F3;rw[aj this];simp
 ·unfold iZ;rw[aj z];simp
theorem UZ:zL.f Er.nil=some 0:=rfl
theorem afx (g:Int):zL.f (Er.wrap 222 [g] (Er.dM 3))=some 7:=rfl
theorem afD (h:ka n k b ord): ∃n',x_.f n=some n'/\ka n' k b []/\jv n'=jv n/\n'.aU=n.aU/\n'.hZ.count=n.hZ.count/\
 ((n.core=none/\n'.core=none)∨ ∃c,n.core=some c/\n'.core=some ⟨c.aL,c.jq,⟨none,c.kO.count⟩⟩):=by
 obtain⟨s,e,hs,hf,ja⟩:=RN h.u';unfold x_.f;rw[e,aM]
 cases hc:n.core with
 |none=>
  have vQ:jv ⟨none,s,n.aU⟩=jv n:=by simp[jv,ja,hc]
  exact⟨_,J,⟨hs,h.aU,by rw[ja];exact h.sc,by rw[ja];exact h.z,by rw[vQ];exact h.kD,λ_=>⟨hf,J⟩,λc hc=>by simp at hc⟩,vQ,J,ja,.inl ⟨J,J⟩⟩
 |some c=>
  obtain⟨h1,h2,h3,h4⟩:=h.core c hc;have vQ:jv ⟨some ⟨c.aL,c.jq,⟨none,c.kO.count⟩⟩,s,n.aU⟩=jv n:=by simp[jv,ja,hc]
  refine⟨_,J,⟨hs,h.aU,by rw[ja];exact h.sc,by rw[ja];exact h.z,by rw[vQ];exact h.kD,λz=>by simp at z,λc' mc=>?_⟩,vQ,J,ja,.inr ⟨c,J,J⟩⟩
  ·simp only[Option.some.injEq] at mc;subst mc;exact⟨⟨h1.gs,h1.mF,h1.E6,h1.ep,h1.ms,⟨λR hR=>by simp at hR,h1.fs.iY⟩⟩,h2,h3,BN.empty _ hs hf⟩
theorem afF {c:fe} (h:ka n k b ord) (hc:n.core=some c):yc.f n=some c.aL.m:=by
 obtain⟨eI,_⟩:=h.core c hc;have:=eI.mF;have:=eI.gs.ok.2.1;unfold yc.f;rw[hc];simp only[dF];rw[abo _ U];rfl
theorem afE (h:ka n k b ord) (hb:0<=b/\b<=100000000000) {m:aF} (hm:P2 m): ∃n' c',ya.f n m=some (0,n')/\n'.core=some c'/\ka n' k (b+1) []/\c'.aL.m=m/\c'.kO=⟨none,0⟩/\jv n'=jv n/\(∀s:Int,bC m.W m.H s->(rd c'.jq.parts s).version≠fS c'.aL s)/\n'.hZ.count=n.hZ.count:=by
 have MF:CB=1000000000000:=rfl;have Gq:=hm.mF;have hl:=hm.ok.2.1;obtain⟨s,e,hs,hf,ja⟩:=RN h.u';have Gn:=h.cv hb.1;have Em:=Pq (h.aU.mono (b':=CB) U) (Gn.mono (b':=CB) U);have key: ∀ep:Int,0<=ep->ep<=b-> ∃n' c',((l_.f m ep).bind λv6=>dF v6 none λyK=>(sx.f yK).bind λv7=>dF v7 none λrJ=>(tS.f rJ yK).bind λv8=>dF v8 none λE9=>(pU.f n.hZ).bind λv9=>some ((0:Int),cF.mk (some (fe.mk yK rJ E9)) v9 ⟨n.aU.bJ+(kN n).bJ,n.aU.bK+(kN n).bK,n.aU.bH+(kN n).bH,n.aU.bF+(kN n).bF,n.aU.bU+(kN n).bU,n.aU.bO+(kN n).bO⟩))=some (0,n')/\n'.core=some c'/\ka n' k (b+1) []/\c'.aL.m=m/\c'.kO=⟨none,0⟩/\jv n'=jv n/\(∀s:Int,bC m.W m.H s->(rd c'.jq.parts s).version≠fS c'.aL s)/\n'.hZ.count=n.hZ.count:=by
  intro ep h0 h1;have hgn:Jk m ep=some (bw.mk m (ep+1) (ct (dB m.W m.H).toNat (ep+1))):=by unfold Jk;rw[ah ⟨hm.ok,h0,by omega⟩]
  rw[abp m ep U,hgn];have oP:=nP m.W m.H;have hG:cL (bw.mk m (ep+1) (ct (dB m.W m.H).toNat (ep+1))) 0:=⟨hm.ok,hm.rU,by simp;omega,by simp only;omega⟩
  have N0: ∀s:Int,bC m.W m.H s->fS (bw.mk m (ep+1) (ct (dB m.W m.H).toNat (ep+1))) s=ep+1:=λs hs=>by
   unfold fS;rw[ah hs];simp only;rw[wA hs.1 (by have:=hs.2;omega)]
  obtain⟨M,eM,hM,hM0,_,hMv⟩:=afk hG (λs hs=>by rw[N0 s hs];omega)
  simp only[dF,aM,eM,tS.f,e];have ht:=h.kD;have hz:=h.z;have hpc:qM ⟨n.aU.bJ+(kN n).bJ,n.aU.bK+(kN n).bK,n.aU.bH+(kN n).bH,n.aU.bF+(kN n).bF,n.aU.bU+(kN n).bU,n.aU.bO+(kN n).bO⟩ (b+1):=by
   obtain⟨t1,t2,t3,t4,t5,t6⟩:=ht;obtain⟨s1,s2,s3,s4,s5,s6⟩:=h.sc;obtain⟨p1,p2,p3,p4,p5,p6⟩:=h.aU;obtain⟨v1,v2,v3,v4,v5,v6⟩:=Gn;simp only[jv] at t1 t2 t3 t4 t5 t6;simp only[kN] at v1 v2 v3 v4 v5 v6⊢;exact⟨by simp only;omega,by simp only;omega,by simp only;omega,by simp only;omega,by simp only;omega,by simp only;omega⟩
  have vQ: ∀G,jv ⟨some ⟨G,M,⟨none,0⟩⟩,s,⟨n.aU.bJ+(kN n).bJ,n.aU.bK+(kN n).bK,n.aU.bH+(kN n).bH,n.aU.bF+(kN n).bF,n.aU.bU+(kN n).bU,n.aU.bO+(kN n).bO⟩⟩=jv n:=λG=>by simp only[jv,ja,hM0,kN];congr 1<;>omega
  refine⟨_,_,J,J,⟨hs,hpc,by rw[ja];exact h.sc.mono U,by rw[ja];exact h.z,by rw[vQ];exact ht.mono U,λz=>by simp at z,λc' mc=>?_⟩,J,J,vQ _,λs hs=>?_,ja⟩
  ·simp only[Option.some.injEq] at mc;subst mc;refine⟨⟨hG,Gq,λs hs=>?_,by simp only;omega,hM,⟨λR hR=>by simp at hR,by simp⟩⟩,by simp only;omega,by simp only;omega,BN.empty _ hs hf⟩
   rw[N0 s hs];simp only;omega
  ·simp only;rw[hMv s hs,N0 s hs];omega
 unfold ya.f;rw[Qz m U,decide_eq_true hm.ok];simp only[aM,Bool.not_true,ji,if_false];rw[Q',aM,Em,aM]
 cases hc:n.core with
 |none=>exact key 0 (dP _) hb.1
 |some c=>
  obtain⟨h1,_⟩:=h.core c hc;have:=h1.gs.ep;exact key c.aL.bS U h1.ep
end
end
section
variable {g : bw} {more : Int}
theorem UE (h:cL g more) {c v:Int} (hc:bP g.m c) {d:Int} (d0:0<=d):rd (qh g c v).m.C d=if d=c then v else rd g.m.C d:=by
 have hl:=h.ok.2.1;exact mh hc.1 (by rw[hl];exact hc.2) d0
theorem UF (h:cL g more) {c v:Int} (hc:bP g.m c) {s:Int} (hs:bC g.m.W g.m.H s) (bI:s≠aQ g.m.W g.m.H c):dC (qh g c v).m s=dC g.m s:=by
 have hz:=wO g.m.W g.m.H s
 show aF.mk _ _ _=aF.mk _ _ _
 congr 1
 unfold jK;refine List.map_congr_left λl hl=>?_
 have hl:l<((ay g.m.W g.m.H s).1*(ay g.m.W g.m.H s).2).toNat:=List.mem_range.1 hl;have bY:=AO hs (l:=(l:Int)) U U;have zu:=EL hs (l:=(l:Int)) U U
 show rd (qh g c v).m.C (cu g.m.W g.m.H s l)=_
 rw[UE h hc bY.1,aj (λz=>bI (by rw[<-z,zu]))]
theorem aam {w h s c:Int} (hc:c∈qz w h s):0<=c/\bC w h s/\aQ w h c=s:=by
 unfold qz vg at hc;obtain⟨l,hl,rfl⟩:=List.mem_map.mp hc;have hz:=wO w h s;have kl:=List.mem_range.mp (List.mem_filter.mp hl).1;have hs:=Pj (w:=w) (h:=h) (s:=s) (l:=(l:Int)) U U;exact⟨(AO hs U U).1,hs,EL hs U U⟩
theorem aeT (h:cL g more) {c v:Int} (hc:bP g.m c) {s:Int} (bI:s≠aQ g.m.W g.m.H c):bM (qh g c v).m s=bM g.m s:=by
 unfold bM;refine List.filter_congr λd hd=>?_
 obtain⟨d0,_,d2⟩:=aam hd;have hd2:aQ g.m.W g.m.H d=s:=d2;unfold lH;rw[UE h hc d0,aj (λz=>bI (by rw[<-z];exact hd2.symm))]
 rfl
theorem N' (h:cL g more) {c v:Int} (hc:bP g.m c) {s:Int} (hs:bC g.m.W g.m.H s):fS (qh g c v) s=if s=aQ g.m.W g.m.H c then g.bS+1 else fS g s:=by
 have jR:=oY (fM h.ok hc);have T_:=h.vs;have e:fS (qh g c v) s=rd (aD g.p7 (aQ g.m.W g.m.H c).toNat (g.bS+1)) s:=by unfold fS;exact ah hs
 rw[e,mh jR.1 (by rw[T_];exact jR.2) hs.1]
 split
 ·rfl
 ·unfold fS;rw[ah hs]
variable {n : cF} {k b : Int} {ord : List Int}
theorem afz {c:fe} (h:ka n k b ord) (hb:0<=b/\b<=100000000000) (hc:n.core=some c) {x v:Int} (hx:bP c.aL.m x) (v1:1<=v) (v2:v<=255):
 ∃n',xZ.f n x v=some (0,n')/\n'.core=some ⟨qh c.aL x v,c.jq,c.kO⟩/\n'.hZ=n.hZ/\n'.aU=n.aU/\ka n' k (b+1) ord/\jv n'=jv n:=by
 obtain⟨eI,wg,Nw,zv⟩:=h.core c hc;have hG:=eI.gs;have Nv:=hG.ep;have ai7:=eI.ep;have hG1:cL c.aL 1:=⟨hG.ok,hG.rU,hG.vs,by omega⟩
 have hG':=aeU hG1 (dP 1) hx v1 v2;unfold xZ.f;rw[hc];simp only[dF];rw[aaN hG];have e:Jj c.aL x v=(0,qh c.aL x v):=by unfold Jj;rw[aj (λq=>q hx),aj U]
 rw[e];have part: ∀s p,bC c.aL.m.W c.aL.m.H s->s≠aQ c.aL.m.W c.aL.m.H x->BK c.aL.m s p->BK (qh c.aL x v).m s p:=λs p hs bI hp=>by
  have e1:=aeT (v:=v) hG hx bI;have e2:=UF (v:=v) hG hx hs bI;refine⟨by rw[e1];exact hp.nodes,by rw[e1];exact hp.len_,?_⟩
  rw[e1,e2];exact hp.Ra
 have vQ: ∀G,jv ⟨some ⟨G,c.jq,c.kO⟩,n.hZ,n.aU⟩=jv n:=λG=>by simp[jv,hc]
 refine⟨_,J,J,J,J,⟨h.u',h.aU.mono U,h.sc.mono U,h.z,by rw[vQ];exact h.kD.mono U,λz=>by simp at z,λc' mc=>?_⟩,vQ _⟩
 simp only[Option.some.injEq] at mc;subst mc;have vZ:(qh c.aL x v).bS=c.aL.bS+1:=rfl;refine⟨⟨hG',eI.mF,λs hs=>?_,by rw[vZ];omega,⟨eI.ms.len_,λs hs=>?_,λs hs e=>?_,λe=>?_,?_,eI.ms.iY⟩,⟨λR hR=>?_,eI.fs.iY⟩⟩,by simp only;omega,by simp only;omega,⟨zv.u',zv.fl,λd d0 d1=>?_⟩⟩
 ·have fT:bC c.aL.m.W c.aL.m.H s:=hs;have:=eI.E6 s fT;simp only[vZ];rw[N' hG hx fT];split<;>omega
 ·have:=eI.ms.le s hs;simp only[vZ];omega
 ·have fT:bC c.aL.m.W c.aL.m.H s:=hs;have hle:=eI.ms.le s fT;simp only at e⊢;rw[N' hG hx fT] at e
  by_cases z:s=aQ c.aL.m.W c.aL.m.H x
  ·rw[ah z] at e;omega
  ·rw[aj z] at e;exact part s _ fT z (eI.ms.ok s fT e)
 ·have:=eI.ms.L8;simp only[vZ] at e;omega
 ·have:=eI.ms.L8;simp only[vZ];omega
 ·obtain⟨k1,k2,k3⟩:=eI.fs.kept R hR;exact⟨k1,by simp only[vZ];omega,λe=>by simp only[vZ] at e;omega⟩
 ·obtain⟨s1,s2,s3,s4⟩:=zv.ok d d0 d1;refine⟨s1,s2,by simp only[vZ];omega,λe=>?_⟩
  simp only at e⊢;rw[N' hG hx s2] at e
  by_cases z:(rd n.hZ.keys.aw d).key.2=aQ c.aL.m.W c.aL.m.H x
  ·rw[ah z] at e;omega
  ·rw[aj z] at e;have:=s4 e;rw[UF hG hx s2 z];exact this
theorem U3 {c:fe} (h:ka n k b ord) (hb:0<=b/\b<=100000000000) (hc:n.core=some c) (goal x:Int):
 Ok (yb.f n goal x) (λr=>(bP c.aL.m goal/\bP c.aL.m x/\r.2.2.1=0/\ ∃f,DC n k b ord c goal (aQ c.aL.m.W c.aL.m.H x) (f,Er.nil,r.2.2.2)/\r.1=rd f.ez (cy c.aL.m.W c.aL.m.H x)/\r.2.1=rd f.cK (cy c.aL.m.W c.aL.m.H x))∨
  (¬(bP c.aL.m goal/\bP c.aL.m x)/\r.2.2.1=7/\r.2.2.2=n)):=by
 obtain⟨eI,_⟩:=h.core c hc;have hG:=eI.gs;unfold yb.f zK.f;rw[U8 hc,aM,ru,aM];simp only
 by_cases z:bP c.aL.m goal/\bP c.aL.m x
 ·have hs:=oY (fM hG.ok z.2);have qn:=ud hG z.2;refine Ok.bind (P:=λr=>r.2.2.1=Er.nil/\ ∃f,DC n k b ord c goal (aQ c.aL.m.W c.aL.m.H x) (f,Er.nil,r.2.2.2)/\r.1=rd f.ez (cy c.aL.m.W c.aL.m.H x)/\r.2.1=rd f.cK (cy c.aL.m.W c.aL.m.H x)) ((U2 h hb hc z.1 hs).bind λr hr=>?_) λr hr=>?_
  ·obtain⟨f,e,n'⟩:=r;have he:=hr.err;simp only at he;subst he;obtain⟨R,l,c',tQ,_,_,_,_,_,hF,_⟩:=hr.F2;simp only at hF⊢;refine Ok.neg (by simp[Er.isNil]) (Ok.eq (GU ..) (Ok.br (by rw[hF.aN.dl];exact⟨qn.1,qn.2.1⟩) (Ok.br (by rw[hF.dl];exact⟨qn.1,qn.2.1⟩) (Ok.pure ⟨J,f,hr,J,J⟩))))
  ·rw[hr.1];exact Ok.eq UZ (Ok.pure (.inl ⟨z.1,z.2,J,hr.2⟩))
 ·have oQ: ¬(bP c.aL.m goal/\bC c.aL.m.W c.aL.m.H (aQ c.aL.m.W c.aL.m.H x)):=λy=>z ⟨y.1,by
   have mc:cR c.aL.m.W c.aL.m.H x:=pg λw=>by
    have:=Dh.2 w;have:=y.2.1;omega
   exact mc.2⟩
  rw[afB h hc oQ];refine Ok.bind (P:=λr=>r.2.2.1=Er.wrap 222 [goal] (Er.dM 3)/\r.2.2.2=n) (Ok.eq J (Ok.pos J (Ok.pure ⟨J,J⟩))) λr hr=>?_
  rw[hr.1];exact Ok.eq (afx goal) (Ok.pure (.inr ⟨z,J,hr.2⟩))
end
theorem aba (s:List Int) (hb:s.length<=4611686018427387904): ∀(n k:Nat) (i:Int),i+n=s.length->0<=i->n<k->qw.l0 k s i=some (decide (0∉s.drop i.toNat)):=by
 intro n
 induction n with
 |zero=>
  intro k i hi h0 hk;obtain⟨k,rfl⟩: ∃q,k=q+1:=⟨k-1,by omega⟩
  rw[qw.l0,aj U,List.drop_of_length_le U];simp
 |succ n ih=>
  intro k i hi h0 hk;obtain⟨k,rfl⟩: ∃q,k=q+1:=⟨k-1,by omega⟩
  rw[qw.l0,ah U,ah U,Rk h0 U]
  by_cases he:rd s i=0
  ·rw[ah (by simpa using he)];simp[he]
  ·rw[aj (by simpa using he),bc U U,ih k (i+1) U U U]
   congr 1
   rw[nD];simp;intro _ h;exact he h.symm
theorem aa' (s:List Int) (hb:s.length<4611686018427387904):qw.f s=some (decide (0∉s)):=by
 unfold qw.f;rw[aba s U s.length fuel 0 U U (by rw[r7];omega)];simp
theorem aev {c:List Int} (hc:c.length<=100000) {a:Int} (a0:0<=a) (a1:a<c.length): ∀(n k:Nat) (x:Int),a+x+n=c.length->1<=x->n<k->(∀j:Int,a<=j->j<a+x->rd c j=rd c a)->
 ∃e,iC.l1 k c a x=some e/\x<=e/\a+e<=c.length/\(∀j:Int,a<=j->j<a+e->rd c j=rd c a)/\(a+e=c.length∨rd c (a+e)≠rd c a):=by
 intro n
 induction n with
 |zero=>
  intro k x hx x1 hk hr;obtain⟨k,rfl⟩:=bz hk;refine⟨x,?_,by omega,by omega,hr,.inl U⟩
  rw[iC.l1,bc U U,aj (c:=a+x<_) U,aM,aj bd]
 |succ n ih=>
  intro k x hx x1 hk hr;obtain⟨k,rfl⟩:=bz hk;rw[iC.l1,bc (x:=a+x) U U,ah U,ah U,ah U,aM]
  by_cases hq:rd c (a+x)=rd c a
  ·rw[ah (by simpa using hq),bc U U]
   obtain⟨e,h1,h2,h3,h4,h5⟩:=ih k (x+1) U U U (λj j0 j1=>by
    by_cases hj:j=a+x
    ·rw[hj,hq]
    ·exact hr j j0 U)
   exact⟨e,h1,by omega,h3,h4,h5⟩
  ·rw[aj (by simpa using hq)]
   exact⟨x,J,by omega,by omega,hr,.inr hq⟩
inductive BF (c:List Int):Int->List Int->Prop
 |done:BF c c.length []
 |run {a e:Int} {L:List Int} (a0:0<=a) (e1:1<=e) (he:a+e<=c.length) (same: ∀j:Int,a<=j->j<a+e->rd c j=rd c a) (stop:a+e=c.length∨rd c (a+e)≠rd c a) (rest:BF c (a+e) L):BF c a ((e-1)::rd c a::L)
theorem ag6 {c:List Int} (hc:c.length<=256): ∀(n k:Nat) (a:Int) (x:List Int),a+n=c.length->0<=a->n<k->x.length<=1+2*a.toNat->
 ∃L,iC.l0 k c x a=some (x++L)/\(n=0->L=[])/\L.length<=2*n/\(∃q,L.length=2*q)/\(0<n->2<=L.length/\(L.length=2↔ ∀j:Int,a<=j->j<c.length->rd c j=rd c a))/\BF c a L:=by
 intro n
 induction n using Nat.strongRecOn with
 |_ n ih=>
  intro k a x ha a0 hk hx;obtain⟨k,rfl⟩:=bz hk
  by_cases hn:n=0
  ·subst hn;have:a=c.length:=U;refine⟨[],by rw[iC.l0,aj U];simp,λ_=>rfl,by simp,⟨0,J⟩,λq=>by omega,by rw[this];exact .done⟩
  ·have a1:a<(c.length:Int):=U;obtain⟨e,h1,h2,h3,h4,h5⟩:=aev (c:=c) U a0 a1 (n-1) fuel 1 U U (by rw[r7];omega) (λj j0 j1=>by rw[show j=a by omega])
   have ewu:bN (af (e-1))=e-1:=by rw[bc U U,E7 U U]
   obtain⟨L,e1,e2,e3,⟨q,e4⟩,e5,e6⟩:=ih (n-e.toNat) U k (a+e) (x++[e-1,rd c a]) U U U bo;refine⟨(e-1)::rd c a::L,?_,λq=>by omega,by simp;omega,⟨q+1,by simp;omega⟩,λ_=>⟨by simp,?_⟩,.run a0 h2 h3 h4 h5 e6⟩
   ·rw[iC.l0,ah a1,h1,aM,ah ⟨a0,a1⟩,ah U,bc (x:=a+e) U U,ewu];simp only[aM];rw[e1];simp
   ·constructor
    ·intro hl;have uZ:L.length=0:=by simp at hl;simp[hl]
     have JS:a+e=c.length:=by
      by_cases hz:n-e.toNat=0
      ·omega
      ·have:=(e5 U).1;omega
     intro j j0 j1;exact h4 j j0 U
    ·intro sa;have JS:a+e=c.length:=by
      rcases h5 with h5 |h5
      ·exact h5
      ·by_cases hz:a+e=c.length
       ·exact hz
       ·exact absurd (sa (a+e) U U) h5
     have:=e2 U;rw[this];rfl
theorem af8 (t:aF): ∀(k:Nat) (a x:Int),jt.l1 k t a x=iC.l1 k t.C a x:=by
 intro k
 induction k with
 |zero=>intro a x;rfl
 |succ k ih=>intro a x;simp only[jt.l1,iC.l1,ih]
theorem af7 (t:aF): ∀(k:Nat) (x:List Int) (a:Int),jt.l0 k t x a=iC.l0 k t.C x a:=by
 intro k
 induction k with
 |zero=>intro x a;rfl
 |succ k ih=>intro x a;simp only[jt.l0,iC.l0,ih,af8]
def um (c:List Int):Prop:= ∀j:Int,0<=j->j<c.length->rd c j=rd c 0
theorem contains_diff (t:aF) (h1:1<=t.C.length) (hb:t.C.length<=100000): ∃b,Dm.f t.C t=some b/\(b=false↔um t.C):=by
 unfold Dm.f rB.f;have key: ∀(n k:Nat) (i:Int),i+n=t.C.length->0<=i->n<k-> ∃r,rB.l0 k t.C t i=some r/\(r<0↔ ∀j:Int,i<=j->j<t.C.length->rd t.C j=rd t.C 0):=by
  intro n
  induction n with
  |zero=>
   intro k i hi h0 hk;obtain⟨k,rfl⟩:=bz hk;exact⟨-1,by rw[rB.l0,aj U],⟨λ_ j j0 j1=>by omega,λ_=>by omega⟩⟩
  |succ n ih=>
   intro k i hi h0 hk;obtain⟨k,rfl⟩:=bz hk;have e:C0.f (rd t.C i) t=some (rd t.C i !=rd t.C 0):=by unfold C0.f;rw[ah U]
   rw[rB.l0,ah U,ah U,e,aM]
   by_cases hq:rd t.C i=rd t.C 0
   ·rw[aj (by simpa using hq),bc U U]
    obtain⟨r,r1,r2⟩:=ih k (i+1) U U U;refine⟨r,r1,?_⟩;rw[r2];constructor
    ·intro h j j0 j1
     by_cases hj:j=i
     ·rw[hj,hq]
     ·exact h j U j1
    ·intro h j j0 j1;exact h j U j1
   ·rw[ah (by simpa using hq)]
    exact⟨i,J,⟨λh=>by omega,λh=>absurd (h i U U) hq⟩⟩
 obtain⟨r,r1,r2⟩:=key t.C.length fuel 0 U U (by rw[r7];omega)
 rw[r1,aM];refine⟨_,J,?_⟩;unfold um;rw[<-r2];simp
structure BI (t:aF) (L:List Int) (f:Int) (out:List Int):Prop where
 runs:iC.f t.C=some (2::L)
 two:L.length=2↔um t.C
 even: ∃q,L.length=2*q
 enc:BF t.C 0 L
 ge:2<=L.length
 le:L.length<=512
 HW:um t.C->f=0/\out=[0,rd t.C 0]
 GV: ¬um t.C-> ¬L.length<t.C.length->f=1/\out=1::t.C
 short: ¬um t.C->L.length<t.C.length->f=2/\out=2::L
theorem aeZ (t:aF) (h1:1<=t.C.length) (hb:t.C.length<=256): ∃L f out,lC.f t=some (f,out)/\BI t L f out:=by
 obtain⟨L,e1,_,e3,e4,e5,e8⟩:=ag6 (c:=t.C) U t.C.length fuel 0 [2] U U (by rw[r7];omega) bd
 have e5:=e5 U;have e6:L.length=2↔um t.C:=e5.2;obtain⟨b,c1,c2⟩:=contains_diff t h1 U;obtain⟨k,hk⟩: ∃k,fuel=k+4:=⟨fuel-4,by rw[r7]⟩
 have p0:jt.f t 0=some (if b=true then[] else[0,rd t.C 0]):=by
  unfold jt.f;have:bN 0=0:=E7 U U;rw[ah (by rfl),c1,aM,this]
  cases b
  ·rw[aj bd,ah U,ah bd];rfl
  ·rfl
 have p1:jt.f t 1=some (1::t.C):=by
  unfold jt.f;have:bN 1=1:=E7 U U;rw[aj bd,ah (by rfl),this,ah bo];rfl
 have p2:jt.f t 2=some (2::L):=by
  unfold jt.f;have:bN 2=2:=E7 U U;rw[aj bd,aj bd,this,af7,e1];rfl
 have n1:af (0+1)=1:=bc U U;have n2:af (1+1)=2:=bc U U;have n3:af (2+1)=3:=bc U U;have nT:iC.f t.C=some (2::L):=by unfold iC.f;rw[e1];rfl
 unfold lC.f;rw[hk,lC.l0,ah U,p0,aM,n1]
 by_cases hu:um t.C
 ·have hbf:b=false:=c2.mpr hu;subst hbf;rw[aj (c:=false=true) bd];simp only[List.isEmpty_cons,List.isEmpty_nil,Bool.not_false,if_true,aM];rw[lC.l0,ah U,p1,aM,n2];simp only[List.isEmpty_cons,Bool.not_false,if_true,ji,if_false,aM];rw[aj bo,lC.l0,ah U,p2,aM,n3];simp only[List.isEmpty_cons,Bool.not_false,if_true,ji,if_false,aM];rw[aj bo,lC.l0,aj U];exact⟨L,0,[0,rd t.C 0],J,⟨nT,e6,e4,e8,e5.1,by omega,λ_=>⟨J,J⟩,λq=>absurd hu q,λq=>absurd hu q⟩⟩
 ·have hbt:b=true:=by
   cases hb:b
   ·exact absurd (c2.mp hb) hu
   ·rfl
  subst hbt;simp only[if_true,List.isEmpty_nil,Bool.not_true,ji,if_false,aM];rw[lC.l0,ah U,p1,aM,n2];simp only[List.isEmpty_cons,List.isEmpty_nil,Bool.not_false,if_true,aM];rw[lC.l0,ah U,p2,aM,n3];simp only[List.isEmpty_cons,Bool.not_false,if_true,ji,if_false,aM]
  by_cases hs:L.length<t.C.length
  ·rw[ah bo,lC.l0,aj U];exact⟨L,2,2::L,J,⟨nT,e6,e4,e8,e5.1,by omega,λq=>absurd q hu,λ_ q=>absurd hs q,λ_ _=>⟨J,J⟩⟩⟩
  ·rw[aj bo,lC.l0,aj U];exact⟨L,1,1::t.C,J,⟨nT,e6,e4,e8,e5.1,by omega,λq=>absurd q hu,λ_ _=>⟨J,J⟩,λ_ q=>absurd q hs⟩⟩
theorem Vu {t:aF} (h:rS t): ∃L f out,sF.f t=some (out,0)/\BI t L f out:=by
 have hl:=ou h;obtain⟨L,f,out,e,hL⟩:=aeZ t hl.1 hl.2;refine⟨L,f,out,?_,hL⟩;unfold sF.f;rw[K8 t U,decide_eq_true h,aM,aj bd,e];rfl
theorem Qd {x:Int} (h0:0<=x) (h1:x<=4294967295):(((cg (IntKind.bits .u64) x&&&cg (IntKind.bits .u64) 4294967295).toNat:Nat):Int)=x:=by
 rw[BitVec.toNat_and];have e1:(cg (IntKind.bits .u64) 4294967295).toNat=2^32-1:=by decide
 have e2:(cg (IntKind.bits .u64) x).toNat=x.toNat:=by
  rw[BitVec.toNat_ofInt]
  show(x%((2^64:Nat):Int)).toNat=x.toNat
  rw[Int.emod_eq_of_lt h0 U]
 rw[e1,e2,Nat.and_two_pow_sub_one_eq_mod,Nat.mod_eq_of_lt U];omega
theorem Mw {x:Int} (h0:0<=x) (h1:x<=4294967295):fL x (2^32)=0:=by
 rw[Int.fdiv_eq_ediv_of_nonneg _ U];exact Int.ediv_eq_zero_of_lt h0 U
theorem QL {x y:Int} (hx:0<=x/\x<=1) (hy:0<=y/\y<=65536):tJ.f x y=some (0,x*y):=by
 have GH:0<=x*y/\x*y<=65536:=by
  have:x=0∨x=1:=U;rcases this with rfl |rfl<;>omega
 unfold tJ.f CH.f;simp only[aM];rw[Mw hx.1 U,Mw hy.1 U];simp only[Int.zero_mul,Int.mul_zero];rw[Qd hx.1 U,Qd hy.1 U,rG hx.1 U,rG hy.1 U,rG GH.1 U,Mw GH.1 U];have z:eW 0=0:=rG U U;simp only[Int.add_zero,z];have f0:fL 0 (2^32)=0:=by decide
 rw[f0];have a0:(((cg (IntKind.bits .u64) 0&&&cg (IntKind.bits .u64) 4294967295).toNat:Nat):Int)=0:=by decide
 simp only[a0,z,Int.add_zero,f0]
theorem ZL {c m:Int} {v1:Int×Int} (hv:af v1.2=m) (hm:1<=m/\m<=8192): ∀(n k:Nat) (x:List Int) (p:Int),p+n=m->1<=p->n<k->(x.length:Int)=m->(∀j:Int,0<=j->j<p->rd x j=c)->
 kL.l0 k v1 m x p=some (ct m.toNat c):=by
 intro n
 induction n using Nat.strongRecOn with
 |_ n ih=>
  intro k x p hp p1 hk hx hc;obtain⟨k,rfl⟩:=bz hk;rw[kL.l0,hv]
  by_cases hn:n=0
  ·rw[aj U]
   congr 1
   refine yj bo (λj j0 j1=>?_);rw[hc j j0 U,wA j0 U]
  ·have aaO:(if m<p then m else p)=p:=by rw[aj U]
   rw[ah U,aaO,ah U,ah U];have uY:(aB x 0 p).length=p.toNat:=by simp[aB];omega
   have uZ:(aB x p (x.length:Int)).length=(m-p).toNat:=by simp[aB];omega
   have eH:(cx x p.toNat (min (aB x 0 p).length (aB x p (x.length:Int)).length) (aB x 0 p)).length=x.length:=AK U U;rw[uY,uZ] at eH⊢;rw[bc U U];refine ih (n-(min p.toNat (m-p).toNat)) U k _ _ U U U U (λj j0 j1=>?_);have sk:rd (cx x p.toNat (min p.toNat (m-p).toNat) (aB x 0 p)) j=if j<p then rd x j else rd x (j-p):=by
    unfold cx
    by_cases hj:j<p
    ·rw[ah hj,vf j0 bo];unfold rd;rw[List.getD_eq_getElem?_getD,List.getD_eq_getElem?_getD,List.getElem?_take_of_lt U]
    ·rw[aj hj,oa bo,vf bo (by simp[aB];omega)]
     have e:j-((List.take p.toNat x).length:Int)=j-p:=by simp;omega
     rw[e];unfold rd aB;rw[List.getD_eq_getElem?_getD,List.getD_eq_getElem?_getD,List.getElem?_take_of_lt U,List.getElem?_take_of_lt U];simp
   rw[sk]
   by_cases hj:j<p
   ·rw[ah hj];exact hc j j0 hj
   ·rw[aj hj];exact hc (j-p) U U
theorem Hw {c m:Int} (hm:1<=m/\m<=8192):kL.f [c] m=some (ct m.toNat c):=by
 unfold kL.f;have e1:eW ((aa [c]:Nat):Int)=1:=rG bd bd;have e2:eW m=m:=rG U U;rw[aj bo,aj U,e1,e2,QL U U,aM,Int.one_mul];have e3:af m=m:=bc U U;have hb:((decide ((0:Int)>0))||(decide (m>9223372036854775807)))=false:=by
  rw[decide_eq_false U,decide_eq_false U];rfl
 simp only[hb,e3];rw[aj bd,aj bd,aj U,aM,ah U];refine Yk (afO m) (λx hx=>?_);obtain⟨hl,_⟩:=hx;rw[ah U];have Eh:min (aa [c]) x.length=1:=by simp;omega
 rw[Eh];have:=ZL (c:=c) (v1:=(0,m)) (m:=m) e3 hm (m-1).toNat fuel (cx x 0 1 [c]) 1 U U (by rw[r7];omega) (by rw[AK U bd];omega) (λj j0 j1=>by
  have:j=0:=U;subst this;simp[cx];rfl)
 rw[show(((1:Nat):Int))=1 by rfl,this,aM]
theorem Wg {m:Int} (hm:1<=m/\m<=8192):kL.f [] m=some []:=by
 unfold kL.f;have e1:eW ((aa ([]:List Int):Nat):Int)=0:=rG bd bd;have e2:eW m=m:=rG U U;rw[aj bo,aj U,e1,e2,QL U U,aM,Int.zero_mul];simp
theorem C5 {L:List Int} {lo hi j:Int} (h0:0<=lo) (j0:0<=j) (j1:lo+j<hi):rd (aB L lo hi) j=rd L (lo+j):=by
 unfold rd aB;rw[List.getD_eq_getElem?_getD,List.getD_eq_getElem?_getD,List.getElem?_take_of_lt U,List.getElem?_drop,show(lo+j).toNat=lo.toNat+j.toNat by omega]
theorem ui {L:List Int} {lo hi:Int} (h0:0<=lo) (h1:lo<=hi) (h2:hi<=L.length):((aB L lo hi).length:Int)=hi-lo:=by rw[iQ ⟨h0,h1,h2⟩];omega
theorem HU {L:List Int} {lo hi:Int} {P:Int->Prop} (h: ∀y∈L,P y): ∀y∈aB L lo hi,P y:=λy hy=>h y (List.mem_of_mem_drop (List.mem_of_mem_take hy))
theorem K6 {b:List Int} {a n:Int} (hb:b.length<=100000) (a0:0<=a) (a1:a<=b.length) (h:b.length<a+n):nn.f ⟨b,a⟩ n=some ([],.dM 6,⟨b,a⟩):=by
 unfold nn.f;simp only;rw[bc (x:=_-a) U U,ah U]
theorem K5 {b:List Int} {a n:Int} (hb:b.length<=100000) (a0:0<=a) (n0:0<=n) (h:a+n<=b.length):nn.f ⟨b,a⟩ n=some (aB b a (a+n),.nil,⟨b,a+n⟩):=by
 unfold nn.f;simp only;rw[bc (x:=_-a) U U,aj U,bc (x:=a+n) U U,bc (x:=a+n-n) U U,ah U,show a+n-n=a by omega]
inductive nI where
 |short:nI
 |form:nI
 |ok:List Int->Int->nI
theorem u8 {b:List Int} (hb: ∀y∈b,dQ y) {i:Int} (h0:0<=i) (h1:i<b.length):0<=rd b i/\rd b i<=255:=by
 have:=hb _ (sG h0 h1);unfold dQ at this;omega
theorem aaP {C b:List Int} (hC: ∀y∈C,1<=y/\y<=255) (hl:C.length<=256) (hb:b.length<=100000) (c:Int) {i:Int} {L:List Int} (he:BF C i L): ∀(a:Int) (k:Nat),0<=i->i<=C.length->C.length-i<k->0<=a->a<=b.length->
 (∀j:Int,0<=j->j<L.length->a+j<b.length->rd b (a+j)=rd L j)->(i=0∨i=C.length∨rd C (i-1)≠rd C i)->
 (a+L.length<=b.length->lD.l0 k ⟨b,c⟩ C.length a (C.take i.toNat)=some (.inr (C,a+L.length)))/\
 (¬a+L.length<=b.length-> ∃q,lD.l0 k ⟨b,c⟩ C.length a (C.take i.toNat)=some (.inl ([],.dM 6,⟨b,q⟩))):=by
 induction he with
 |done=>
  intro a k i0 i1 hk a0 a1 uQ mg;obtain⟨k,rfl⟩: ∃q,k=q+1:=⟨k-1,by omega⟩
  rw[lD.l0,aj bd];exact⟨λ_=>by simp,λq=>absurd (by simpa using a1) q⟩
 | @run i e L i0' e1 hie same stop rest ih=>
  intro a k i0 i1 hk a0 a1 uQ mg;obtain⟨k,rfl⟩: ∃q,k=q+1:=⟨k-1,by omega⟩
  have ni:((C.take i.toNat).length:Int)=i:=by simp;omega
  rw[lD.l0,ni,ah U]
  by_cases hs:(b.length:Int)<a+2
  ·rw[K6 hb a0 a1 hs];exact⟨λq=>by simp at q;omega,λ_=>⟨a,J⟩⟩
  ·have MP:a+2<=b.length:=U;rw[K5 hb a0 U MP,aM];simp only[Er.isNil,Bool.not_true,ji,if_false];have r0:rd (aB b a (a+2)) 0=e-1:=by
    rw[C5 a0 U U,uQ 0 U bo U];rfl
   have r1:rd (aB b a (a+2)) 1=rd C i:=by
    rw[C5 a0 U U,uQ 1 U bo U];rfl
   have sl:((aB b a (a+2)).length:Int)=2:=by rw[ui a0 U MP];omega
   have oP:=hC _ (sG i0 (show i<(C.length:Int) by omega))
   rw[sl,r0,r1,ah U,ah U,bc (x:=e-1) U U,bc (x:=e-1+1) U U,bc (x:=(C.length:Int)-i) U U];have z':(rd C i==0)=false:=by simp;omega
   have g':decide (e-1+1>(C.length:Int)-i)=false:=by simp;omega
   simp only[z',g',Bool.false_or,ji,if_false];have go:((a+(((e-1)::rd C i::L).length:Nat)<=b.length->((kL.f [rd C i] (e-1+1)).bind λv12=>if(C.take i.toNat).length+v12.length<=1099511627776 then lD.l0 k ⟨b,c⟩ C.length (a+2) (C.take i.toNat++v12) else none)=some (.inr (C,a+(((e-1)::rd C i::L).length:Nat)))))/\
    (¬a+(((e-1)::rd C i::L).length:Nat)<=b.length-> ∃q,((kL.f [rd C i] (e-1+1)).bind λv12=>if(C.take i.toNat).length+v12.length<=1099511627776 then lD.l0 k ⟨b,c⟩ C.length (a+2) (C.take i.toNat++v12) else none)=some (.inl ([],.dM 6,⟨b,q⟩))):=by
    have NX:C.take i.toNat++ct (e-1+1).toNat (rd C i)=C.take (i+e).toNat:=by
     refine yj bo (λj j0 j1=>?_);have aS:j<i+e:=by simp at j1;omega
     have e2:rd (C.take (i+e).toNat) j=rd C j:=by
      unfold rd;rw[List.getD_eq_getElem?_getD,List.getD_eq_getElem?_getD,List.getElem?_take_of_lt U]
     rw[e2]
     by_cases hj:j<i
     ·rw[vf j0 U];unfold rd;rw[List.getD_eq_getElem?_getD,List.getD_eq_getElem?_getD,List.getElem?_take_of_lt U]
     ·rw[oa U,wA U U,same j U aS]
    rw[Hw U,aM,ah bo,NX];have:=ih (a+2) k U U U U MP (λj j0 j1 j2=>by
     have:=uQ (j+2) U bo U;rw[show a+2+j=a+(j+2) by omega,this]
     unfold rd;rw[show(j+2).toNat=j.toNat+2 by omega];rfl) (by
     rcases stop with h |h
     ·exact .inr (.inl h)
     ·refine .inr (.inr ?_);rw[same (i+e-1) U U];exact λq=>h q.symm)
    have e3:a+(((e-1)::rd C i::L).length:Nat)=a+2+L.length:=by simp;omega
    rw[e3];exact this
   by_cases hz:i>0
   ·rw[ah hz,bc (x:=i-1) U U,ah U];have e2:rd (C.take i.toNat) (i-1)=rd C (i-1):=by
     unfold rd;rw[List.getD_eq_getElem?_getD,List.getD_eq_getElem?_getD,List.getElem?_take_of_lt U]
    have bI:rd C (i-1)≠rd C i:=by
     rcases mg with h |h |h
     ·omega
     ·omega
     ·exact h
    have NQ:(rd (C.take i.toNat) (i-1)==rd C i)=false:=by rw[e2];simpa using bI
    simp only[NQ,ji,if_false,aM];exact go
   ·rw[aj hz];simp only[ji,if_false,aM];exact go
theorem Md {b:List Int} {a n:Int} (hb:b.length<=100000) (a0:0<=a) (a1:a<=b.length) (h:b.length<a+n):qv.f ⟨b,a⟩ n=some ([],.dM 6,⟨b,a⟩):=by
 unfold qv.f;rw[K6 hb a0 a1 h];rfl
theorem Mc {b:List Int} {a n:Int} (hb:b.length<=100000) (a0:0<=a) (n0:0<=n) (h:a+n<=b.length):qv.f ⟨b,a⟩ n=some (aB b a (a+n),if 0∈aB b a (a+n) then .dM 5 else .nil,⟨b,a+n⟩):=by
 unfold qv.f;have hl:=ui a0 (show a<=a+n by omega) h
 rw[K5 hb a0 n0 h,aM];simp only[Er.isNil,if_true];rw[Mb _ _ U];simp only[aM]
 by_cases hz:0∈aB b a (a+n)
 ·rw[ah hz,ah (by simpa using hz)]
 ·rw[aj hz,aj (by simpa using hz)]
theorem agJ {t:aF} {L:List Int} {f:Int} {out:List Int} (h1:1<=t.C.length) (hb:t.C.length<=256) (h:BI t L f out):ym.f t=some (f,out):=by
 unfold ym.f;rw[h.runs,aM];have hge:=h.ge;have hle:=h.le;have hlen:(((2::L:List Int).length:Nat):Int)=L.length+1:=by simp
 rw[hlen]
 by_cases hu:um t.C
 ·have:=h.two.mpr hu;obtain⟨e1,e2⟩:=h.HW hu;rw[ah bo,ah U,e1,e2]
 ·have bI: ¬L.length=2:=λq=>hu (h.two.mp q);rw[aj bo,bc U U]
  by_cases hs:L.length<t.C.length
  ·obtain⟨e1,e2⟩:=h.short hu hs;rw[ah U,e1,e2]
  ·obtain⟨e1,e2⟩:=h.GV hu hs;rw[aj U,ah bo,e1,e2];rfl
theorem RV {b:List Int} {w h n:Int} (hw:1<=w/\w<=16) (hh:1<=h/\h<=16) (hn:af (w*h)=n) {x:List Int} {q:Int} (hx:x.length<=100000) (hr:qu.f ⟨b,0⟩ n=some (x,.dM 6,⟨b,q⟩)):pN.f b w h=some (⟨0,0,[]⟩,0,2):=by
 unfold pN.f wy.f oo.f;have e:(((decide (w<1)||decide (w>16))||decide (h<1))||decide (h>16))=false:=by simp;omega
 rw[hn,hr];simp only[e,ji,if_false,aM,Er.isNil];rw[ah bo]
 rfl
theorem abj {b:List Int} {w h n:Int} (hw:1<=w/\w<=16) (hh:1<=h/\h<=16) (hn:af (w*h)=n) {x:List Int} {q:Int} (hx:x.length<=100000) (hr:qu.f ⟨b,0⟩ n=some (x,.dM 5,⟨b,q⟩)):pN.f b w h=some (⟨0,0,[]⟩,0,3):=by
 unfold pN.f wy.f oo.f;have e:(((decide (w<1)||decide (w>16))||decide (h<1))||decide (h>16))=false:=by simp;omega
 rw[hn,hr];simp only[e,ji,if_false,aM,Er.isNil];rw[ah bo]
 rfl
theorem RU {b:List Int} {w h n:Int} (hw:1<=w/\w<=16) (hh:1<=h/\h<=16) (hn:af (w*h)=n) {x:List Int} {p:Int} (hx:x.length<=100000) (hp:0<=p/\p<=b.length) (hr:qu.f ⟨b,0⟩ n=some (x,.nil,⟨b,p⟩)) {out:List Int} {f:Int} (NP:sF.f ⟨w,h,x⟩=some (out,f)):
 pN.f b w h=some (if Dt out (aB b 0 p)=true then(⟨w,h,x⟩,p,0) else(⟨0,0,[]⟩,0,3)):=by
 unfold pN.f wy.f oo.f DS.f;have e:(((decide (w<1)||decide (w>16))||decide (h<1))||decide (h>16))=false:=by simp;omega
 rw[hn,hr];simp only[e,ji,if_false,aM,Er.isNil,if_true,List.nil_append];rw[ah bo];simp only[aM,Er.isNil,if_true];rw[NP];simp only[aM];rw[ah U]
 cases hs:Dt out (aB b 0 p)
 ·rfl
 ·rfl
theorem abk {t:aF} (h:rS t) (hu: ∀y∈t.C,1<=y/\y<=255) {L:List Int} {f:Int} {out:List Int} (NP:sF.f t=some (out,0)) (hL:BI t L f out) {b:List Int} (hb:b.length<=100000)
 (uQ: ∀j:Int,0<=j->j<out.length->j<b.length->rd b j=rd out j):
 pN.f b t.W t.H=some (if out.length<=b.length then(t,(out.length:Int),0) else(⟨0,0,[]⟩,0,2)):=by
 obtain⟨w1,w2,h1,h2,hc,hz⟩:=h;have hl:1<=t.C.length/\t.C.length<=256:=ou ⟨w1,w2,h1,h2,hc,hz⟩;have hn:af (t.W*t.H)=t.C.length:=by rw[bc U U];omega
 have key:(out.length<=b.length->qu.f ⟨b,0⟩ t.C.length=some (t.C,.nil,⟨b,out.length⟩))/\(¬out.length<=b.length-> ∃x q,x.length<=100000/\qu.f ⟨b,0⟩ t.C.length=some (x,.dM 6,⟨b,q⟩)):=by
  unfold qu.f
  by_cases h0:(b.length:Int)=0
  ·rw[K6 hb U U U];refine⟨λq=>?_,λ_=>⟨[],0,by simp,J⟩⟩
   have h0':b.length=0:=U;rw[h0'] at q;have tF:out.length=0:=U
   by_cases jD:um t.C
   ·rw[(hL.HW jD).2] at tF;simp at tF
   ·by_cases hs:L.length<t.C.length
    ·rw[(hL.short jD hs).2] at tF;simp at tF
    ·rw[(hL.GV jD hs).2] at tF;simp at tF
  ·rw[K5 hb U U U,aM];simp only[Er.isNil,Bool.not_true,ji,if_false];have sl:((aB b 0 (0+1)).length:Int)=1:=by rw[ui U U U];omega
   have r0:rd (aB b 0 (0+1)) 0=rd b 0:=by rw[C5 U U U,Int.add_zero]
   rw[ah (show 0<=(0:Int)/\(0:Int)<((aB b 0 (0+1)).length:Int) by omega),r0,show(0:Int)+1=1 by omega]
   by_cases jD:um t.C
   ·obtain⟨_,e⟩:=hL.HW jD;have ol:out.length=2:=by rw[e];rfl
    have b0:rd b 0=0:=by rw[uQ 0 U U U,e];rfl
    rw[b0];simp only[beq_self_eq_true,if_true]
    by_cases hs:(b.length:Int)<2
    ·rw[Md hb U U U,aM,Wg U];exact⟨λq=>by omega,λ_=>⟨_,_,by simp,J⟩⟩
    ·have b1:rd b 1=rd t.C 0:=by rw[uQ 1 U U U,e];rfl
     have e1:aB b 1 2=[rd t.C 0]:=by
      have uY:=ui (L:=b) (lo:=1) (hi:=2) U U U;refine yj bo (λj j0 j1=>?_);rw[C5 U j0 U,show j=0 by omega,show(1:Int)+0=1 by omega,b1];rfl
     have hm:=hu _ (sG (a:=t.C) (i:=0) U U);rw[Mc hb U U U,aM,show(1:Int)+1=2 by omega,e1,aj bo]
     simp only;rw[Hw U,aM];refine⟨λ_=>?_,λq=>by omega⟩
     have e2:ct (t.C.length:Int).toNat (rd t.C 0)=t.C:=by
      refine yj bd (λj j0 j1=>?_);rw[wA j0 (by simpa using j1),jD j j0 (by simpa using j1)]
     rw[e2,ol];rfl
   ·by_cases hs:L.length<t.C.length
    ·obtain⟨_,e⟩:=hL.short jD hs;have ol:out.length=L.length+1:=by rw[e];simp
     have b0:rd b 0=2:=by rw[uQ 0 U U U,e];rfl
     rw[b0];have c0:((2:Int)==0)=false:=rfl;have c1:((2:Int)==1)=false:=rfl;simp only[c0,c1,ji,if_false,beq_self_eq_true,if_true];unfold lD.f;obtain⟨k1,k2⟩:=aaP hu hl.2 hb 1 hL.enc 1 fuel U U (by rw[r7];omega) U U (λj j0 j1 j2=>by
      rw[uQ (1+j) U U U,e];unfold rd;rw[show(1+j).toNat=j.toNat+1 by omega];rfl) (.inl J)
     have et:t.C.take (0:Int).toNat=[]:=rfl;rw[et] at k1 k2;refine⟨λq=>?_,λq=>?_⟩
     ·rw[k1 U];simp only[aM];rw[show 1+(L.length:Int)=out.length by omega]
     ·obtain⟨q',k2⟩:=k2 U;rw[k2];exact⟨_,_,by simp,J⟩
    ·obtain⟨_,e⟩:=hL.GV jD hs;have ol:out.length=t.C.length+1:=by rw[e];simp
     have b0:rd b 0=1:=by rw[uQ 0 U U U,e];rfl
     rw[b0];have c0:((1:Int)==0)=false:=rfl;simp only[c0,ji,if_false,beq_self_eq_true,if_true]
     by_cases hs:(b.length:Int)-1<t.C.length
     ·rw[Md hb U U U];exact⟨λq=>by omega,λ_=>⟨_,_,by simp,J⟩⟩
     ·have e1:aB b 1 (1+t.C.length)=t.C:=by
       have uY:=ui (L:=b) (lo:=1) (hi:=1+t.C.length) U U U;refine yj U (λj j0 j1=>?_);rw[C5 U j0 U,uQ (1+j) U U U,e];unfold rd;rw[show(1+j).toNat=j.toNat+1 by omega];rfl
      rw[Mc hb U U U,e1,aj hz];refine⟨λ_=>?_,λq=>by omega⟩
      rw[show 1+(t.C.length:Int)=out.length by omega];rfl
 by_cases hlen:out.length<=b.length
 ·rw[ah hlen,RU ⟨w1,w2⟩ ⟨h1,h2⟩ hn U U (key.1 hlen) NP];have e1:aB b 0 out.length=out:=by
   have uY:=ui (L:=b) (lo:=0) (hi:=out.length) U U U;refine yj U (λj j0 j1=>?_);rw[C5 U j0 U,Int.zero_add,uQ j j0 U U]
  rw[e1,ahY,ah J]
 ·rw[aj hlen];obtain⟨x,q,hx,e⟩:=key.2 hlen;exact RV ⟨w1,w2⟩ ⟨h1,h2⟩ hn hx e
abbrev EK (w h s:Int):Nat:=((ay w h s).1*(ay w h s).2).toNat
theorem Pa {w h s:Int} (hs:bC w h s):1<=EK w h s/\EK w h s<=256/\((EK w h s:Nat):Int)=(ay w h s).1*(ay w h s).2:=by
 obtain⟨z1,z2,z3,z4⟩:=pV hs;have h1:(ay w h s).1*(ay w h s).2<=16*16:=kT U U z2 z4;have h2:1*1<=(ay w h s).1*(ay w h s).2:=kT U U z1 z3;unfold EK;omega
theorem agZ {m:aF} (hm:nz m) (s:Int):oc.f m s=some (dC m s):=ah4 hm s
def oR (w h s c:Int):Prop:=16*(s%(bn w h).1)<=c%w/\c%w<16*(s%(bn w h).1)+(ay w h s).1/\16*(s/(bn w h).1)<=c/w/\c/w<16*(s/(bn w h).1)+(ay w h s).2
instance (w h s c:Int):Decidable (oR w h s c):=by unfold oR;infer_instance
def loc (w h s c:Int):Int:=(c/w-16*(s/(bn w h).1))*(ay w h s).1+(c%w-16*(s%(bn w h).1))
theorem agT {w h s:Int} (hs:bC w h s):16*(s%(bn w h).1)+(ay w h s).1<=w/\16*(s/(bn w h).1)+(ay w h s).2<=h:=by
 unfold ay;rw[ah hs];simp only;omega
theorem Og {w h s c:Int} (hs:bC w h s) (hi:oR w h s c):0<=loc w h s c/\loc w h s c<(ay w h s).1*(ay w h s).2:=by
 obtain⟨i1,i2,i3,i4⟩:=hi;unfold loc;exact tm U U U U
theorem abn {w h s c:Int} (hs:bC w h s) (hi:oR w h s c):cu w h s (loc w h s c)=c:=by
 have hl:=Og hs hi;have⟨i1,i2,i3,i4⟩:=hi;have n:=pL (a:=(ay w h s).1) (x:=c%w-16*(s%(bn w h).1)) (y:=c/w-16*(s/(bn w h).1)) U U;have hq:=uy c w;rw[mv] at hq;unfold cu;rw[ah ⟨hs,hl⟩];unfold loc;rw[n.1,n.2];have e1:16*(s/(bn w h).1)+(c/w-16*(s/(bn w h).1))=c/w:=U;rw[e1];omega
theorem Wx {w h c:Int} (hc:cR w h c): ∃s,bC w h s/\oR w h s c:=by
 have hs:=EM hc;obtain⟨a,b,d,e⟩:=Dg hc;have hn:=pL (a:=(bn w h).1) (x:=c%w/16) (y:=c/w/16) a b;have hp:=ve hc;refine⟨_,hs,?_⟩;unfold oR ay;rw[ah hs,hn.1,hn.2];simp only;generalize c%w=x at*;generalize c/w=y at*;omega
theorem agW {w a X tw c:Int} (hw:0<w) (X0:0<=X) (ht:X+tw<=w):(a*w+X<=c/\c<a*w+X+tw)↔(c/w=a/\X<=c%w/\c%w<X+tw):=by
 constructor
 ·rintro⟨h1,h2⟩;have:=pL (a:=w) (x:=c-a*w) (y:=a) U U;rw[show a*w+(c-a*w)=c by omega] at this
  obtain⟨e1,e2⟩:=this;rw[e1,e2];exact⟨J,by omega,by omega⟩
 ·rintro⟨rfl,h2,h3⟩;have:=uy c w;rw[mv] at this;omega
theorem agD {x S:List Int} {p n c:Int} (p0:0<=p) (n0:0<=n) (hx:p+n<=x.length) (hS:n<=S.length) (c0:0<=c):rd (cx x p.toNat n.toNat S) c=if p<=c/\c<p+n then rd S (c-p) else rd x c:=by
 unfold cx
 by_cases h1:c<p
 ·rw[aj U,vf c0 bo];unfold rd;rw[List.getD_eq_getElem?_getD,List.getD_eq_getElem?_getD,List.getElem?_take_of_lt U]
 ·have e:c-((List.take p.toNat x).length:Int)=c-p:=by simp;omega
  rw[oa bo,e]
  by_cases h2:c<p+n
  ·rw[ah ⟨by omega,h2⟩,vf U bo]
   unfold rd;rw[List.getD_eq_getElem?_getD,List.getD_eq_getElem?_getD,List.getElem?_take_of_lt U]
  ·rw[aj U,oa bo];have e2:c-p-((List.take n.toNat S).length:Int)=c-p-n:=by simp;omega
   rw[e2];unfold rd;rw[List.getD_eq_getElem?_getD,List.getD_eq_getElem?_getD,List.getElem?_drop,show p.toNat+n.toNat+(c-p-n).toNat=c.toNat by omega]
theorem UD {w h s:Int} (hs:bC w h s) {t:aF} (hW:t.W=(ay w h s).1) (hH:t.H=(ay w h s).2) (hC:(t.C.length:Int)=(ay w h s).1*(ay w h s).2) {x:List Int} (hx:(x.length:Int)=w*h):
 ∃x',oE.f ⟨w,h,x⟩ s t=some x'/\(x'.length:Int)=w*h/\ ∀c,0<=c->c<w*h->rd x' c=if oR w h s c then rd t.C (loc w h s c) else rd x c:=by
 have hz:=pV hs;have NG:=ue hs;have hmp:=pJ NG;obtain⟨r1,r2⟩:=agT hs;obtain⟨p1,p2,p3,p4⟩:=uf hs;obtain⟨sn1,sn2,sn3⟩:=Pa hs;unfold oE.f;simp only;rw[Jp,aM];have hg:cu w h s 0=16*(s/(bn w h).1)*w+16*(s%(bn w h).1):=by
  unfold cu;rw[ah ⟨hs,by omega,by omega⟩,Int.zero_ediv,Int.zero_emod,Int.add_zero,Int.add_zero]
 rw[hg];generalize hX:16*(s%(bn w h).1)=X at*;generalize hY:16*(s/(bn w h).1)=Y at*;generalize NY:(ay w h s).1=tw at*;generalize TY:(ay w h s).2=th at*;have key: ∀(n k:Nat) (y:Int) (z:List Int),y+n=th->0<=y->n<k->(z.length:Int)=w*h->(∀c,0<=c->c<w*h->rd z c=if oR w h s c/\c/w<Y+y then rd t.C (loc w h s c) else rd x c)->
  ∃x',oE.l0 k ⟨w,h,x⟩ t (Y*w+X) z y=some x'/\(x'.length:Int)=w*h/\ ∀c,0<=c->c<w*h->rd x' c=if oR w h s c then rd t.C (loc w h s c) else rd x c:=by
  intro n
  induction n with
  |zero=>
   intro k y z hy y0 hk Uf N4;obtain⟨k,rfl⟩:=bz hk;refine⟨z,by rw[oE.l0,aj U],Uf,λc c0 c1=>?_⟩
   rw[N4 c c0 c1]
   by_cases hi:oR w h s c
   ·have:c/w<Y+y:=by
     have⟨_,_,_,i4⟩:=hi;rw[hY,TY] at i4;omega
    rw[ah ⟨hi,this⟩,ah hi]
   ·rw[aj (λq=>hi q.1),aj hi]
  |succ n ih=>
   intro k y z hy y0 hk Uf N4;obtain⟨k,rfl⟩:=bz hk;have e1:(Y+y)*w=Y*w+y*w:=Int.add_mul _ _ _;have e2:(y+1)*tw=y*tw+tw:=by rw[Int.add_mul,Int.one_mul]
   have e3:(Y+y+1)*w=(Y+y)*w+w:=by rw[Int.add_mul,Int.one_mul]
   have b1:(Y+y+1)*w<=h*w:=BL U U;have b2:h*w=w*h:=mv _ _;have b3:(y+1)*tw<=th*tw:=BL U U;have b4:th*tw=tw*th:=mv _ _;have b5:0<=y*tw:=nj y0 U;have b6:0<=y*w:=nj y0 U;have b7:0<=Y*w:=nj U U;rw[oE.l0,hH,ah U];simp only;rw[hW,bc (x:=y*w) U U,bc (x:=Y*w+X+y*w) U U,bc (x:=y*tw) U U,bc (x:=y+1) U U,bc (x:=(y+1)*tw) U U];have hpe:Y*w+X+y*w=(Y+y)*w+X:=U;rw[hpe,ah U,ah U];have l1:=ui (L:=t.C) (lo:=y*tw) (hi:=(y+1)*tw) b5 U U;have l2:=ui (L:=z) (lo:=(Y+y)*w+X) (hi:=(z.length:Int)) U U U;have Eh:min (aB t.C (y*tw) ((y+1)*tw)).length (aB z ((Y+y)*w+X) (z.length:Int)).length=tw.toNat:=U;rw[Eh];have eH:(cx z ((Y+y)*w+X).toNat tw.toNat (aB t.C (y*tw) ((y+1)*tw))).length=z.length:=AK U U;refine ih k (y+1) _ U U U U (λc c0 c1=>?_);rw[agD U U U U c0];have TT:=agW (w:=w) (a:=Y+y) (X:=X) (tw:=tw) (c:=c) U U r1
   by_cases xM:(Y+y)*w+X<=c/\c<(Y+y)*w+X+tw
   ·obtain⟨q1,q2,q3⟩:=TT.mp xM;have bY:oR w h s c:=by unfold oR;rw[hX,hY,NY,TY];exact⟨q2,q3,by omega,by omega⟩
    rw[ah xM,ah ⟨bY,by omega⟩,C5 b5 U U]
    congr 1
    unfold loc;rw[hX,hY,NY,q1];have e4:(Y+y-Y)*tw=y*tw:=by rw[show Y+y-Y=y by omega]
    have:=uy c w;rw[mv,q1] at this;omega
   ·rw[aj xM,N4 c c0 c1]
    by_cases bY:oR w h s c
    ·have⟨i1,i2,i3,i4⟩:=bY;rw[hX] at i1;rw[hX,NY] at i2;have bI:c/w≠Y+y:=λq=>xM (TT.mpr ⟨q,i1,i2⟩)
     by_cases aS:c/w<Y+y
     ·rw[ah ⟨bY,aS⟩,ah ⟨bY,by omega⟩]
     ·rw[aj (λq=>aS q.2),aj (λq=>by have:=q.2;omega)]
    ·rw[aj (λq=>bY q.1),aj (λq=>bY q.1)]
 exact key th.toNat fuel 0 x U U (by rw[r7];omega) hx (λc c0 c1=>by
  by_cases hi:oR w h s c
  ·have⟨_,_,i3,_⟩:=hi;rw[hY] at i3;rw[aj (λq=>by have:=q.2;omega)]
  ·rw[aj (λq=>hi q.1)])
theorem afU {x y:Nat} (hx:x<256):x|||(y*256)=x+256*y:=by
 have:=Nat.shiftLeft_add_eq_or_of_lt (b:=x) (i:=8) U y;rw[Nat.shiftLeft_eq] at this;have e8:(2:Nat)^8=256:=by decide
 rw[e8] at this;rw[Nat.or_comm,<-this];omega
theorem uV {x y:Int} (hx:dQ x) (hy:dQ y):af (fX (cg (IntKind.bits .i64) (af x)|||cg (IntKind.bits .i64) (af ((af y)*2^8))))=x+256*y:=by
 unfold dQ at hx hy;rw[bc (x:=x) U U,bc (x:=y) U U,bc (x:=y*2^8) U U,BitVec.toNat_or];have e: ∀z:Int,0<=z->z<=1000000->(cg (IntKind.bits .i64) z).toNat=z.toNat:=by
  intro z z0 z1;rw[BitVec.toNat_ofInt]
  show(z%((2^64:Nat):Int)).toNat=z.toNat
  rw[Int.emod_eq_of_lt z0 U]
 rw[e x U U,e (y*2^8) U U];have e2:(y*2^8).toNat=y.toNat*256:=U;rw[e2,afU U,bc U U];omega
theorem PQ {x:Int}:bN x=x%256:=by
 unfold bN IntKind.wrap IntKind.signed IntKind.bits;simp
structure sV (m:aF):Prop where
 ok:nz m
 rU: ∀y∈m.C,1<=y/\y<=255
theorem KV {m:aF} (hm:sV m) {s:Int} (hs:bC m.W m.H s):rS (dC m s)/\ ∀y∈(dC m s).C,1<=y/\y<=255:=by
 have hz:=pV hs;obtain⟨n1,n2,n3⟩:=Pa hs;have hb: ∀y∈(dC m s).C,1<=y/\y<=255:=by
  intro y hy;unfold dC jK at hy;simp only[List.mem_map,List.mem_range] at hy;obtain⟨l,hl,rfl⟩:=hy;have hg:=AO (l:=(l:Int)) hs U U;exact hm.rU _ (sG hg.1 (by rw[hm.ok.2.1];exact hg.2))
 refine⟨⟨hz.1,hz.2.1,hz.2.2.1,hz.2.2.2,?_,λq=>by have:=hb 0 q;omega⟩,hb⟩
 show((jK m s (EK m.W m.H s)).length:Int)=_
 rw[Bt,n3]
def vc (m:aF) (s:Int):List Int:=((sF.f (dC m s)).getD ([],0)).1
theorem OH {m:aF} (hm:sV m) {s:Int} (hs:bC m.W m.H s): ∃L f,sF.f (dC m s)=some (vc m s,0)/\BI (dC m s) L f (vc m s):=by
 obtain⟨L,f,out,e,hL⟩:=Vu (KV hm hs).1;have:vc m s=out:=by unfold vc;rw[e];rfl
 exact⟨L,f,by rw[this];exact e,by rw[this];exact hL⟩
theorem Vi {t:aF} (h:rS t) {L:List Int} {f:Int} {out:List Int} (hL:BI t L f out):2<=out.length/\out.length<=1+t.C.length:=by
 have hl:=ou h;have h2:=hL.ge
 by_cases hu:um t.C
 ·rw[(hL.HW hu).2];simp;omega
 ·by_cases hs:L.length<t.C.length
  ·rw[(hL.short hu hs).2];simp;omega
  ·rw[(hL.GV hu hs).2];simp;omega
theorem aaQ {t:aF} (h:rS t) (hu: ∀y∈t.C,1<=y/\y<=255) {i:Int} {L:List Int} (he:BF t.C i L): ∀y∈L,dQ y:=by
 have hl:=ou h
 induction he with
 |done=>intro y hy;simp at hy
 | @run i e L i0 e1 hie same stop rest ih=>
  intro y hy;simp only[nG] at hy;have hm:=hu _ (sG i0 (show i<(t.C.length:Int) by omega))
  rcases hy with q |q |q
  ·rw[q];exact⟨by omega,by omega⟩
  ·rw[q];exact⟨by omega,by omega⟩
  ·exact ih y q
theorem afY {v:aF} (hv:rS v) (hu: ∀y∈v.C,1<=y/\y<=255) {L:List Int} {f:Int} {out:List Int} (hL:BI v L f out): ∀y∈out,dQ y:=by
 have hC: ∀y∈v.C,dQ y:=λy hy=>by have:=hu y hy;exact⟨by omega,by omega⟩
 have T_:=ou hv
 by_cases hn:um v.C
 ·rw[(hL.HW hn).2];intro y hy;simp only[nG,rR,or_false] at hy;rcases hy with q |q
  ·rw[q];exact⟨by omega,by omega⟩
  ·rw[q];exact hC _ (sG U U)
 ·by_cases hs:L.length<v.C.length
  ·rw[(hL.short hn hs).2];intro y hy;simp only[nG] at hy;rcases hy with q |q
   ·rw[q];exact⟨by omega,by omega⟩
   ·exact aaQ hv hu hL.enc y q
  ·rw[(hL.GV hn hs).2];intro y hy;simp only[nG] at hy;rcases hy with q |q
   ·rw[q];exact⟨by omega,by omega⟩
   ·exact hC y q
def outs (m:aF):Nat->Int->List Int
 |0,_=>[]
 |n+1,s=>vc m s++outs m n (s+1)
theorem Vj {m:aF} (hm:sV m): ∀(n:Nat) (i:Int),i+n=dB m.W m.H->0<=i->(2*n<=(outs m n i).length/\(outs m n i).length<=257*n)/\ ∀y∈outs m n i,dQ y:=by
 intro n
 induction n with
 |zero=>intro i _ _;exact⟨by simp[outs],by simp[outs]⟩
 |succ n ih=>
  intro i hi i0;have hs:bC m.W m.H i:=⟨i0,by omega⟩
  obtain⟨L,f,e,hL⟩:=OH hm hs;obtain⟨t1,t2⟩:=KV hm hs;have hl:=Vi t1 hL;have hc:=ou t1;obtain⟨h1,h2⟩:=ih (i+1) U U;refine⟨by simp only[outs,yS];omega,λy hy=>?_⟩
  simp only[outs,List.mem_append] at hy;rcases hy with q |q
  ·exact afY t1 t2 hL y q
  ·exact h2 y q
def xG (m:aF):List Int:=[bN m.W,bN (fL m.W (2^8)),bN m.H,bN (fL m.H (2^8))]
def bytesOf (m:aF):List Int:=xG m++outs m (dB m.W m.H).toNat 0
theorem agY {m:aF} (hm:sV m): ∀(n k:Nat) (i:Int) (x:List Int),i+n=dB m.W m.H->0<=i->n<k->x.length<=10+257*i.toNat->lF.l0 k m x i=some (x++outs m n i):=by
 have ja:=nP m.W m.H;intro n
 induction n with
 |zero=>
  intro k i x hi i0 hk hx;obtain⟨k,rfl⟩:=bz hk;rw[lF.l0,OP,aM,aj U];simp[outs]
 |succ n ih=>
  intro k i x hi i0 hk hx;obtain⟨k,rfl⟩:=bz hk;have hs:bC m.W m.H i:=⟨i0,by omega⟩
  obtain⟨L,f,e,hL⟩:=OH hm hs;obtain⟨t1,t2⟩:=KV hm hs;have hl:=Vi t1 hL;have hc:=ou t1;rw[lF.l0,OP,aM,ah U,agZ hm.ok,aM,agJ hc.1 hc.2 hL,aM];simp only;rw[ah U,bc U U,ih k (i+1) _ U U U (by simp only[yS];omega)]
  simp[outs]
theorem OV {m:aF} (hm:sV m):lF.f m=some (bytesOf m):=by
 have hc:=nP m.W m.H;unfold lF.f;exact agY hm (dB m.W m.H).toNat fuel 0 (xG m) U U (by rw[r7];omega) (by simp[xG])
theorem adR (m:aF): ∀y∈xG m,dQ y:=by
 intro y hy;unfold xG at hy;simp only[nG,rR,or_false,PQ] at hy;unfold dQ;rcases hy with q |q |q |q<;>omega
theorem QN {m:aF} (hm:sV m): ∀y∈bytesOf m,dQ y:=by
 intro y hy;have hc:=nP m.W m.H;unfold bytesOf at hy;rw[List.mem_append] at hy;rcases hy with q |q
 ·exact adR m y q
 ·exact(Vj hm (dB m.W m.H).toNat 0 U U).2 y q
theorem QM {m:aF} (hm:sV m):6<=(bytesOf m).length/\(bytesOf m).length<=4+257*(dB m.W m.H).toNat:=by
 have hc:=nP m.W m.H;have hp:=aaA hm.ok.1;have:=(Vj hm (dB m.W m.H).toNat 0 U U).1;unfold bytesOf;rw[yS];have:(xG m).length=4:=rfl;omega
theorem aaY {x:Int} (h0:0<=x):fL x (2^8)=x/256:=by
 rw[Int.fdiv_eq_ediv_of_nonneg _ U];rfl
theorem JR {w:Int} (h0:0<=w) (h1:w<=65535):bN w+256*bN (fL w (2^8))=w:=by
 rw[aaY h0,PQ,PQ];omega
def Lm (b:List Int) (n:Int) (r:List Int×Er×fb):Prop:=
 r.2.2.b=b/\0<=r.2.2.aZ/\r.2.2.aZ<=b.length/\r.1.length<=1000/\(r.2.1= .dM 5∨r.2.1= .dM 6∨(r.2.1= .nil/\(r.1.length:Int)=n/\ ∀y∈r.1,1<=y/\y<=255))
section
variable {b : List Int} {n : Int}
theorem Pu (hl:b.length<=100000) {a m:Int} (a0:0<=a) (a1:a<=b.length) (m0:0<=m):(b.length<a+m/\nn.f ⟨b,a⟩ m=some ([],.dM 6,⟨b,a⟩))∨(a+m<=b.length/\nn.f ⟨b,a⟩ m=some (aB b a (a+m),.nil,⟨b,a+m⟩)):=by
 by_cases z:b.length<a+m
 ·exact .inl ⟨z,K6 hl a0 a1 z⟩
 ·exact .inr ⟨by omega,K5 hl a0 m0 U⟩
theorem Re (hb: ∀y∈b,dQ y) (hl:b.length<=100000) {a m:Int} (a0:0<=a) (a1:a<=b.length) (m0:0<=m) (m1:m<=256):Ok (qv.f ⟨b,a⟩ m) (λr=>Lm b m r/\(r.1.length:Int)<=m):=by
 by_cases z:b.length<a+m
 ·exact Ok.of (Md hl a0 a1 z) ⟨⟨J,a0,a1,by simp,.inr (.inl J)⟩,by simpa using m0⟩
 ·have hs:=ui a0 (show a<=a+m by omega) (show a+m<=b.length by omega)
  refine Ok.of (Mc hl a0 m0 U) ⟨⟨J,by simp only;omega,by simp only;omega,by simp only;omega,?_⟩,by simp only;omega⟩
  simp only
  by_cases y:0∈aB b a (a+m)
  ·rw[ah y];exact .inl J
  ·rw[aj y];refine .inr (.inr ⟨J,by omega,λx hx=>?_⟩)
   have h8:=HU (P:=dQ) hb x hx;unfold dQ at h8;have:x≠0:=λq=>y (by rw[<-q];exact hx)
   omega
theorem ag7 (hb: ∀y∈b,dQ y) (hl:b.length<=100000) (n1:1<=n/\n<=256) (q:Int): ∀(m k:Nat) (a:Int) (x:List Int),(b.length-a).toNat<=m->m<k->0<=a->a<=b.length->(x.length:Int)<=n->(∀y∈x,1<=y/\y<=255)->
 Ok (lD.l0 k ⟨b,q⟩ n a x) (λz=>(∃e p,z= .inl ([],e,⟨b,p⟩)/\0<=p/\p<=b.length/\(e= .dM 5∨e= .dM 6))∨ ∃x' p,z= .inr (x',p)/\(x'.length:Int)=n/\0<=p/\p<=b.length/\ ∀y∈x',1<=y/\y<=255):=by
 intro m
 induction m with
 |zero=>
  intro k a x hm hk a0 a1 hx hy;obtain⟨k,rfl⟩:=bz hk;rw[lD.l0];refine Ok.ite (λz=>?_) λz=>Ok.pure (.inr ⟨x,a,J,by omega,a0,a1,hy⟩)
  rcases Pu hl a0 a1 (show(0:Int)<=2 by omega) with⟨_,e⟩ |⟨t,e⟩
  ·exact Ok.eq e (Ok.pos J (Ok.pure (.inl ⟨_,_,J,a0,a1,.inr J⟩)))
  ·omega
 |succ m ih=>
  intro k a x hm hk a0 a1 hx hy;obtain⟨k,rfl⟩:=bz hk;rw[lD.l0];refine Ok.ite (λz=>?_) λz=>Ok.pure (.inr ⟨x,a,J,by omega,a0,a1,hy⟩)
  rcases Pu hl a0 a1 (show(0:Int)<=2 by omega) with⟨_,e⟩ |⟨t,e⟩
  ·exact Ok.eq e (Ok.pos J (Ok.pure (.inl ⟨_,_,J,a0,a1,.inr J⟩)))
  ·refine Ok.eq e (Ok.neg (by simp[Er.isNil]) ?_)
   have hs:=ui a0 (show a<=a+2 by omega) t
   have r0:=fV (a:=aB b a (a+2)) (i:=0) U U;have r1:=fV (a:=aB b a (a+2)) (i:=1) U U;have u0:=HU (P:=dQ) hb _ r0;have u1:=HU (P:=dQ) hb _ r1;unfold dQ at u0 u1;simp only;generalize rd (aB b a (a+2)) 0=c at*;generalize rd (aB b a (a+2)) 1=v at*;rw[wi (x:=c) U U,wi (x:=c+1) U U,wi (x:=n-(x.length:Int)) U U,wi (x:=(x.length:Int)-1) U U];refine Ok.br U (Ok.br U ?_);refine Ok.bind (P:=λy:Bool=>y=false->v≠0/\c+1<=n-x.length) (Ok.ite (λy=>Ok.pure bd) λy=>?_) λy Kc=>?_
   ·have y: ¬(v=0∨c+1>n-x.length):=by simpa using y
    refine Ok.ite (λw=>Ok.br U (Ok.pure λ_=>by omega)) λw=>Ok.pure λ_=>by omega
   ·refine Ok.ite (λw=>Ok.pure (.inl ⟨_,_,J,by omega,by omega,.inl J⟩)) λw=>?_
    obtain⟨v0,c1⟩:=Kc (by simpa using w)
    refine Ok.eq (Hw U) (Ok.br bo (ih k (a+2) _ U U U U bo λy ad9=>?_));rcases List.mem_append.1 ad9 with w |w
    ·exact hy y w
    ·have:=List.eq_of_mem_replicate w;omega
theorem ZJ (hb: ∀y∈b,dQ y) (hl:b.length<=100000) (n1:1<=n/\n<=256):Ok (qu.f ⟨b,0⟩ n) (Lm b n):=by
 unfold qu.f;rcases Pu (b:=b) hl (dP 0) U (show(0:Int)<=1 by omega) with⟨_,e⟩ |⟨t,e⟩
 ·exact Ok.eq e (Ok.pos J (Ok.pure ⟨J,dP _,by simp only;omega,by simp,.inr (.inl J)⟩))
 refine Ok.eq e (Ok.neg (by simp[Er.isNil]) ?_)
 have hs:=ui (L:=b) (dP 0) (show(0:Int)<=0+1 by omega) t
 refine Ok.br (by simp only;omega) (Ok.ite (λz=>?_) λz=>Ok.ite (λz=>?_) λz=>Ok.ite (λz=>?_) λz=>Ok.pure ⟨J,by simp only;omega,by simp only;omega,by simp,.inl J⟩)
 ·refine(Re hb hl (a:=0+1) (m:=1) U U U U).bind λr hr=>?_
  obtain⟨⟨h1,h2,h3,h4,h5⟩,h9⟩:=hr;rcases h5 with h5 |h5 |⟨h5,h6,h7⟩
  rotate_left 2
  ·obtain⟨y,hy⟩: ∃y,r.1=[y]:=List.length_eq_one_iff.1 U;have:=h7 y (by rw[hy];exact na ..)
   rw[hy];refine Ok.eq (Hw U) (Ok.pure ⟨J,h2,h3,by simp;omega,.inr (.inr ⟨h5,by simp;omega,λx hx=>?_⟩)⟩)
   have:=List.eq_of_mem_replicate hx;omega
  all_goals
   obtain⟨x,ex,lx⟩: ∃x,kL.f r.1 n=some x/\x.length<=1000:=by
    cases uY:r.1 with
    |nil=>exact⟨_,Wg U,by simp⟩
    |cons c l=>
     rw[uY] at h9;have:l=[]:=List.length_eq_zero_iff.1 (by simp at h9;omega)
     subst this;exact⟨_,Hw U,by simp;omega⟩
   exact Ok.eq ex (Ok.pure ⟨J,h2,h3,lx,by simp[h5]⟩)
 ·refine(Re hb hl (a:=0+1) (m:=n) U U U U).bind λr hr=>Ok.pure ?_
  obtain⟨⟨h1,h2,h3,h4,h5⟩,_⟩:=hr;exact⟨J,h2,h3,h4,h5⟩
 ·unfold lD.f;refine Ok.bind (P:=Lm b n) ?_ λr hr=>Ok.pure ⟨J,hr.2.1,hr.2.2.1,hr.2.2.2.1,hr.2.2.2.2⟩
  refine(ag7 hb hl n1 (0+1) 100000 fuel (0+1) [] U (by rw[cY];omega) U U bo bd).bind λz hz=>?_
  rcases hz with⟨e',p,rfl,p0,p1,he⟩ |⟨x',p,rfl,hx,p0,p1,hy⟩
  ·exact Ok.pure ⟨J,p0,p1,by simp,he.imp id .inl⟩
  ·exact Ok.pure ⟨J,p0,p1,by simp only;omega,.inr (.inr ⟨J,hx,hy⟩)⟩
end
theorem OQ {x:Int} (h0:0<=x) (h1:x<=255): ∃v,wB.f x=some v/\1<=v/\v<=255:=by
 unfold wB.f;rw[mV h0,mV h0]
 by_cases h7:x%8=7
 ·rw[ah (by simpa using h7)];exact⟨_,J,by omega,by omega⟩
 ·rw[aj (by simpa using h7)]
  by_cases h2:x<160
  ·rw[ah h2,E7 U U];exact⟨_,J,by omega,by omega⟩
  ·rw[aj h2];exact⟨_,J,by omega,by omega⟩
theorem ae5 {c:List Int} (hc: ∀y∈c,0<=y/\y<=255) {w h:Int} (hw:1<=w/\w<=40) (hh:1<=h/\h<=40): ∀(n k:Nat) (x:List Int) (i:Int),i+n=w*h->i=x.length->n<k->(∀y∈x,1<=y/\y<=255)->
 ∃m,lE.l0 k c w h x i=some m/\m.W=w/\m.H=h/\(m.C.length:Int)=w*h/\ ∀y∈m.C,1<=y/\y<=255:=by
 have NF:w*h<=40*40:=kT U U hw.2 hh.2;have Cp:0<=w*h:=nj U U;intro n
 induction n with
 |zero=>
  intro k x i hi hx hk ha;obtain⟨k,rfl⟩: ∃q,k=q+1:=⟨k-1,by omega⟩
  rw[lE.l0,bc (x:=w*h) U U,aj U];exact⟨_,J,J,J,by simp only;omega,ha⟩
 |succ n ih=>
  intro k x i hi hx hk ha;obtain⟨k,rfl⟩: ∃q,k=q+1:=⟨k-1,by omega⟩
  rw[lE.l0,bc (x:=w*h) U U,ah U];have next: ∀v,1<=v->v<=255-> ∃m,lE.l0 k c w h (x++[v]) (af (i+1))=some m/\m.W=w/\m.H=h/\(m.C.length:Int)=w*h/\ ∀y∈m.C,1<=y/\y<=255:=by
   intro v v0 v1;rw[bc U U];refine ih k _ (i+1) U bo U (λy hy=>?_);rw[List.mem_append] at hy;rcases hy with hy |hy
   ·exact ha y hy
   ·simp at hy;omega
  by_cases hz:(c.length:Int)>0
  ·have bI: ¬(c.length:Int)=0:=U;rw[ah hz,ah bI,ah bI];have xK:0<=af (i+af (af (cZ i c.length)*5)):=by
    have hd:0<=i/c.length/\i/c.length<=i:=⟨Int.ediv_nonneg U U,Int.ediv_le_self _ U⟩;rw[pZ U,bc (x:=i/_) U U,bc (x:=_*5) U U,bc U U];omega
   have r0:0<=fy (af (i+af (af (cZ i c.length)*5))) c.length:=by rw[mV xK];exact Int.emod_nonneg _ U
   have r1:fy (af (i+af (af (cZ i c.length)*5))) c.length<c.length:=by rw[mV xK];exact Ax _ U
   rw[ah ⟨r0,r1⟩];have lQ:=sG (a:=c) r0 r1;obtain⟨q0,q1⟩:=hc _ lQ;obtain⟨v,e,v0,v1⟩:=OQ q0 q1;rw[e,aM,ah U];exact next v v0 v1
  ·rw[aj hz];obtain⟨v,e,v0,v1⟩:=OQ (x:=1) U U;rw[e,aM,ah U];exact next v v0 v1
theorem ae4 (w h:Int) {c:List Int} (hc: ∀y∈c,0<=y/\y<=255): ∃m,lE.f w h c=some m/\nz m/\m.W<=40/\m.H<=40/\ ∀y∈m.C,1<=y/\y<=255:=by
 unfold lE.f;have h1:=PM (n:=w) (lo:=1) (hi:=40) U;have h2:=PM (n:=h) (lo:=1) (hi:=40) U;rw[PL U U U U,PL U U U U];simp only[aM];generalize 1+w%(40-1+1)=a at h1⊢;generalize 1+h%(40-1+1)=b at h2⊢;have NF:a*b<=40*40:=kT U U h1.2 h2.2;have Cp:0<=a*b:=nj U U;obtain⟨m,e,e1,e2,e3,e4⟩:=ae5 hc h1 h2 (a*b).toNat fuel [] 0 U bd (by rw[r7];omega) bd
 refine⟨m,e,⟨⟨by omega,by omega,by omega,by omega⟩,by rw[e1,e2];exact e3,λh0=>?_⟩,by omega,by omega,e4⟩
 have:=e4 0 h0;omega
section
theorem abi {b:List Int} (hb: ∀y∈b,dQ y) (hl:b.length<=100000) {w h:Int} (hw:1<=w/\w<=16) (hh:1<=h/\h<=16):
 Ok (pN.f b w h) (λr=>(r.2.2=2∨r.2.2=3)∨(r.2.2=0/\r.1.W=w/\r.1.H=h/\(r.1.C.length:Int)=w*h/\(∀y∈r.1.C,1<=y/\y<=255)/\0<=r.2.1/\r.2.1<=b.length)):=by
 have hn:1*1<=w*h:=kT U U hw.1 hh.1;have Gx:w*h<=16*16:=kT U U hw.2 hh.2;have GF:af (w*h)=w*h:=wi U U;obtain⟨⟨x,e,rr⟩,hr,h1,h2,h3,h4,h5⟩:=ZJ hb hl (n:=w*h) U;simp only at h1 h2 h3 h4 h5;obtain⟨rb,p⟩:=rr;simp only at h1 h2 h3;subst h1;rcases h5 with rfl |rfl |⟨rfl,h6,h7⟩
 ·exact Ok.of (abj hw hh GF U hr) (.inl (.inr J))
 ·exact Ok.of (RV hw hh GF U hr) (.inl (.inl J))
 ·have ht:rS ⟨w,h,x⟩:=⟨hw.1,hw.2,hh.1,hh.2,h6,λq=>by have:=h7 0 q;omega⟩
  obtain⟨L,f,out,e,_⟩:=Vu ht;refine Ok.of (RU hw hh GF U ⟨h2,h3⟩ hr e) ?_;split
  ·exact .inr ⟨J,J,J,h6,h7,h2,h3⟩
  ·exact .inl (.inr J)
theorem Qf:zh.f .nil=some none:=rfl
theorem Qg (n:Int):zh.f (.num 243 n)=some (some n):=rfl
theorem Ys (q n:Int):zh.f (.wrap 301 [q] (.num 243 n))=some (some n):=rfl
theorem agF {w h:Int} (NG:iF w h) {b:List Int} (hw:rd b 0+256*rd b 1=w) (hh:rd b 2+256*rd b 3=h) (u0:dQ (rd b 0)) (u1:dQ (rd b 1)) (u2:dQ (rd b 2)) (u3:dQ (rd b 3)):
 ∀(n k:Nat) (i:Int) (r x:List Int),i+n=dB w h->0<=i->n<k->(∀y∈r,dQ y)->r.length<=100000->(x.length:Int)=w*h->
 (∀c,0<=c->c<w*h->(∃s,0<=s/\s<i/\bC w h s/\oR w h s c)->1<=rd x c/\rd x c<=255)->
 Ok (mB.l0 k b (dB w h) r x i) (λres=>(∃e c,res=(⟨0,0,[]⟩,e)/\zh.f e=some (some c)/\(c=2∨c=3))∨ ∃x',res=(⟨w,h,x'⟩,.nil)/\(x'.length:Int)=w*h/\ ∀c,0<=c->c<w*h->1<=rd x' c/\rd x' c<=255):=by
 have ja:=nP w h;intro n
 induction n with
 |zero=>
  intro k i r x hi i0 hk hr GB hx ha;obtain⟨k,rfl⟩:=bz hk;rw[mB.l0,uV u0 u1,uV u2 u3,hw,hh,aj U];refine Ok.ite (λhz=>Ok.pure (.inl ⟨_,3,J,J,.inr J⟩)) λhz=>Ok.pure (.inr ⟨x,J,hx,λc c0 c1=>?_⟩);obtain⟨s,s1,s2⟩:=Wx (w:=w) (h:=h) (c:=c) ⟨NG,c0,c1⟩;exact ha c c0 c1 ⟨s,s1.1,by have:=s1.2;omega,s1,s2⟩
 |succ n ih=>
  intro k i r x hi i0 hk hr GB hx ha;obtain⟨k,rfl⟩:=bz hk;have hs:bC w h i:=⟨i0,by omega⟩
  have hz:=pV hs;rw[mB.l0,uV u0 u1,uV u2 u3,hw,hh];refine Ok.pos U (Ok.eq (ER ..) ((abi hr GB ⟨hz.1,hz.2.1⟩ ⟨hz.2.2.1,hz.2.2.2⟩).bind λres NT=>?_));rcases NT with q |⟨q1,tW,tH,tC,tB,p0,p1⟩
  ·exact Ok.pos (by rcases q with q |q<;>simp[q]) (Ok.pure (.inl ⟨_,res.2.2,rfl,Ys _ _,q⟩))
  ·obtain⟨x1,f1,f2,f3⟩:=UD hs (t:=res.1) tW tH tC (x:=x) hx;have sl:=ui (L:=r) (lo:=res.2.1) (hi:=(r.length:Int)) p0 p1 U;rw[wi (x:=i+1) U U];refine Ok.neg (by simp[q1]) (Ok.eq f1 (Ok.br U (ih k (i+1) _ x1 U U U (HU hr) U f2 λc c0 c1 ⟨s,s0,s1,s2,s3⟩=>?_)))
   rw[f3 c c0 c1]
   by_cases z:oR w h i c
   ·rw[ah z];have ND:=Og hs z;exact tB _ (sG ND.1 U)
   ·rw[aj z];refine ha c c0 c1 ⟨s,s0,?_,s2,s3⟩;have:s≠i:=λq=>z (by rw[<-q];exact s3)
    omega
theorem Yf {b:List Int} (hb: ∀y∈b,dQ y) (hl:b.length<=100000):Ok (tj.f b) (λr=>(r.2=2∨r.2=3)∨(r.2=0/\nz r.1/\(∀c:Int,0<=c->c<r.1.W*r.1.H->1<=rd r.1.C c/\rd r.1.C c<=255)/\r.1.W=rd b 0+256*rd b 1/\r.1.H=rd b 2+256*rd b 3)):=by
 unfold tj.f mB.f
 by_cases h4:(b.length:Int)<4
 ·rw[ah h4];exact Ok.eq J (Ok.eq (Qg 2) (Ok.pos J (Ok.pure (.inl (.inl J)))))
 have u0:dQ (rd b 0):=hb _ (sG U U);have u1:dQ (rd b 1):=hb _ (sG U U);have u2:dQ (rd b 2):=hb _ (sG U U);have u3:dQ (rd b 3):=hb _ (sG U U);rw[aj h4,ah (show 0<=(0:Int)/\(0:Int)<(b.length:Int) by omega),ah (show 0<=(1:Int)/\(1:Int)<(b.length:Int) by omega),ah (show 0<=(2:Int)/\(2:Int)<(b.length:Int) by omega),ah (show 0<=(3:Int)/\(3:Int)<(b.length:Int) by omega),uV u0 u1,uV u2 u3,zH,aM]
 generalize hw:rd b 0+256*rd b 1=w;generalize hh:rd b 2+256*rd b 3=h
 by_cases hm:iF w h
 ·have hp:=pJ hm;have hc:=nP w h;rw[decide_eq_true hm,aj bd,ah (show 0<=(4:Int)/\(4:Int)<=(b.length:Int)/\(b.length:Int)<=(b.length:Int) by omega),bc (x:=w*h) U U,ah (show 0<=w*h/\w*h<=1099511627776 by omega)]
  have e:AA.f w h=some (dB w h):=by
   unfold AA.f;rw[Di,aM];have e:(bn w h).1*(bn w h).2=dB w h:=rfl;rw[e,wi U U]
  rw[e,aM];have sl:=ui (L:=b) (lo:=4) (hi:=(b.length:Int)) U U U;refine(agF hm hw hh u0 u1 u2 u3 (dB w h).toNat fuel 0 (aB b 4 (b.length:Int)) (ct (w*h).toNat 0) U U (by rw[cY];omega) (HU hb) U bo (λc _ _ ⟨s,s0,s1,_⟩=>by omega)).bind λres NT=>?_
  rcases NT with⟨e',c,rfl,h1,h2⟩ |⟨x',rfl,xl,xb⟩
  ·exact Ok.eq h1 (Ok.pos J (Ok.pure (.inl h2)))
  ·refine Ok.eq Qf (Ok.neg bd (Ok.pure (.inr ⟨J,⟨hm,xl,λq=>?_⟩,xb,J,J⟩)));obtain⟨c,c0,c1,e⟩:=qq q;have:=xb c c0 (by simp only at c1;omega)
   simp only at e;rw[e] at this;omega
 ·rw[decide_eq_false hm,ah bd];exact Ok.eq J (Ok.eq (Qg 3) (Ok.pos J (Ok.pure (.inl (.inr J)))))
theorem OS (w h:Int) {c:List Int} (hc: ∀y∈c,dQ y): ∃m,lE.f w h c=some m/\sV m/\m.W<=40/\m.H<=40:=by
 obtain⟨m,e,ok,w40,h40,hb⟩:=ae4 w h (c:=c) (λy hy=>by have:=hc y hy;unfold dQ at this;omega)
 exact⟨m,e,⟨ok,hb⟩,w40,h40⟩
end
end Go.Proofs.YthodkonhneebbaaGreatDoor
