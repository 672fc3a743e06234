/- What the functions do, in plain Lean, on the objects that are kept in order. -/
import Derived.Test.YthodkonhneebbaaGreatDoorKF15
import Derived.Test.YthodkonhneebbaaGreatDoorKF11
import Derived.Test.YthodkonhneebbaaGreatDoorKF12
import Derived.Test.YthodkonhneebbaaGreatDoorKF14
import Derived.Test.YthodkonhneebbaaGreatDoorKF6
import Derived.Test.YthodkonhneebbaaGreatDoorKF5
import Derived.Test.YthodkonhneebbaaGreatDoorKF13
namespace Go.Proofs.YthodkonhneebbaaGreatDoor
open Go.Hx
set_option linter.unusedVariables false
set_option linter.unusedSimpArgs false
abbrev dI:Int:=2147483647
abbrev RB:Int:=104538400
def qO (f:Int->Int):Nat->Int
 |0=>0
 |n+1=>qO f n+f n
theorem Wy {f:Int->Int} {B:Int}: ∀(n:Nat),(∀i:Int,0<=i->i<n->f i<=B)->qO f n<=n*B
 |0,_=>by simp[qO]
 |n+1,h=>by
  have:=Wy n (λi a b=>h i a U);have:=h n U U;rw[qO,Int.natCast_add,Int.add_mul,Int.natCast_one,Int.one_mul];omega
theorem Wz {f:Int->Int}: ∀(n:Nat),(∀i:Int,0<=i->i<n->0<=f i)->0<=qO f n
 |0,_=>Int.le_refl _
 |n+1,h=>by
  have:=Wz n (λi a b=>h i a U);have:=h n U U;rw[qO];omega
theorem Ww {f f':Int->Int}: ∀(n:Nat),(∀i:Int,0<=i->i<n->f' i=f i)->qO f' n=qO f n
 |0,_=>rfl
 |n+1,h=>by rw[qO,qO,Ww n (λi a b=>h i a U),h n U U]
theorem Wx {f f':Int->Int} {c:Int}: ∀(n:Nat),0<=c->c<n->f' c+1<=f c->(∀i:Int,0<=i->i<n->i≠c->f' i=f i)->qO f' n+1<=qO f n
 |0,h0,h1,_,_=>by omega
 |n+1,h0,h1,hd,he=>by
  rw[qO,qO]
  by_cases z:c=n
  ·subst z;rw[Ww n (λi a b=>he i a U U)];omega
  ·have:=Wx n h0 U hd (λi a b=>he i a U);rw[he n U U (λy=>z y.symm)];omega
theorem LW {p q:Int->Bool}: ∀{n:Nat},(∀i:Int,0<=i->i<n->p i=true->q i=true)->eG p n<=eG q n
 |0,_=>Nat.le_refl _
 |n+1,h=>by
  have:=LW (p:=p) (q:=q) (n:=n) (λi a b=>h i a U);unfold eG;have h':=h n U U
  cases hp:p n
  ·simp;omega
  ·rw[h' hp];simp;omega
theorem QL {p q:Int->Bool} {c:Int}: ∀{n:Nat},0<=c->c<n->p c=false->q c=true->(∀i:Int,0<=i->i<n->p i=true->q i=true)->eG p n+1<=eG q n
 |0,h0,h1,_,_,_=>by omega
 |n+1,h0,h1,hp,hq,he=>by
  unfold eG
  by_cases z:c=n
  ·subst z;have:=LW (p:=p) (q:=q) (n:=n) (λi a b=>he i a U);rw[hp,hq];simp;omega
  ·have:=QL (n:=n) h0 U hp hq (λi a b=>he i a U);have h':=he n U U
   cases hp':p n
   ·simp;omega
   ·rw[h' hp'];simp;omega
def yV (D:List Int) (v:Int):Nat:=eG (λc=>decide (rd D c<v)) D.length
def nC (D:List Int):Int:=qO (λc=>min (rd D c) (RB+1)) D.length
section
variable {g : bw} {more : Int} {M : dH} {goal : Int} {im : List (Int × Int)}
def Pv (g:bw) (goal:Int) (im:List (Int×Int)) (D:List Int) (c d:Int):Prop:=
 (c∈bH g.m (aY g.m.W g.m.H goal)/\bM im c=true/\aP im c=d)∨ ∃b e,node g.m b/\rd D b≠dI/\Comes g.m b e/\e.To=c/\rd D b+e.kI<=d
structure Rt (g:bw) (goal:Int) (im:List (Int×Int)) (D:List Int) (l:List dG) (x:Int):Prop where
 len_:(D.length:Int)=g.m.W*g.m.H
 dv: ∀c:Int,0<=c->c<D.length->rd D c≠dI->node g.m c/\0<=rd D c/\rd D c<=500000+65024*(yV D (rd D c):Int)/\Pv g goal im D c (rd D c)
 hp: ∀e∈l,node g.m e.item/\rd D e.item≠dI/\rd D e.item<=e.key
 rel: ∀c,node g.m c->c≠x->rd D c≠dI->⟨rd D c,c⟩∈l∨ ∀e,Comes g.m c e->rd D e.To≠dI/\rd D e.To<=rd D c+e.kI
theorem VO (D:List Int) (v:Int):yV D v<=D.length:=Ft _ _
theorem Rt.bound {D:List Int} {l:List dG} {x:Int} (hN:g.m.W*g.m.H<=1600) (h:Rt g goal im D l x) {c:Int} (c0:0<=c) (c1:c<D.length) (hc:rd D c≠dI):0<=rd D c/\rd D c<=RB:=by
 have yq:RB=104538400:=rfl;obtain⟨_,a,b,_⟩:=h.dv c c0 c1 hc;have:=VO D (rd D c);have:=h.len_;omega
theorem vt (h:dE g more) {D:List Int} (hl:(D.length:Int)=g.m.W*g.m.H) {c:Int} (hc:node g.m c):0<=c/\c<D.length:=by
 have:=(Cq hc).2;rw[hl];exact this
theorem Vf {D D':List Int} (hd: ∀b,node g.m b->rd D b≠dI->rd D' b≠dI/\rd D' b<=rd D b) {c d:Int} (h:Pv g goal im D c d):Pv g goal im D' c d:=by
 rcases h with z |⟨b,e,h1,h2,h3,h4,h5⟩
 ·exact .inl z
 ·have:=hd b h1 h2;exact .inr ⟨b,e,h1,this.1,h3,h4,by omega⟩
theorem agm {D:List Int} (hD: ∀c:Int,0<=c->c<D.length->0<=rd D c):0<=nC D/\nC D<=D.length*(RB+1):=by
 refine⟨Wz _ λi a b=>?_,Wy _ λi a b=>by omega⟩
 have:=hD i a b;have yq:RB=104538400:=rfl;omega
theorem VP (h:dE g more) (hN:g.m.W*g.m.H<=1600) {D:List Int} {l:List dG} {x:Int} (hr:Rt g goal im D l x) (hlen:l.length+2*nC D<1000000000000) {v nd ge:Int} (gg ep:Int) (hv:node g.m v) (hx:v≠x) (n0:0<=nd) (n1:nd<=500000+65024*(yV D nd:Int)) (hp:Pv g goal im D v nd):
 Ok (sO.f ⟨gg,ep,D⟩ v nd) (λr=>(r=(false,⟨gg,ep,D⟩)/\rd D v≠dI/\rd D v<=nd)∨ ∃D',r=(true,⟨gg,ep,D'⟩)/\nC D'+1<=nC D/\rd D' v=nd/\(∀c:Int,0<=c->c≠v->rd D' c=rd D c)/\nd<rd D v/\D'.length=D.length/\
  ∀l':List dG,(∀e,e∈l'↔e∈l∨e=⟨nd,v⟩)->Rt g goal im D' l' x):=by
 have hF:dI=2147483647:=rfl;have yq:RB=104538400:=rfl;have An:=vt h hr.len_ hv;have hrk:=VO D nd;have BR:=hr.len_;have hvb:rd D v=dI∨(0<=rd D v/\rd D v<=RB):=by
  by_cases z:rd D v=dI
  ·exact .inl z
  ·exact .inr (hr.bound hN An.1 An.2 z)
 unfold sO.f;simp only;rw[af An,wi U U];refine Ok.ite (λq=>Ok.pure (.inl ⟨J,by omega,by omega⟩)) λq=>?_
 rw[TW U U];have dN: ∀c:Int,0<=c->rd (List.set D v.toNat nd) c=if c=v then nd else rd D c:=λc c0=>kX An.1 An.2 c0
 have DU:rd (List.set D v.toNat nd) v=nd:=by rw[dN v An.1,af J]
 have hle: ∀c:Int,0<=c->rd (List.set D v.toNat nd) c<=rd D c:=λc c0=>by
  rw[dN c c0];split
  ·rename_i z;rw[z];omega
  ·omega
 have hnf: ∀c:Int,0<=c->rd D c≠dI->rd (List.set D v.toNat nd) c≠dI:=λc c0 hc=>by
  rw[dN c c0];split
  ·omega
  ·exact hc
 have Jy: ∀b,node g.m b->rd D b≠dI->rd (List.set D v.toNat nd) b≠dI/\rd (List.set D v.toNat nd) b<=rd D b:=λb hb hf=>by
  have:=vt h hr.len_ hb;exact⟨hnf b this.1 hf,hle b this.1⟩
 have TE: ∀w,yV D w<=yV (List.set D v.toNat nd) w:=λw=>by
  unfold yV;rw[List.length_set];refine LW λi a b c=>?_
  have:=hle i a;simp only[decide_eq_true_iff] at c⊢;omega
 refine Ok.pure (.inr ⟨_,J,?_,DU,λc c0 hc=>by rw[dN c c0,ah hc],by omega,by simp,λl' Ah=>?_⟩)
 ·unfold nC;rw[List.length_set];refine Wx D.length An.1 An.2 ?_ λi a b hi=>?_
  ·rw[DU];omega
  ·rw[dN i a,ah hi]
 ·refine⟨by simpa using hr.len_,λc c0 c1 hc=>?_,λe he=>?_,λc hc wN hf=>?_⟩
  ·rw[List.length_set] at c1
   by_cases z:c=v
   ·subst z;rw[DU];have:=TE nd;exact⟨hv,n0,by omega,Vf Jy hp⟩
   ·rw[dN c c0,ah z] at hc⊢;obtain⟨a1,a2,a3,a4⟩:=hr.dv c c0 c1 hc;have:=TE (rd D c);exact⟨a1,a2,by omega,Vf Jy a4⟩
  ·rcases(Ah e).1 he with z |rfl
   ·obtain⟨b1,b2,b3⟩:=hr.hp e z;have:=Jy _ b1 b2;exact⟨b1,this.1,by omega⟩
   ·exact⟨hv,by simp only;rw[DU];omega,by simp only;rw[DU];omega⟩
  ·have FV:=vt h hr.len_ hc
   by_cases z:c=v
   ·subst z;rw[DU];exact .inl ((Ah _).2 (.inr J))
   ·rw[dN c FV.1,ah z] at hf⊢;rcases hr.rel c hc wN hf with y |y
    ·exact .inl ((Ah _).2 (.inl y))
    ·refine .inr λe he=>?_
     obtain⟨q1,q2⟩:=y e he;have:=Jy _ (LX h hc he).1 q1;exact⟨this.1,by omega⟩
theorem CE (hN:g.m.W*g.m.H<=1600) {D:List Int} {l:List dG} {x:Int} (hr:Rt g goal im D l x):0<=nC D/\nC D<=200000000000:=by
 have hF:dI=2147483647:=rfl;have yq:RB=104538400:=rfl;have hl:=hr.len_;have:=agm (D:=D) λc c0 c1=>by
  by_cases z:rd D c=dI
  ·omega
  ·exact(hr.bound hN c0 c1 z).1
 have:(D.length:Int)*(RB+1)<=1600*(RB+1):=Int.mul_le_mul_of_nonneg_right U U;omega
theorem ahF (h:dE g more) (hN:g.m.W*g.m.H<=1600) (gg ep gl:Int) {b key:Int} (hb:node g.m b) (E:List dU) (hE: ∀e∈E,Comes g.m b e) (hEb:E.length<=260): ∀(n k:Nat) (D:List Int) (l:List dG) (i:Int),(E.length-i).toNat<=n->n<k->0<=i->i<=E.length->Rt g goal im D l b->rd D b=key->key≠dI->l.length+2*nC D+(E.length-i)<1000000000000->
 (∀j:Int,0<=j->j<i->rd D (rd E j).To≠dI/\rd D (rd E j).To<=key+(rd E j).kI)->
 Ok (fQ.l2 k gl key E gg ep D l i) (λr=>r.1=gg/\r.2.1=ep/\Rt g goal im r.2.2.1 r.2.2.2 b/\rd r.2.2.1 b=key/\r.2.2.2.length+2*nC r.2.2.1<=l.length+2*nC D/\(∀e∈E,rd r.2.2.1 e.To≠dI/\rd r.2.2.1 e.To<=key+e.kI)/\ ∀c,node g.m c->rd D c≠dI->rd r.2.2.1 c≠dI/\rd r.2.2.1 c<=rd D c):=by
 have hF:dI=2147483647:=rfl;have yq:RB=104538400:=rfl;have fin: ∀(k:Nat) (D:List Int) (l:List dG) (i:Int),¬i<E.length->Rt g goal im D l b->rd D b=key->(∀j:Int,0<=j->j<i->rd D (rd E j).To≠dI/\rd D (rd E j).To<=key+(rd E j).kI)->
  Ok (fQ.l2 (k+1) gl key E gg ep D l i) (λr=>r.1=gg/\r.2.1=ep/\Rt g goal im r.2.2.1 r.2.2.2 b/\rd r.2.2.1 b=key/\r.2.2.2.length+2*nC r.2.2.1<=l.length+2*nC D/\(∀e∈E,rd r.2.2.1 e.To≠dI/\rd r.2.2.1 e.To<=key+e.kI)/\ ∀c,node g.m c->rd D c≠dI->rd r.2.2.1 c≠dI/\rd r.2.2.1 c<=rd D c):=λk D l i hi hr hk ha=>by
  rw[fQ.l2,ah hi];refine Ok.pure ⟨J,J,hr,hk,Int.le_refl _,λe he=>?_,λc _ hc=>⟨hc,Int.le_refl _⟩⟩
  obtain⟨j,j0,j1,rfl⟩:=jK he;exact ha j j0 U
 intro n
 induction n with
 |zero=>
  intro k D l i hn hk hi dZ hr j3 Ag hlen ha;obtain⟨k,rfl⟩:=bl hk;exact fin k D l i U hr j3 ha
 |succ n ih=>
  intro k D l i hn hk hi dZ hr j3 Ag hlen ha;obtain⟨k,rfl⟩:=bl hk
  by_cases aQ:i<E.length
  ·have jh:=dS hi aQ;have u7:=hE _ jh;obtain⟨c1,c2,c3,c4⟩:=LX h hb u7;have tK:=vt h hr.len_ hb;obtain⟨d1,d2,d3,d4⟩:=hr.dv b tK.1 tK.2 (by rw[j3];exact Ag)
   have FT:=hr.bound hN tK.1 tK.2 (by rw[j3];exact Ag)
   rw[j3] at d2 d3 d4 FT;have MA:KT=65024:=rfl;have DS:=CE hN hr;have hrk:yV D key+1<=yV D (key+(rd E i).kI):=by
    unfold yV;refine QL tK.1 tK.2 (by rw[j3];simp) (by rw[j3];simp;omega) λc _ _ hc=>?_
    simp only[decide_eq_true_iff] at hc⊢;omega
   rw[fQ.l2,wi (x:=key+(rd E i).kI) U U,wi (x:=i+1) U U];refine Ok.pos aQ (Ok.cw ⟨hi,aQ⟩ ((VP (ge:=0) h hN hr U gg ep c1 c2 U U (.inr ⟨b,_,hb,by rw[j3];exact Ag,u7,J,by rw[j3];omega⟩)).bind λr ve=>?_))
   rcases ve with⟨rfl,z1,z2⟩ |⟨D',rfl,z1,z2,z3,z4,z5,z6⟩
   ·refine Ok.neg bk (ih k D l (i+1) U U U U hr j3 Ag U λj j0 j1=>?_)
    by_cases z:j=i
    ·subst z;exact⟨z1,z2⟩
    ·exact ha j j0 U
   ·refine Ok.pos J ((Km ⟨l⟩ _ _ (by simp only;omega)).bind λq hq=>?_)
    have NA:=z6 q.l hq.2;have jv:rd D' b=key:=by rw[z3 b tK.1 (λy=>c2 y.symm),j3]
    have F9:=hq.1;simp only at F9;refine(ih k D' q.l (i+1) U U U U NA jv Ag U λj j0 j1=>?_).mono λr BZ=>⟨BZ.1,BZ.2.1,BZ.2.2.1,BZ.2.2.2.1,by have:=BZ.2.2.2.2.1;omega,BZ.2.2.2.2.2.1,λc hc qu=>?_⟩
    rotate_left
    ·have FV:=vt h hr.len_ hc;have hd:rd D' c≠dI/\rd D' c<=rd D c:=by
      by_cases y:c=(rd E i).To
      ·rw[y,z2];rw[y] at qu;have:=hr.bound hN (y▸FV.1) (y▸FV.2) qu;exact⟨by omega,by omega⟩
      ·rw[z3 c FV.1 y];exact⟨qu,Int.le_refl _⟩
     have:=BZ.2.2.2.2.2.2 c hc hd.1;exact⟨this.1,by omega⟩
    by_cases y:(rd E j).To=(rd E i).To
    ·rw[y,z2]
     by_cases z:j=i
     ·subst z;exact⟨by omega,Int.le_refl _⟩
     ·have w:=(ha j j0 U).2;rw[y] at w;exact⟨by omega,by omega⟩
    ·have hj:=LX h hb (hE _ (dS j0 (show j<E.length by omega)))
     have:=vt h hr.len_ hj.1;rw[z3 _ this.1 y];refine ha j j0 ?_;have:j≠i:=λz=>y (by rw[z])
     omega
  ·exact fin k D l i aQ hr j3 ha
structure ER (g:bw) (goal:Int) (im:List (Int×Int)) (D:List Int):Prop where
 len_:(D.length:Int)=g.m.W*g.m.H
 dv: ∀c:Int,0<=c->c<D.length->rd D c≠dI->node g.m c/\0<=rd D c/\rd D c<=RB/\Pv g goal im D c (rd D c)
 rel: ∀c,node g.m c->rd D c≠dI-> ∀e,Comes g.m c e->rd D e.To≠dI/\rd D e.To<=rd D c+e.kI
 sd: ∀c∈bH g.m (aY g.m.W g.m.H goal),bM im c=true->rd D c≠dI/\rd D c<=aP im c
theorem Wc (h:dE g more) (hN:g.m.W*g.m.H<=1600) (hF':qe g M) (gg ep gl:Int): ∀(n k:Nat) (D:List Int) (l:List dG) (key b:Int) (ok:Bool),(l.length+2*nC D+(if ok then 1 else 0)).toNat<=n->n<k->l.length+2*nC D<999999990000->
 (ok=true->Rt g goal im D (⟨key,b⟩::l) (-1))->(ok=false->l=[]/\Rt g goal im D [] (-1))->(∀c∈bH g.m (aY g.m.W g.m.H goal),bM im c=true->rd D c≠dI/\rd D c<=aP im c)->
 Ok (fQ.l1 k gl M g gg ep D l key b ok) (λr=> ∃D',r=some ⟨gg,ep,D'⟩/\ER g goal im D'):=by
 have My:dI=2147483647:=rfl;have yq:RB=104538400:=rfl;have fin: ∀(k:Nat) (D:List Int) (l:List dG) (key b:Int) (ok:Bool),ok=false->Rt g goal im D [] (-1)->(∀c∈bH g.m (aY g.m.W g.m.H goal),bM im c=true->rd D c≠dI/\rd D c<=aP im c)->Ok (fQ.l1 (k+1) gl M g gg ep D l key b ok) (λr=> ∃D',r=some ⟨gg,ep,D'⟩/\ER g goal im D'):=λk D l key b ok vc hr hs=>by
  subst vc;rw[fQ.l1];refine Ok.neg bk (Ok.pure ⟨D,J,hr.len_,λc c0 c1 hc=>?_,λc hc hf e he=>?_,hs⟩)
  ·obtain⟨a,b,_,d⟩:=hr.dv c c0 c1 hc;exact⟨a,b,(hr.bound hN c0 c1 hc).2,d⟩
  ·have:=vt h hr.len_ hc;exact((hr.rel c hc U hf).resolve_left bk) e he
 intro n
 induction n with
 |zero=>
  intro k D l key b ok hn hk hlen hp hf hs;obtain⟨k,rfl⟩:=bl hk
  cases ok
  ·exact fin k D l key b false J (hf J).2 hs
  ·have:=CE hN (hp J);simp only[if_true] at hn;omega
 |succ n ih=>
  intro k D l key b ok hn hk hlen hp hf hs;obtain⟨k,rfl⟩:=bl hk
  cases ok
  ·exact fin k D l key b false J (hf J).2 hs
  have hr:=hp J;simp only[if_true] at hn;have hph:=CE hN hr;obtain⟨b1,b2,b3⟩:=hr.hp ⟨key,b⟩ (List.mem_cons_self ..);simp only at b1 b2 b3;have tK:=vt h hr.len_ b1;have FT:=hr.bound hN tK.1 tK.2 b2;rw[fQ.l1];refine Ok.pos J (Ok.bind (P:=λr=>r.1=gg/\r.2.1=ep/\Rt g goal im r.2.2.1 r.2.2.2 (-1)/\r.2.2.2.length+2*nC r.2.2.1<=l.length+2*nC D/\ ∀c∈bH g.m (aY g.m.W g.m.H goal),bM im c=true->rd r.2.2.1 c≠dI/\rd r.2.2.1 c<=aP im c) (Ok.cw tK ?_) λr ve=>?_)
  ·rw[wi U U];refine Ok.ite (λq=>Ok.pure ⟨J,J,⟨hr.len_,hr.dv,λe he=>hr.hp e (List.mem_cons_of_mem _ he),λc hc wN qu=>?_⟩,Int.le_refl _,hs⟩) λq=>?_
   ·rcases hr.rel c hc wN qu with y |y
    ·rcases List.mem_cons.1 y with y |y
     ·simp only[dG.mk.injEq] at y;rw[y.2] at y;omega
     ·exact .inl y
    ·exact .inr y
   ·have j3:rd D b=key:=U;have Ga:Rt g goal im D l b:=⟨hr.len_,hr.dv,λe he=>hr.hp e (List.mem_cons_of_mem _ he),λc hc wN qu=>by
     have:=vt h hr.len_ hc;rcases hr.rel c hc U qu with y |y
     ·rcases List.mem_cons.1 y with y |y
      ·simp only[dG.mk.injEq] at y;exact absurd y.2 wN
      ·exact .inl y
     ·exact .inr y⟩
    refine(aer h hF' b).bind λE hE=>?_
    obtain⟨hE1,FD⟩:=hE;have RR:=(FD.resolve_right λz=>z.1 b1).2;refine(ahF h hN gg ep gl b1 E (λe he=>(RR e).1 he) hE1 260 fuel D l 0 U (by rw[cM];omega) U U Ga j3 U U (λj j0 j1=>by omega)).mono λr NA=>?_
    obtain⟨s1,s2,s3,s4,s5,s6,s7⟩:=NA;refine⟨s1,s2,⟨s3.len_,s3.dv,s3.hp,λc hc wN qu=>?_⟩,s5,λc hc hm=>?_⟩
    ·by_cases z:c=b
     ·subst z;exact .inr λe he=>by rw[s4];exact s6 e ((RR e).2 he)
     ·exact s3.rel c hc z qu
    ·have w:=hs c hc hm;have:=s7 c (Kb hc) w.1;exact⟨this.1,by omega⟩
  ·obtain⟨q1,q2,q3,q4,q5⟩:=ve;obtain⟨r1,r2,D',l'⟩:=r;simp only at q1 q2 q3 q4 q5⊢;subst q1;subst q2;have ajr:=CE hN q3;refine(Ki ⟨l'⟩ (by simp only;omega)).bind λv hv=>?_
   rcases hv with⟨e1,e2⟩ |⟨e1,e2,e3,e4,e5,e6⟩
   ·simp only at e1;subst e1;subst e2;exact ih k D' [] 0 0 false (by simp only[List.length_nil] at*;simp;omega) U (by simp;simp at q4;omega) bk (λ_=>⟨J,q3⟩) q5
   ·simp only at e1 e3 e4 e5 e6;rw[e2];refine ih k D' v.2.2.2.l v.1 v.2.1 true (by simp only[if_true];omega) U U (λ_=>?_) bk q5
    rw[e3];have h0:=dS (a:=l') (i:=0) U (by have:=List.length_pos_iff.2 e1;omega)
    refine⟨q3.len_,q3.dv,λe he=>?_,λc hc wN qu=>?_⟩
    ·rcases List.mem_cons.1 he with rfl |he
     ·exact q3.hp _ h0
     ·exact q3.hp e (e5 e he)
    ·rcases q3.rel c hc wN qu with y |y
     ·refine .inl ?_;rcases e6 _ y with z |z
      ·rw[z];exact List.mem_cons_self ..
      ·exact List.mem_cons_of_mem _ z
     ·exact .inr y
end
section
variable {g : bw} {more : Int} {M : dH} {goal : Int} {im : List (Int × Int)}
theorem ahE (h:dE g more) (hN:g.m.W*g.m.H<=1600) (hF:qe g M) (Ju: ∀c,bM im c=true->0<=aP im c/\aP im c<=500000) (gg ep:Int) (L:List Int) (hL:L=bH g.m (aY g.m.W g.m.H goal)): ∀(n k:Nat) (D:List Int) (l:List dG) (i:Int),(L.length-i).toNat<=n->n<k->0<=i->i<=L.length->Rt g goal im D l (-1)->l.length+2*nC D+(L.length-i)<999999990000->
 (∀j:Int,0<=j->j<i->bM im (rd L j)=true->rd D (rd L j)≠dI/\rd D (rd L j)<=aP im (rd L j))->
 Ok (fQ.l0 k goal M g im L gg ep D l i) (λr=> ∃D',r=some ⟨gg,ep,D'⟩/\ER g goal im D'):=by
 have My:dI=2147483647:=rfl;have hlN:L.length<=256:=by rw[hL];exact vu ..
 have fin: ∀(k:Nat) (D:List Int) (l:List dG) (i:Int),¬i<L.length->Rt g goal im D l (-1)->l.length+2*nC D<999999990000->(∀j:Int,0<=j->j<i->bM im (rd L j)=true->rd D (rd L j)≠dI/\rd D (rd L j)<=aP im (rd L j))->
  Ok (fQ.l0 (k+1) goal M g im L gg ep D l i) (λr=> ∃D',r=some ⟨gg,ep,D'⟩/\ER g goal im D'):=λk D l i hi hr hlen ha=>by
  rw[fQ.l0,ah hi];have DS:=CE hN hr;have JF: ∀c∈bH g.m (aY g.m.W g.m.H goal),bM im c=true->rd D c≠dI/\rd D c<=aP im c:=λc hc hm=>by
   rw[<-hL] at hc;obtain⟨j,j0,j1,rfl⟩:=jK hc;exact ha j j0 U hm
  refine(Ki ⟨l⟩ (by simp only;omega)).bind λv hv=>?_
  rcases hv with⟨e1,e2⟩ |⟨e1,e2,e3,e4,e5,e6⟩
  ·simp only at e1;subst e1;subst e2;exact Wc h hN hF gg ep goal 1000000000000 fuel D [] 0 0 false bm (by rw[cM];omega) (by simp;simp at hlen;omega) bk (λ_=>⟨J,hr⟩) JF
  ·simp only at e1 e3 e4 e5 e6;rw[e2];refine Wc h hN hF gg ep goal 1000000000000 fuel D v.2.2.2.l v.1 v.2.1 true (by simp only[if_true];omega) (by rw[cM];omega) U (λ_=>?_) bk JF
   rw[e3];have h0:=dS (a:=l) (i:=0) U (by have:=List.length_pos_iff.2 e1;omega)
   refine⟨hr.len_,hr.dv,λe he=>?_,λc hc wN qu=>?_⟩
   ·rcases List.mem_cons.1 he with rfl |he
    ·exact hr.hp _ h0
    ·exact hr.hp e (e5 e he)
   ·rcases hr.rel c hc wN qu with y |y
    ·refine .inl ?_;rcases e6 _ y with z |z
     ·rw[z];exact List.mem_cons_self ..
     ·exact List.mem_cons_of_mem _ z
    ·exact .inr y
 intro n
 induction n with
 |zero=>
  intro k D l i hn hk hi dZ hr hlen ha;obtain⟨k,rfl⟩:=bl hk;exact fin k D l i U hr U ha
 |succ n ih=>
  intro k D l i hn hk hi dZ hr hlen ha;obtain⟨k,rfl⟩:=bl hk
  by_cases aQ:i<L.length
  ·have jh:rd L i∈bH g.m (aY g.m.W g.m.H goal):=by rw[<-hL];exact dS hi aQ
   have TC:=Kb jh;have DS:=CE hN hr;rw[fQ.l0,wi (x:=i+1) U U];refine Ok.pos aQ ?_;rw[af (show 0<=i/\i<(L.length:Int) from⟨hi,aQ⟩)]
   cases hm:bM im (rd L i)
   ·simp only[Bool.false_eq_true,if_false,aL];refine ih k D l (i+1) U U U U hr U λj j0 j1 hj=>?_
    by_cases z:j=i
    ·subst z;rw[hm] at hj;simp at hj
    ·exact ha j j0 U hj
   ·have hv:=Ju _ hm;simp only[if_true];have hrx:=VP (ge:=0) h hN hr U gg ep TC (by have:=vt h hr.len_ TC;omega) hv.1 U (.inl ⟨jh,hm,J⟩)
    obtain⟨r,e,ve⟩:=hrx;rw[e];simp only[aL];rcases ve with⟨rfl,z1,z2⟩ |⟨D',rfl,z1,z2,z3,z4,z5,z6⟩
    ·simp only[Bool.false_eq_true,if_false,aL];refine ih k D l (i+1) U U U U hr U λj j0 j1 hj=>?_
     by_cases z:j=i
     ·subst z;exact⟨z1,z2⟩
     ·exact ha j j0 U hj
    ·simp only[if_true];obtain⟨q,eq,hq⟩:=Km ⟨l⟩ (aP im (rd L i)) (rd L i) (by simp only;omega)
     rw[eq];simp only[aL];have F9:=hq.1;simp only at F9;refine ih k D' q.l (i+1) U U U U (z6 q.l hq.2) U λj j0 j1 hj=>?_
     by_cases y:rd L j=rd L i
     ·rw[y,z2];exact⟨by omega,Int.le_refl _⟩
     ·have hjm:rd L j∈bH g.m (aY g.m.W g.m.H goal):=by rw[<-hL];exact dS j0 U
      have:=vt h hr.len_ (Kb hjm);rw[z3 _ this.1 y];refine ha j j0 ?_ hj;have:j≠i:=λz=>y (by rw[z])
      omega
  ·exact fin k D l i aQ hr U ha
def PG (g:bw) (goal:Int) (im:List (Int×Int)):Prop:=(∀f M,jn.f f goal M g=some im)/\ ∀c,bM im c=true->0<=aP im c/\aP im c<=500000
def uy (g:bw) (r:ic):Prop:=r.bK=g.bK/\ ∃im,PG g r.goal im/\ER g r.goal im r.aR
theorem ahD (h:dE g more) (hN:g.m.W*g.m.H<=1600) (hF:qe g M) (f:j6) (hg:cN g.m goal):Ok (fQ.f f goal M g) (λr=> ∃R,r=some R/\R.goal=goal/\uy g R):=by
 have My:dI=2147483647:=rfl;have yq:RB=104538400:=rfl;have hmp:=tX h.ok.1;unfold fQ.f;obtain⟨im,e,Ju⟩:=ahq h hN f M hg;have aee:PG g goal im:=⟨λf' M'=>e,Ju⟩
 have hs:=vO (pc h.ok hg);refine Ok.eq (CO g) (Ok.eq (Fx g) ?_);simp only;rw[wi U U];have Gd:=ag8 (v:=dI) (n:=(g.m.W*g.m.H).toNat) U U;rw[show(((g.m.W*g.m.H).toNat:Nat):Int)=g.m.W*g.m.H by omega] at Gd
 refine Ok.eq Gd (Ok.eq (v:=some ⟨[]⟩) J ?_);refine Ok.eq e (Ok.eq (sX ..) (Ok.eq (af3 hF _ hs) ?_));have Tk: ∀c:Int,0<=c->c<(g.m.W*g.m.H).toNat->rd (List.replicate (g.m.W*g.m.H).toNat dI) c=dI:=λc c0 c1=>vy c0 c1
 have hR:Rt g goal im (List.replicate (g.m.W*g.m.H).toNat dI) [] (-1):=by
  refine⟨by simp;omega,λc c0 c1 hc=>?_,by simp,λc hc _ qu=>?_⟩
  ·rw[List.length_replicate] at c1;exact absurd (Tk c c0 c1) hc
  ·have:=(Cq hc).2;exact absurd (Tk c this.1 (by have:=this.2;omega)) qu
 have hph:=CE hN hR;have TB:=vu g.m (aY g.m.W g.m.H goal);refine(ahE h hN hF Ju goal g.bK _ J 256 fuel _ [] 0 U (by rw[cM];omega) U U hR bm (λj j0 j1=>by omega)).mono λr hr=>?_
 obtain⟨D',rfl,hD⟩:=hr;exact⟨_,J,J,J,im,aee,hD⟩
structure K3 (g:bw) (f:j6):Prop where
 kept: ∀R,f.kept=some R->cN g.m R.goal/\R.bK<=g.bK/\(R.bK=g.bK->uy g R)
 eG:0<=f.count/\f.count<=1000000000000
def Uc (g:bw) (f:j6) (goal:Int):Prop:= ∃R,f.kept=some R/\R.goal=goal/\R.bK=g.bK
theorem ag9 (h:dE g more) (hN:g.m.W*g.m.H<=1600) (hv: ∀s:Int,bI g.m.W g.m.H s->fy g s<=g.bK) {f:j6} (hf:K3 g f) (hM:zF g M) (hc:M.count+4096<=1000000000000) (Ng:f.count+1<=1000000000000) (hg:cN g.m goal):
 Ok (xo.f f goal M g) (λr=> ∃R,r.1=some R/\R.goal=goal/\uy g R/\r.2.1.kept=some R/\K3 g r.2.1/\f.count<=r.2.1.count/\r.2.1.count<=f.count+1/\(Uc g f goal->r.2.1=f)/\qe g r.2.2/\r.2.2.clean=g.bK/\r.2.2.count=M.count+(pJ g M M.parts.length).length):=by
 have DI:=Mp h hg;unfold xo.f;refine Ok.eq (uK h _) (Ok.neg bm ((ag1 h hv hM hc).bind λv NG=>?_));obtain⟨hF,lC,ku⟩:=NG;have e:(dq f.kept (some true) (λx5=>if(x5.goal !=goal)=true then(some true) else((oW.f g).bind λv6=>some (x5.bK !=v6))))=some (match f.kept with |none=>true |some R=>(R.goal !=goal||R.bK !=g.bK)):=by
  cases f.kept with
  |none=>rfl
  |some R=>
   show(if(R.goal !=goal)=true then _ else _)=some (R.goal !=goal||R.bK !=g.bK)
   by_cases z:R.goal=goal
   ·rw[ah (by simp[z]),Fx];simp[z]
   ·rw[af (by simpa using z)];simp[z]
 refine Ok.eq e (Ok.ite (λq=>?_) λq=>?_)
 ·refine(ahD h hN hF f hg).bind λr hr=>?_
  obtain⟨R,rfl,r1,r2⟩:=hr;have ajm:=hf.eG;refine Ok.eq (v:=f.count+1) (zm U U U U) (Ok.pure ⟨R,rfl,r1,r2,rfl,⟨λR' RZ=>?_,?_⟩,?_,?_,λ⟨R',k1,k2,k3⟩=>?_,hF,lC,ku⟩)
  ·simp only[Option.some.injEq] at RZ;subst RZ;exact⟨by rw[r1];exact hg,by rw[r2.1];omega,λ_=>r2⟩
  ·simp only;omega
  ·simp only;omega
  ·simp only;omega
  ·rw[k1] at q;simp[k2,k3] at q
 ·cases hk:f.kept with
  |none=>rw[hk] at q;simp at q
  |some R=>
   rw[hk] at q;simp at q;have hkk:=hf.kept R hk;exact Ok.pure ⟨R,J,q.1,hkk.2.2 q.2,hk,hf,Int.le_refl _,by simp only;omega,λ_=>rfl,hF,lC,ku⟩
theorem Yx (h:dE g more) (hN:g.m.W*g.m.H<=1600) {R:ic} (hR:uy g R) (c:Int):CC.f R c=some (if cN g.m c/\rd R.aR c≠dI then rd R.aR c else cK):=by
 have My:dI=2147483647:=rfl;have yq:RB=104538400:=rfl;obtain⟨_,im,_,hD⟩:=hR;have hl:=hD.len_;unfold CC.f;have e:(if c<0 then(some true) else(if c≥(List.length R.aR:Int) then(some true) else(if(0<=c/\c<(List.length R.aR:Int)) then(some ((rd R.aR c)==2147483647)) else none)))=some (decide (¬(cN g.m c/\rd R.aR c≠dI))):=by
  unfold cN
  by_cases a:c<0
  ·rw[af a];simp;omega
  ·by_cases b:c≥(List.length R.aR:Int)
   ·rw[ah a,af b];simp;omega
   ·rw[ah a,ah b,af U];congr 1;rw[Bool.eq_iff_iff];simp;omega
 rw[e];simp only[aL]
 by_cases z:cN g.m c/\rd R.aR c≠dI
 ·have hz:=z.1;obtain⟨z0,z1⟩:=hz;have:=hD.dv c z0 U z.2;rw[ah (by simpa using z),af U,af z,wi U U]
 ·rw[af (decide_eq_true z),ah z]
end
section
variable {g : bw} {more : Int} {R : ic}
def wa (g:bw) (R:ic) (c:Int):Int:=if cN g.m c/\rd R.aR c≠dI then rd R.aR c else cK
theorem Qi (hN:g.m.W*g.m.H<=1600) (hR:uy g R) {c:Int} (hc:wa g R c≠cK):cN g.m c/\rd R.aR c≠dI/\wa g R c=rd R.aR c/\0<=wa g R c/\wa g R c<=RB:=by
 unfold wa at hc⊢;split at hc
 ·rename_i z;obtain⟨_,im,_,hD⟩:=hR;have hl:=hD.len_;have hz:=z.1;obtain⟨z0,z1⟩:=hz;have:=hD.dv c z0 U z.2;rw[af z];exact⟨z.1,z.2,J,this.2.1,this.2.2.1⟩
 ·exact absurd J hc
def tu (g:bw) (R:ic) (c:Int) (e:dU) (x:a_):Prop:=wa g R e.To≠cK/\x=⟨dx g.m.W g.m.H c,CJ g.m.W g.m.H c e.To,e.kI+wa g R e.To⟩
theorem aep (h:dE g more) (hN:g.m.W*g.m.H<=1600) (hR:uy g R) (L:List Int) (i:Int) (E:List dU) (hE:E.length<=4) (hEc: ∀e∈E,0<=e.kI/\e.kI<=255) (x0:List a_) (tP:x0.length<=10000): ∀(n k:Nat) (x:List a_) (j:Int),(E.length-j).toNat<=n->n<k->0<=j->j<=E.length->(x.length:Int)<=x0.length+j->
 (∀y,y∈x↔y∈x0∨ ∃q:Int,0<=q/\q<j/\tu g R (rd L i) (rd E q) y)->
 Ok (iy.l1 k R (g.m.W,g.m.H) L i E x j) (λr=>r.length<=x0.length+4/\ ∀y,y∈r↔y∈x0∨ ∃e∈E,tu g R (rd L i) e y):=by
 have yq:RB=104538400:=rfl;have fin: ∀(k:Nat) (x:List a_) (j:Int),¬j<E.length->j<=E.length->(x.length:Int)<=x0.length+j->(∀y,y∈x↔y∈x0∨ ∃q:Int,0<=q/\q<j/\tu g R (rd L i) (rd E q) y)->
  Ok (iy.l1 (k+1) R (g.m.W,g.m.H) L i E x j) (λr=>r.length<=x0.length+4/\ ∀y,y∈r↔y∈x0∨ ∃e∈E,tu g R (rd L i) e y):=λk x j hj iM hl hm=>by
  rw[iy.l1,ah hj];refine Ok.pure ⟨by omega,λy=>(hm y).trans (or_congr_right ⟨λ⟨q,q0,q1,w⟩=>⟨_,dS q0 U,w⟩,λ⟨e,he,w⟩=>?_⟩)⟩
  obtain⟨q,q0,q1,rfl⟩:=jK he;exact⟨q,q0,by omega,w⟩
 intro n
 induction n with
 |zero=>
  intro k x j hn hk hj iM hl hm;obtain⟨k,rfl⟩:=bl hk;exact fin k x j U iM hl hm
 |succ n ih=>
  intro k x j hn hk hj iM hl hm;obtain⟨k,rfl⟩:=bl hk
  by_cases aQ:j<E.length
  ·have hc:=hEc _ (dS hj aQ);have wP: ∀y,(y∈x0∨ ∃q:Int,0<=q/\q<j+1/\tu g R (rd L i) (rd E q) y)↔y∈x∨tu g R (rd L i) (rd E j) y:=λy=>by
    rw[hm y];constructor
    ·rintro(a |⟨q,q0,q1,w⟩)
     ·exact .inl (.inl a)
     ·by_cases z:q=j
      ·subst z;exact .inr w
      ·exact .inl (.inr ⟨q,q0,by omega,w⟩)
    ·rintro((a |⟨q,q0,q1,w⟩) |w)
     ·exact .inl a
     ·exact .inr ⟨q,q0,by omega,w⟩
     ·exact .inr ⟨j,hj,by omega,w⟩
   rw[iy.l1,wi (x:=j+1) U U];refine Ok.pos aQ (Ok.cw ⟨hj,aQ⟩ (Ok.eq (v:=wa g R (rd E j).To) (Yx h hN hR _) (Ok.ite (λq=>Ok.eq (Gv ..) (Ok.eq (ahY ..) (Ok.cw U ?_))) λq=>?_)))
   ·have q:wa g R (rd E j).To≠cK:=by simpa using q
    have ha:=Qi hN hR q;rw[wi U U];refine ih k _ (j+1) U U U U bm λy=>?_
    rw[wP y];unfold tu;simp[q]
   ·have q:wa g R (rd E j).To=cK:=by simpa using q
    refine ih k x (j+1) U U U U U λy=>?_
    rw[wP y];unfold tu;simp[q]
  ·exact fin k x j aQ iM hl hm
def xY (g:bw) (R:ic) (s:Int) (x:a_):Prop:=
 (∃c∈bH g.m s,∃e∈vI g.m c,tu g R c e x)∨(aY g.m.W g.m.H R.goal=s/\fx g R.goal≠255/\x=⟨dx g.m.W g.m.H R.goal,4,0⟩)
theorem L1 {m:aJ} {c:Int} {e:dU} (he:e∈vI m c): ∃d:Int,0<=d/\d<=3/\lY m (fS m.W m.H c d)=true/\e=⟨fS m.W m.H c d,rd m.C (fS m.W m.H c d)⟩:=by
 unfold vI at he;split at he
 ·unfold xq at he;obtain⟨j,hj,rfl⟩:=List.mem_map.1 he;obtain⟨j1,j2⟩:=List.mem_filter.1 hj;have:=List.mem_range.1 j1;exact⟨j,by omega,by omega,j2,J⟩
 ·simp at he
theorem aeo (h:dE g more) (hN:g.m.W*g.m.H<=1600) (hR:uy g R) (s:Int): ∀(n k:Nat) (x:List a_) (i:Int),((bH g.m s).length-i).toNat<=n->n<k->0<=i->i<=(bH g.m s).length->(x.length:Int)<=4*i->
 (∀y,y∈x↔ ∃q:Int,0<=q/\q<i/\ ∃e∈vI g.m (rd (bH g.m s) q),tu g R (rd (bH g.m s) q) e y)->
 Ok (iy.l0 k g R s (g.m.W,g.m.H) (bH g.m s) x i) (λr=>r.length<=1025/\(∀y,y∈r↔xY g R s y)/\r.Pairwise (λa b=> ¬sQ b a)):=by
 have hl:=vu g.m s;have fin: ∀(k:Nat) (x:List a_) (i:Int),¬i<(bH g.m s).length->i<=(bH g.m s).length->(x.length:Int)<=4*i->(∀y,y∈x↔ ∃q:Int,0<=q/\q<i/\ ∃e∈vI g.m (rd (bH g.m s) q),tu g R (rd (bH g.m s) q) e y)->
  Ok (iy.l0 (k+1) g R s (g.m.W,g.m.H) (bH g.m s) x i) (λr=>r.length<=1025/\(∀y,y∈r↔xY g R s y)/\r.Pairwise (λa b=> ¬sQ b a)):=λk x i hi dZ hx hm=>by
  rw[iy.l0,ah hi];have pa: ∀y,y∈x↔ ∃c∈bH g.m s,∃e∈vI g.m c,tu g R c e y:=λy=>(hm y).trans ⟨λ⟨q,q0,q1,w⟩=>⟨_,dS q0 U,w⟩,λ⟨c,hc,w⟩=>by
   obtain⟨q,q0,q1,rfl⟩:=jK hc;exact⟨q,q0,by omega,w⟩⟩
  refine Ok.eq (v:=R.goal) J (Ok.eq (v:=decide (aY g.m.W g.m.H R.goal=s/\fx g R.goal≠255)) ?_ (Ok.ite (λq=>?_) λq=>?_))
  ·simp only[sX,aL]
   by_cases z:aY g.m.W g.m.H R.goal=s
   ·rw[af (by simpa using z),uK h];simp[z];rw[Bool.eq_iff_iff];simp
   ·rw[ah (by simpa using z)];simp[z]
  ·have q:=of_decide_eq_true q;refine Ok.eq (Gv ..) (Ok.cw U ((OY _ bm).bind λr hr=>Ok.pure ⟨by have:=hr.1;simp at this;omega,λy=>?_,hr.2.2⟩))
   rw[hr.2.1 y,List.mem_append,pa y];unfold xY;simp[q.1,q.2]
  ·have q: ¬(aY g.m.W g.m.H R.goal=s/\fx g R.goal≠255):=by simpa using q
   refine(OY _ U).bind λr hr=>Ok.pure ⟨by omega,λy=>?_,hr.2.2⟩
   rw[hr.2.1 y,pa y];unfold xY;exact⟨.inl,λw=>w.resolve_right λz=>q ⟨z.1,z.2.1⟩⟩
 intro n
 induction n with
 |zero=>
  intro k x i hn hk hi dZ hx hm;obtain⟨k,rfl⟩:=bl hk;exact fin k x i U dZ hx hm
 |succ n ih=>
  intro k x i hn hk hi dZ hx hm;obtain⟨k,rfl⟩:=bl hk
  by_cases aQ:i<(bH g.m s).length
  ·rw[iy.l0,wi U U];refine Ok.pos aQ (Ok.bind (Ok.cw ⟨hi,aQ⟩ (Ok.eq (aaq h _) (aep h hN hR (bH g.m s) i (vI g.m (rd (bH g.m s) i)) (QT ..) (λe he=>?_) x U 4 fuel x 0 (by have:=QT g.m (rd (bH g.m s) i);omega) (by rw[cM];omega) U U U (λy=>⟨.inl,λw=>w.resolve_right λ⟨q,q0,q1,_⟩=>by omega⟩)))) λr hr=>ih k r (i+1) U U U U U λy=>?_)
   ·obtain⟨d,_,_,d2,rfl⟩:=L1 he;have:=(AZ.1 d2).1;have:=h.rZ _ this.1 this.2;simp only;omega
   ·rw[hr.2 y,hm y];constructor
    ·rintro(⟨q,q0,q1,w⟩ |w)
     ·exact⟨q,q0,by omega,w⟩
     ·exact⟨i,hi,by omega,w⟩
    ·rintro⟨q,q0,q1,w⟩
     by_cases z:q=i
     ·subst z;exact .inr w
     ·exact .inl ⟨q,q0,by omega,w⟩
  ·exact fin k x i aQ dZ hx hm
theorem aeq (h:dE g more) (hN:g.m.W*g.m.H<=1600) (hR:uy g R) (s:Int):Ok (iy.f g R s) (λr=>r.length<=1025/\(∀y,y∈r↔xY g R s y)/\r.Pairwise (λa b=> ¬sQ b a)):=by
 have hl:=vu g.m s;unfold iy.f;refine Ok.eq (CO g) (Ok.eq (v:=R.bK) rfl (Ok.eq (Fx g) (Ok.neg (by simp[hR.1]) (Ok.eq (UL h s) (aeo h hN hR s 256 fuel [] 0 U (by rw[cM];omega) U U bk (λy=>⟨λq=>by simp at q,λ⟨q,q0,q1,_⟩=>by omega⟩))))))
theorem ahJ (h:dE g more) (hN:g.m.W*g.m.H<=1600) (hR:uy g R) (hg:cN g.m R.goal) {s:Int} (hs:bI g.m.W g.m.H s) {x:a_} (hx:xY g R s x):qf (fC g.m s) x/\x.Key+254*256<=104603678:=by
 have yq:RB=104538400:=rfl;rcases hx with⟨c,hc,e,he,ha,rfl⟩ |⟨h1,h2,rfl⟩
 ·obtain⟨n1,n2,n3,n4⟩:=ua hc;obtain⟨d,d0,d3,d4,rfl⟩:=L1 he;have eo:=pc h.ok n2;have lV:=CK h n2;rw[n4] at lV;have aS:=(AZ.1 d4).1;have vd:=U1 (w:=g.m.W) (h:=g.m.H) (c:=c) (side:=d) aS.1;have hb:=h.rZ _ aS.1 aS.2;have hav:=Qi hN hR ha;simp only at ha hav;have bL:=(AZ.1 d4).2;have cu:=D2 eo;have mJ:=Dz eo;rw[n4] at cu mJ;have Tt:=Kg hs cu.1 cu.2 d0 d3;rw[mJ] at Tt;have B0:CJ g.m.W g.m.H c (fS g.m.W g.m.H c d)=d:=by
   rw[vd.2.2.2.2.1];exact Wi eo d0 U (by rw[<-vd.2.2.2.2.1];exact vd.2.2.2.1)
  refine⟨⟨lV.1,lV.2.1,?_,by simp only;omega,by simp only;omega,?_⟩,by simp only;omega⟩
  ·simp only;rw[lV.2.2];unfold fx;rw[af n2];exact(AZ.1 n1).2
  ·simp only;rw[B0];exact .inr ⟨d0,d3,(Tt.1 aS.1).2⟩
 ·have lV:=CK h hg;rw[h1] at lV;exact⟨⟨lV.1,lV.2.1,by simp only;rw[lV.2.2];exact h2,by simp,by simp,.inl J⟩,by simp⟩
end
section
theorem O9 {a b:gx} (ha:qc a CB) (hb:qc b CB):mu.f a b=some ⟨a.bC+b.bC,a.bD+b.bD,a.bA+b.bA,a.bz+b.bz,a.bJ+b.bJ,a.bF+b.bF⟩:=by
 obtain⟨a1,a2,a3,a4,a5,a6⟩:=ha;obtain⟨b1,b2,b3,b4,b5,b6⟩:=hb;have Mx:CB=1000000000000:=rfl;unfold mu.f l6.f;simp only[aL];have e0: ∀a b c d e f:Int,rd [a,b,c,d,e,f] 0=a:=λ_ _ _ _ _ _=>rfl
 have e1: ∀a b c d e f:Int,rd [a,b,c,d,e,f] 1=b:=λ_ _ _ _ _ _=>rfl
 have e2: ∀a b c d e f:Int,rd [a,b,c,d,e,f] 2=c:=λ_ _ _ _ _ _=>rfl
 have e3: ∀a b c d e f:Int,rd [a,b,c,d,e,f] 3=d:=λ_ _ _ _ _ _=>rfl
 have e4: ∀a b c d e f:Int,rd [a,b,c,d,e,f] 4=e:=λ_ _ _ _ _ _=>rfl
 have e5: ∀a b c d e f:Int,rd [a,b,c,d,e,f] 5=f:=λ_ _ _ _ _ _=>rfl
 have s0: ∀a b c d e f v:Int,List.set [a,b,c,d,e,f] (Int.toNat 0) v=[v,b,c,d,e,f]:=λ_ _ _ _ _ _ _=>rfl
 have s1: ∀a b c d e f v:Int,List.set [a,b,c,d,e,f] (Int.toNat 1) v=[a,v,c,d,e,f]:=λ_ _ _ _ _ _ _=>rfl
 have s2: ∀a b c d e f v:Int,List.set [a,b,c,d,e,f] (Int.toNat 2) v=[a,b,v,d,e,f]:=λ_ _ _ _ _ _ _=>rfl
 have s3: ∀a b c d e f v:Int,List.set [a,b,c,d,e,f] (Int.toNat 3) v=[a,b,c,v,e,f]:=λ_ _ _ _ _ _ _=>rfl
 have s4: ∀a b c d e f v:Int,List.set [a,b,c,d,e,f] (Int.toNat 4) v=[a,b,c,d,v,f]:=λ_ _ _ _ _ _ _=>rfl
 have s5: ∀a b c d e f v:Int,List.set [a,b,c,d,e,f] (Int.toNat 5) v=[a,b,c,d,e,v]:=λ_ _ _ _ _ _ _=>rfl
 have w0:aa (0+1)=1:=rfl;have w1:aa (1+1)=2:=rfl;have w2:aa (2+1)=3:=rfl;have w3:aa (3+1)=4:=rfl;have w4:aa (4+1)=5:=rfl;have w5:aa (5+1)=6:=rfl;simp only[e0,e1,e2,e3,e4,e5];have st: ∀(k:Nat) (x7 x8 x9 aN bg bt y7 y8 y9 zt zu zv i v:Int),0<=i->i<6->rM.f (rd [y7,y8,y9,zt,zu,zv] i) (rd [x7,x8,x9,aN,bg,bt] i)=some v->
  mu.l0 (k+1) x7 x8 x9 aN bg bt y7 y8 y9 zt zu zv i=mu.l0 k x7 x8 x9 aN bg bt (rd (List.set [y7,y8,y9,zt,zu,zv] (Int.toNat i) v) 0) (rd (List.set [y7,y8,y9,zt,zu,zv] (Int.toNat i) v) 1) (rd (List.set [y7,y8,y9,zt,zu,zv] (Int.toNat i) v) 2) (rd (List.set [y7,y8,y9,zt,zu,zv] (Int.toNat i) v) 3) (rd (List.set [y7,y8,y9,zt,zu,zv] (Int.toNat i) v) 4) (rd (List.set [y7,y8,y9,zt,zu,zv] (Int.toNat i) v) 5) (aa (i+1)):=by
  intro k x7 x8 x9 aN bg bt y7 y8 y9 zt zu zv i v h0 h1 hv;rw[mu.l0,af h1,af ⟨h0,h1⟩,af ⟨h0,h1⟩,hv,aL,af ⟨h0,h1⟩]
 obtain⟨k,hk⟩: ∃q,fuel=q+1+1+1+1+1+1+1:=⟨fuel-7,by rw[cM]⟩
 rw[hk];rw[st _ _ _ _ _ _ _ _ _ _ _ _ _ 0 (a.bC+b.bC) U U (by rw[e0,e0];exact zm U U U U)]
 simp only[s0,e0,e1,e2,e3,e4,e5,w0];rw[st _ _ _ _ _ _ _ _ _ _ _ _ _ 1 (a.bD+b.bD) U U (by rw[e1,e1];exact zm U U U U)]
 simp only[s1,e0,e1,e2,e3,e4,e5,w1];rw[st _ _ _ _ _ _ _ _ _ _ _ _ _ 2 (a.bA+b.bA) U U (by rw[e2,e2];exact zm U U U U)]
 simp only[s2,e0,e1,e2,e3,e4,e5,w2];rw[st _ _ _ _ _ _ _ _ _ _ _ _ _ 3 (a.bz+b.bz) U U (by rw[e3,e3];exact zm U U U U)]
 simp only[s3,e0,e1,e2,e3,e4,e5,w3];rw[st _ _ _ _ _ _ _ _ _ _ _ _ _ 4 (a.bJ+b.bJ) U U (by rw[e4,e4];exact zm U U U U)]
 simp only[s4,e0,e1,e2,e3,e4,e5,w4];rw[st _ _ _ _ _ _ _ _ _ _ _ _ _ 5 (a.bF+b.bF) U U (by rw[e5,e5];exact zm U U U U)]
 simp only[s5,e0,e1,e2,e3,e4,e5,w5];rw[mu.l0,ah U]
structure PB (m:aJ):Prop where
 ok:tq m
 rZ: ∀c:Int,0<=c->c<m.W*m.H->1<=rd m.C c/\rd m.C c<=255
 jI:m.W*m.H<=1600
structure W3 (c:eI) (b:Int):Prop where
 gs:dE c.aK 0
 jI:c.aK.m.W*c.aK.m.H<=1600
 EE: ∀s:Int,bI c.aK.m.W c.aK.m.H s->1<=fy c.aK s/\fy c.aK s<=c.aK.bK
 ep:c.aK.bK<=b
 ms:zF c.aK c.iz
 fs:K3 c.aK c.iV
def gf (n:bZ):gx:=⟨n.aV.bC+(match n.core with |none=>0 |some c=>c.iz.count)+n.fJ.count.bC,n.aV.bD+(match n.core with |none=>0 |some c=>c.iV.count)+n.fJ.count.bD,n.aV.bA+n.fJ.count.bA,n.aV.bz+n.fJ.count.bz,n.aV.bJ+n.fJ.count.bJ,n.aV.bF+n.fJ.count.bF⟩
structure iT (n:bZ) (k b:Int) (ord:List Int):Prop where
 og:ra n.fJ.keys k ord
 aV:qc n.aV b
 sc:qc n.fJ.count b
 z:n.fJ.count.bC=0/\n.fJ.count.bD=0
 kc:qc (gf n) b
 none_:n.core=none->n.fJ.fields=[]/\ord=[]
 core: ∀c,n.core=some c->W3 c b/\c.iz.count<=b/\c.iV.count<=b/\Bm c.aK n.fJ k ord
def kq (n:bZ):gx:=⟨(match n.core with |none=>0 |some c=>c.iz.count),(match n.core with |none=>0 |some c=>c.iV.count),0,0,0,0⟩
section
variable {n : bZ} {k b : Int} {ord : List Int}
theorem QM (n:bZ):yR.f n=some (kq n):=by
 unfold yR.f kq
 cases n.core with
 |none=>rfl
 |some c=>rfl
theorem iT.cv (h:iT n k b ord) (hb:0<=b):qc (kq n) b:=by
 unfold kq
 cases hc:n.core with
 |none=>exact⟨⟨Int.le_refl _,hb⟩,⟨Int.le_refl _,hb⟩,⟨Int.le_refl _,hb⟩,⟨Int.le_refl _,hb⟩,⟨Int.le_refl _,hb⟩,⟨Int.le_refl _,hb⟩⟩
 |some c=>
  obtain⟨h1,h2,h3,_⟩:=h.core c hc;exact⟨⟨h1.ms.eG.1,h2⟩,⟨h1.fs.eG.1,h3⟩,⟨Int.le_refl _,hb⟩,⟨Int.le_refl _,hb⟩,⟨Int.le_refl _,hb⟩,⟨Int.le_refl _,hb⟩⟩
theorem aae {x y:gx} {b c:Int} (hx:qc x b) (hy:qc y c):qc ⟨x.bC+y.bC,x.bD+y.bD,x.bA+y.bA,x.bz+y.bz,x.bJ+y.bJ,x.bF+y.bF⟩ (b+c):=by
 obtain⟨a1,a2,a3,a4,a5,a6⟩:=hx;obtain⟨b1,b2,b3,b4,b5,b6⟩:=hy;exact⟨by simp only;omega,by simp only;omega,by simp only;omega,by simp only;omega,by simp only;omega,by simp only;omega⟩
theorem aii (h:iT n k b ord) (hb:0<=b/\b<=100000000000):Cm.f n=some (gf n):=by
 have Mx:CB=1000000000000:=rfl;have FW:=h.cv hb.1;unfold Cm.f Et.f;rw[QM,aL,O9 (h.aV.mono U) (FW.mono U),aL,aL,O9 ((aae h.aV FW).mono U) (h.sc.mono U)];simp[gf,kq]
theorem afX {k:Int} (h1:1<=k) (h2:k<=1000000): ∃n,xf.f k=some (some n)/\iT n k 0 []/\n.core=none/\gf n=⟨0,0,0,0,0,0⟩:=by
 obtain⟨s,e,hs,hf,hc⟩:=ah2 h1 h2;have hz:qc ⟨0,0,0,0,0,0⟩ 0:=⟨by simp,by simp,by simp,by simp,by simp,by simp⟩
 unfold xf.f;rw[ah U,e];exact⟨_,J,⟨hs,hz,by rw[hc];exact hz,by rw[hc];exact⟨J,J⟩,by simp[gf,hc];exact hz,λ_=>⟨hf,J⟩,λc hc=>by simp at hc⟩,J,by simp[gf,hc]⟩
theorem J_ {c:eI} (h:iT n k b ord) (hc:n.core=some c) (x:Int):sI.f n x=some (fx c.aK x):=by
 unfold sI.f;rw[hc]
 show(jf.f c.aK x).bind _=_
 rw[uK (h.core c hc).1.gs];rfl
theorem UM {c:eI} (hc:n.core=some c):yQ.f n=some (c.aK.m.W,c.aK.m.H):=by
 unfold yQ.f;rw[hc];rfl
theorem iT.mono {b':Int} (h:iT n k b ord) (hb:b<=b'):iT n k b' ord:=
 ⟨h.og,h.aV.mono hb,h.sc.mono hb,h.z,h.kc.mono hb,h.none_,λc hc=>by
   obtain⟨h1,h2,h3,h4⟩:=h.core c hc;exact⟨⟨h1.gs,h1.jI,h1.EE,by have:=h1.ep;omega,h1.ms,h1.fs⟩,by omega,by omega,h4⟩⟩
structure Da (n:bZ) (k b:Int) (ord:List Int) (c:eI) (goal s:Int) (r:fZ×Er×bZ):Prop where
 err:r.2.1=Er.nil
 Dw: ∃R l c' qE,uy c.aK R/\R.goal=goal/\l.length<=1025/\(∀y,y∈l↔xY c.aK R s y)/\l.Pairwise (λa b=> ¬sQ b a)/\we (fC c.aK.m s) l KF r.1/\
  r.2.2.core=some c'/\c'.aK=c.aK/\c'.iV.kept=some R/\qe c.aK c'.iz/\c'.iz.clean=c.aK.bK/\c'.iz.count=c.iz.count+(pJ c.aK c.iz c.iz.parts.length).length/\
  c.iV.count<=c'.iV.count/\c'.iV.count<=c.iV.count+1/\(Uc c.aK c.iV goal->c'.iV=c.iV)/\
  iT r.2.2 k (b+5000) qE/\Pu c.aK n.fJ k ord goal s l (r.1,0,r.2.2.fJ)/\r.2.2.aV=n.aV/\iy.f c.aK R s=some l
theorem UI {c:eI} (h:iT n k b ord) (hb:0<=b/\b<=100000000000) (hc:n.core=some c) {goal s:Int} (hg:cN c.aK.m goal) (hs:bI c.aK.m.W c.aK.m.H s):
 Ok (qB.f n goal s) (Da n k b ord c goal s):=by
 have Mx:CB=1000000000000:=rfl;obtain⟨gC,Tx,Ng,yE⟩:=h.core c hc;have hG:=gC.gs;have DI:=Mp hG hg;have BR:=L4 c.aK c.iz c.iz.parts.length;have Nv:=gC.ms.len_;have M9:=oR c.aK.m.W c.aK.m.H;unfold qB.f;rw[hc];refine Ok.eq (v:=false) J (Ok.neg bk ?_)
 show Ok ((lR.f c.aK s).bind _) _
 refine Ok.eq ((Pb hG s).trans (by rw[RL hs])) (Ok.eq (uK hG _) (Ok.neg bm ((ag9 hG gC.jI (λs hs=>(gC.EE s hs).2) gC.fs gC.ms U U hg).bind λv hv=>?_)))
 obtain⟨R,e1,e2,e3,e4,e5,e6,e7,e8,e9,pK,yj⟩:=hv;rw[e1]
 show Ok ((iy.f c.aK R s).bind _) _
 obtain⟨l,el,l1,l2,l3⟩:=aeq hG gC.jI e3 s;refine Ok.eq el ?_;rw[Pm hG,aL];have ad1:=ahT hG (λs hs=>(gC.EE s hs).2) yE (h.sc.mono U) hg hs l U (λx hx=>ahJ hG gC.jI e3 (by rw[e2];exact hg) hs ((l2 x).1 hx))
 refine(ad1.bind' (g:=λv32:fZ×Int×jo=>(v32.1.fb,v32.1.cA,v32.2.1,v32.2.2)) λq hq=>?_);have F8:=hq.code;obtain⟨f,z,sh⟩:=q;simp only at F8;subst F8;simp only;refine Ok.neg bk (Ok.pure ⟨J,R,l,⟨c.aK,v.2.2,v.2.1⟩,?_⟩);obtain⟨cc,A,B,g1,g2⟩:=hq.sh;obtain⟨k1,k2,k3,k4,k5,k6,k7,k8,k9⟩:=hq.eG;simp only at g1 g2 k1 k2 k3 k4 k5 k6 k7 k8 k9;obtain⟨s1,s2,s3,s4,s5,s6⟩:=h.sc;refine⟨cc::(A++B),e3,e2,l1,l2,l3,hq.Dw,J,J,e4,e9,pK,yj,e6,e7,e8,⟨g1.og,h.aV.mono U,⟨by simp only;omega,by simp only;omega,by simp only;omega,by simp only;omega,by simp only;omega,by simp only;omega⟩,?_,?_,λz=>by simp at z,λc' jZ=>?_⟩,hq,J,el⟩
 ·have:=h.z;simp only;omega
 ·have ht:=h.kc;unfold gf at ht⊢;simp only[hc] at ht;obtain⟨t1,t2,t3,t4,t5,t6⟩:=ht;simp only at t1 t2 t3 t4 t5 t6;exact⟨by simp only;omega,by simp only;omega,by simp only;omega,by simp only;omega,by simp only;omega,by simp only;omega⟩
 ·simp only[Option.some.injEq] at jZ;subst jZ;exact⟨⟨hG,gC.jI,gC.EE,by have:=gC.ep;simp only;omega,e9.ms,e5⟩,by simp only;omega,by simp only;omega,g1⟩
theorem afT {c:eI} (h:iT n k b ord) (hc:n.core=some c) {goal s:Int} (gD: ¬(cN c.aK.m goal/\bI c.aK.m.W c.aK.m.H s)):
 qB.f n goal s=some (⟨[],[]⟩,Er.wrap 222 [goal] (Er.dW 3),n):=by
 obtain⟨gC,Tx,Ng,yE⟩:=h.core c hc;unfold qB.f;rw[hc];simp only[dq,aL,Bool.false_eq_true,if_false];rw[Pb gC.gs,aL,uK gC.gs,aL,af]
 by_cases z:cN c.aK.m goal
 ·have: ¬bI c.aK.m.W c.aK.m.H s:=λy=>gD ⟨z,y⟩
  unfold FA;rw[ah this];simp
 ·unfold fx;rw[ah z];simp
theorem UH:yT.f Er.nil=some 0:=rfl
theorem afL (g:Int):yT.f (Er.wrap 222 [g] (Er.dW 3))=some 7:=rfl
theorem UJ (h:iT n k b ord): ∃n',xc.f n=some n'/\iT n' k b []/\gf n'=gf n/\n'.aV=n.aV/\n'.fJ.count=n.fJ.count/\
 ((n.core=none/\n'.core=none)∨ ∃c,n.core=some c/\n'.core=some ⟨c.aK,c.iz,⟨none,c.iV.count⟩⟩):=by
 obtain⟨s,e,hs,hf,ku⟩:=Rm h.og;unfold xc.f;rw[e,aL]
 cases hc:n.core with
 |none=>
  have uR:gf ⟨none,s,n.aV⟩=gf n:=by simp[gf,ku,hc]
  exact⟨_,J,⟨hs,h.aV,by rw[ku];exact h.sc,by rw[ku];exact h.z,by rw[uR];exact h.kc,λ_=>⟨hf,J⟩,λc hc=>by simp at hc⟩,uR,J,ku,.inl ⟨J,J⟩⟩
 |some c=>
  obtain⟨h1,h2,h3,h4⟩:=h.core c hc;have uR:gf ⟨some ⟨c.aK,c.iz,⟨none,c.iV.count⟩⟩,s,n.aV⟩=gf n:=by simp[gf,ku,hc]
  refine⟨_,J,⟨hs,h.aV,by rw[ku];exact h.sc,by rw[ku];exact h.z,by rw[uR];exact h.kc,λz=>by simp at z,λc' jZ=>?_⟩,uR,J,ku,.inr ⟨c,J,J⟩⟩
  ·simp only[Option.some.injEq] at jZ;subst jZ;exact⟨⟨h1.gs,h1.jI,h1.EE,h1.ep,h1.ms,⟨λR hR=>by simp at hR,h1.fs.eG⟩⟩,h2,h3,Bm.empty _ hs hf⟩
theorem afW {c:eI} (h:iT n k b ord) (hc:n.core=some c):vr.f n=some c.aK.m:=by
 obtain⟨gC,_⟩:=h.core c hc;have:=gC.jI;have:=gC.gs.ok.2.1;unfold vr.f;rw[hc];simp only[dq];rw[abv _ U];rfl
theorem afU (h:iT n k b ord) (hb:0<=b/\b<=100000000000) {m:aJ} (hm:PB m): ∃n' c',xd.f n m=some (0,n')/\n'.core=some c'/\iT n' k (b+1) []/\c'.aK.m=m/\c'.iV=⟨none,0⟩/\gf n'=gf n/\(∀s:Int,bI m.W m.H s->(rd c'.iz.parts s).version≠fy c'.aK s)/\n'.fJ.count=n.fJ.count:=by
 have Mx:CB=1000000000000:=rfl;have FY:=hm.jI;have hl:=hm.ok.2.1;obtain⟨s,e,hs,hf,ku⟩:=Rm h.og;have FW:=h.cv hb.1;have aeb:=O9 (h.aV.mono (b':=CB) U) (FW.mono (b':=CB) U);have key: ∀ep:Int,0<=ep->ep<=b-> ∃n' c',((lS.f m ep).bind λv6=>dq v6 none λxO=>(rE.f xO).bind λv7=>dq v7 none λqV=>(sN.f qV xO).bind λv8=>dq v8 none λEH=>(pz.f n.fJ).bind λv9=>some ((0:Int),bZ.mk (some (eI.mk xO qV EH)) v9 ⟨n.aV.bC+(kq n).bC,n.aV.bD+(kq n).bD,n.aV.bA+(kq n).bA,n.aV.bz+(kq n).bz,n.aV.bJ+(kq n).bJ,n.aV.bF+(kq n).bF⟩))=some (0,n')/\n'.core=some c'/\iT n' k (b+1) []/\c'.aK.m=m/\c'.iV=⟨none,0⟩/\gf n'=gf n/\(∀s:Int,bI m.W m.H s->(rd c'.iz.parts s).version≠fy c'.aK s)/\n'.fJ.count=n.fJ.count:=by
  intro ep h0 h1;have hgn:IZ m ep=some (bw.mk m (ep+1) (List.replicate (dT m.W m.H).toNat (ep+1))):=by unfold IZ;rw[af ⟨hm.ok,h0,by omega⟩]
  rw[abw m ep U,hgn];have M9:=oR m.W m.H;have hG:dE (bw.mk m (ep+1) (List.replicate (dT m.W m.H).toNat (ep+1))) 0:=⟨hm.ok,hm.rZ,by simp;omega,by simp only;omega⟩
  have NH: ∀s:Int,bI m.W m.H s->fy (bw.mk m (ep+1) (List.replicate (dT m.W m.H).toNat (ep+1))) s=ep+1:=λs hs=>by
   unfold fy;rw[af hs];simp only;rw[vy hs.1 (by have:=hs.2;omega)]
  obtain⟨M,eM,hM,hM0,_,hMv⟩:=afx hG (λs hs=>by rw[NH s hs];omega)
  simp only[dq,aL,eM,sN.f,e];have ht:=h.kc;have hz:=h.z;have hpc:qc ⟨n.aV.bC+(kq n).bC,n.aV.bD+(kq n).bD,n.aV.bA+(kq n).bA,n.aV.bz+(kq n).bz,n.aV.bJ+(kq n).bJ,n.aV.bF+(kq n).bF⟩ (b+1):=by
   obtain⟨t1,t2,t3,t4,t5,t6⟩:=ht;obtain⟨s1,s2,s3,s4,s5,s6⟩:=h.sc;obtain⟨p1,p2,p3,p4,p5,p6⟩:=h.aV;obtain⟨v1,v2,v3,v4,v5,v6⟩:=FW;simp only[gf] at t1 t2 t3 t4 t5 t6;simp only[kq] at v1 v2 v3 v4 v5 v6⊢;exact⟨by simp only;omega,by simp only;omega,by simp only;omega,by simp only;omega,by simp only;omega,by simp only;omega⟩
  have uR: ∀G,gf ⟨some ⟨G,M,⟨none,0⟩⟩,s,⟨n.aV.bC+(kq n).bC,n.aV.bD+(kq n).bD,n.aV.bA+(kq n).bA,n.aV.bz+(kq n).bz,n.aV.bJ+(kq n).bJ,n.aV.bF+(kq n).bF⟩⟩=gf n:=λG=>by simp only[gf,ku,hM0,kq];congr 1<;>omega
  refine⟨_,_,J,J,⟨hs,hpc,by rw[ku];exact h.sc.mono U,by rw[ku];exact h.z,by rw[uR];exact ht.mono U,λz=>by simp at z,λc' jZ=>?_⟩,J,J,uR _,λs hs=>?_,ku⟩
  ·simp only[Option.some.injEq] at jZ;subst jZ;refine⟨⟨hG,FY,λs hs=>?_,by simp only;omega,hM,⟨λR hR=>by simp at hR,by simp⟩⟩,by simp only;omega,by simp only;omega,Bm.empty _ hs hf⟩
   rw[NH s hs];simp only;omega
  ·simp only;rw[hMv s hs,NH s hs];omega
 unfold xd.f;rw[Qe m U,decide_eq_true hm.ok];simp only[aL,Bool.not_true,Bool.false_eq_true,if_false];rw[QM,aL,aeb,aL]
 cases hc:n.core with
 |none=>exact key 0 (Int.le_refl _) hb.1
 |some c=>
  obtain⟨h1,_⟩:=h.core c hc;have:=h1.gs.ep;exact key c.aK.bK U h1.ep
end
end
section
variable {g : bw} {more : Int}
theorem NT (h:dE g more) {c v:Int} (hc:cN g.m c) {d:Int} (d0:0<=d):rd (mF g c v).m.C d=if d=c then v else rd g.m.C d:=by
 have hl:=h.ok.2.1;exact kX hc.1 (by rw[hl];exact hc.2) d0
theorem Un (h:dE g more) {c v:Int} (hc:cN g.m c) {s:Int} (hs:bI g.m.W g.m.H s) (bL:s≠aY g.m.W g.m.H c):fC (mF g c v).m s=fC g.m s:=by
 have hz:=zi g.m.W g.m.H s
 show aJ.mk _ _ _=aJ.mk _ _ _
 congr 1
 unfold kH;refine List.map_congr_left λl hl=>?_
 have hl:l<((ax g.m.W g.m.H s).1*(ax g.m.W g.m.H s).2).toNat:=List.mem_range.1 hl;have cu:=zZ hs (l:=(l:Int)) U U;have yD:=Kw hs (l:=(l:Int)) U U
 show rd (mF g c v).m.C (db g.m.W g.m.H s l)=_
 rw[NT h hc cu.1,ah (λz=>bL (by rw[<-z,yD]))]
theorem ZX {w h s c:Int} (hc:c∈qI w h s):0<=c/\bI w h s/\aY w h c=s:=by
 unfold qI vH at hc;obtain⟨l,hl,rfl⟩:=List.mem_map.mp hc;have hz:=zi w h s;have kl:=List.mem_range.mp (List.mem_filter.mp hl).1;have hs:=OX (w:=w) (h:=h) (s:=s) (l:=(l:Int)) U U;exact⟨(zZ hs U U).1,hs,Kw hs U U⟩
theorem ae2 (h:dE g more) {c v:Int} (hc:cN g.m c) {s:Int} (bL:s≠aY g.m.W g.m.H c):bH (mF g c v).m s=bH g.m s:=by
 unfold bH;refine List.filter_congr λd hd=>?_
 obtain⟨d0,_,d2⟩:=ZX hd;have hd2:aY g.m.W g.m.H d=s:=d2;unfold lY;rw[NT h hc d0,ah (λz=>bL (by rw[<-z];exact hd2.symm))]
 rfl
theorem NU (h:dE g more) {c v:Int} (hc:cN g.m c) {s:Int} (hs:bI g.m.W g.m.H s):fy (mF g c v) s=if s=aY g.m.W g.m.H c then g.bK+1 else fy g s:=by
 have nk:=vO (pc h.ok hc);have TQ:=h.vs;have e:fy (mF g c v) s=rd (List.set g.pC (aY g.m.W g.m.H c).toNat (g.bK+1)) s:=by unfold fy;exact af hs
 rw[e,kX nk.1 (by rw[TQ];exact nk.2) hs.1]
 split
 ·rfl
 ·unfold fy;rw[af hs]
variable {n : bZ} {k b : Int} {ord : List Int}
theorem afO {c:eI} (h:iT n k b ord) (hb:0<=b/\b<=100000000000) (hc:n.core=some c) {x v:Int} (hx:cN c.aK.m x) (v1:1<=v) (v2:v<=255):
 ∃n',xa.f n x v=some (0,n')/\n'.core=some ⟨mF c.aK x v,c.iz,c.iV⟩/\n'.fJ=n.fJ/\n'.aV=n.aV/\iT n' k (b+1) ord/\gf n'=gf n:=by
 obtain⟨gC,Tx,Ng,yE⟩:=h.core c hc;have hG:=gC.gs;have Nf:=hG.ep;have ajl:=gC.ep;have hG1:dE c.aK 1:=⟨hG.ok,hG.rZ,hG.vs,by omega⟩
 have hG':=ae3 hG1 (Int.le_refl 1) hx v1 v2;unfold xa.f;rw[hc];simp only[dq];rw[aaO hG];have e:IY c.aK x v=(0,mF c.aK x v):=by unfold IY;rw[ah (λq=>q hx),ah U]
 rw[e];have part: ∀s p,bI c.aK.m.W c.aK.m.H s->s≠aY c.aK.m.W c.aK.m.H x->Bk c.aK.m s p->Bk (mF c.aK x v).m s p:=λs p hs bL hp=>by
  have e1:=ae2 (v:=v) hG hx bL;have e2:=Un (v:=v) hG hx hs bL;refine⟨by rw[e1];exact hp.nodes,by rw[e1];exact hp.len_,?_⟩
  rw[e1,e2];exact hp.QN
 have uR: ∀G,gf ⟨some ⟨G,c.iz,c.iV⟩,n.fJ,n.aV⟩=gf n:=λG=>by simp[gf,hc]
 refine⟨_,J,J,J,J,⟨h.og,h.aV.mono U,h.sc.mono U,h.z,by rw[uR];exact h.kc.mono U,λz=>by simp at z,λc' jZ=>?_⟩,uR _⟩
 simp only[Option.some.injEq] at jZ;subst jZ;have u7:(mF c.aK x v).bK=c.aK.bK+1:=rfl;refine⟨⟨hG',gC.jI,λs hs=>?_,by rw[u7];omega,⟨gC.ms.len_,λs hs=>?_,λs hs e=>?_,λe=>?_,?_,gC.ms.eG⟩,⟨λR hR=>?_,gC.fs.eG⟩⟩,by simp only;omega,by simp only;omega,⟨yE.og,yE.fl,λd d0 d1=>?_⟩⟩
 ·have fI:bI c.aK.m.W c.aK.m.H s:=hs;have:=gC.EE s fI;simp only[u7];rw[NU hG hx fI];split<;>omega
 ·have:=gC.ms.le s hs;simp only[u7];omega
 ·have fI:bI c.aK.m.W c.aK.m.H s:=hs;have hle:=gC.ms.le s fI;simp only at e⊢;rw[NU hG hx fI] at e
  by_cases z:s=aY c.aK.m.W c.aK.m.H x
  ·rw[af z] at e;omega
  ·rw[ah z] at e;exact part s _ fI z (gC.ms.ok s fI e)
 ·have:=gC.ms.LS;simp only[u7] at e;omega
 ·have:=gC.ms.LS;simp only[u7];omega
 ·obtain⟨k1,k2,k3⟩:=gC.fs.kept R hR;exact⟨k1,by simp only[u7];omega,λe=>by simp only[u7] at e;omega⟩
 ·obtain⟨s1,s2,s3,s4⟩:=yE.ok d d0 d1;refine⟨s1,s2,by simp only[u7];omega,λe=>?_⟩
  simp only at e⊢;rw[NU hG hx s2] at e
  by_cases z:(rd n.fJ.keys.au d).key.2=aY c.aK.m.W c.aK.m.H x
  ·rw[af z] at e;omega
  ·rw[ah z] at e;have:=s4 e;rw[Un hG hx s2 z];exact this
theorem afV {c:eI} (h:iT n k b ord) (hb:0<=b/\b<=100000000000) (hc:n.core=some c) (goal x:Int):
 Ok (xe.f n goal x) (λr=>(cN c.aK.m goal/\cN c.aK.m x/\r.2.2.1=0/\ ∃f,Da n k b ord c goal (aY c.aK.m.W c.aK.m.H x) (f,Er.nil,r.2.2.2)/\r.1=rd f.fb (dx c.aK.m.W c.aK.m.H x)/\r.2.1=rd f.cA (dx c.aK.m.W c.aK.m.H x))∨
  (¬(cN c.aK.m goal/\cN c.aK.m x)/\r.2.2.1=7/\r.2.2.2=n)):=by
 obtain⟨gC,_⟩:=h.core c hc;have hG:=gC.gs;unfold xe.f yS.f;rw[UM hc,aL,sX,aL];simp only
 by_cases z:cN c.aK.m goal/\cN c.aK.m x
 ·have hs:=vO (pc hG.ok z.2);have lV:=CK hG z.2;refine Ok.bind (P:=λr=>r.2.2.1=Er.nil/\ ∃f,Da n k b ord c goal (aY c.aK.m.W c.aK.m.H x) (f,Er.nil,r.2.2.2)/\r.1=rd f.fb (dx c.aK.m.W c.aK.m.H x)/\r.2.1=rd f.cA (dx c.aK.m.W c.aK.m.H x)) ((UI h hb hc z.1 hs).bind λr hr=>?_) λr hr=>?_
  ·obtain⟨f,e,n'⟩:=r;have he:=hr.err;simp only at he;subst he;obtain⟨R,l,c',qE,_,_,_,_,_,hF,_⟩:=hr.Dw;simp only at hF⊢;refine Ok.neg (by simp[Er.isNil]) (Ok.eq (Gv ..) (Ok.cw (by rw[hF.aR.dl];exact⟨lV.1,lV.2.1⟩) (Ok.cw (by rw[hF.dl];exact⟨lV.1,lV.2.1⟩) (Ok.pure ⟨J,f,hr,J,J⟩))))
  ·rw[hr.1];exact Ok.eq UH (Ok.pure (.inl ⟨z.1,z.2,J,hr.2⟩))
 ·have gD: ¬(cN c.aK.m goal/\bI c.aK.m.W c.aK.m.H (aY c.aK.m.W c.aK.m.H x)):=λy=>z ⟨y.1,by
   have jZ:bT c.aK.m.W c.aK.m.H x:=Classical.byContradiction λw=>by
    have:=zg.2 w;have:=y.2.1;omega
   exact jZ.2⟩
  rw[afT h hc gD];refine Ok.bind (P:=λr=>r.2.2.1=Er.wrap 222 [goal] (Er.dW 3)/\r.2.2.2=n) (Ok.eq J (Ok.pos J (Ok.pure ⟨J,J⟩))) λr hr=>?_
  rw[hr.1];exact Ok.eq (afL goal) (Ok.pure (.inr ⟨z,J,hr.2⟩))
end
def K4 (w h:Int) (l:List aD) (j:Int):Prop:=
 (if j=0 then-1 else(rd l (j-1)).Id)<(rd l j).Id/\bT w h (rd l j).Cell/\bT w h (rd l j).Goal/\ ∀q,0<=q->q<j->(rd l q).Cell≠(rd l j).Cell
def ik (w h:Int) (l:List aD):Prop:=iD w h/\ ∀j:Int,0<=j->j<l.length->K4 w h l j
theorem afl {w h:Int} {l:List aD} (hb:l.length<=4611686018427387000): ∀(n k:Nat) (i:Int) (m:List (Int×Bool)),i+n=l.length->0<=i->n<k->
 (∀c,aP m c=true↔ ∃q,0<=q/\q<i/\(rd l q).Cell=c)->
 ∃r,po.l0 k w h l (if i=0 then-1 else(rd l (i-1)).Id) m i=some r/\(r=true↔ ∀j,i<=j->j<l.length->K4 w h l j):=by
 intro n
 induction n with
 |zero=>
  intro k i m hi h0 hk hm;obtain⟨k,rfl⟩:=bl hk;exact⟨true,by rw[po.l0,ah U],⟨λ_ j j0 j1=>by omega,λ_=>rfl⟩⟩
 |succ n ih=>
  intro k i m hi h0 hk hm;obtain⟨k,rfl⟩:=bl hk;rw[po.l0,af U,af U];simp only[sX,aL]
  by_cases g:K4 w h l i
  ·obtain⟨g1,g2,g3,g4⟩:=g;have BW:aP m (rd l i).Cell=false:=by
    rw[Bool.eq_false_iff];intro q;obtain⟨z,z0,z1,z2⟩:=(hm _).1 q;exact g4 z z0 z1 z2
   have s1: ¬aY w h (rd l i).Cell<0:=λq=>zg.1 q g2
   have s2: ¬aY w h (rd l i).Goal<0:=λq=>zg.1 q g3
   rw[ah U,ah s1,ah s2,BW];simp only[aL,Bool.false_eq_true,if_false];rw[wi U U];obtain⟨r,r1,r2⟩:=ih k (i+1) (cE m (rd l i).Cell true) U U U (λc=>by
    rw[tY]
    by_cases e:(rd l i).Cell=c
    ·rw[af e];exact⟨λ_=>⟨i,h0,by omega,e⟩,λ_=>rfl⟩
    ·rw[ah e,hm c];constructor
     ·rintro⟨q,q0,q1,q2⟩;exact⟨q,q0,by omega,q2⟩
     ·rintro⟨q,q0,q1,q2⟩
      by_cases z:q=i
      ·subst z;exact absurd q2 e
      ·exact⟨q,q0,by omega,q2⟩)
   rw[ah U,show i+1-1=i by omega] at r1
   refine⟨r,r1,r2.trans ⟨λq j j0 j1=>?_,λq j j0 j1=>q j U j1⟩⟩
   by_cases z:j=i
   ·subst z;exact⟨g1,g2,g3,g4⟩
   ·exact q j U j1
  ·have hf: ∀last,last=(if i=0 then-1 else(rd l (i-1)).Id)->((if(rd l i).Id<=last then(some true) else(if aY w h (rd l i).Cell<0 then(some true) else(if aY w h (rd l i).Goal<0 then(some true) else(some (aP m (rd l i).Cell))))):Option Bool)=some true:=by
    intro last hla
    by_cases a:(rd l i).Id<=last
    ·rw[af a]
    ·rw[ah a]
     by_cases b:aY w h (rd l i).Cell<0
     ·rw[af b]
     ·rw[ah b]
      by_cases c:aY w h (rd l i).Goal<0
      ·rw[af c]
      ·rw[ah c]
       congr 1
       rw[hm];refine Classical.byContradiction λq=>g ⟨by rw[<-hla];omega,Classical.byContradiction λz=>b (zg.2 z),Classical.byContradiction λz=>c (zg.2 z),λz z0 z1 z2=>q ⟨z,z0,z1,z2⟩⟩
   rw[hf _ J];simp only[aL,if_true];exact⟨false,J,⟨λq=>(by cases q),λq=>absurd (q i U U) g⟩⟩
theorem Vb {w h:Int} {l:List aD} (hb:l.length<=4611686018427387000): ∃r,po.f w h l=some r/\(r=true↔ik w h l):=by
 unfold po.f;rw[Az,aL]
 by_cases hm:iD w h
 ·rw[ah (by simpa using hm)]
  obtain⟨r,r1,r2⟩:=afl (w:=w) (h:=h) hb l.length fuel 0 [] U U (by rw[cM];omega) (λc=>by
   constructor
   ·intro q;simp[aP,cZ] at q
   ·rintro⟨q,q0,q1,_⟩;omega)
  rw[af J] at r1;exact⟨r,r1,r2.trans ⟨λq=>⟨hm,q⟩,λq=>q.2⟩⟩
 ·rw[af (by rw[decide_eq_false hm];rfl)]
  exact⟨false,J,⟨λq=>(by cases q),λq=>absurd q.1 hm⟩⟩
theorem ik.cell {w h:Int} {l:List aD} (hm:ik w h l) {j:Int} (j0:0<=j) (j1:j<l.length):bT w h (rd l j).Cell:=(hm.2 j j0 j1).2.1
theorem ik.apart {w h:Int} {l:List aD} (hm:ik w h l) {i j:Int} (i0:0<=i) (i1:i<l.length) (j0:0<=j) (j1:j<l.length) (rA:i≠j):(rd l i).Cell≠(rd l j).Cell:=by
 rcases Int.lt_or_gt_of_ne rA with q |q
 ·exact(hm.2 j j0 j1).2.2.2 i i0 q
 ·exact λe=>(hm.2 i i0 i1).2.2.2 j j0 q e.symm
theorem ik.ids {w h:Int} {l:List aD} (hm:ik w h l): ∀(n:Nat) (i j:Int),j=i+n->0<=i->0<n->j<l.length->(rd l i).Id<(rd l j).Id:=by
 intro n
 induction n with
 |zero=>intro i j _ _ h;omega
 |succ n ih=>
  intro i j hj i0 _ j1;have h1:=(hm.2 j U j1).1;rw[ah U] at h1
  by_cases hn:n=0
  ·have:j-1=i:=U;rw[this] at h1;exact h1
  ·have:=ih i (j-1) U i0 U U;omega
theorem ik.Aq {w h:Int} {l:List aD} (hm:ik w h l) {i j:Int} (i0:0<=i) (rA:i<j) (j1:j<l.length):(rd l i).Id<(rd l j).Id:=
 hm.ids (j-i).toNat i j U i0 U j1
def tF:List Int->List aD->List Int
 |acc,[]=>acc
 |acc,u::r=>tF (if u.Goal∈acc then acc else acc++[u.Goal]) r
def lQ (l:List aD):List Int:=tF [] l
theorem Rz: ∀(l:List aD) (acc:List Int),(tF acc l).length<=acc.length+l.length
 |[],acc=>by simp[tF]
 |u::r,acc=>by
  have:=Rz r (if u.Goal∈acc then acc else acc++[u.Goal])
  simp only[tF,List.length_cons];split at this<;>rename_i h
  ·rw[af h];omega
  ·rw[ah h];simp only[List.length_append,List.length_cons,List.length_nil] at this;omega
theorem RA: ∀(l:List aD) (acc:List Int) (g:Int),g∈tF acc l↔g∈acc∨ ∃u∈l,u.Goal=g
 |[],acc,g=>by simp[tF]
 |u::r,acc,g=>by
  simp only[tF];rw[RA r _ g]
  by_cases h:u.Goal∈acc
  ·rw[af h];constructor
   ·rintro(q |⟨x,x1,x2⟩)
    ·exact .inl q
    ·exact .inr ⟨x,List.mem_cons_of_mem _ x1,x2⟩
   ·rintro(q |⟨x,x1,x2⟩)
    ·exact .inl q
    ·rcases List.mem_cons.1 x1 with rfl |x1
     ·exact .inl (x2▸h)
     ·exact .inr ⟨x,x1,x2⟩
  ·rw[ah h];constructor
   ·rintro(q |⟨x,x1,x2⟩)
    ·rcases List.mem_append.1 q with q |q
     ·exact .inl q
     ·exact .inr ⟨u,List.mem_cons_self ..,(List.mem_singleton.1 q).symm⟩
    ·exact .inr ⟨x,List.mem_cons_of_mem _ x1,x2⟩
   ·rintro(q |⟨x,x1,x2⟩)
    ·exact .inl (List.mem_append_left _ q)
    ·rcases List.mem_cons.1 x1 with rfl |x1
     ·exact .inl (List.mem_append_right _ (by simp[x2]))
     ·exact .inr ⟨x,x1,x2⟩
theorem RC: ∀(l:List aD) (acc:List Int),acc.Nodup->(tF acc l).Nodup
 |[],acc,h=>h
 |u::r,acc,h=>by
  simp only[tF];refine RC r _ ?_;split
  ·exact h
  ·rename_i q;rw[List.nodup_append];exact⟨h,by simp,λa ha b hb=>by simp at hb;subst hb;intro e;subst e;exact q ha⟩
theorem RE (l:List aD):(lQ l).length<=l.length:=by
 have:=Rz l [];unfold lQ;simpa using this
theorem Ms (l:List aD):(lQ l).Nodup:=RC l [] List.nodup_nil
theorem RF (l:List aD) (g:Int):g∈lQ l↔ ∃u∈l,u.Goal=g:=by
 have:=RA l [] g;unfold lQ;simpa using this
theorem agl {l:List aD} (hb:l.length<=1000000): ∀(n k:Nat) (i:Int) (acc:List Int) (m:List (Int×Bool)),i+n=l.length->0<=i->n<k->(acc.length:Int)<=i->
 (∀c,aP m c=true↔c∈acc)->nD.l0 k l acc m i=some (tF acc (l.drop i.toNat)):=by
 intro n
 induction n with
 |zero=>
  intro k i acc m hi h0 hk ha hm;obtain⟨k,rfl⟩:=bl hk;rw[nD.l0,ah U,List.drop_of_length_le U];rfl
 |succ n ih=>
  intro k i acc m hi h0 hk ha hm;obtain⟨k,rfl⟩:=bl hk;rw[nD.l0,af U,af U,BF h0 U];simp only[tF]
  by_cases h:(rd l i).Goal∈acc
  ·rw[ah (by rw[(hm _).2 h];decide),af h,wi U U]
   exact ih k (i+1) acc m U U U U hm
  ·have:aP m (rd l i).Goal=false:=by rw[Bool.eq_false_iff];exact λq=>h ((hm _).1 q)
   rw[af (by rw[this];rfl),ah h,af U,wi U U]
   refine ih k (i+1) _ _ U U U bm (λc=>?_);rw[tY]
   by_cases e:(rd l i).Goal=c
   ·rw[af e];simp[e]
   ·rw[ah e,hm c];simp[Ne.symm e]
theorem agk {l:List aD} (hb:l.length<=1000000):nD.f l=some (lQ l):=by
 unfold nD.f;have:=agl hb l.length fuel 0 [] [] U U (by rw[cM];omega) bk (λc=>by simp[aP,cZ])
 unfold lQ;simpa using this
def jt:List b_->Int->Int->Int->List b_
 |[],g,s,id=>[⟨g,s,[id]⟩]
 |p::r,g,s,id=>if p.eP=s then⟨p.Goal,p.eP,p.cX++[id]⟩::r else p::jt r g s id
def fo:List b_->Int->Nat
 |[],_=>0
 |p::r,s=>if p.eP=s then 0 else fo r s+1
def gd (w h g:Int):List aD->List b_->List b_
 |[],ps=>ps
 |u::r,ps=>gd w h g r (if u.Goal=g then jt ps g (aY w h u.Cell) u.Id else ps)
def jN (w h:Int) (l:List aD):List b_:=(lQ l).flatMap λg=>gd w h g l []
theorem rd0 {α:Type} [Inhabited α] (x:α) (l:List α):rd (x::l) 0=x:=rfl
theorem Ow {α:Type} [Inhabited α] (x:α) (l:List α) (n:Nat):rd (x::l) ((n+1:Nat):Int)=rd l (n:Int):=Ox x l n
theorem Ol: ∀(ps:List b_) (s:Int),fo ps s<=ps.length
 |[],_=>by simp[fo]
 |p::r,s=>by have:=Ol r s;simp only[fo,List.length_cons];split<;>omega
theorem PK: ∀(ps:List b_) (g s id:Int),fo ps s<ps.length->
 jt ps g s id=ps.set (fo ps s) ⟨(rd ps (fo ps s:Int)).Goal,(rd ps (fo ps s:Int)).eP,(rd ps (fo ps s:Int)).cX++[id]⟩
 |[],_,_,_,h=>by simp at h
 |p::r,g,s,id,h=>by
  simp only[jt,fo]
  by_cases e:p.eP=s
  ·rw[af e,af e];rfl
  ·simp only[fo,ah e,List.length_cons] at h;rw[ah e,ah e,PK r g s id U,Ow];rfl
theorem PN: ∀(ps:List b_) (g s id:Int),fo ps s=ps.length->jt ps g s id=ps++[⟨g,s,[id]⟩]
 |[],_,_,_,_=>rfl
 |p::r,g,s,id,h=>by
  simp only[jt]
  by_cases e:p.eP=s
  ·simp only[fo,af e,List.length_cons] at h;omega
  ·simp only[fo,ah e,List.length_cons] at h;rw[ah e,PN r g s id U];rfl
theorem PM: ∀(ps:List b_) (g s id:Int),(jt ps g s id).length<=ps.length+1/\ps.length<=(jt ps g s id).length
 |[],_,_,_=>by simp[jt]
 |p::r,g,s,id=>by have:=PM r g s id;simp only[jt];split<;>simp<;>omega
def kV:List b_->Nat
 |[]=>0
 |p::r=>p.cX.length+kV r
theorem agh (a b:List b_):kV (a++b)=kV a+kV b:=by
 induction a with
 |nil=>simp[kV]
 |cons p r ih=>simp[kV,ih];omega
theorem Lp: ∀(ps:List b_) (g s id:Int),kV (jt ps g s id)=kV ps+1
 |[],_,_,_=>by simp[jt,kV]
 |p::r,g,s,id=>by have:=Lp r g s id;simp only[jt];split<;>simp[kV]<;>omega
theorem U': ∀(ps:List b_) (i:Int),0<=i->i<ps.length->(rd ps i).cX.length<=kV ps:=by
 intro ps
 induction ps with
 |nil=>intro i h0 h1;simp at h1;omega
 |cons p r ih=>
  intro i h0 h1;simp only[List.length_cons] at h1
  by_cases e:i=0
  ·subst e;rw[rd0];simp[kV]
  ·have:=ih (i-1) U U;have e2:i=(((i-1).toNat+1:Nat):Int):=U;rw[e2,Ow,show(((i-1).toNat:Nat):Int)=i-1 by omega]
   simp only[kV];omega
theorem RH (w h g:Int): ∀(l m:List aD) (ps:List b_),gd w h g (l++m) ps=gd w h g m (gd w h g l ps)
 |[],m,ps=>rfl
 |u::r,m,ps=>by simp only[List.cons_append,gd];exact RH w h g r m _
theorem Mv (w h g:Int): ∀(l:List aD) (ps:List b_),(gd w h g l ps).length<=ps.length+l.length/\kV (gd w h g l ps)<=kV ps+l.length
 |[],ps=>by simp[gd]
 |u::r,ps=>by
  have h1:=Mv w h g r (if u.Goal=g then jt ps g (aY w h u.Cell) u.Id else ps)
  have h2:=PM ps g (aY w h u.Cell) u.Id;have h3:=Lp ps g (aY w h u.Cell) u.Id;simp only[gd,List.length_cons]
  by_cases e:u.Goal=g
  ·rw[af e] at h1⊢;omega
  ·rw[ah e] at h1⊢;omega
structure PI (w h:Int) (l:List aD) (i:Int) (m:List (Int×List b_)) (at':List ((Int×Int)×Int)):Prop where
 of: ∀g,aP m g=gd w h g (l.take i.toNat) []
 has: ∀g s,bM at' (g,s)=true↔fo (gd w h g (l.take i.toNat) []) s<(gd w h g (l.take i.toNat) []).length
 place: ∀g s,bM at' (g,s)=true->aP at' (g,s)=(fo (gd w h g (l.take i.toNat) []) s:Int)
theorem U8: ∀(ps:List b_) (g s:Int) (ids:List Int) (t:Int),fo ps s=ps.length->fo (ps++[⟨g,s,ids⟩]) t=if t=s then ps.length else fo ps t+if fo ps t=ps.length then 1 else 0:=by
 intro ps
 induction ps with
 |nil=>intro g s ids t h;simp[fo];split<;>split<;>(try omega)<;>simp_all
 |cons p r ih=>
  intro g s ids t h
  by_cases e:p.eP=s
  ·simp only[fo,af e,List.length_cons] at h;omega
  ·simp only[fo,ah e,List.length_cons] at h;have hih:=ih g s ids t U;rw[List.cons_append,List.length_cons]
   by_cases y:p.eP=t
   ·have a1:fo (p::(r++[(⟨g,s,ids⟩:b_)])) t=0:=af y;have a2:fo (p::r) t=0:=af y;have z: ¬t=s:=λq=>e (y.trans q);rw[a1,a2,ah z,ah U]
   ·have a1:fo (p::(r++[(⟨g,s,ids⟩:b_)])) t=fo (r++[(⟨g,s,ids⟩:b_)]) t+1:=ah y;have a2:fo (p::r) t=fo r t+1:=ah y;rw[a1,a2,hih]
    by_cases z:t=s
    ·rw[af z,af z]
    ·rw[ah z,ah z]
     by_cases x:fo r t=r.length
     ·rw[af x,af U]
     ·rw[ah x,ah U]
theorem U9: ∀(ps:List b_) (j:Nat) (q:b_) (t:Int),j<ps.length->q.eP=(rd ps (j:Int)).eP->fo (ps.set j q) t=fo ps t:=by
 intro ps
 induction ps with
 |nil=>intro j q t h;simp at h
 |cons p r ih=>
  intro j q t h hq
  cases j with
  |zero=>simp only[List.set_cons_zero,fo];rw[hq];rfl
  |succ j=>
   simp only[List.set_cons_succ,fo];rw[ih j q t (by simpa using h) (by rw[Ow] at hq;exact hq)]
theorem afs {m:List (Int×List b_)} {g:Int} (h:aP m g≠[]):bM m g=true:=by
 unfold bM;unfold aP at h
 cases e:cZ m g with
 |none=>rw[e] at h;exact absurd J h
 |some _=>rfl
theorem UD {m:List (Int×List b_)} {g:Int} (v:List b_) (h:bM m g=true) (g':Int):aP (sF m g v) g'=if g=g' then v else aP m g':=by
 unfold sF;rw[af h,tY]
theorem aiz {w h:Int} {l:List aD} {i:Int} (h0:0<=i) (h1:i<l.length) (g:Int):
 gd w h g (l.take (i+1).toNat) []=if(rd l i).Goal=g then jt (gd w h g (l.take i.toNat) []) g (aY w h (rd l i).Cell) (rd l i).Id else gd w h g (l.take i.toNat) []:=by
 rw[HB h0 h1,RH];rfl
theorem pl1 {w h:Int} {l:List aD} (hb:l.length<=1000000) {m:List (Int×List b_)} (hm: ∀g,aP m g=gd w h g l []): ∀(n k:Nat) (i:Int) (gone:List Int) (out:List b_),i+n=(lQ l).length->0<=i->n<k->
 (∀g,g∈gone↔g∈(lQ l).take i.toNat)->(out.length:Int)<=i*1000000->j5.l1 k (lQ l) m gone out i=some (out++((lQ l).drop i.toNat).flatMap λg=>gd w h g l []):=by
 have hg:=RE l;have qw:=Ms l;intro n
 induction n with
 |zero=>
  intro k i gone out hi h0 hk ho hl;obtain⟨k,rfl⟩:=bl hk;rw[j5.l1,ah U,List.drop_of_length_le U];simp
 |succ n ih=>
  intro k i gone out hi h0 hk ho hl;obtain⟨k,rfl⟩:=bl hk;have hlen:=Mv w h (rd (lQ l) i) l [];simp only[List.length_nil,Nat.zero_add,show kV ([]:List b_)=0 from rfl] at hlen
  have hmul:i*1000000+1000000<=1000000000000:=U;rw[j5.l1,af U,af U,af,hm,af U,wi U U,BF h0 U]
  ·rw[ih k (i+1) _ _ U U U ?_ ?_]
   ·simp
   ·intro g;rw[HB h0 U];simp only[List.mem_cons,List.mem_append,List.not_mem_nil,or_false,ho g];exact or_comm
   ·simp only[List.length_append];omega
  ·rw[ho];intro cu;obtain⟨j,j0,j1,j2⟩:=jK cu;simp only[List.length_take] at j1;have e1:rd ((lQ l).take i.toNat) j=rd (lQ l) j:=by
    unfold rd;rw[List.getD_eq_getElem?_getD,List.getD_eq_getElem?_getD,List.getElem?_take_of_lt U]
   rw[e1] at j2;have:=uc qw (i:=j) (j:=i) j0 U U;exact this j2
theorem pl0 {w h:Int} {l:List aD} (hb:l.length<=1000000): ∀(n k:Nat) (i:Int) (m:List (Int×List b_)) (at':List ((Int×Int)×Int)),i+n=l.length->0<=i->n<k->
 PI w h l i m at'->j5.l0 k w h l m at' i=some (jN w h l):=by
 intro n
 induction n with
 |zero=>
  intro k i m at' hi h0 hk hp;obtain⟨k,rfl⟩:=bl hk;rw[j5.l0,ah U,agk hb,aL];have hg:=RE l;have:=pl1 (w:=w) (h:=h) hb (m:=m) (λg=>by rw[hp.of g,List.take_of_length_le U]) (lQ l).length fuel 0 [] [] U U (by rw[cM];omega) (λg=>by simp) bk
  simpa[jN] using this
 |succ n ih=>
  intro k i m at' hi h0 hk hp;obtain⟨k,rfl⟩:=bl hk;rw[j5.l0,af U,af U,sX,aL];have Ak:=hp.of;have hlen:=λg=>Mv w h g (l.take i.toNat) [];simp only[List.length_nil,Nat.zero_add,List.length_take] at hlen;generalize hg:(rd l i).Goal=g0 at*;generalize hs:aY w h (rd l i).Cell=s0 at*;have hL:=hlen g0;generalize od:gd w h g0 (l.take i.toNat) []=ps at*;have hT: ∀g,gd w h g (l.take (i+1).toNat) []=if g0=g then jt ps g0 s0 (rd l i).Id else gd w h g (l.take i.toNat) []:=λg=>by
   rw[aiz h0 U,hg,hs]
   by_cases e:g0=g
   ·subst e;rw[af rfl,af rfl,od]
   ·rw[ah e,ah e]
  have ajt:kV ([]:List b_)=0:=rfl
  by_cases Af:bM at' (g0,s0)=true
  ·have cu:=(hp.has g0 s0).1 Af;have mL:=hp.place g0 s0 Af;rw[od] at cu mL;rw[ah (by rw[Af];decide)]
   simp only[aL];rw[mL,Ak g0,od,af U];have DO:=U' ps (fo ps s0) U U;rw[af U];simp only[aL];rw[wi U U];have Nt:bM m g0=true:=afs (by rw[Ak g0,od];intro e;rw[e] at cu;simp at cu)
   have ea:=PK ps g0 s0 (rd l i).Id cu;rw[show((fo ps s0:Int)).toNat=fo ps s0 by omega]
   refine ih k (i+1) _ _ U U U ⟨λg=>?_,λg s=>?_,λg s hh=>?_⟩
   ·rw[UD _ Nt,hT]
    by_cases e:g0=g
    ·rw[af e,af e,ea]
    ·rw[ah e,ah e,Ak]
   ·rw[hT]
    by_cases e:g0=g
    ·subst e;rw[af J,ea,U9 _ _ _ _ cu (by rfl),List.length_set,hp.has g0 s,od]
    ·rw[ah e,hp.has]
   ·rw[hT]
    by_cases e:g0=g
    ·subst e;rw[af J,ea,U9 _ _ _ _ cu (by rfl),hp.place g0 s hh,od]
    ·rw[ah e,hp.place _ _ hh]
  ·have Ny:fo ps s0=ps.length:=by
    have h1:=Ol ps s0;have h2: ¬fo ps s0<ps.length:=λq=>Af ((hp.has g0 s0).2 (by rw[od];exact q))
    omega
   have Ag:bM at' (g0,s0)=false:=by rw[Bool.eq_false_iff];exact Af
   rw[af (by rw[Ag];rfl),Ak g0,od,af U]
   simp only[aL,tY,if_true];have hr:rd (ps++[(⟨g0,s0,[]⟩:b_)]) (ps.length:Int)=⟨g0,s0,[]⟩:=by rw[Oy U U,af J]
   rw[hr,af bm,af bk];simp only[aL];rw[wi U U];have Nt:bM (cE m g0 (ps++[(⟨g0,s0,[]⟩:b_)])) g0=true:=by rw[D5];simp
   have ea:=PN ps g0 s0 (rd l i).Id Ny;have es:List.set (ps++[(⟨g0,s0,[]⟩:b_)]) (Int.toNat (ps.length:Int)) ⟨g0,s0,[]++[(rd l i).Id]⟩=ps++[⟨g0,s0,[(rd l i).Id]⟩]:=by
    rw[show((ps.length:Int)).toNat=ps.length by omega,List.set_append_right _ _ U];simp
   rw[es];refine ih k (i+1) _ _ U U U ⟨λg=>?_,λg s=>?_,λg s hh=>?_⟩
   ·rw[UD _ Nt,hT]
    by_cases e:g0=g
    ·rw[af e,af e,ea]
    ·rw[ah e,ah e,tY,ah e,Ak]
   ·rw[hT,D5]
    by_cases e:g0=g
    ·subst e;rw[af J,ea,U8 _ _ _ _ _ Ny,List.length_append]
     by_cases z:s=s0
     ·subst z;simp
     ·have h1:=hp.has g0 s;have h2:=Ol ps s;rw[od] at h1;rw[ah z];simp only[Prod.mk.injEq,true_and,List.length_cons,List.length_nil,Bool.or_eq_true,decide_eq_true_eq,h1]
      by_cases y:fo ps s=ps.length
      ·rw[af y];omega
      ·rw[ah y];omega
    ·rw[ah e,<-hp.has];simp[e]
   ·rw[hT,tY]
    by_cases e:g0=g
    ·subst e;rw[af J,ea,U8 _ _ _ _ _ Ny]
     by_cases z:s=s0
     ·subst z;simp
     ·have bL: ¬((g0,s0)=(g0,s)):=λq=>z (Prod.mk.inj q).2.symm;rw[ah bL,ah z];rw[D5] at hh;simp only[bL,decide_false,Bool.false_or] at hh;have h1:=(hp.has g0 s).1 hh;rw[od] at h1;rw[hp.place _ _ hh,od,ah U];rfl
    ·have bL: ¬((g0,s0)=(g,s)):=λq=>e (Prod.mk.inj q).1;rw[ah e,ah bL];rw[D5] at hh;simp only[bL,decide_false,Bool.false_or] at hh;exact hp.place _ _ hh
theorem agp {w h:Int} {l:List aD} (hb:l.length<=1000000) (hm:ik w h l):j5.f w h l=some (jN w h l):=by
 obtain⟨r,r1,r2⟩:=Vb (w:=w) (h:=h) (l:=l) U;unfold j5.f;rw[r1,aL,ah (by rw[r2.2 hm];decide)]
 exact pl0 hb l.length fuel 0 [] [] U U (by rw[cM];omega) ⟨λg=>by simp[aP,cZ,gd];rfl,λg s=>by simp[bM,cZ,gd,fo],λg s hh=>by simp[bM,cZ] at hh⟩
structure GI (w h g:Int) (l:List aD) (ps:List b_):Prop where
 goal: ∀p∈ps,p.Goal=g
 apart:ps.Pairwise λa b=>a.eP≠b.eP
 some_: ∀p∈ps,p.cX≠[]
 of: ∀p∈ps,∀id∈p.cX,∃u∈l,u.Id=id/\u.Goal=g/\aY w h u.Cell=p.eP
 up: ∀p∈ps,p.cX.Pairwise (· < ·)
theorem E5: ∀(ps:List b_) (g s id:Int) (p:b_),p∈jt ps g s id->p∈ps∨p=⟨g,s,[id]⟩∨ ∃q∈ps,q.eP=s/\p=⟨q.Goal,q.eP,q.cX++[id]⟩
 |[],g,s,id,p,h=>by simp only[jt,List.mem_singleton] at h;exact .inr (.inl h)
 |q::r,g,s,id,p,h=>by
  simp only[jt] at h;split at h
  ·rename_i e;rcases List.mem_cons.1 h with h |h
   ·exact .inr (.inr ⟨q,List.mem_cons_self ..,e,h⟩)
   ·exact .inl (List.mem_cons_of_mem _ h)
  ·rcases List.mem_cons.1 h with h |h
   ·exact .inl (h▸List.mem_cons_self ..)
   ·rcases E5 r g s id p h with h |h |⟨z,h1,h2⟩
    ·exact .inl (List.mem_cons_of_mem _ h)
    ·exact .inr (.inl h)
    ·exact .inr (.inr ⟨z,List.mem_cons_of_mem _ h1,h2⟩)
theorem PO: ∀(ps:List b_) (g s id:Int),(jt ps g s id).map (·.eP)=if s∈ps.map (·.eP) then ps.map (·.eP) else ps.map (·.eP)++[s]
 |[],g,s,id=>by simp[jt]
 |q::r,g,s,id=>by
  have:=PO r g s id;simp only[jt]
  by_cases e:q.eP=s
  ·rw[af e];simp[e]
  ·rw[ah e];simp only[List.map_cons,this,List.mem_cons]
   by_cases z:s∈r.map (·.eP)
   ·rw[af z,af (.inr z)]
   ·rw[ah z,ah (by rintro(y |y);exact e y.symm;exact z y)];rfl
theorem GI.step {w h g:Int} {l:List aD} {ps:List b_} {u:aD} (hi:GI w h g l ps) (hu: ∀x∈l,x.Id<u.Id) (hg:u.Goal=g):GI w h g (l++[u]) (jt ps g (aY w h u.Cell) u.Id):=by
 refine⟨λp hp=>?_,?_,λp hp=>?_,λp hp id lD=>?_,λp hp=>?_⟩
 ·rcases E5 _ _ _ _ _ hp with q |q |⟨z,z1,z2,z3⟩
  ·exact hi.goal p q
  ·rw[q]
  ·rw[z3];exact hi.goal z z1
 ·have h1:(ps.map (·.eP)).Pairwise (· ≠ ·):=List.pairwise_map.2 hi.apart;have h2:((jt ps g (aY w h u.Cell) u.Id).map (·.eP)).Pairwise (· ≠ ·):=by
   rw[PO];split
   ·exact h1
   ·rename_i z;rw[List.pairwise_append];exact⟨h1,by simp,λa ha b hb=>by simp at hb;subst hb;intro e;subst e;exact z ha⟩
  exact List.pairwise_map.1 h2
 ·rcases E5 _ _ _ _ _ hp with q |q |⟨z,z1,z2,z3⟩
  ·exact hi.some_ p q
  ·rw[q];simp
  ·rw[z3];simp
 ·rcases E5 _ _ _ _ _ hp with q |q |⟨z,z1,z2,z3⟩
  ·obtain⟨x,x1,x2⟩:=hi.of p q id lD;exact⟨x,List.mem_append_left _ x1,x2⟩
  ·subst q;simp only[List.mem_singleton] at lD;exact⟨u,by simp,lD.symm,hg,J⟩
  ·subst z3;rcases List.mem_append.1 lD with y |y
   ·obtain⟨x,x1,x2⟩:=hi.of z z1 id y;exact⟨x,List.mem_append_left _ x1,x2⟩
   ·simp only[List.mem_singleton] at y;exact⟨u,by simp,y.symm,hg,z2.symm⟩
 ·rcases E5 _ _ _ _ _ hp with q |q |⟨z,z1,z2,z3⟩
  ·exact hi.up p q
  ·rw[q];simp
  ·rw[z3];simp only;rw[List.pairwise_append];refine⟨hi.up z z1,by simp,λa ha b hb=>?_⟩
   simp at hb;subst hb;obtain⟨x,x1,x2,_⟩:=hi.of z z1 a ha;rw[<-x2];exact hu x x1
theorem GI.more {w h g:Int} {l:List aD} {ps:List b_} (hi:GI w h g l ps) (m:List aD):GI w h g (l++m) ps:=
 ⟨hi.goal,hi.apart,hi.some_,λp hp id lD=>by
   obtain⟨x,x1,x2⟩:=hi.of p hp id lD;exact⟨x,List.mem_append_left _ x1,x2⟩,hi.up⟩
theorem Mt {w h g:Int}: ∀(m l:List aD) (ps:List b_),GI w h g l ps->((l++m).map (·.Id)).Pairwise (· < ·)->GI w h g (l++m) (gd w h g m ps)
 |[],l,ps,hi,_=>by simpa[gd] using hi
 |u::r,l,ps,hi,hp=>by
  have hu: ∀x∈l,x.Id<u.Id:=λx hx=>by
   rw[List.map_append,List.pairwise_append] at hp;exact hp.2.2 _ (List.mem_map_of_mem hx) _ bk
  have e:l++u::r=(l++[u])++r:=by simp
  rw[e] at hp⊢;simp only[gd]
  by_cases hg:u.Goal=g
  ·rw[af hg];exact Mt r _ _ (hi.step hu hg) hp
  ·rw[ah hg];exact Mt r _ _ (hi.more [u]) hp
theorem RI {w h g:Int}: ∀(m:List aD) (ps:List b_),kV (gd w h g m ps)=kV ps+(m.filter λu=>decide (u.Goal=g)).length
 |[],ps=>by simp[gd]
 |u::r,ps=>by
  simp only[gd];rw[RI r]
  by_cases hg:u.Goal=g
  ·rw[af hg,Lp,List.filter_cons_of_pos (by simpa using hg)];simp;omega
  ·rw[ah hg,List.filter_cons_of_neg (by simpa using hg)]
theorem ik.pair {w h:Int} {l:List aD} (hm:ik w h l):(l.map (·.Id)).Pairwise (· < ·):=by
 rw[List.pairwise_map];exact Oz (λi j i0 ij j1=>hm.Aq i0 ij j1)
theorem AG {w h:Int} {l:List aD} (hm:ik w h l) (g:Int):GI w h g l (gd w h g l []):=by
 have:=Mt (w:=w) (h:=h) (g:=g) l [] [] ⟨by simp,by simp,by simp,by simp,by simp⟩ (by simpa using hm.pair)
 simpa using this
theorem U_ {w h:Int} {l:List aD}: ∀G:List Int,kV (G.flatMap λg=>gd w h g l [])=(G.map λg=>(l.filter λu=>decide (u.Goal=g)).length).sum
 |[]=>rfl
 |g::G=>by
  simp only[List.flatMap_cons,List.map_cons,List.sum_cons];rw[agh,U_ G,RI];simp[kV]
theorem aiv (G:List Int) (hn:G.Nodup): ∀l:List aD,(∀u∈l,u.Goal∈G)->(G.map λg=>(l.filter λu=>decide (u.Goal=g)).length).sum=l.length:=by
 have one: ∀(G:List Int) (a:Int),G.Nodup->(G.map λg=>if a=g then 1 else 0).sum=if a∈G then 1 else 0:=by
  intro G a
  induction G with
  |nil=>simp
  |cons g G ih=>
   intro hn;rw[List.nodup_cons] at hn;simp only[List.map_cons,List.sum_cons,ih hn.2,List.mem_cons]
   by_cases e:a=g
   ·subst e;simp[hn.1]
   ·simp[e]
 intro l
 induction l with
 |nil=>
  intro _;have z: ∀G:List Int,(G.map λg=>(([]:List aD).filter λu=>decide (u.Goal=g)).length).sum=0:=by
   intro G
   induction G with
   |nil=>rfl
   |cons g G ih=>simp only[List.map_cons,List.sum_cons,ih];rfl
  exact z G
 |cons u r ih=>
  intro hl;have h1:=ih (λx hx=>hl x (List.mem_cons_of_mem _ hx));have h2:=one G u.Goal hn;rw[af (hl u (List.mem_cons_self ..))] at h2;have key: ∀G:List Int,(G.map λg=>((u::r).filter λu=>decide (u.Goal=g)).length).sum=(G.map λg=>if u.Goal=g then 1 else 0).sum+(G.map λg=>(r.filter λu=>decide (u.Goal=g)).length).sum:=by
   intro G
   induction G with
   |nil=>rfl
   |cons g G ihG=>
    simp only[List.map_cons,List.sum_cons,ihG]
    by_cases e:u.Goal=g
    ·rw[List.filter_cons_of_pos (by simpa using e),af e];simp;omega
    ·rw[List.filter_cons_of_neg (by simpa using e),ah e];omega
  rw[key,h1,h2];simp;omega
theorem Kk {w h:Int} {l:List aD}:kV (jN w h l)=l.length:=by
 unfold jN;rw[U_,aiv _ (Ms l) l (λu hu=>(RF l _).2 ⟨u,hu,J⟩)]
theorem JY: ∀ps:List b_,(∀p∈ps,p.cX≠[])->ps.length<=kV ps
 |[],_=>by simp
 |p::r,h=>by
  have h1:=JY r (λq hq=>h q (List.mem_cons_of_mem _ hq));have h2:0<p.cX.length:=List.length_pos_iff.2 (h p (List.mem_cons_self ..));simp only[List.length_cons,kV];omega
structure W4 (w h:Int) (l:List aD) (G:List Int) (ps:List b_):Prop where
 goal: ∀p∈ps,p.Goal∈G
 some_: ∀p∈ps,p.cX≠[]
 up: ∀p∈ps,p.cX.Pairwise (· < ·)
 of: ∀p∈ps,∀id∈p.cX,∃u∈l,u.Id=id/\u.Goal=p.Goal/\aY w h u.Cell=p.eP
 order:ps.Pairwise λa b=>G.idxOf a.Goal<=G.idxOf b.Goal/\ ¬(a.Goal=b.Goal/\a.eP=b.eP)
theorem Oo {w h:Int} {l:List aD} (hm:ik w h l):W4 w h l (lQ l) (jN w h l):=by
 have mem: ∀p∈jN w h l,∃g∈lQ l,p∈gd w h g l []:=λp hp=>by
  unfold jN at hp;exact List.mem_flatMap.1 hp
 refine⟨λp hp=>?_,λp hp=>?_,λp hp=>?_,λp hp id lD=>?_,?_⟩
 ·obtain⟨g,h1,h2⟩:=mem p hp;rw[(AG hm g).goal p h2];exact h1
 ·obtain⟨g,h1,h2⟩:=mem p hp;exact(AG hm g).some_ p h2
 ·obtain⟨g,h1,h2⟩:=mem p hp;exact(AG hm g).up p h2
 ·obtain⟨g,h1,h2⟩:=mem p hp;obtain⟨u,u1,u2,u3,u4⟩:=(AG hm g).of p h2 id lD;exact⟨u,u1,u2,by rw[u3,(AG hm g).goal p h2],u4⟩
 ·unfold jN;rw[List.pairwise_flatMap];refine⟨λg _=>?_,?_⟩
  ·have hg:=AG (w:=w) (h:=h) hm g;refine(List.Pairwise.and_mem.1 hg.apart).imp ?_;rintro a b ⟨ha,hb,q⟩;rw[hg.goal a ha,hg.goal b hb];exact⟨Nat.le_refl _,λz=>q z.2⟩
  ·have hn:=Ms l;rw[List.pairwise_iff_getElem];intro i j hi hj rA a ha b hb;rw[(AG hm _).goal a ha,(AG hm _).goal b hb];have e1:(lQ l).idxOf (lQ l)[i]=i:=hn.idxOf_getElem i hi;have e2:(lQ l).idxOf (lQ l)[j]=j:=hn.idxOf_getElem j hj;rw[e1,e2];refine⟨by omega,λz=>?_⟩
   have:=(List.pairwise_iff_getElem.1 hn) i j hi hj rA;exact this z.1
section
inductive tn (k:Int):List (Int×Int)->bZ->bZ->Prop
 |nil (n:bZ):tn k [] n n
 |snoc {ps:List (Int×Int)} {n n1:bZ} {b:Int} {ord:List Int} {c:eI} {goal s:Int} {r:fZ×Er×bZ} (h:tn k ps n n1) (hn:iT n1 k b ord) (hc:n1.core=some c) (hg:cN c.aK.m goal) (hs:bI c.aK.m.W c.aK.m.H s) (hf:Da n1 k b ord c goal s r):tn k (ps++[(goal,s)]) n r.2.2
def C9 (g:bw) (u:aD) (d:Int):Prop:=
 ∃R l f,uy g R/\R.goal=u.Goal/\(l.length<=1025/\iy.f g R (aY g.m.W g.m.H u.Cell)=some l)/\(∀y,y∈l↔xY g R (aY g.m.W g.m.H u.Cell) y)/\we (fC g.m (aY g.m.W g.m.H u.Cell)) l KF f/\d=rd f.cA (dx g.m.W g.m.H u.Cell)
theorem PL: ∀(ps:List b_) (g s id:Int) (p:b_),p∈ps-> ∃q∈jt ps g s id,q.eP=p.eP/\ ∀x∈p.cX,x∈q.cX
 |[],_,_,_,_,h=>by simp at h
 |a::r,g,s,id,p,h=>by
  simp only[jt];split
  ·rename_i e;rcases List.mem_cons.1 h with rfl |h
   ·exact⟨_,List.mem_cons_self ..,J,λx hx=>List.mem_append_left _ hx⟩
   ·exact⟨p,List.mem_cons_of_mem _ h,J,λx hx=>hx⟩
  ·rcases List.mem_cons.1 h with rfl |h
   ·exact⟨p,List.mem_cons_self ..,J,λx hx=>hx⟩
   ·obtain⟨q,q1,q2⟩:=PL r g s id p h;exact⟨q,List.mem_cons_of_mem _ q1,q2⟩
theorem PJ: ∀(ps:List b_) (g s id:Int),∃q∈jt ps g s id,q.eP=s/\id∈q.cX
 |[],g,s,id=>⟨_,List.mem_cons_self ..,J,List.mem_cons_self ..⟩
 |a::r,g,s,id=>by
  simp only[jt];split
  ·rename_i e;exact⟨_,List.mem_cons_self ..,e,by simp⟩
  ·obtain⟨q,q1,q2⟩:=PJ r g s id;exact⟨q,List.mem_cons_of_mem _ q1,q2⟩
theorem Mu (w h g:Int): ∀(l:List aD) (ps:List b_) (p:b_),p∈ps-> ∃q∈gd w h g l ps,q.eP=p.eP/\ ∀x∈p.cX,x∈q.cX
 |[],_,p,h=>⟨p,h,J,λ_ z=>z⟩
 |u::r,ps,p,hp=>by
  simp only[gd];split
  ·obtain⟨q,q1,q2,q3⟩:=PL ps g (aY w h u.Cell) u.Id p hp;obtain⟨q',a1,a2,a3⟩:=Mu w h g r _ q q1;exact⟨q',a1,a2.trans q2,λx hx=>a3 x (q3 x hx)⟩
  ·exact Mu w h g r ps p hp
theorem RJ (w h g:Int): ∀(l:List aD) (ps:List b_) (u:aD),u∈l->u.Goal=g-> ∃q∈gd w h g l ps,q.eP=aY w h u.Cell/\u.Id∈q.cX
 |[],_,_,h,_=>by simp at h
 |a::r,ps,u,hu,hg=>by
  simp only[gd];rcases List.mem_cons.1 hu with rfl |hu
  ·rw[af hg];obtain⟨q,q1,q2,q3⟩:=PJ ps g (aY w h u.Cell) u.Id;obtain⟨q',a1,a2,a3⟩:=Mu w h g r _ q q1;exact⟨q',a1,a2.trans q2,a3 _ q3⟩
  ·exact RJ w h g r _ u hu hg
theorem agq {w h:Int} {l:List aD} {u:aD} (hu:u∈l): ∃q∈jN w h l,u.Id∈q.cX:=by
 obtain⟨q,q1,_,q3⟩:=RJ w h u.Goal l [] u hu J;refine⟨q,?_,q3⟩;unfold jN;exact List.mem_flatMap.2 ⟨u.Goal,(RF l _).2 ⟨u,hu,J⟩,q1⟩
theorem TX {w h:Int} {l:List aD} (hm:ik w h l) {u v:aD} (hu:u∈l) (hv:v∈l) (e:u.Id=v.Id):u=v:=by
 obtain⟨i,i0,i1,rfl⟩:=jK hu;obtain⟨j,j0,j1,rfl⟩:=jK hv;rcases Int.lt_trichotomy i j with q |q |q
 ·have:=hm.Aq i0 q j1;omega
 ·rw[q]
 ·have:=hm.Aq j0 q i1;omega
variable {S : bE} {k : Int} {L : List aD}
theorem aaF (bt:bZ) (D:List (Int×Int)) (hL:L.length<=1000000): ∀(n m:Nat) (x:List Int) (i:Int),(L.length-i).toNat<=n->n<m->0<=i->i<=L.length->x=(L.take i.toNat).map (λu=>aP D u.Id)->
 eA.l3 m S L bt D x i=some (L.map (λu=>aP D u.Id),Er.nil,⟨S.most,bt,S.eH⟩):=by
 have fin: ∀(m:Nat) (x:List Int) (i:Int),¬i<L.length->x=(L.take i.toNat).map (λu=>aP D u.Id)->eA.l3 (m+1) S L bt D x i=some (L.map (λu=>aP D u.Id),Er.nil,⟨S.most,bt,S.eH⟩):=λm x i hi hx=>by
  rw[eA.l3,ah hi,hx,List.take_of_length_le U]
 intro n
 induction n with
 |zero=>
  intro m x i hn hm hi dZ hx;obtain⟨m,rfl⟩:=bl hm;exact fin m x i U hx
 |succ n ih=>
  intro m x i hn hm hi dZ hx;obtain⟨m,rfl⟩:=bl hm
  by_cases aQ:i<L.length
  ·rw[eA.l3,af aQ,af ⟨hi,aQ⟩,af (by rw[hx];simp;omega),wi U U]
   refine ih m _ (i+1) U U U U ?_;rw[hx,HB hi aQ];simp
  ·exact fin m x i aQ hx
theorem aaE (x4:List (Int×Int)) (ps:List b_) (i:Int) (dy:bZ) (F:List Int) (od:(rd ps i).cX.length<=1000000) (cu: ∀id∈(rd ps i).cX,0<=aP x4 id/\aP x4 id<F.length) (D0:List (Int×Int)): ∀(n m:Nat) (D:List (Int×Int)) (j:Int),((rd ps i).cX.length-j).toNat<=n->n<m->0<=j->j<=(rd ps i).cX.length->
 (∀id,(∃q:Int,0<=q/\q<j/\rd (rd ps i).cX q=id)->aP D id=rd F (aP x4 id))->(∀id,id∉(rd ps i).cX->aP D id=aP D0 id)->
 Ok (eA.l2 m x4 i ps dy F D j) (λr=> ∃D',r=Sum.inr (dy,D')/\(∀id∈(rd ps i).cX,aP D' id=rd F (aP x4 id))/\ ∀id,id∉(rd ps i).cX->aP D' id=aP D0 id):=by
 have fin: ∀(m:Nat) (D:List (Int×Int)) (j:Int),¬j<(rd ps i).cX.length->(∀id,(∃q:Int,0<=q/\q<j/\rd (rd ps i).cX q=id)->aP D id=rd F (aP x4 id))->(∀id,id∉(rd ps i).cX->aP D id=aP D0 id)->
  Ok (eA.l2 (m+1) x4 i ps dy F D j) (λr=> ∃D',r=Sum.inr (dy,D')/\(∀id∈(rd ps i).cX,aP D' id=rd F (aP x4 id))/\ ∀id,id∉(rd ps i).cX->aP D' id=aP D0 id):=λm D j hj ha hb=>by
  rw[eA.l2,ah hj];refine Ok.pure ⟨D,J,λid lD=>?_,hb⟩
  obtain⟨q,q0,q1,e⟩:=jK lD;exact ha id ⟨q,q0,by omega,e⟩
 intro n
 induction n with
 |zero=>
  intro m D j hn hm hj iM ha hb;obtain⟨m,rfl⟩:=bl hm;exact fin m D j U ha hb
 |succ n ih=>
  intro m D j hn hm hj iM ha hb;obtain⟨m,rfl⟩:=bl hm
  by_cases aQ:j<(rd ps i).cX.length
  ·have jh:=dS hj aQ;rw[eA.l2,wi U U];refine Ok.pos aQ (Ok.cw ⟨hj,aQ⟩ (Ok.cw (cu _ jh) (ih m _ (j+1) U U U U (λid ⟨q,q0,q1,e⟩=>?_) (λid lD=>?_))))
   ·rw[tY];split
    ·rename_i z;rw[z]
    ·rename_i z;refine ha id ⟨q,q0,?_,e⟩;have:q≠j:=λy=>z (by rw[<-e,y])
     omega
   ·rw[tY,ah (λz=>lD (by rw[<-z];exact jh))];exact hb id lD
  ·exact fin m D j aQ ha hb
abbrev DZ (p:b_):Int×Int:=(p.Goal,p.eP)
theorem aaD {g:bw} (hm:ik g.m.W g.m.H L) (hL:L.length<=1000) (hGs: ∃more,dE g more) (F2: ∀u∈L,cN g.m u.Goal) (x4:List (Int×Int)) (JH: ∀u∈L,aP x4 u.Id=dx g.m.W g.m.H u.Cell) (n0:bZ): ∀(n m:Nat) (nv:bZ) (D:List (Int×Int)) (i:Int) (b:Int) (ord:List Int),((jN g.m.W g.m.H L).length-i).toNat<=n->n<m->0<=i->i<=(jN g.m.W g.m.H L).length->
 iT nv k b ord->0<=b->b+5000*((jN g.m.W g.m.H L).length-i)<=90000000000->(∃c,nv.core=some c/\c.aK=g)->tn k (((jN g.m.W g.m.H L).map DZ).take i.toNat) n0 nv->
 (∀u∈L,(∃j:Int,0<=j/\j<i/\u.Id∈(rd (jN g.m.W g.m.H L) j).cX)->C9 g u (aP D u.Id))->
 Ok (eA.l1 m S L x4 (jN g.m.W g.m.H L) nv D i) (λr=>r.2.1=Er.nil/\ ∃pj qE,r.2.2=⟨S.most,pj,S.eH⟩/\iT pj k (b+5000*((jN g.m.W g.m.H L).length-i)) qE/\(∃c,pj.core=some c/\c.aK=g)/\tn k ((jN g.m.W g.m.H L).map DZ) n0 pj/\r.1.length=L.length/\ ∀j:Int,0<=j->j<L.length->C9 g (rd L j) (rd r.1 j)):=by
 have Jr:=Oo hm;have mL:(jN g.m.W g.m.H L).length<=L.length:=by
  have:=JY _ Jr.some_;rw[Kk] at this;exact this
 generalize od:jN g.m.W g.m.H L=ps at*;have fin: ∀(m:Nat) (nv:bZ) (D:List (Int×Int)) (i b:Int) (ord:List Int),¬i<ps.length->i<=ps.length->iT nv k b ord->(∃c,nv.core=some c/\c.aK=g)->tn k ((ps.map DZ).take i.toNat) n0 nv->
  (∀u∈L,(∃j:Int,0<=j/\j<i/\u.Id∈(rd ps j).cX)->C9 g u (aP D u.Id))->
  Ok (eA.l1 (m+1) S L x4 ps nv D i) (λr=>r.2.1=Er.nil/\ ∃pj qE,r.2.2=⟨S.most,pj,S.eH⟩/\iT pj k (b+5000*(ps.length-i)) qE/\(∃c,pj.core=some c/\c.aK=g)/\tn k (ps.map DZ) n0 pj/\r.1.length=L.length/\ ∀j:Int,0<=j->j<L.length->C9 g (rd L j) (rd r.1 j)):=by
  intro m nv D i b ord hi dZ hn hc hF ha;rw[eA.l1,ah hi,aaF nv D U L.length fuel [] 0 U (by rw[cM];omega) U U bk]
  refine Ok.pure ⟨J,nv,ord,J,by rw[show b+5000*((ps.length:Int)-i)=b by omega];exact hn,hc,?_,by simp,λj j0 j1=>?_⟩
  ·rw[List.take_of_length_le bm] at hF;exact hF
  ·simp only;rw[yX j0 j1];have hu:=dS j0 j1;obtain⟨q,q1,q2⟩:=agq (w:=g.m.W) (h:=g.m.H) hu;rw[od] at q1;obtain⟨x,x0,x1,e⟩:=jK q1;exact ha _ hu ⟨x,x0,by omega,by rw[e];exact q2⟩
 intro n
 induction n with
 |zero=>
  intro m nv D i b ord hn wO hi dZ hN hb FT hc hF ha;obtain⟨m,rfl⟩:=bl wO;exact fin m nv D i b ord U dZ hN hc hF ha
 |succ n ih=>
  intro m nv D i b ord hn wO hi dZ hN hb FT hc hF ha;obtain⟨m,rfl⟩:=bl wO
  by_cases aQ:i<ps.length
  ·have hp:=dS hi aQ;obtain⟨id0,ad3⟩:=List.exists_mem_of_ne_nil _ (Jr.some_ _ hp);obtain⟨u0,a1,a2,a3,a4⟩:=Jr.of _ hp id0 ad3;obtain⟨c,c1,c2⟩:=hc;subst c2;have hg:cN c.aK.m (rd ps i).Goal:=by rw[<-a3];exact F2 u0 a1
   have eo: ∀u∈L,bT c.aK.m.W c.aK.m.H u.Cell:=λu hu=>by
    obtain⟨j,j0,j1,rfl⟩:=jK hu;exact hm.cell j0 j1
   have hs:bI c.aK.m.W c.aK.m.H (rd ps i).eP:=by rw[<-a4];exact vO (eo u0 a1)
   rw[eA.l1,wi (x:=i+1) U U];refine Ok.pos aQ ?_;rw[af (show 0<=i/\i<(ps.length:Int) from⟨hi,aQ⟩)]
   obtain⟨r,er,hr⟩:=UI hN ⟨hb,by omega⟩ c1 hg hs
   obtain⟨f,e,n'⟩:=r;have he:=hr.err;simp only at he;subst he;obtain⟨R,l,c',qE,f1,f2,f3,f4,f5,f6,f7,f8,f9,f10,f11,f12,f13,f14,f15,f16,f17,f18⟩:=hr.Dw;simp only at f6 f7 f16;have ef:tZ.f nv (rd ps i).Goal (rd ps i).eP=some (f,0,n'):=by
    unfold tZ.f;rw[er,aL];simp only[UH,aL]
   have Ak:=Jr.of _ hp;obtain⟨more,hG⟩:=hGs;have BU: ∀u∈L,aY c.aK.m.W c.aK.m.H u.Cell=(rd ps i).eP->0<=dx c.aK.m.W c.aK.m.H u.Cell/\dx c.aK.m.W c.aK.m.H u.Cell<f.cA.length:=λu hu e=>by
    have lC:=eo u hu;have:=CK hG (c:=u.Cell) lC.2;rw[e] at this;rw[f6.dl];exact⟨this.1,this.2.1⟩
   have DO:(rd ps i).cX.length<=1000000:=by
    have h1:=U' ps i hi aQ;rw[<-od,Kk,od] at h1;omega
   have qv:=aaE x4 ps i n' f.cA DO (λid lD=>by
    obtain⟨u,u1,u2,u3,u4⟩:=Ak id lD;rw[<-u2,JH u u1];exact BU u u1 u4) D (rd ps i).cX.length fuel D 0 U (by rw[cM];omega) U U (λid ⟨q,q0,q1,_⟩=>by omega) (λid _=>rfl)
   refine Ok.bind (P:=λz=> ∃D',z=Sum.inr (n',D')/\(∀id∈(rd ps i).cX,aP D' id=rd f.cA (aP x4 id))/\ ∀id,id∉(rd ps i).cX->aP D' id=aP D id) ?_ λz hz=>?_
   ·refine Ok.bind (P:=λp=>p=(n',f.fb,f.cA,(0:Int))) (Ok.eq ef (Ok.pure J)) λp hp=>?_
    subst hp;exact Ok.neg bk qv
   obtain⟨D',F9,DR,JC⟩:=hz;subst F9;refine(ih m n' D' (i+1) (b+5000) qE U U U U f16 U U ⟨c',f7,f8⟩ ?_ (λu hu ⟨j,j0,j1,hj⟩=>?_)).mono λr ve=>?_
   ·rw[HB hi (by simpa using aQ),yX hi aQ]
    exact tn.snoc (r:=(f,Er.nil,n')) hF hN c1 hg hs hr
   ·by_cases z:u.Id∈(rd ps i).cX
    ·obtain⟨v,v1,v2,v3,v4⟩:=Ak _ z;have:=TX hm v1 hu v2;subst this;rw[DR _ z,JH _ hu];exact⟨R,l,f,f1,by rw[f2,v3],⟨f3,by rw[v4];exact f18.2⟩,by rw[v4];exact f4,by rw[v4];exact f6,J⟩
    ·rw[JC _ z];refine ha u hu ⟨j,j0,?_,hj⟩;have:j≠i:=λy=>z (by rw[<-y];exact hj)
     omega
   ·obtain⟨h1,pj,o',h2,h3,h4⟩:=ve;exact⟨h1,pj,o',h2,by rw[show b+5000*((ps.length:Int)-i)=b+5000+5000*(ps.length-(i+1)) by omega];exact h3,h4⟩
  ·exact fin m nv D i b ord aQ dZ hN hc hF ha
theorem aaC {g:bw} (hm:ik g.m.W g.m.H L) (hL:L.length<=1000) (Q:List Int×Er×bE->Prop) (DM: ∀x4:List (Int×Int),(∀u∈L,aP x4 u.Id=dx g.m.W g.m.H u.Cell)->Ok (eA.l1 fuel S L x4 (jN g.m.W g.m.H L) S.nav ([]:List (Int×Int)) 0) Q): ∀(n m:Nat) (x4:List (Int×Int)) (i:Int),(L.length-i).toNat<=n->n<m->0<=i->i<=L.length->(∀u∈L,(∃j:Int,0<=j/\j<i/\rd L j=u)->aP x4 u.Id=dx g.m.W g.m.H u.Cell)->
 Ok (eA.l0 m S L (g.m.W,g.m.H) x4 i) Q:=by
 have fin: ∀(m:Nat) (x4:List (Int×Int)) (i:Int),¬i<L.length->(∀u∈L,(∃j:Int,0<=j/\j<i/\rd L j=u)->aP x4 u.Id=dx g.m.W g.m.H u.Cell)->Ok (eA.l0 (m+1) S L (g.m.W,g.m.H) x4 i) Q:=λm x4 i hi ha=>by
  rw[eA.l0,ah hi];refine Ok.eq (agp U hm) (DM x4 λu hu=>?_);obtain⟨j,j0,j1,e⟩:=jK hu;exact ha u hu ⟨j,j0,by omega,e⟩
 intro n
 induction n with
 |zero=>
  intro m x4 i hn wO hi dZ ha;obtain⟨m,rfl⟩:=bl wO;exact fin m x4 i U ha
 |succ n ih=>
  intro m x4 i hn wO hi dZ ha;obtain⟨m,rfl⟩:=bl wO
  by_cases aQ:i<L.length
  ·rw[eA.l0,wi U U];refine Ok.pos aQ (Ok.cw ⟨hi,aQ⟩ (Ok.eq (Gv ..) (ih m _ (i+1) U U U U λu hu ⟨j,j0,j1,e⟩=>?_)));rw[tY];split
   ·rename_i z;rw[TX hm (dS hi aQ) hu z]
   ·rename_i z;refine ha u hu ⟨j,j0,?_,e⟩;have:j≠i:=λy=>z (by rw[<-e,y])
    omega
  ·exact fin m x4 i aQ ha
theorem aaB {c:eI} {b:Int} {ord:List Int} (hn:iT S.nav k b ord) (hb:0<=b/\b<=80000000000) (hc:S.nav.core=some c) (hm:ik c.aK.m.W c.aK.m.H L) (hL:L.length<=1000) (F2: ∀u∈L,cN c.aK.m u.Goal):
 Ok (eA.f S L) (λr=>r.2.1=Er.nil/\ ∃pj qE,r.2.2=⟨S.most,pj,S.eH⟩/\iT pj k (b+5000*(jN c.aK.m.W c.aK.m.H L).length) qE/\(∃c',pj.core=some c'/\c'.aK=c.aK)/\tn k ((jN c.aK.m.W c.aK.m.H L).map DZ) S.nav pj/\r.1.length=L.length/\ ∀j:Int,0<=j->j<L.length->C9 c.aK (rd L j) (rd r.1 j)):=by
 have mL:(jN c.aK.m.W c.aK.m.H L).length<=L.length:=by
  have:=JY _ (Oo hm).some_;rw[Kk] at this;exact this
 unfold eA.f;refine Ok.eq (UM hc) (aaC hm hL _ (λx4 JH=>?_) L.length fuel [] 0 U (by rw[cM];omega) U U (λu _ ⟨j,j0,j1,_⟩=>by omega))
 refine(aaD hm hL ⟨0,(hn.core c hc).1.gs⟩ F2 x4 JH S.nav 1000 fuel S.nav [] 0 b ord U (by rw[cM];omega) U U hn hb.1 U ⟨c,hc,J⟩ (tn.nil _) (λu _ ⟨j,j0,j1,_⟩=>by omega)).mono λr hr=>?_
 rw[Int.sub_zero] at hr;exact hr
end
section
theorem Zk (l:List a_) (c side:Int) (hb:l.length<=1000000): ∀(n k:Nat) (x:Int) (b:Bool) (i:Int),(l.length-i).toNat<=n->n<k->0<=i->
 Ok (kE.l0 k l c side x b i) (λr=>((r=x/\(b=true∨ ∀j:Int,i<=j->j<l.length-> ¬((rd l j).Cell=c/\(rd l j).cL=side)))∨ ∃y∈l,y.Cell=c/\y.cL=side/\y.Key=r)/\(∀j:Int,i<=j->j<l.length->(rd l j).Cell=c->(rd l j).cL=side->r<=(rd l j).Key)/\(b=true->r<=x)):=by
 have fin: ∀(k:Nat) (x:Int) (b:Bool) (i:Int),¬i<l.length->Ok (kE.l0 (k+1) l c side x b i) (λr=>((r=x/\(b=true∨ ∀j:Int,i<=j->j<l.length-> ¬((rd l j).Cell=c/\(rd l j).cL=side)))∨ ∃y∈l,y.Cell=c/\y.cL=side/\y.Key=r)/\(∀j:Int,i<=j->j<l.length->(rd l j).Cell=c->(rd l j).cL=side->r<=(rd l j).Key)/\(b=true->r<=x)):=λk x b i hi=>by
  rw[kE.l0,ah hi];exact Ok.pure ⟨.inl ⟨J,.inr λj j0 j1=>by omega⟩,λj j0 j1=>by omega,λ_=>Int.le_refl _⟩
 intro n
 induction n with
 |zero=>
  intro k x b i hn hk hi;obtain⟨k,rfl⟩:=bl hk;exact fin k x b i U
 |succ n ih=>
  intro k x b i hn hk hi;obtain⟨k,rfl⟩:=bl hk
  by_cases aQ:i<l.length
  ·rw[kE.l0,wi U U];have hq:(if((rd l i).Cell==c)=true then(if((rd l i).cL==side)=true then(if(!b)=true then(some true) else(some (decide ((rd l i).Key<x)))) else(some false)) else(some false))=some (decide (((rd l i).Cell=c/\(rd l i).cL=side)/\(b=false∨(rd l i).Key<x))):=by
    by_cases a1:(rd l i).Cell=c
    ·by_cases a2:(rd l i).cL=side
     ·cases b<;>simp[a1,a2]
     ·simp[a1,a2]
    ·simp[a1]
   refine Ok.pos aQ (Ok.cw ⟨hi,aQ⟩ (Ok.eq hq (Ok.ite (λq=>?_) λq=>?_)))
   ·obtain⟨⟨q1,q2⟩,q3⟩:=of_decide_eq_true q;refine(ih k (rd l i).Key true (i+1) U U U).mono λr hr=>⟨?_,λj j0 j1 e1 e2=>?_,λjv=>?_⟩
    ·rcases hr.1 with⟨z,_⟩ |z
     ·exact .inr ⟨_,dS hi aQ,q1,q2,z.symm⟩
     ·exact .inr z
    ·by_cases z:j=i
     ·rw[z];exact hr.2.2 J
     ·exact hr.2.1 j U j1 e1 e2
    ·have:=hr.2.2 J;rcases q3 with q3 |q3
     ·rw[q3] at jv;simp at jv
     ·omega
   ·have q: ¬(((rd l i).Cell=c/\(rd l i).cL=side)/\(b=false∨(rd l i).Key<x)):=by simpa using q
    refine(ih k x b (i+1) U U U).mono λr hr=>⟨?_,λj j0 j1 e1 e2=>?_,hr.2.2⟩
    ·rcases hr.1 with⟨z,w⟩ |z
     ·refine .inl ⟨z,?_⟩
      by_cases jv:b=true
      ·exact .inl jv
      ·refine .inr λj j0 j1 e=>?_
       by_cases y:j=i
       ·subst y;exact q ⟨e,.inl (by simpa using jv)⟩
       ·exact(w.resolve_left jv) j U j1 e
     ·exact .inr z
    ·by_cases z:j=i
     ·subst z
      by_cases jv:b=true
      ·have:=hr.2.2 jv;have: ¬(rd l j).Key<x:=λy=>q ⟨⟨e1,e2⟩,.inr y⟩
       omega
      ·exact absurd ⟨⟨e1,e2⟩,.inl (by simpa using jv)⟩ q
     ·exact hr.2.1 j U j1 e1 e2
  ·exact fin k x b i aQ
theorem Zl {l:List a_} (hb:l.length<=1000000) (c side:Int):((uH l c side=cK/\ ∀y∈l,¬(y.Cell=c/\y.cL=side))∨ ∃y∈l,y.Cell=c/\y.cL=side/\y.Key=uH l c side)/\ ∀y∈l,y.Cell=c->y.cL=side->uH l c side<=y.Key:=by
 obtain⟨r,e,h1,h2,_⟩:=Zk l c side hb l.length fuel 1099511627776 false 0 U (by rw[cM];omega) U
 have hv:uH l c side=r:=by unfold uH kE.f;rw[e];rfl
 rw[hv];refine⟨?_,λy hy e1 e2=>?_⟩
 ·rcases h1 with⟨a,b⟩ |a
  ·refine .inl ⟨a,λy hy z=>?_⟩
   obtain⟨j,j0,j1,rfl⟩:=jK hy;exact(b.resolve_left bk) j j0 j1 z
  ·exact .inr a
 ·obtain⟨j,j0,j1,rfl⟩:=jK hy;exact h2 j j0 j1 e1 e2
theorem afN {w h s l d:Int} (hs:bI w h s) (l0:0<=l) (l1:l<(ax w h s).1*(ax w h s).2) (d0:0<=d) (d3:d<=3) {t:aJ} (hW:t.W=(ax w h s).1) (hH:t.H=(ax w h s).2) (hn:0<=eJ t l d):
 eJ t l d<(ax w h s).1*(ax w h s).2/\cD w h (db w h s l) d=db w h s (eJ t l d):=by
 obtain⟨z1,z2,z3,z4⟩:=pY hs;obtain⟨hc,e1,e2⟩:=Mr hs l0 l1;obtain⟨p1,p2,p3,p4,p5,p6⟩:=wI hs l0 l1;have FX:=Int.mul_ediv_add_emod l (ax w h s).1;have hm:=hc.1;have key: ∀x y:Int,0<=x->x<(ax w h s).1->0<=y->y<(ax w h s).2->x=l%(ax w h s).1+dX d->y=l/(ax w h s).1+dY d->y*(ax w h s).1+x<(ax w h s).1*(ax w h s).2/\cD w h (db w h s l) d=db w h s (y*(ax w h s).1+x):=by
  intro x y x0 x1 y0 y1 ex ey;have cu:=r_ (w:=(ax w h s).1) (h:=(ax w h s).2) x0 x1 y0 y1;have yB:=qC (a:=(ax w h s).1) (x:=x) (y:=y) x0 x1;refine⟨cu.2,?_⟩;obtain⟨q1,q2,q3,q4,q5,q6⟩:=wI hs cu.1 cu.2;rw[yB.1] at q5;rw[yB.2] at q6;have mh:cD w h (db w h s l) d=pt w h (db w h s l%w+dX d) (db w h s l/w+dY d):=by unfold cD;rw[af ⟨hc,d0,by omega⟩]
  rw[mh,e1,e2];have hsp:=ug hs;unfold pt db;rw[af (c:=bI w h s/\_) ⟨hs,cu⟩,yB.1,yB.2,af ⟨hm,by omega,by omega,by omega,by omega⟩,ex,ey,Int.add_assoc,Int.add_assoc]
 have hd:d=0∨d=1∨d=2∨d=3:=U;rw[Int.mul_comm] at FX;unfold eJ at hn⊢;simp only[hW,hH] at hn⊢;rcases hd with rfl |rfl |rfl |rfl
 ·simp only[if_true] at hn⊢;split at hn
  ·rename_i z;rw[af z];have:=key (l%(ax w h s).1) (l/(ax w h s).1-1) p1 p2 U U (by simp[dX]) (by simp[dY];omega)
   rw[Int.sub_mul,Int.one_mul] at this;rw[show l-(ax w h s).1=l/(ax w h s).1*(ax w h s).1-(ax w h s).1+l%(ax w h s).1 by omega]
   exact this
  ·omega
 ·simp only[show ¬(1:Int)=0 by omega,if_true,if_false] at hn⊢
  split at hn
  ·rename_i z;rw[af z];have:=key (l%(ax w h s).1+1) (l/(ax w h s).1) U U p3 p4 (by simp[dX]) (by simp[dY])
   rw[show l+1=l/(ax w h s).1*(ax w h s).1+(l%(ax w h s).1+1) by omega]
   exact this
  ·omega
 ·simp only[show ¬(2:Int)=0 by omega,show ¬(2:Int)=1 by omega,if_true,if_false] at hn⊢
  split at hn
  ·rename_i z;rw[af z];have:=key (l%(ax w h s).1) (l/(ax w h s).1+1) p1 p2 U U (by simp[dX]) (by simp[dY])
   rw[Int.add_mul,Int.one_mul] at this;rw[show l+(ax w h s).1=l/(ax w h s).1*(ax w h s).1+(ax w h s).1+l%(ax w h s).1 by omega]
   exact this
  ·omega
 ·simp only[show ¬(3:Int)=0 by omega,show ¬(3:Int)=1 by omega,show ¬(3:Int)=2 by omega,if_false] at hn⊢
  split at hn
  ·rename_i z;rw[af z];have:=key (l%(ax w h s).1-1) (l/(ax w h s).1) U U p3 p4 (by simp[dX];omega) (by simp[dY])
   rw[show l-1=l/(ax w h s).1*(ax w h s).1+(l%(ax w h s).1-1) by omega]
   exact this
  ·omega
variable {g : bw} {more : Int} {R : ic}
theorem aaA (h:dE g more) {l:List a_} (hl:l.length<=1025) {c d:Int} (hc:cN g.m c) (hm: ∀y,y∈l↔xY g R (aY g.m.W g.m.H c) y) {K:Int} {f:fZ} (hf:we (fC g.m (aY g.m.W g.m.H c)) l K f) (hd:d=rd f.cA (dx g.m.W g.m.H c)) (d0:0<=d) (d3:d<=3):AE g (cD g.m.W g.m.H c d):=by
 have eo:=pc h.ok hc;have hs:=vO eo;have lV:=CK h hc;have cu:=D2 eo;have mJ:=Dz eo;have hb:l.length<=1000000:=U;have hI:cK=1099511627776:=rfl;rw[hf.dir _ lV.1 lV.2.1] at hd;have JF:d=Hf (fC g.m (aY g.m.W g.m.H c)) l f.fb (dx g.m.W g.m.H c)/\rd f.fb (dx g.m.W g.m.H c)≠cK:=by
  unfold yi at hd;split at hd
  ·omega
  ·rename_i z;split at hd
   ·omega
   ·exact⟨hd,z⟩
 obtain⟨gp,bL⟩:=JF;have iL:zK (fC g.m (aY g.m.W g.m.H c)) l f.fb (dx g.m.W g.m.H c) d=true:=by
  unfold Hf at gp
  repeat' split at gp
  all_goals first
   |(subst gp;assumption)
   |omega
 unfold zK at iL
 by_cases z:eJ (fC g.m (aY g.m.W g.m.H c)) (dx g.m.W g.m.H c) d<0
 ·rw[af z] at iL;have iL:uH l (dx g.m.W g.m.H c) d=rd f.fb (dx g.m.W g.m.H c):=by simpa using iL
  rcases(Zl hb (dx g.m.W g.m.H c) d).1 with⟨q,_⟩ |⟨y,hy,y1,y2,y3⟩
  ·rw[q] at iL;exact absurd iL.symm bL
  ·rcases(hm y).1 hy with⟨c',jZ,e,he,ha,rfl⟩ |⟨_,_,rfl⟩
   ·obtain⟨n1,n2,n3,n4⟩:=ua jZ;obtain⟨d',d0',d3',d4',rfl⟩:=L1 he;simp only at y1 y2;have adO:c'=c:=by
     have h1:=Dz (pc h.ok n2);rw[n4,y1,mJ] at h1;exact h1.symm
    subst adO;have aS:=(AZ.1 d4');have vd:=U1 (w:=g.m.W) (h:=g.m.H) (c:=c') (side:=d') aS.1.1;have B0:CJ g.m.W g.m.H c' (fS g.m.W g.m.H c' d')=d':=by
     rw[vd.2.2.2.2.1];exact Wi eo d0' U (by rw[<-vd.2.2.2.2.1];exact vd.2.2.2.1)
    rw[B0] at y2;subst y2;rw[<-vd.2.2.2.2.1];refine⟨aS.1,?_⟩;unfold fx;rw[af aS.1];exact aS.2
   ·simp only at y2;omega
 ·rw[ah z] at iL;have iL:=of_decide_eq_true iL;obtain⟨q1,q2⟩:=afN hs cu.1 cu.2 d0 d3 (t:=fC g.m (aY g.m.W g.m.H c)) J J U;rw[mJ] at q2;rw[q2];have Tr:=zZ hs U q1;have lC:fx g (db g.m.W g.m.H (aY g.m.W g.m.H c) (eJ (fC g.m (aY g.m.W g.m.H c)) (dx g.m.W g.m.H c) d))=rd (fC g.m (aY g.m.W g.m.H c)).C (eJ (fC g.m (aY g.m.W g.m.H c)) (dx g.m.W g.m.H c) d):=by
   have e:fx g (db g.m.W g.m.H (aY g.m.W g.m.H c) (eJ (fC g.m (aY g.m.W g.m.H c)) (dx g.m.W g.m.H c) d))=rd g.m.C (db g.m.W g.m.H (aY g.m.W g.m.H c) (eJ (fC g.m (aY g.m.W g.m.H c)) (dx g.m.W g.m.H c) d)):=by unfold fx;exact af Tr
   rw[e];exact(Pa U U).symm
  exact⟨Tr,by rw[lC];exact iL.1⟩
end
end Go.Proofs.YthodkonhneebbaaGreatDoor
