/- What the functions do, in plain Lean, on the objects that are kept in order. -/
import Derived.Test.YthodkonhneebbaaGreatDoorKW15
import Derived.Test.YthodkonhneebbaaGreatDoorKW11
import Derived.Test.YthodkonhneebbaaGreatDoorKW12
import Derived.Test.YthodkonhneebbaaGreatDoorKW14
import Derived.Test.YthodkonhneebbaaGreatDoorKW5
import Derived.Test.YthodkonhneebbaaGreatDoorKW13
namespace Go.Proofs.YthodkonhneebbaaGreatDoor
open Go.Hx
set_option linter.unusedVariables false
set_option linter.unusedSimpArgs false
abbrev dy:Int:=2147483647
abbrev RB:Int:=104538400
def qX (f:Int->Int):Nat->Int
 |0=>0
 |n+1=>qX f n+f n
theorem Xg {f:Int->Int} {B:Int}: ∀(n:Nat),(∀i:Int,0<=i->i<n->f i<=B)->qX f n<=n*B
 |0,_=>by simp[qX]
 |n+1,h=>by
  have:=Xg n (λi a b=>h i a U);have:=h n U U;rw[qX,Int.natCast_add,Int.add_mul,Int.natCast_one,Int.one_mul];omega
theorem Xh {f:Int->Int}: ∀(n:Nat),(∀i:Int,0<=i->i<n->0<=f i)->0<=qX f n
 |0,_=>Int.le_refl _
 |n+1,h=>by
  have:=Xh n (λi a b=>h i a U);have:=h n U U;rw[qX];omega
theorem Xe {f f':Int->Int}: ∀(n:Nat),(∀i:Int,0<=i->i<n->f' i=f i)->qX f' n=qX f n
 |0,_=>rfl
 |n+1,h=>by rw[qX,qX,Xe n (λi a b=>h i a U),h n U U]
theorem Xf {f f':Int->Int} {c:Int}: ∀(n:Nat),0<=c->c<n->f' c+1<=f c->(∀i:Int,0<=i->i<n->i≠c->f' i=f i)->qX f' n+1<=qX f n
 |0,h0,h1,_,_=>by omega
 |n+1,h0,h1,hd,he=>by
  rw[qX,qX]
  by_cases z:c=n
  ·subst z;rw[Xe n (λi a b=>he i a U U)];omega
  ·have:=Xf n h0 U hd (λi a b=>he i a U);rw[he n U U (λy=>z y.symm)];omega
theorem Mi {p q:Int->Bool}: ∀{n:Nat},(∀i:Int,0<=i->i<n->p i=true->q i=true)->eI p n<=eI q n
 |0,_=>Nat.le_refl _
 |n+1,h=>by
  have:=Mi (p:=p) (q:=q) (n:=n) (λi a b=>h i a U);unfold eI;have h':=h n U U
  cases hp:p n
  ·simp;omega
  ·rw[h' hp];simp;omega
theorem Rf {p q:Int->Bool} {c:Int}: ∀{n:Nat},0<=c->c<n->p c=false->q c=true->(∀i:Int,0<=i->i<n->p i=true->q i=true)->eI p n+1<=eI q n
 |0,h0,h1,_,_,_=>by omega
 |n+1,h0,h1,hp,hq,he=>by
  unfold eI
  by_cases z:c=n
  ·subst z;have:=Mi (p:=p) (q:=q) (n:=n) (λi a b=>he i a U);rw[hp,hq];simp;omega
  ·have:=Rf (n:=n) h0 U hp hq (λi a b=>he i a U);have h':=he n U U
   cases hp':p n
   ·simp;omega
   ·rw[h' hp'];simp;omega
def zo (D:List Int) (v:Int):Nat:=eI (λc=>decide (rd D c<v)) D.length
def nR (D:List Int):Int:=qX (λc=>min (rd D c) (RB+1)) D.length
section
variable {g : bA} {more : Int} {M : dJ} {goal : Int} {im : List (Int × Int)}
def Pv (g:bA) (goal:Int) (im:List (Int×Int)) (D:List Int) (c d:Int):Prop:=
 (c∈bJ g.m (aX g.m.W g.m.H goal)/\bO im c=true/\aQ im c=d)∨ ∃b e,node g.m b/\rd D b≠dy/\Comes g.m b e/\e.To=c/\rd D b+e.kS<=d
structure Rt (g:bA) (goal:Int) (im:List (Int×Int)) (D:List Int) (l:List dO) (x:Int):Prop where
 len_:(D.length:Int)=g.m.W*g.m.H
 dv: ∀c:Int,0<=c->c<D.length->rd D c≠dy->node g.m c/\0<=rd D c/\rd D c<=500000+65024*(zo D (rd D c):Int)/\Pv g goal im D c (rd D c)
 hp: ∀e∈l,node g.m e.item/\rd D e.item≠dy/\rd D e.item<=e.key
 rel: ∀c,node g.m c->c≠x->rd D c≠dy->⟨rd D c,c⟩∈l∨ ∀e,Comes g.m c e->rd D e.To≠dy/\rd D e.To<=rd D c+e.kS
theorem Wx (D:List Int) (v:Int):zo D v<=D.length:=FO _ _
theorem Rt.bound {D:List Int} {l:List dO} {x:Int} (hN:g.m.W*g.m.H<=1600) (h:Rt g goal im D l x) {c:Int} (c0:0<=c) (c1:c<D.length) (hc:rd D c≠dy):0<=rd D c/\rd D c<=RB:=by
 have yJ:RB=104538400:=rfl;obtain⟨_,a,b,_⟩:=h.dv c c0 c1 hc;have:=Wx D (rd D c);have:=h.len_;omega
theorem sW (h:dn g more) {D:List Int} (hl:(D.length:Int)=g.m.W*g.m.H) {c:Int} (hc:node g.m c):0<=c/\c<D.length:=by
 have:=(CL hc).2;rw[hl];exact this
theorem VS {D D':List Int} (hd: ∀b,node g.m b->rd D b≠dy->rd D' b≠dy/\rd D' b<=rd D b) {c d:Int} (h:Pv g goal im D c d):Pv g goal im D' c d:=by
 rcases h with z |⟨b,e,h1,h2,h3,h4,h5⟩
 ·exact .inl z
 ·have:=hd b h1 h2;exact .inr ⟨b,e,h1,this.1,h3,h4,by omega⟩
theorem agU {D:List Int} (hD: ∀c:Int,0<=c->c<D.length->0<=rd D c):0<=nR D/\nR D<=D.length*(RB+1):=by
 refine⟨Xh _ λi a b=>?_,Xg _ λi a b=>by omega⟩
 have:=hD i a b;have yJ:RB=104538400:=rfl;omega
theorem Wy (h:dn g more) (hN:g.m.W*g.m.H<=1600) {D:List Int} {l:List dO} {x:Int} (hr:Rt g goal im D l x) (hlen:l.length+2*nR D<1000000000000) {v nd ge:Int} (gg ep:Int) (hv:node g.m v) (hx:v≠x) (n0:0<=nd) (n1:nd<=500000+65024*(zo D nd:Int)) (hp:Pv g goal im D v nd):
 Ok (tf.f ⟨gg,ep,D⟩ v nd) (λr=>(r=(false,⟨gg,ep,D⟩)/\rd D v≠dy/\rd D v<=nd)∨ ∃D',r=(true,⟨gg,ep,D'⟩)/\nR D'+1<=nR D/\rd D' v=nd/\(∀c:Int,0<=c->c≠v->rd D' c=rd D c)/\nd<rd D v/\D'.length=D.length/\
  ∀l':List dO,(∀e,e∈l'↔e∈l∨e=⟨nd,v⟩)->Rt g goal im D' l' x):=by
 have hF:dy=2147483647:=rfl;have yJ:RB=104538400:=rfl;have AM:=sW h hr.len_ hv;have hrk:=Wx D nd;have B9:=hr.len_;have hvb:rd D v=dy∨(0<=rd D v/\rd D v<=RB):=by
  by_cases z:rd D v=dy
  ·exact .inl z
  ·exact .inr (hr.bound hN AM.1 AM.2 z)
 unfold tf.f;simp only;rw[af AM,wi U U];refine Ok.ite (λq=>Ok.pure (.inl ⟨J,by omega,by omega⟩)) λq=>?_
 rw[UC U U];have dT: ∀c:Int,0<=c->rd (List.set D v.toNat nd) c=if c=v then nd else rd D c:=λc c0=>ln AM.1 AM.2 c0
 have Eh:rd (List.set D v.toNat nd) v=nd:=by rw[dT v AM.1,af J]
 have hle: ∀c:Int,0<=c->rd (List.set D v.toNat nd) c<=rd D c:=λc c0=>by
  rw[dT c c0];split
  ·rename_i z;rw[z];omega
  ·omega
 have hnf: ∀c:Int,0<=c->rd D c≠dy->rd (List.set D v.toNat nd) c≠dy:=λc c0 hc=>by
  rw[dT c c0];split
  ·omega
  ·exact hc
 have JT: ∀b,node g.m b->rd D b≠dy->rd (List.set D v.toNat nd) b≠dy/\rd (List.set D v.toNat nd) b<=rd D b:=λb hb hf=>by
  have:=sW h hr.len_ hb;exact⟨hnf b this.1 hf,hle b this.1⟩
 have Uk: ∀w,zo D w<=zo (List.set D v.toNat nd) w:=λw=>by
  unfold zo;rw[List.length_set];refine Mi λi a b c=>?_
  have:=hle i a;simp only[decide_eq_true_iff] at c⊢;omega
 refine Ok.pure (.inr ⟨_,J,?_,Eh,λc c0 hc=>by rw[dT c c0,ah hc],by omega,by simp,λl' AG=>?_⟩)
 ·unfold nR;rw[List.length_set];refine Xf D.length AM.1 AM.2 ?_ λi a b hi=>?_
  ·rw[Eh];omega
  ·rw[dT i a,ah hi]
 ·refine⟨by simpa using hr.len_,λc c0 c1 hc=>?_,λe he=>?_,λc hc xe hf=>?_⟩
  ·rw[List.length_set] at c1
   by_cases z:c=v
   ·subst z;rw[Eh];have:=Uk nd;exact⟨hv,n0,by omega,VS JT hp⟩
   ·rw[dT c c0,ah z] at hc⊢;obtain⟨a1,a2,a3,a4⟩:=hr.dv c c0 c1 hc;have:=Uk (rd D c);exact⟨a1,a2,by omega,VS JT a4⟩
  ·rcases(AG e).1 he with z |rfl
   ·obtain⟨b1,b2,b3⟩:=hr.hp e z;have:=JT _ b1 b2;exact⟨b1,this.1,by omega⟩
   ·exact⟨hv,by simp only;rw[Eh];omega,by simp only;rw[Eh];omega⟩
  ·have Gg:=sW h hr.len_ hc
   by_cases z:c=v
   ·subst z;rw[Eh];exact .inl ((AG _).2 (.inr J))
   ·rw[dT c Gg.1,ah z] at hf⊢;rcases hr.rel c hc xe hf with y |y
    ·exact .inl ((AG _).2 (.inl y))
    ·refine .inr λe he=>?_
     obtain⟨q1,q2⟩:=y e he;have:=JT _ (FP h hc he).1 q1;exact⟨this.1,by omega⟩
theorem C2 (hN:g.m.W*g.m.H<=1600) {D:List Int} {l:List dO} {x:Int} (hr:Rt g goal im D l x):0<=nR D/\nR D<=200000000000:=by
 have hF:dy=2147483647:=rfl;have yJ:RB=104538400:=rfl;have hl:=hr.len_;have:=agU (D:=D) λc c0 c1=>by
  by_cases z:rd D c=dy
  ·omega
  ·exact(hr.bound hN c0 c1 z).1
 have:(D.length:Int)*(RB+1)<=1600*(RB+1):=Int.mul_le_mul_of_nonneg_right U U;omega
theorem aie (h:dn g more) (hN:g.m.W*g.m.H<=1600) (gg ep gl:Int) {b key:Int} (hb:node g.m b) (E:List ek) (hE: ∀e∈E,Comes g.m b e) (hEb:E.length<=260): ∀(n k:Nat) (D:List Int) (l:List dO) (i:Int),(E.length-i).toNat<=n->n<k->0<=i->i<=E.length->Rt g goal im D l b->rd D b=key->key≠dy->l.length+2*nR D+(E.length-i)<1000000000000->
 (∀j:Int,0<=j->j<i->rd D (rd E j).To≠dy/\rd D (rd E j).To<=key+(rd E j).kS)->
 Ok (f_.l2 k gl key E gg ep D l i) (λr=>r.1=gg/\r.2.1=ep/\Rt g goal im r.2.2.1 r.2.2.2 b/\rd r.2.2.1 b=key/\r.2.2.2.length+2*nR r.2.2.1<=l.length+2*nR D/\(∀e∈E,rd r.2.2.1 e.To≠dy/\rd r.2.2.1 e.To<=key+e.kS)/\ ∀c,node g.m c->rd D c≠dy->rd r.2.2.1 c≠dy/\rd r.2.2.1 c<=rd D c):=by
 have hF:dy=2147483647:=rfl;have yJ:RB=104538400:=rfl;have fin: ∀(k:Nat) (D:List Int) (l:List dO) (i:Int),¬i<E.length->Rt g goal im D l b->rd D b=key->(∀j:Int,0<=j->j<i->rd D (rd E j).To≠dy/\rd D (rd E j).To<=key+(rd E j).kS)->
  Ok (f_.l2 (k+1) gl key E gg ep D l i) (λr=>r.1=gg/\r.2.1=ep/\Rt g goal im r.2.2.1 r.2.2.2 b/\rd r.2.2.1 b=key/\r.2.2.2.length+2*nR r.2.2.1<=l.length+2*nR D/\(∀e∈E,rd r.2.2.1 e.To≠dy/\rd r.2.2.1 e.To<=key+e.kS)/\ ∀c,node g.m c->rd D c≠dy->rd r.2.2.1 c≠dy/\rd r.2.2.1 c<=rd D c):=λk D l i hi hr hk ha=>by
  rw[f_.l2,ah hi];refine Ok.pure ⟨J,J,hr,hk,Int.le_refl _,λe he=>?_,λc _ hc=>⟨hc,Int.le_refl _⟩⟩
  obtain⟨j,j0,j1,rfl⟩:=jT he;exact ha j j0 U
 intro n
 induction n with
 |zero=>
  intro k D l i hn hk hi eD hr j_ AF hlen ha;obtain⟨k,rfl⟩:=bq hk;exact fin k D l i U hr j_ ha
 |succ n ih=>
  intro k D l i hn hk hi eD hr j_ AF hlen ha;obtain⟨k,rfl⟩:=bq hk
  by_cases aR:i<E.length
  ·have jk:=dZ hi aR;have vr:=hE _ jk;obtain⟨c1,c2,c3,c4⟩:=FP h hb vr;have ub:=sW h hr.len_ hb;obtain⟨d1,d2,d3,d4⟩:=hr.dv b ub.1 ub.2 (by rw[j_];exact AF)
   have Ge:=hr.bound hN ub.1 ub.2 (by rw[j_];exact AF)
   rw[j_] at d2 d3 d4 Ge;have MW:KT=65024:=rfl;have Eg:=C2 hN hr;have hrk:zo D key+1<=zo D (key+(rd E i).kS):=by
    unfold zo;refine Rf ub.1 ub.2 (by rw[j_];simp) (by rw[j_];simp;omega) λc _ _ hc=>?_
    simp only[decide_eq_true_iff] at hc⊢;omega
   rw[f_.l2,wi (x:=key+(rd E i).kS) U U,wi (x:=i+1) U U];refine Ok.pos aR (Ok.ct ⟨hi,aR⟩ ((Wy (ge:=0) h hN hr U gg ep c1 c2 U U (.inr ⟨b,_,hb,by rw[j_];exact AF,vr,J,by rw[j_];omega⟩)).bind λr vA=>?_))
   rcases vA with⟨rfl,z1,z2⟩ |⟨D',rfl,z1,z2,z3,z4,z5,z6⟩
   ·refine Ok.neg bh (ih k D l (i+1) U U U U hr j_ AF U λj j0 j1=>?_)
    by_cases z:j=i
    ·subst z;exact⟨z1,z2⟩
    ·exact ha j j0 U
   ·refine Ok.pos J ((KJ ⟨l⟩ _ _ (by simp only;omega)).bind λq hq=>?_)
    have N0:=z6 q.l hq.2;have jH:rd D' b=key:=by rw[z3 b ub.1 (λy=>c2 y.symm),j_]
    have Gt:=hq.1;simp only at Gt;refine(ih k D' q.l (i+1) U U U U N0 jH AF U λj j0 j1=>?_).mono λr Cj=>⟨Cj.1,Cj.2.1,Cj.2.2.1,Cj.2.2.2.1,by have:=Cj.2.2.2.2.1;omega,Cj.2.2.2.2.2.1,λc hc qE=>?_⟩
    rotate_left
    ·have Gg:=sW h hr.len_ hc;have hd:rd D' c≠dy/\rd D' c<=rd D c:=by
      by_cases y:c=(rd E i).To
      ·rw[y,z2];rw[y] at qE;have:=hr.bound hN (y▸Gg.1) (y▸Gg.2) qE;exact⟨by omega,by omega⟩
      ·rw[z3 c Gg.1 y];exact⟨qE,Int.le_refl _⟩
     have:=Cj.2.2.2.2.2.2 c hc hd.1;exact⟨this.1,by omega⟩
    by_cases y:(rd E j).To=(rd E i).To
    ·rw[y,z2]
     by_cases z:j=i
     ·subst z;exact⟨by omega,Int.le_refl _⟩
     ·have w:=(ha j j0 U).2;rw[y] at w;exact⟨by omega,by omega⟩
    ·have hj:=FP h hb (hE _ (dZ j0 (show j<E.length by omega)))
     have:=sW h hr.len_ hj.1;rw[z3 _ this.1 y];refine ha j j0 ?_;have:j≠i:=λz=>y (by rw[z])
     omega
  ·exact fin k D l i aR hr j_ ha
structure yo (g:bA) (goal:Int) (im:List (Int×Int)) (D:List Int):Prop where
 len_:(D.length:Int)=g.m.W*g.m.H
 dv: ∀c:Int,0<=c->c<D.length->rd D c≠dy->node g.m c/\0<=rd D c/\rd D c<=RB/\Pv g goal im D c (rd D c)
 rel: ∀c,node g.m c->rd D c≠dy-> ∀e,Comes g.m c e->rd D e.To≠dy/\rd D e.To<=rd D c+e.kS
 sd: ∀c∈bJ g.m (aX g.m.W g.m.H goal),bO im c=true->rd D c≠dy/\rd D c<=aQ im c
theorem WR (h:dn g more) (hN:g.m.W*g.m.H<=1600) (hF':og g M) (gg ep gl:Int): ∀(n k:Nat) (D:List Int) (l:List dO) (key b:Int) (ok:Bool),(l.length+2*nR D+(if ok then 1 else 0)).toNat<=n->n<k->l.length+2*nR D<999999990000->
 (ok=true->Rt g goal im D (⟨key,b⟩::l) (-1))->(ok=false->l=[]/\Rt g goal im D [] (-1))->(∀c∈bJ g.m (aX g.m.W g.m.H goal),bO im c=true->rd D c≠dy/\rd D c<=aQ im c)->
 Ok (f_.l1 k gl M g gg ep D l key b ok) (λr=> ∃D',r=some ⟨gg,ep,D'⟩/\yo g goal im D'):=by
 have MU:dy=2147483647:=rfl;have yJ:RB=104538400:=rfl;have fin: ∀(k:Nat) (D:List Int) (l:List dO) (key b:Int) (ok:Bool),ok=false->Rt g goal im D [] (-1)->(∀c∈bJ g.m (aX g.m.W g.m.H goal),bO im c=true->rd D c≠dy/\rd D c<=aQ im c)->Ok (f_.l1 (k+1) gl M g gg ep D l key b ok) (λr=> ∃D',r=some ⟨gg,ep,D'⟩/\yo g goal im D'):=λk D l key b ok vx hr hs=>by
  subst vx;rw[f_.l1];refine Ok.neg bh (Ok.pure ⟨D,J,hr.len_,λc c0 c1 hc=>?_,λc hc hf e he=>?_,hs⟩)
  ·obtain⟨a,b,_,d⟩:=hr.dv c c0 c1 hc;exact⟨a,b,(hr.bound hN c0 c1 hc).2,d⟩
  ·have:=sW h hr.len_ hc;exact((hr.rel c hc U hf).resolve_left bh) e he
 intro n
 induction n with
 |zero=>
  intro k D l key b ok hn hk hlen hp hf hs;obtain⟨k,rfl⟩:=bq hk
  cases ok
  ·exact fin k D l key b false J (hf J).2 hs
  ·have:=C2 hN (hp J);simp only[if_true] at hn;omega
 |succ n ih=>
  intro k D l key b ok hn hk hlen hp hf hs;obtain⟨k,rfl⟩:=bq hk
  cases ok
  ·exact fin k D l key b false J (hf J).2 hs
  have hr:=hp J;simp only[if_true] at hn;have hph:=C2 hN hr;obtain⟨b1,b2,b3⟩:=hr.hp ⟨key,b⟩ (List.mem_cons_self ..);simp only at b1 b2 b3;have ub:=sW h hr.len_ b1;have Ge:=hr.bound hN ub.1 ub.2 b2;rw[f_.l1];refine Ok.pos J (Ok.bind (P:=λr=>r.1=gg/\r.2.1=ep/\Rt g goal im r.2.2.1 r.2.2.2 (-1)/\r.2.2.2.length+2*nR r.2.2.1<=l.length+2*nR D/\ ∀c∈bJ g.m (aX g.m.W g.m.H goal),bO im c=true->rd r.2.2.1 c≠dy/\rd r.2.2.1 c<=aQ im c) (Ok.ct ub ?_) λr vA=>?_)
  ·rw[wi U U];refine Ok.ite (λq=>Ok.pure ⟨J,J,⟨hr.len_,hr.dv,λe he=>hr.hp e (List.mem_cons_of_mem _ he),λc hc xe qE=>?_⟩,Int.le_refl _,hs⟩) λq=>?_
   ·rcases hr.rel c hc xe qE with y |y
    ·rcases List.mem_cons.1 y with y |y
     ·simp only[dO.mk.injEq] at y;rw[y.2] at y;omega
     ·exact .inl y
    ·exact .inr y
   ·have j_:rd D b=key:=U;have Gv:Rt g goal im D l b:=⟨hr.len_,hr.dv,λe he=>hr.hp e (List.mem_cons_of_mem _ he),λc hc xe qE=>by
     have:=sW h hr.len_ hc;rcases hr.rel c hc U qE with y |y
     ·rcases List.mem_cons.1 y with y |y
      ·simp only[dO.mk.injEq] at y;exact absurd y.2 xe
      ·exact .inl y
     ·exact .inr y⟩
    refine(aeZ h hF' b).bind λE hE=>?_
    obtain⟨hE1,F1⟩:=hE;have Sp:=(F1.resolve_right λz=>z.1 b1).2;refine(aie h hN gg ep gl b1 E (λe he=>(Sp e).1 he) hE1 260 fuel D l 0 U (by rw[cO];omega) U U Gv j_ U U (λj j0 j1=>by omega)).mono λr N0=>?_
    obtain⟨s1,s2,s3,s4,s5,s6,s7⟩:=N0;refine⟨s1,s2,⟨s3.len_,s3.dv,s3.hp,λc hc xe qE=>?_⟩,s5,λc hc hm=>?_⟩
    ·by_cases z:c=b
     ·subst z;exact .inr λe he=>by rw[s4];exact s6 e ((Sp e).2 he)
     ·exact s3.rel c hc z qE
    ·have w:=hs c hc hm;have:=s7 c (Kz hc) w.1;exact⟨this.1,by omega⟩
  ·obtain⟨q1,q2,q3,q4,q5⟩:=vA;obtain⟨r1,r2,D',l'⟩:=r;simp only at q1 q2 q3 q4 q5⊢;subst q1;subst q2;have ajW:=C2 hN q3;refine(KG ⟨l'⟩ (by simp only;omega)).bind λv hv=>?_
   rcases hv with⟨e1,e2⟩ |⟨e1,e2,e3,e4,e5,e6⟩
   ·simp only at e1;subst e1;subst e2;exact ih k D' [] 0 0 false (by simp only[List.length_nil] at*;simp;omega) U (by simp;simp at q4;omega) bh (λ_=>⟨J,q3⟩) q5
   ·simp only at e1 e3 e4 e5 e6;rw[e2];refine ih k D' v.2.2.2.l v.1 v.2.1 true (by simp only[if_true];omega) U U (λ_=>?_) bh q5
    rw[e3];have h0:=dZ (a:=l') (i:=0) U (by have:=List.length_pos_iff.2 e1;omega)
    refine⟨q3.len_,q3.dv,λe he=>?_,λc hc xe qE=>?_⟩
    ·rcases List.mem_cons.1 he with rfl |he
     ·exact q3.hp _ h0
     ·exact q3.hp e (e5 e he)
    ·rcases q3.rel c hc xe qE with y |y
     ·refine .inl ?_;rcases e6 _ y with z |z
      ·rw[z];exact List.mem_cons_self ..
      ·exact List.mem_cons_of_mem _ z
     ·exact .inr y
end
section
variable {g : bA} {more : Int} {M : dJ} {goal : Int} {im : List (Int × Int)}
theorem aid (h:dn g more) (hN:g.m.W*g.m.H<=1600) (hF:og g M) (JP: ∀c,bO im c=true->0<=aQ im c/\aQ im c<=500000) (gg ep:Int) (L:List Int) (hL:L=bJ g.m (aX g.m.W g.m.H goal)): ∀(n k:Nat) (D:List Int) (l:List dO) (i:Int),(L.length-i).toNat<=n->n<k->0<=i->i<=L.length->Rt g goal im D l (-1)->l.length+2*nR D+(L.length-i)<999999990000->
 (∀j:Int,0<=j->j<i->bO im (rd L j)=true->rd D (rd L j)≠dy/\rd D (rd L j)<=aQ im (rd L j))->
 Ok (f_.l0 k goal M g im L gg ep D l i) (λr=> ∃D',r=some ⟨gg,ep,D'⟩/\yo g goal im D'):=by
 have MU:dy=2147483647:=rfl;have hlN:L.length<=256:=by rw[hL];exact vM ..
 have fin: ∀(k:Nat) (D:List Int) (l:List dO) (i:Int),¬i<L.length->Rt g goal im D l (-1)->l.length+2*nR D<999999990000->(∀j:Int,0<=j->j<i->bO im (rd L j)=true->rd D (rd L j)≠dy/\rd D (rd L j)<=aQ im (rd L j))->
  Ok (f_.l0 (k+1) goal M g im L gg ep D l i) (λr=> ∃D',r=some ⟨gg,ep,D'⟩/\yo g goal im D'):=λk D l i hi hr hlen ha=>by
  rw[f_.l0,ah hi];have Eg:=C2 hN hr;have J0: ∀c∈bJ g.m (aX g.m.W g.m.H goal),bO im c=true->rd D c≠dy/\rd D c<=aQ im c:=λc hc hm=>by
   rw[<-hL] at hc;obtain⟨j,j0,j1,rfl⟩:=jT hc;exact ha j j0 U hm
  refine(KG ⟨l⟩ (by simp only;omega)).bind λv hv=>?_
  rcases hv with⟨e1,e2⟩ |⟨e1,e2,e3,e4,e5,e6⟩
  ·simp only at e1;subst e1;subst e2;exact WR h hN hF gg ep goal 1000000000000 fuel D [] 0 0 false bp (by rw[cO];omega) (by simp;simp at hlen;omega) bh (λ_=>⟨J,hr⟩) J0
  ·simp only at e1 e3 e4 e5 e6;rw[e2];refine WR h hN hF gg ep goal 1000000000000 fuel D v.2.2.2.l v.1 v.2.1 true (by simp only[if_true];omega) (by rw[cO];omega) U (λ_=>?_) bh J0
   rw[e3];have h0:=dZ (a:=l) (i:=0) U (by have:=List.length_pos_iff.2 e1;omega)
   refine⟨hr.len_,hr.dv,λe he=>?_,λc hc xe qE=>?_⟩
   ·rcases List.mem_cons.1 he with rfl |he
    ·exact hr.hp _ h0
    ·exact hr.hp e (e5 e he)
   ·rcases hr.rel c hc xe qE with y |y
    ·refine .inl ?_;rcases e6 _ y with z |z
     ·rw[z];exact List.mem_cons_self ..
     ·exact List.mem_cons_of_mem _ z
    ·exact .inr y
 intro n
 induction n with
 |zero=>
  intro k D l i hn hk hi eD hr hlen ha;obtain⟨k,rfl⟩:=bq hk;exact fin k D l i U hr U ha
 |succ n ih=>
  intro k D l i hn hk hi eD hr hlen ha;obtain⟨k,rfl⟩:=bq hk
  by_cases aR:i<L.length
  ·have jk:rd L i∈bJ g.m (aX g.m.W g.m.H goal):=by rw[<-hL];exact dZ hi aR
   have Ui:=Kz jk;have Eg:=C2 hN hr;rw[f_.l0,wi (x:=i+1) U U];refine Ok.pos aR ?_;rw[af (show 0<=i/\i<(L.length:Int) from⟨hi,aR⟩)]
   cases hm:bO im (rd L i)
   ·simp only[Bool.false_eq_true,if_false,aK];refine ih k D l (i+1) U U U U hr U λj j0 j1 hj=>?_
    by_cases z:j=i
    ·subst z;rw[hm] at hj;simp at hj
    ·exact ha j j0 U hj
   ·have hv:=JP _ hm;simp only[if_true];have hrx:=Wy (ge:=0) h hN hr U gg ep Ui (by have:=sW h hr.len_ Ui;omega) hv.1 U (.inl ⟨jk,hm,J⟩)
    obtain⟨r,e,vA⟩:=hrx;rw[e];simp only[aK];rcases vA with⟨rfl,z1,z2⟩ |⟨D',rfl,z1,z2,z3,z4,z5,z6⟩
    ·simp only[Bool.false_eq_true,if_false,aK];refine ih k D l (i+1) U U U U hr U λj j0 j1 hj=>?_
     by_cases z:j=i
     ·subst z;exact⟨z1,z2⟩
     ·exact ha j j0 U hj
    ·simp only[if_true];obtain⟨q,eq,hq⟩:=KJ ⟨l⟩ (aQ im (rd L i)) (rd L i) (by simp only;omega)
     rw[eq];simp only[aK];have Gt:=hq.1;simp only at Gt;refine ih k D' q.l (i+1) U U U U (z6 q.l hq.2) U λj j0 j1 hj=>?_
     by_cases y:rd L j=rd L i
     ·rw[y,z2];exact⟨by omega,Int.le_refl _⟩
     ·have hjm:rd L j∈bJ g.m (aX g.m.W g.m.H goal):=by rw[<-hL];exact dZ j0 U
      have:=sW h hr.len_ (Kz hjm);rw[z3 _ this.1 y];refine ha j j0 ?_ hj;have:j≠i:=λz=>y (by rw[z])
      omega
  ·exact fin k D l i aR hr U ha
def P9 (g:bA) (goal:Int) (im:List (Int×Int)):Prop:=(∀f M,jr.f f goal M g=some im)/\ ∀c,bO im c=true->0<=aQ im c/\aQ im c<=500000
def ru (g:bA) (r:gZ):Prop:=r.bN=g.bN/\ ∃im,P9 g r.goal im/\yo g r.goal im r.aP
theorem aic (h:dn g more) (hN:g.m.W*g.m.H<=1600) (hF:og g M) (f:kc) (hg:cF g.m goal):Ok (f_.f f goal M g) (λr=> ∃R,r=some R/\R.goal=goal/\ru g R):=by
 have MU:dy=2147483647:=rfl;have yJ:RB=104538400:=rfl;have hmp:=xt h.ok.1;unfold f_.f;obtain⟨im,e,JP⟩:=ah1 h hN f M hg;have aeM:P9 g goal im:=⟨λf' M'=>e,JP⟩
 have hs:=tu (nL h.ok hg);refine Ok.eq (Db g) (Ok.eq (FV g) ?_);simp only;rw[wi U U];have Gx:=ahF (v:=dy) (n:=(g.m.W*g.m.H).toNat) U U;rw[show(((g.m.W*g.m.H).toNat:Nat):Int)=g.m.W*g.m.H by omega] at Gx
 refine Ok.eq Gx (Ok.eq (v:=some ⟨[]⟩) J ?_);refine Ok.eq e (Ok.eq (tr ..) (Ok.eq (agz hF _ hs) ?_));have TW: ∀c:Int,0<=c->c<(g.m.W*g.m.H).toNat->rd (List.replicate (g.m.W*g.m.H).toNat dy) c=dy:=λc c0 c1=>vR c0 c1
 have hR:Rt g goal im (List.replicate (g.m.W*g.m.H).toNat dy) [] (-1):=by
  refine⟨by simp;omega,λc c0 c1 hc=>?_,by simp,λc hc _ qE=>?_⟩
  ·rw[List.length_replicate] at c1;exact absurd (TW c c0 c1) hc
  ·have:=(CL hc).2;exact absurd (TW c this.1 (by have:=this.2;omega)) qE
 have hph:=C2 hN hR;have Uh:=vM g.m (aX g.m.W g.m.H goal);refine(aid h hN hF JP goal g.bN _ J 256 fuel _ [] 0 U (by rw[cO];omega) U U hR bp (λj j0 j1=>by omega)).mono λr hr=>?_
 obtain⟨D',rfl,hD⟩:=hr;exact⟨_,J,J,J,im,aeM,hD⟩
structure Lo (g:bA) (f:kc):Prop where
 kept: ∀R,f.kept=some R->cF g.m R.goal/\R.bN<=g.bN/\(R.bN=g.bN->ru g R)
 eI:0<=f.count/\f.count<=1000000000000
def Od (g:bA) (f:kc) (goal:Int):Prop:= ∃R,f.kept=some R/\R.goal=goal/\R.bN=g.bN
theorem ahG (h:dn g more) (hN:g.m.W*g.m.H<=1600) (hv: ∀s:Int,bK g.m.W g.m.H s->fB g s<=g.bN) {f:kc} (hf:Lo g f) (hM:zZ g M) (hc:M.count+4096<=1000000000000) (NG:f.count+1<=1000000000000) (hg:cF g.m goal):
 Ok (xJ.f f goal M g) (λr=> ∃R,r.1=some R/\R.goal=goal/\ru g R/\r.2.1.kept=some R/\Lo g r.2.1/\f.count<=r.2.1.count/\r.2.1.count<=f.count+1/\(Od g f goal->r.2.1=f)/\og g r.2.2/\r.2.2.clean=g.bN/\r.2.2.count=M.count+(oz g M M.parts.length).length):=by
 have D5:=MK h hg;unfold xJ.f;refine Ok.eq (u9 h _) (Ok.neg bp ((ahy h hv hM hc).bind λv N5=>?_));obtain⟨hF,lJ,jI⟩:=N5;have e:(du f.kept (some true) (λx5=>if(x5.goal !=goal)=true then(some true) else((pk.f g).bind λv6=>some (x5.bN !=v6))))=some (match f.kept with |none=>true |some R=>(R.goal !=goal||R.bN !=g.bN)):=by
  cases f.kept with
  |none=>rfl
  |some R=>
   show(if(R.goal !=goal)=true then _ else _)=some (R.goal !=goal||R.bN !=g.bN)
   by_cases z:R.goal=goal
   ·rw[ah (by simp[z]),FV];simp[z]
   ·rw[af (by simpa using z)];simp[z]
 refine Ok.eq e (Ok.ite (λq=>?_) λq=>?_)
 ·refine(aic h hN hF f hg).bind λr hr=>?_
  obtain⟨R,rfl,r1,r2⟩:=hr;have ajR:=hf.eI;refine Ok.eq (v:=f.count+1) (zJ U U U U) (Ok.pure ⟨R,rfl,r1,r2,rfl,⟨λR' sI=>?_,?_⟩,?_,?_,λ⟨R',k1,k2,k3⟩=>?_,hF,lJ,jI⟩)
  ·simp only[Option.some.injEq] at sI;subst sI;exact⟨by rw[r1];exact hg,by rw[r2.1];omega,λ_=>r2⟩
  ·simp only;omega
  ·simp only;omega
  ·simp only;omega
  ·rw[k1] at q;simp[k2,k3] at q
 ·cases hk:f.kept with
  |none=>rw[hk] at q;simp at q
  |some R=>
   rw[hk] at q;simp at q;have hkk:=hf.kept R hk;exact Ok.pure ⟨R,J,q.1,hkk.2.2 q.2,hk,hf,Int.le_refl _,by simp only;omega,λ_=>rfl,hF,lJ,jI⟩
theorem Y_ (h:dn g more) (hN:g.m.W*g.m.H<=1600) {R:gZ} (hR:ru g R) (c:Int):C0.f R c=some (if cF g.m c/\rd R.aP c≠dy then rd R.aP c else cK):=by
 have MU:dy=2147483647:=rfl;have yJ:RB=104538400:=rfl;obtain⟨_,im,_,hD⟩:=hR;have hl:=hD.len_;unfold C0.f;have e:(if c<0 then(some true) else(if c≥(List.length R.aP:Int) then(some true) else(if(0<=c/\c<(List.length R.aP:Int)) then(some ((rd R.aP c)==2147483647)) else none)))=some (decide (¬(cF g.m c/\rd R.aP c≠dy))):=by
  unfold cF
  by_cases a:c<0
  ·rw[af a];simp;omega
  ·by_cases b:c≥(List.length R.aP:Int)
   ·rw[ah a,af b];simp;omega
   ·rw[ah a,ah b,af U];congr 1;rw[Bool.eq_iff_iff];simp;omega
 rw[e];simp only[aK]
 by_cases z:cF g.m c/\rd R.aP c≠dy
 ·have hz:=z.1;obtain⟨z0,z1⟩:=hz;have:=hD.dv c z0 U z.2;rw[ah (by simpa using z),af U,af z,wi U U]
 ·rw[af (decide_eq_true z),ah z]
end
section
variable {g : bA} {more : Int} {R : gZ}
def wC (g:bA) (R:gZ) (c:Int):Int:=if cF g.m c/\rd R.aP c≠dy then rd R.aP c else cK
theorem QI (hN:g.m.W*g.m.H<=1600) (hR:ru g R) {c:Int} (hc:wC g R c≠cK):cF g.m c/\rd R.aP c≠dy/\wC g R c=rd R.aP c/\0<=wC g R c/\wC g R c<=RB:=by
 unfold wC at hc⊢;split at hc
 ·rename_i z;obtain⟨_,im,_,hD⟩:=hR;have hl:=hD.len_;have hz:=z.1;obtain⟨z0,z1⟩:=hz;have:=hD.dv c z0 U z.2;rw[af z];exact⟨z.1,z.2,J,this.2.1,this.2.2.1⟩
 ·exact absurd J hc
def tP (g:bA) (R:gZ) (c:Int) (e:ek) (x:ba):Prop:=wC g R e.To≠cK/\x=⟨dB g.m.W g.m.H c,C7 g.m.W g.m.H c e.To,e.kS+wC g R e.To⟩
theorem aeX (h:dn g more) (hN:g.m.W*g.m.H<=1600) (hR:ru g R) (L:List Int) (i:Int) (E:List ek) (hE:E.length<=4) (hEc: ∀e∈E,0<=e.kS/\e.kS<=255) (x0:List ba) (uf:x0.length<=10000): ∀(n k:Nat) (x:List ba) (j:Int),(E.length-j).toNat<=n->n<k->0<=j->j<=E.length->(x.length:Int)<=x0.length+j->
 (∀y,y∈x↔y∈x0∨ ∃q:Int,0<=q/\q<j/\tP g R (rd L i) (rd E q) y)->
 Ok (ik.l1 k R (g.m.W,g.m.H) L i E x j) (λr=>r.length<=x0.length+4/\ ∀y,y∈r↔y∈x0∨ ∃e∈E,tP g R (rd L i) e y):=by
 have yJ:RB=104538400:=rfl;have fin: ∀(k:Nat) (x:List ba) (j:Int),¬j<E.length->j<=E.length->(x.length:Int)<=x0.length+j->(∀y,y∈x↔y∈x0∨ ∃q:Int,0<=q/\q<j/\tP g R (rd L i) (rd E q) y)->
  Ok (ik.l1 (k+1) R (g.m.W,g.m.H) L i E x j) (λr=>r.length<=x0.length+4/\ ∀y,y∈r↔y∈x0∨ ∃e∈E,tP g R (rd L i) e y):=λk x j hj iL hl hm=>by
  rw[ik.l1,ah hj];refine Ok.pure ⟨by omega,λy=>(hm y).trans (or_congr_right ⟨λ⟨q,q0,q1,w⟩=>⟨_,dZ q0 U,w⟩,λ⟨e,he,w⟩=>?_⟩)⟩
  obtain⟨q,q0,q1,rfl⟩:=jT he;exact⟨q,q0,by omega,w⟩
 intro n
 induction n with
 |zero=>
  intro k x j hn hk hj iL hl hm;obtain⟨k,rfl⟩:=bq hk;exact fin k x j U iL hl hm
 |succ n ih=>
  intro k x j hn hk hj iL hl hm;obtain⟨k,rfl⟩:=bq hk
  by_cases aR:j<E.length
  ·have hc:=hEc _ (dZ hj aR);have qH: ∀y,(y∈x0∨ ∃q:Int,0<=q/\q<j+1/\tP g R (rd L i) (rd E q) y)↔y∈x∨tP g R (rd L i) (rd E j) y:=λy=>by
    rw[hm y];constructor
    ·rintro(a |⟨q,q0,q1,w⟩)
     ·exact .inl (.inl a)
     ·by_cases z:q=j
      ·subst z;exact .inr w
      ·exact .inl (.inr ⟨q,q0,by omega,w⟩)
    ·rintro((a |⟨q,q0,q1,w⟩) |w)
     ·exact .inl a
     ·exact .inr ⟨q,q0,by omega,w⟩
     ·exact .inr ⟨j,hj,by omega,w⟩
   rw[ik.l1,wi (x:=j+1) U U];refine Ok.pos aR (Ok.ct ⟨hj,aR⟩ (Ok.eq (v:=wC g R (rd E j).To) (Y_ h hN hR _) (Ok.ite (λq=>Ok.eq (GV ..) (Ok.eq (aiy ..) (Ok.ct U ?_))) λq=>?_)))
   ·have q:wC g R (rd E j).To≠cK:=by simpa using q
    have ha:=QI hN hR q;rw[wi U U];refine ih k _ (j+1) U U U U bp λy=>?_
    rw[qH y];unfold tP;simp[q]
   ·have q:wC g R (rd E j).To=cK:=by simpa using q
    refine ih k x (j+1) U U U U U λy=>?_
    rw[qH y];unfold tP;simp[q]
  ·exact fin k x j aR iL hl hm
def yp (g:bA) (R:gZ) (s:Int) (x:ba):Prop:=
 (∃c∈bJ g.m s,∃e∈v_ g.m c,tP g R c e x)∨(aX g.m.W g.m.H R.goal=s/\fK g R.goal≠255/\x=⟨dB g.m.W g.m.H R.goal,4,0⟩)
theorem Mm {m:aM} {c:Int} {e:ek} (he:e∈v_ m c): ∃d:Int,0<=d/\d<=3/\mf m (gf m.W m.H c d)=true/\e=⟨gf m.W m.H c d,rd m.C (gf m.W m.H c d)⟩:=by
 unfold v_ at he;split at he
 ·unfold xL at he;obtain⟨j,hj,rfl⟩:=List.mem_map.1 he;obtain⟨j1,j2⟩:=List.mem_filter.1 hj;have:=List.mem_range.1 j1;exact⟨j,by omega,by omega,j2,J⟩
 ·simp at he
theorem aeW (h:dn g more) (hN:g.m.W*g.m.H<=1600) (hR:ru g R) (s:Int): ∀(n k:Nat) (x:List ba) (i:Int),((bJ g.m s).length-i).toNat<=n->n<k->0<=i->i<=(bJ g.m s).length->(x.length:Int)<=4*i->
 (∀y,y∈x↔ ∃q:Int,0<=q/\q<i/\ ∃e∈v_ g.m (rd (bJ g.m s) q),tP g R (rd (bJ g.m s) q) e y)->
 Ok (ik.l0 k g R s (g.m.W,g.m.H) (bJ g.m s) x i) (λr=>r.length<=1025/\(∀y,y∈r↔yp g R s y)/\r.Pairwise (λa b=> ¬tj b a)):=by
 have hl:=vM g.m s;have fin: ∀(k:Nat) (x:List ba) (i:Int),¬i<(bJ g.m s).length->i<=(bJ g.m s).length->(x.length:Int)<=4*i->(∀y,y∈x↔ ∃q:Int,0<=q/\q<i/\ ∃e∈v_ g.m (rd (bJ g.m s) q),tP g R (rd (bJ g.m s) q) e y)->
  Ok (ik.l0 (k+1) g R s (g.m.W,g.m.H) (bJ g.m s) x i) (λr=>r.length<=1025/\(∀y,y∈r↔yp g R s y)/\r.Pairwise (λa b=> ¬tj b a)):=λk x i hi eD hx hm=>by
  rw[ik.l0,ah hi];have qc: ∀y,y∈x↔ ∃c∈bJ g.m s,∃e∈v_ g.m c,tP g R c e y:=λy=>(hm y).trans ⟨λ⟨q,q0,q1,w⟩=>⟨_,dZ q0 U,w⟩,λ⟨c,hc,w⟩=>by
   obtain⟨q,q0,q1,rfl⟩:=jT hc;exact⟨q,q0,by omega,w⟩⟩
  refine Ok.eq (v:=R.goal) J (Ok.eq (v:=decide (aX g.m.W g.m.H R.goal=s/\fK g R.goal≠255)) ?_ (Ok.ite (λq=>?_) λq=>?_))
  ·simp only[tr,aK]
   by_cases z:aX g.m.W g.m.H R.goal=s
   ·rw[af (by simpa using z),u9 h];simp[z];rw[Bool.eq_iff_iff];simp
   ·rw[ah (by simpa using z)];simp[z]
  ·have q:=of_decide_eq_true q;refine Ok.eq (GV ..) (Ok.ct U ((Pt _ bp).bind λr hr=>Ok.pure ⟨by have:=hr.1;simp at this;omega,λy=>?_,hr.2.2⟩))
   rw[hr.2.1 y,List.mem_append,qc y];unfold yp;simp[q.1,q.2]
  ·have q: ¬(aX g.m.W g.m.H R.goal=s/\fK g R.goal≠255):=by simpa using q
   refine(Pt _ U).bind λr hr=>Ok.pure ⟨by omega,λy=>?_,hr.2.2⟩
   rw[hr.2.1 y,qc y];unfold yp;exact⟨.inl,λw=>w.resolve_right λz=>q ⟨z.1,z.2.1⟩⟩
 intro n
 induction n with
 |zero=>
  intro k x i hn hk hi eD hx hm;obtain⟨k,rfl⟩:=bq hk;exact fin k x i U eD hx hm
 |succ n ih=>
  intro k x i hn hk hi eD hx hm;obtain⟨k,rfl⟩:=bq hk
  by_cases aR:i<(bJ g.m s).length
  ·rw[ik.l0,wi U U];refine Ok.pos aR (Ok.bind (Ok.ct ⟨hi,aR⟩ (Ok.eq (aaW h _) (aeX h hN hR (bJ g.m s) i (v_ g.m (rd (bJ g.m s) i)) (Rm ..) (λe he=>?_) x U 4 fuel x 0 (by have:=Rm g.m (rd (bJ g.m s) i);omega) (by rw[cO];omega) U U U (λy=>⟨.inl,λw=>w.resolve_right λ⟨q,q0,q1,_⟩=>by omega⟩)))) λr hr=>ih k r (i+1) U U U U U λy=>?_)
   ·obtain⟨d,_,_,d2,rfl⟩:=Mm he;have:=(Bh.1 d2).1;have:=h.sw _ this.1 this.2;simp only;omega
   ·rw[hr.2 y,hm y];constructor
    ·rintro(⟨q,q0,q1,w⟩ |w)
     ·exact⟨q,q0,by omega,w⟩
     ·exact⟨i,hi,by omega,w⟩
    ·rintro⟨q,q0,q1,w⟩
     by_cases z:q=i
     ·subst z;exact .inr w
     ·exact .inl ⟨q,q0,by omega,w⟩
  ·exact fin k x i aR eD hx hm
theorem aeY (h:dn g more) (hN:g.m.W*g.m.H<=1600) (hR:ru g R) (s:Int):Ok (ik.f g R s) (λr=>r.length<=1025/\(∀y,y∈r↔yp g R s y)/\r.Pairwise (λa b=> ¬tj b a)):=by
 have hl:=vM g.m s;unfold ik.f;refine Ok.eq (Db g) (Ok.eq (v:=R.bN) rfl (Ok.eq (FV g) (Ok.neg (by simp[hR.1]) (Ok.eq (Vm h s) (aeW h hN hR s 256 fuel [] 0 U (by rw[cO];omega) U U bh (λy=>⟨λq=>by simp at q,λ⟨q,q0,q1,_⟩=>by omega⟩))))))
theorem aij (h:dn g more) (hN:g.m.W*g.m.H<=1600) (hR:ru g R) (hg:cF g.m R.goal) {s:Int} (hs:bK g.m.W g.m.H s) {x:ba} (hx:yp g R s x):qy (fO g.m s) x/\x.Key+254*256<=104603678:=by
 have yJ:RB=104538400:=rfl;rcases hx with⟨c,hc,e,he,ha,rfl⟩ |⟨h1,h2,rfl⟩
 ·obtain⟨n1,n2,n3,n4⟩:=uq hc;obtain⟨d,d0,d3,d4,rfl⟩:=Mm he;have dW:=nL h.ok n2;have ma:=C8 h n2;rw[n4] at ma;have aT:=(Bh.1 d4).1;have vz:=VB (w:=g.m.W) (h:=g.m.H) (c:=c) (side:=d) aT.1;have hb:=h.sw _ aT.1 aT.2;have hav:=QI hN hR ha;simp only at ha hav;have bI:=(Bh.1 d4).2;have ck:=Em dW;have mv:=DT dW;rw[n4] at ck mv;have T9:=KD hs ck.1 ck.2 d0 d3;rw[mv] at T9;have Ck:C7 g.m.W g.m.H c (gf g.m.W g.m.H c d)=d:=by
   rw[vz.2.2.2.2.1];exact WZ dW d0 U (by rw[<-vz.2.2.2.2.1];exact vz.2.2.2.1)
  refine⟨⟨ma.1,ma.2.1,?_,by simp only;omega,by simp only;omega,?_⟩,by simp only;omega⟩
  ·simp only;rw[ma.2.2];unfold fK;rw[af n2];exact(Bh.1 n1).2
  ·simp only;rw[Ck];exact .inr ⟨d0,d3,(T9.1 aT.1).2⟩
 ·have ma:=C8 h hg;rw[h1] at ma;exact⟨⟨ma.1,ma.2.1,by simp only;rw[ma.2.2];exact h2,by simp,by simp,.inl J⟩,by simp⟩
end
section
theorem PA {a b:fx} (ha:qw a CB) (hb:qw b CB):mM.f a b=some ⟨a.bB+b.bB,a.bw+b.bw,a.bk+b.bk,a.bn+b.bn,a.bF+b.bF,a.bE+b.bE⟩:=by
 obtain⟨a1,a2,a3,a4,a5,a6⟩:=ha;obtain⟨b1,b2,b3,b4,b5,b6⟩:=hb;have MT:CB=1000000000000:=rfl;unfold mM.f fF.f;simp only[aK];have e0: ∀a b c d e f:Int,rd [a,b,c,d,e,f] 0=a:=λ_ _ _ _ _ _=>rfl
 have e1: ∀a b c d e f:Int,rd [a,b,c,d,e,f] 1=b:=λ_ _ _ _ _ _=>rfl
 have e2: ∀a b c d e f:Int,rd [a,b,c,d,e,f] 2=c:=λ_ _ _ _ _ _=>rfl
 have e3: ∀a b c d e f:Int,rd [a,b,c,d,e,f] 3=d:=λ_ _ _ _ _ _=>rfl
 have e4: ∀a b c d e f:Int,rd [a,b,c,d,e,f] 4=e:=λ_ _ _ _ _ _=>rfl
 have e5: ∀a b c d e f:Int,rd [a,b,c,d,e,f] 5=f:=λ_ _ _ _ _ _=>rfl
 have s0: ∀a b c d e f v:Int,List.set [a,b,c,d,e,f] (Int.toNat 0) v=[v,b,c,d,e,f]:=λ_ _ _ _ _ _ _=>rfl
 have s1: ∀a b c d e f v:Int,List.set [a,b,c,d,e,f] (Int.toNat 1) v=[a,v,c,d,e,f]:=λ_ _ _ _ _ _ _=>rfl
 have s2: ∀a b c d e f v:Int,List.set [a,b,c,d,e,f] (Int.toNat 2) v=[a,b,v,d,e,f]:=λ_ _ _ _ _ _ _=>rfl
 have s3: ∀a b c d e f v:Int,List.set [a,b,c,d,e,f] (Int.toNat 3) v=[a,b,c,v,e,f]:=λ_ _ _ _ _ _ _=>rfl
 have s4: ∀a b c d e f v:Int,List.set [a,b,c,d,e,f] (Int.toNat 4) v=[a,b,c,d,v,f]:=λ_ _ _ _ _ _ _=>rfl
 have s5: ∀a b c d e f v:Int,List.set [a,b,c,d,e,f] (Int.toNat 5) v=[a,b,c,d,e,v]:=λ_ _ _ _ _ _ _=>rfl
 have w0:aa (0+1)=1:=rfl;have w1:aa (1+1)=2:=rfl;have w2:aa (2+1)=3:=rfl;have w3:aa (3+1)=4:=rfl;have w4:aa (4+1)=5:=rfl;have w5:aa (5+1)=6:=rfl;simp only[e0,e1,e2,e3,e4,e5];have st: ∀(k:Nat) (x7 x8 x9 aN bd bg y7 y8 y9 zP zQ zR i v:Int),0<=i->i<6->rZ.f (rd [y7,y8,y9,zP,zQ,zR] i) (rd [x7,x8,x9,aN,bd,bg] i)=some v->
  mM.l0 (k+1) x7 x8 x9 aN bd bg y7 y8 y9 zP zQ zR i=mM.l0 k x7 x8 x9 aN bd bg (rd (List.set [y7,y8,y9,zP,zQ,zR] (Int.toNat i) v) 0) (rd (List.set [y7,y8,y9,zP,zQ,zR] (Int.toNat i) v) 1) (rd (List.set [y7,y8,y9,zP,zQ,zR] (Int.toNat i) v) 2) (rd (List.set [y7,y8,y9,zP,zQ,zR] (Int.toNat i) v) 3) (rd (List.set [y7,y8,y9,zP,zQ,zR] (Int.toNat i) v) 4) (rd (List.set [y7,y8,y9,zP,zQ,zR] (Int.toNat i) v) 5) (aa (i+1)):=by
  intro k x7 x8 x9 aN bd bg y7 y8 y9 zP zQ zR i v h0 h1 hv;rw[mM.l0,af h1,af ⟨h0,h1⟩,af ⟨h0,h1⟩,hv,aK,af ⟨h0,h1⟩]
 obtain⟨k,hk⟩: ∃q,fuel=q+1+1+1+1+1+1+1:=⟨fuel-7,by rw[cO]⟩
 rw[hk];rw[st _ _ _ _ _ _ _ _ _ _ _ _ _ 0 (a.bB+b.bB) U U (by rw[e0,e0];exact zJ U U U U)]
 simp only[s0,e0,e1,e2,e3,e4,e5,w0];rw[st _ _ _ _ _ _ _ _ _ _ _ _ _ 1 (a.bw+b.bw) U U (by rw[e1,e1];exact zJ U U U U)]
 simp only[s1,e0,e1,e2,e3,e4,e5,w1];rw[st _ _ _ _ _ _ _ _ _ _ _ _ _ 2 (a.bk+b.bk) U U (by rw[e2,e2];exact zJ U U U U)]
 simp only[s2,e0,e1,e2,e3,e4,e5,w2];rw[st _ _ _ _ _ _ _ _ _ _ _ _ _ 3 (a.bn+b.bn) U U (by rw[e3,e3];exact zJ U U U U)]
 simp only[s3,e0,e1,e2,e3,e4,e5,w3];rw[st _ _ _ _ _ _ _ _ _ _ _ _ _ 4 (a.bF+b.bF) U U (by rw[e4,e4];exact zJ U U U U)]
 simp only[s4,e0,e1,e2,e3,e4,e5,w4];rw[st _ _ _ _ _ _ _ _ _ _ _ _ _ 5 (a.bE+b.bE) U U (by rw[e5,e5];exact zJ U U U U)]
 simp only[s5,e0,e1,e2,e3,e4,e5,w5];rw[mM.l0,ah U]
structure P4 (m:aM):Prop where
 ok:tM m
 sw: ∀c:Int,0<=c->c<m.W*m.H->1<=rd m.C c/\rd m.C c<=255
 kD:m.W*m.H<=1600
structure XG (c:dK) (b:Int):Prop where
 gs:dn c.ay 0
 kD:c.ay.m.W*c.ay.m.H<=1600
 E0: ∀s:Int,bK c.ay.m.W c.ay.m.H s->1<=fB c.ay s/\fB c.ay s<=c.ay.bN
 ep:c.ay.bN<=b
 ms:zZ c.ay c.fZ
 fs:Lo c.ay c.gJ
def cu (n:bQ):fx:=⟨n.aV.bB+(match n.core with |none=>0 |some c=>c.fZ.count)+n.cz.count.bB,n.aV.bw+(match n.core with |none=>0 |some c=>c.gJ.count)+n.cz.count.bw,n.aV.bk+n.cz.count.bk,n.aV.bn+n.cz.count.bn,n.aV.bF+n.cz.count.bF,n.aV.bE+n.cz.count.bE⟩
structure iv (n:bQ) (k b:Int) (ord:List Int):Prop where
 iN:pR n.cz.keys k ord
 aV:qw n.aV b
 sc:qw n.cz.count b
 z:n.cz.count.bB=0/\n.cz.count.bw=0
 jP:qw (cu n) b
 none_:n.core=none->n.cz.fields=[]/\ord=[]
 core: ∀c,n.core=some c->XG c b/\c.fZ.count<=b/\c.gJ.count<=b/\z7 c.ay n.cz k ord
def kC (n:bQ):fx:=⟨(match n.core with |none=>0 |some c=>c.fZ.count),(match n.core with |none=>0 |some c=>c.gJ.count),0,0,0,0⟩
section
variable {n : bQ} {k b : Int} {ord : List Int}
theorem Rg (n:bQ):zj.f n=some (kC n):=by
 unfold zj.f kC
 cases n.core with
 |none=>rfl
 |some c=>rfl
theorem iv.cv (h:iv n k b ord) (hb:0<=b):qw (kC n) b:=by
 unfold kC
 cases hc:n.core with
 |none=>exact⟨⟨Int.le_refl _,hb⟩,⟨Int.le_refl _,hb⟩,⟨Int.le_refl _,hb⟩,⟨Int.le_refl _,hb⟩,⟨Int.le_refl _,hb⟩,⟨Int.le_refl _,hb⟩⟩
 |some c=>
  obtain⟨h1,h2,h3,_⟩:=h.core c hc;exact⟨⟨h1.ms.eI.1,h2⟩,⟨h1.fs.eI.1,h3⟩,⟨Int.le_refl _,hb⟩,⟨Int.le_refl _,hb⟩,⟨Int.le_refl _,hb⟩,⟨Int.le_refl _,hb⟩⟩
theorem aaK {x y:fx} {b c:Int} (hx:qw x b) (hy:qw y c):qw ⟨x.bB+y.bB,x.bw+y.bw,x.bk+y.bk,x.bn+y.bn,x.bF+y.bF,x.bE+y.bE⟩ (b+c):=by
 obtain⟨a1,a2,a3,a4,a5,a6⟩:=hx;obtain⟨b1,b2,b3,b4,b5,b6⟩:=hy;exact⟨by simp only;omega,by simp only;omega,by simp only;omega,by simp only;omega,by simp only;omega,by simp only;omega⟩
theorem Px (h:iv n k b ord) (hb:0<=b/\b<=100000000000):CH.f n=some (cu n):=by
 have MT:CB=1000000000000:=rfl;have Gh:=h.cv hb.1;unfold CH.f EO.f;rw[Rg,aK,PA (h.aV.mono U) (Gh.mono U),aK,aK,PA ((aaK h.aV Gh).mono U) (h.sc.mono U)];simp[cu,kC]
theorem agt {k:Int} (h1:1<=k) (h2:k<=1000000): ∃n,xB.f k=some (some n)/\iv n k 0 []/\n.core=none/\cu n=⟨0,0,0,0,0,0⟩:=by
 obtain⟨s,e,hs,hf,hc⟩:=aiC h1 h2;have hz:qw ⟨0,0,0,0,0,0⟩ 0:=⟨by simp,by simp,by simp,by simp,by simp,by simp⟩
 unfold xB.f;rw[ah U,e];exact⟨_,J,⟨hs,hz,by rw[hc];exact hz,by rw[hc];exact⟨J,J⟩,by simp[cu,hc];exact hz,λ_=>⟨hf,J⟩,λc hc=>by simp at hc⟩,J,by simp[cu,hc]⟩
theorem Kw {c:dK} (h:iv n k b ord) (hc:n.core=some c) (x:Int):sV.f n x=some (fK c.ay x):=by
 unfold sV.f;rw[hc]
 show(jh.f c.ay x).bind _=_
 rw[u9 (h.core c hc).1.gs];rfl
theorem Vn {c:dK} (hc:n.core=some c):zi.f n=some (c.ay.m.W,c.ay.m.H):=by
 unfold zi.f;rw[hc];rfl
theorem iv.mono {b':Int} (h:iv n k b ord) (hb:b<=b'):iv n k b' ord:=
 ⟨h.iN,h.aV.mono hb,h.sc.mono hb,h.z,h.jP.mono hb,h.none_,λc hc=>by
   obtain⟨h1,h2,h3,h4⟩:=h.core c hc;exact⟨⟨h1.gs,h1.kD,h1.E0,by have:=h1.ep;omega,h1.ms,h1.fs⟩,by omega,by omega,h4⟩⟩
structure Bz (n:bQ) (k b:Int) (ord:List Int) (c:dK) (goal s:Int) (r:fQ×Er×bQ):Prop where
 err:r.2.1=Er.nil
 tV: ∃R l c' mc,ru c.ay R/\R.goal=goal/\l.length<=1025/\(∀y,y∈l↔yp c.ay R s y)/\l.Pairwise (λa b=> ¬tj b a)/\tL (fO c.ay.m s) l KF r.1/\
  r.2.2.core=some c'/\c'.ay=c.ay/\c'.gJ.kept=some R/\og c.ay c'.fZ/\c'.fZ.clean=c.ay.bN/\c'.fZ.count=c.fZ.count+(oz c.ay c.fZ c.fZ.parts.length).length/\
  c.gJ.count<=c'.gJ.count/\c'.gJ.count<=c.gJ.count+1/\(Od c.ay c.gJ goal->c'.gJ=c.gJ)/\
  iv r.2.2 k (b+5000) mc/\PY c.ay n.cz k ord goal s l (r.1,0,r.2.2.cz)/\r.2.2.aV=n.aV/\ik.f c.ay R s=some l
theorem Vj {c:dK} (h:iv n k b ord) (hb:0<=b/\b<=100000000000) (hc:n.core=some c) {goal s:Int} (hg:cF c.ay.m goal) (hs:bK c.ay.m.W c.ay.m.H s):
 Ok (qL.f n goal s) (Bz n k b ord c goal s):=by
 have MT:CB=1000000000000:=rfl;obtain⟨gK,Ud,NG,mB⟩:=h.core c hc;have hG:=gK.gs;have D5:=MK hG hg;have B9:=Mp c.ay c.fZ c.fZ.parts.length;have NU:=gK.ms.len_;have Nz:=pg c.ay.m.W c.ay.m.H;unfold qL.f;rw[hc];refine Ok.eq (v:=false) J (Ok.neg bh ?_)
 show Ok ((l6.f c.ay s).bind _) _
 refine Ok.eq ((PE hG s).trans (by rw[Si hs])) (Ok.eq (u9 hG _) (Ok.neg bp ((ahG hG gK.kD (λs hs=>(gK.E0 s hs).2) gK.fs gK.ms U U hg).bind λv hv=>?_)))
 obtain⟨R,e1,e2,e3,e4,e5,e6,e7,e8,e9,pZ,yE⟩:=hv;rw[e1]
 show Ok ((ik.f c.ay R s).bind _) _
 obtain⟨l,el,l1,l2,l3⟩:=aeY hG gK.kD e3 s;refine Ok.eq el ?_;rw[PQ hG,aK];have aer:=ait hG (λs hs=>(gK.E0 s hs).2) mB (h.sc.mono U) hg hs l U (λx hx=>aij hG gK.kD e3 (by rw[e2];exact hg) hs ((l2 x).1 hx))
 refine(aer.bind' (g:=λv32:fQ×Int×ju=>(v32.1.eW,v32.1.cx,v32.2.1,v32.2.2)) λq hq=>?_);have Gs:=hq.code;obtain⟨f,z,sh⟩:=q;simp only at Gs;subst Gs;simp only;refine Ok.neg bh (Ok.pure ⟨J,R,l,⟨c.ay,v.2.2,v.2.1⟩,?_⟩);obtain⟨cc,A,B,g1,g2⟩:=hq.sh;obtain⟨k1,k2,k3,k4,k5,k6,k7,k8,k9⟩:=hq.eI;simp only at g1 g2 k1 k2 k3 k4 k5 k6 k7 k8 k9;obtain⟨s1,s2,s3,s4,s5,s6⟩:=h.sc;refine⟨cc::(A++B),e3,e2,l1,l2,l3,hq.tV,J,J,e4,e9,pZ,yE,e6,e7,e8,⟨g1.iN,h.aV.mono U,⟨by simp only;omega,by simp only;omega,by simp only;omega,by simp only;omega,by simp only;omega,by simp only;omega⟩,?_,?_,λz=>by simp at z,λc' ie=>?_⟩,hq,J,el⟩
 ·have:=h.z;simp only;omega
 ·have ht:=h.jP;unfold cu at ht⊢;simp only[hc] at ht;obtain⟨t1,t2,t3,t4,t5,t6⟩:=ht;simp only at t1 t2 t3 t4 t5 t6;exact⟨by simp only;omega,by simp only;omega,by simp only;omega,by simp only;omega,by simp only;omega,by simp only;omega⟩
 ·simp only[Option.some.injEq] at ie;subst ie;exact⟨⟨hG,gK.kD,gK.E0,by have:=gK.ep;simp only;omega,e9.ms,e5⟩,by simp only;omega,by simp only;omega,g1⟩
theorem agp {c:dK} (h:iv n k b ord) (hc:n.core=some c) {goal s:Int} (gL: ¬(cF c.ay.m goal/\bK c.ay.m.W c.ay.m.H s)):
 qL.f n goal s=some (⟨[],[]⟩,Er.wrap 222 [goal] (Er.eB 3),n):=by
 obtain⟨gK,Ud,NG,mB⟩:=h.core c hc;unfold qL.f;rw[hc];simp only[du,aK,Bool.false_eq_true,if_false];rw[PE gK.gs,aK,u9 gK.gs,aK,af]
 by_cases z:cF c.ay.m goal
 ·have: ¬bK c.ay.m.W c.ay.m.H s:=λy=>gL ⟨z,y⟩
  unfold FY;rw[ah this];simp
 ·unfold fK;rw[ah z];simp
theorem Vi:zl.f Er.nil=some 0:=rfl
theorem agh (g:Int):zl.f (Er.wrap 222 [g] (Er.eB 3))=some 7:=rfl
theorem Vk (h:iv n k b ord): ∃n',xy.f n=some n'/\iv n' k b []/\cu n'=cu n/\n'.aV=n.aV/\n'.cz.count=n.cz.count/\
 ((n.core=none/\n'.core=none)∨ ∃c,n.core=some c/\n'.core=some ⟨c.ay,c.fZ,⟨none,c.gJ.count⟩⟩):=by
 obtain⟨s,e,hs,hf,jI⟩:=RU h.iN;unfold xy.f;rw[e,aK]
 cases hc:n.core with
 |none=>
  have vd:cu ⟨none,s,n.aV⟩=cu n:=by simp[cu,jI,hc]
  exact⟨_,J,⟨hs,h.aV,by rw[jI];exact h.sc,by rw[jI];exact h.z,by rw[vd];exact h.jP,λ_=>⟨hf,J⟩,λc hc=>by simp at hc⟩,vd,J,jI,.inl ⟨J,J⟩⟩
 |some c=>
  obtain⟨h1,h2,h3,h4⟩:=h.core c hc;have vd:cu ⟨some ⟨c.ay,c.fZ,⟨none,c.gJ.count⟩⟩,s,n.aV⟩=cu n:=by simp[cu,jI,hc]
  refine⟨_,J,⟨hs,h.aV,by rw[jI];exact h.sc,by rw[jI];exact h.z,by rw[vd];exact h.jP,λz=>by simp at z,λc' ie=>?_⟩,vd,J,jI,.inr ⟨c,J,J⟩⟩
  ·simp only[Option.some.injEq] at ie;subst ie;exact⟨⟨h1.gs,h1.kD,h1.E0,h1.ep,h1.ms,⟨λR hR=>by simp at hR,h1.fs.eI⟩⟩,h2,h3,z7.empty _ hs hf⟩
theorem ags {c:dK} (h:iv n k b ord) (hc:n.core=some c):vL.f n=some c.ay.m:=by
 obtain⟨gK,_⟩:=h.core c hc;have:=gK.kD;have:=gK.gs.ok.2.1;unfold vL.f;rw[hc];simp only[du];rw[ab2 _ U];rfl
theorem agq (h:iv n k b ord) (hb:0<=b/\b<=100000000000) {m:aM} (hm:P4 m): ∃n' c',xz.f n m=some (0,n')/\n'.core=some c'/\iv n' k (b+1) []/\c'.ay.m=m/\c'.gJ=⟨none,0⟩/\cu n'=cu n/\(∀s:Int,bK m.W m.H s->(rd c'.fZ.parts s).version≠fB c'.ay s)/\n'.cz.count=n.cz.count:=by
 have MT:CB=1000000000000:=rfl;have Cc:=hm.kD;have hl:=hm.ok.2.1;obtain⟨s,e,hs,hf,jI⟩:=RU h.iN;have Gh:=h.cv hb.1;have aeH:=PA (h.aV.mono (b':=CB) U) (Gh.mono (b':=CB) U);have key: ∀ep:Int,0<=ep->ep<=b-> ∃n' c',((l7.f m ep).bind λv6=>du v6 none λye=>(rP.f ye).bind λv7=>du v7 none λrj=>(tc.f rj ye).bind λv8=>du v8 none λE5=>(pM.f n.cz).bind λv9=>some ((0:Int),bQ.mk (some (dK.mk ye rj E5)) v9 ⟨n.aV.bB+(kC n).bB,n.aV.bw+(kC n).bw,n.aV.bk+(kC n).bk,n.aV.bn+(kC n).bn,n.aV.bF+(kC n).bF,n.aV.bE+(kC n).bE⟩))=some (0,n')/\n'.core=some c'/\iv n' k (b+1) []/\c'.ay.m=m/\c'.gJ=⟨none,0⟩/\cu n'=cu n/\(∀s:Int,bK m.W m.H s->(rd c'.fZ.parts s).version≠fB c'.ay s)/\n'.cz.count=n.cz.count:=by
  intro ep h0 h1;have hgn:Jj m ep=some (bA.mk m (ep+1) (List.replicate (d_ m.W m.H).toNat (ep+1))):=by unfold Jj;rw[af ⟨hm.ok,h0,by omega⟩]
  rw[ab3 m ep U,hgn];have Nz:=pg m.W m.H;have hG:dn (bA.mk m (ep+1) (List.replicate (d_ m.W m.H).toNat (ep+1))) 0:=⟨hm.ok,hm.sw,by simp;omega,by simp only;omega⟩
  have N6: ∀s:Int,bK m.W m.H s->fB (bA.mk m (ep+1) (List.replicate (d_ m.W m.H).toNat (ep+1))) s=ep+1:=λs hs=>by
   unfold fB;rw[af hs];simp only;rw[vR hs.1 (by have:=hs.2;omega)]
  obtain⟨M,eM,hM,hM0,_,hMv⟩:=af5 hG (λs hs=>by rw[N6 s hs];omega)
  simp only[du,aK,eM,tc.f,e];have ht:=h.jP;have hz:=h.z;have hpc:qw ⟨n.aV.bB+(kC n).bB,n.aV.bw+(kC n).bw,n.aV.bk+(kC n).bk,n.aV.bn+(kC n).bn,n.aV.bF+(kC n).bF,n.aV.bE+(kC n).bE⟩ (b+1):=by
   obtain⟨t1,t2,t3,t4,t5,t6⟩:=ht;obtain⟨s1,s2,s3,s4,s5,s6⟩:=h.sc;obtain⟨p1,p2,p3,p4,p5,p6⟩:=h.aV;obtain⟨v1,v2,v3,v4,v5,v6⟩:=Gh;simp only[cu] at t1 t2 t3 t4 t5 t6;simp only[kC] at v1 v2 v3 v4 v5 v6⊢;exact⟨by simp only;omega,by simp only;omega,by simp only;omega,by simp only;omega,by simp only;omega,by simp only;omega⟩
  have vd: ∀G,cu ⟨some ⟨G,M,⟨none,0⟩⟩,s,⟨n.aV.bB+(kC n).bB,n.aV.bw+(kC n).bw,n.aV.bk+(kC n).bk,n.aV.bn+(kC n).bn,n.aV.bF+(kC n).bF,n.aV.bE+(kC n).bE⟩⟩=cu n:=λG=>by simp only[cu,jI,hM0,kC];congr 1<;>omega
  refine⟨_,_,J,J,⟨hs,hpc,by rw[jI];exact h.sc.mono U,by rw[jI];exact h.z,by rw[vd];exact ht.mono U,λz=>by simp at z,λc' ie=>?_⟩,J,J,vd _,λs hs=>?_,jI⟩
  ·simp only[Option.some.injEq] at ie;subst ie;refine⟨⟨hG,Cc,λs hs=>?_,by simp only;omega,hM,⟨λR hR=>by simp at hR,by simp⟩⟩,by simp only;omega,by simp only;omega,z7.empty _ hs hf⟩
   rw[N6 s hs];simp only;omega
  ·simp only;rw[hMv s hs,N6 s hs];omega
 unfold xz.f;rw[QE m U,decide_eq_true hm.ok];simp only[aK,Bool.not_true,Bool.false_eq_true,if_false];rw[Rg,aK,aeH,aK]
 cases hc:n.core with
 |none=>exact key 0 (Int.le_refl _) hb.1
 |some c=>
  obtain⟨h1,_⟩:=h.core c hc;have:=h1.gs.ep;exact key c.ay.bN U h1.ep
end
end
section
variable {g : bA} {more : Int}
theorem Og (h:dn g more) {c v:Int} (hc:cF g.m c) {d:Int} (d0:0<=d):rd (mW g c v).m.C d=if d=c then v else rd g.m.C d:=by
 have hl:=h.ok.2.1;exact ln hc.1 (by rw[hl];exact hc.2) d0
theorem U0 (h:dn g more) {c v:Int} (hc:cF g.m c) {s:Int} (hs:bK g.m.W g.m.H s) (bI:s≠aX g.m.W g.m.H c):fO (mW g c v).m s=fO g.m s:=by
 have hz:=zH g.m.W g.m.H s
 show aM.mk _ _ _=aM.mk _ _ _
 congr 1
 unfold kQ;refine List.map_congr_left λl hl=>?_
 have hl:l<((ax g.m.W g.m.H s).1*(ax g.m.W g.m.H s).2).toNat:=List.mem_range.1 hl;have ck:=Aw hs (l:=(l:Int)) U U;have yV:=KW hs (l:=(l:Int)) U U
 show rd (mW g c v).m.C (db g.m.W g.m.H s l)=_
 rw[Og h hc ck.1,ah (λz=>bI (by rw[<-z,yV]))]
theorem aaA {w h s c:Int} (hc:c∈qR w h s):0<=c/\bK w h s/\aX w h c=s:=by
 unfold qR vZ at hc;obtain⟨l,hl,rfl⟩:=List.mem_map.mp hc;have hz:=zH w h s;have kl:=List.mem_range.mp (List.mem_filter.mp hl).1;have hs:=Ps (w:=w) (h:=h) (s:=s) (l:=(l:Int)) U U;exact⟨(Aw hs U U).1,hs,KW hs U U⟩
theorem afy (h:dn g more) {c v:Int} (hc:cF g.m c) {s:Int} (bI:s≠aX g.m.W g.m.H c):bJ (mW g c v).m s=bJ g.m s:=by
 unfold bJ;refine List.filter_congr λd hd=>?_
 obtain⟨d0,_,d2⟩:=aaA hd;have hd2:aX g.m.W g.m.H d=s:=d2;unfold mf;rw[Og h hc d0,ah (λz=>bI (by rw[<-z];exact hd2.symm))]
 rfl
theorem Oh (h:dn g more) {c v:Int} (hc:cF g.m c) {s:Int} (hs:bK g.m.W g.m.H s):fB (mW g c v) s=if s=aX g.m.W g.m.H c then g.bN+1 else fB g s:=by
 have nG:=tu (nL h.ok hc);have Uu:=h.vs;have e:fB (mW g c v) s=rd (List.set g.pQ (aX g.m.W g.m.H c).toNat (g.bN+1)) s:=by unfold fB;exact af hs
 rw[e,ln nG.1 (by rw[Uu];exact nG.2) hs.1]
 split
 ·rfl
 ·unfold fB;rw[af hs]
variable {n : bQ} {k b : Int} {ord : List Int}
theorem agk {c:dK} (h:iv n k b ord) (hb:0<=b/\b<=100000000000) (hc:n.core=some c) {x v:Int} (hx:cF c.ay.m x) (v1:1<=v) (v2:v<=255):
 ∃n',xx.f n x v=some (0,n')/\n'.core=some ⟨mW c.ay x v,c.fZ,c.gJ⟩/\n'.cz=n.cz/\n'.aV=n.aV/\iv n' k (b+1) ord/\cu n'=cu n:=by
 obtain⟨gK,Ud,NG,mB⟩:=h.core c hc;have hG:=gK.gs;have NF:=hG.ep;have ajQ:=gK.ep;have hG1:dn c.ay 1:=⟨hG.ok,hG.sw,hG.vs,by omega⟩
 have hG':=afz hG1 (Int.le_refl 1) hx v1 v2;unfold xx.f;rw[hc];simp only[du];rw[abk hG];have e:Ji c.ay x v=(0,mW c.ay x v):=by unfold Ji;rw[ah (λq=>q hx),ah U]
 rw[e];have part: ∀s p,bK c.ay.m.W c.ay.m.H s->s≠aX c.ay.m.W c.ay.m.H x->BE c.ay.m s p->BE (mW c.ay x v).m s p:=λs p hs bI hp=>by
  have e1:=afy (v:=v) hG hx bI;have e2:=U0 (v:=v) hG hx hs bI;refine⟨by rw[e1];exact hp.nodes,by rw[e1];exact hp.len_,?_⟩
  rw[e1,e2];exact hp.Rh
 have vd: ∀G,cu ⟨some ⟨G,c.fZ,c.gJ⟩,n.cz,n.aV⟩=cu n:=λG=>by simp[cu,hc]
 refine⟨_,J,J,J,J,⟨h.iN,h.aV.mono U,h.sc.mono U,h.z,by rw[vd];exact h.jP.mono U,λz=>by simp at z,λc' ie=>?_⟩,vd _⟩
 simp only[Option.some.injEq] at ie;subst ie;have vr:(mW c.ay x v).bN=c.ay.bN+1:=rfl;refine⟨⟨hG',gK.kD,λs hs=>?_,by rw[vr];omega,⟨gK.ms.len_,λs hs=>?_,λs hs e=>?_,λe=>?_,?_,gK.ms.eI⟩,⟨λR hR=>?_,gK.fs.eI⟩⟩,by simp only;omega,by simp only;omega,⟨mB.iN,mB.fl,λd d0 d1=>?_⟩⟩
 ·have fS:bK c.ay.m.W c.ay.m.H s:=hs;have:=gK.E0 s fS;simp only[vr];rw[Oh hG hx fS];split<;>omega
 ·have:=gK.ms.le s hs;simp only[vr];omega
 ·have fS:bK c.ay.m.W c.ay.m.H s:=hs;have hle:=gK.ms.le s fS;simp only at e⊢;rw[Oh hG hx fS] at e
  by_cases z:s=aX c.ay.m.W c.ay.m.H x
  ·rw[af z] at e;omega
  ·rw[ah z] at e;exact part s _ fS z (gK.ms.ok s fS e)
 ·have:=gK.ms.Mf;simp only[vr] at e;omega
 ·have:=gK.ms.Mf;simp only[vr];omega
 ·obtain⟨k1,k2,k3⟩:=gK.fs.kept R hR;exact⟨k1,by simp only[vr];omega,λe=>by simp only[vr] at e;omega⟩
 ·obtain⟨s1,s2,s3,s4⟩:=mB.ok d d0 d1;refine⟨s1,s2,by simp only[vr];omega,λe=>?_⟩
  simp only at e⊢;rw[Oh hG hx s2] at e
  by_cases z:(rd n.cz.keys.ak d).key.2=aX c.ay.m.W c.ay.m.H x
  ·rw[af z] at e;omega
  ·rw[ah z] at e;have:=s4 e;rw[U0 hG hx s2 z];exact this
theorem agr {c:dK} (h:iv n k b ord) (hb:0<=b/\b<=100000000000) (hc:n.core=some c) (goal x:Int):
 Ok (xA.f n goal x) (λr=>(cF c.ay.m goal/\cF c.ay.m x/\r.2.2.1=0/\ ∃f,Bz n k b ord c goal (aX c.ay.m.W c.ay.m.H x) (f,Er.nil,r.2.2.2)/\r.1=rd f.eW (dB c.ay.m.W c.ay.m.H x)/\r.2.1=rd f.cx (dB c.ay.m.W c.ay.m.H x))∨
  (¬(cF c.ay.m goal/\cF c.ay.m x)/\r.2.2.1=7/\r.2.2.2=n)):=by
 obtain⟨gK,_⟩:=h.core c hc;have hG:=gK.gs;unfold xA.f zk.f;rw[Vn hc,aK,tr,aK];simp only
 by_cases z:cF c.ay.m goal/\cF c.ay.m x
 ·have hs:=tu (nL hG.ok z.2);have ma:=C8 hG z.2;refine Ok.bind (P:=λr=>r.2.2.1=Er.nil/\ ∃f,Bz n k b ord c goal (aX c.ay.m.W c.ay.m.H x) (f,Er.nil,r.2.2.2)/\r.1=rd f.eW (dB c.ay.m.W c.ay.m.H x)/\r.2.1=rd f.cx (dB c.ay.m.W c.ay.m.H x)) ((Vj h hb hc z.1 hs).bind λr hr=>?_) λr hr=>?_
  ·obtain⟨f,e,n'⟩:=r;have he:=hr.err;simp only at he;subst he;obtain⟨R,l,c',mc,_,_,_,_,_,hF,_⟩:=hr.tV;simp only at hF⊢;refine Ok.neg (by simp[Er.isNil]) (Ok.eq (GV ..) (Ok.ct (by rw[hF.aP.dl];exact⟨ma.1,ma.2.1⟩) (Ok.ct (by rw[hF.dl];exact⟨ma.1,ma.2.1⟩) (Ok.pure ⟨J,f,hr,J,J⟩))))
  ·rw[hr.1];exact Ok.eq Vi (Ok.pure (.inl ⟨z.1,z.2,J,hr.2⟩))
 ·have gL: ¬(cF c.ay.m goal/\bK c.ay.m.W c.ay.m.H (aX c.ay.m.W c.ay.m.H x)):=λy=>z ⟨y.1,by
   have ie:bV c.ay.m.W c.ay.m.H x:=Classical.byContradiction λw=>by
    have:=zF.2 w;have:=y.2.1;omega
   exact ie.2⟩
  rw[agp h hc gL];refine Ok.bind (P:=λr=>r.2.2.1=Er.wrap 222 [goal] (Er.eB 3)/\r.2.2.2=n) (Ok.eq J (Ok.pos J (Ok.pure ⟨J,J⟩))) λr hr=>?_
  rw[hr.1];exact Ok.eq (agh goal) (Ok.pure (.inr ⟨z,J,hr.2⟩))
end
def Lp (w h:Int) (l:List aD) (j:Int):Prop:=
 (if j=0 then-1 else(rd l (j-1)).Id)<(rd l j).Id/\bV w h (rd l j).Cell/\bV w h (rd l j).Goal/\ ∀q,0<=q->q<j->(rd l q).Cell≠(rd l j).Cell
def fv (w h:Int) (l:List aD):Prop:=iE w h/\ ∀j:Int,0<=j->j<l.length->Lp w h l j
theorem afT {w h:Int} {l:List aD} (hb:l.length<=4611686018427387000): ∀(n k:Nat) (i:Int) (m:List (Int×Bool)),i+n=l.length->0<=i->n<k->
 (∀c,aQ m c=true↔ ∃q,0<=q/\q<i/\(rd l q).Cell=c)->
 ∃r,pF.l0 k w h l (if i=0 then-1 else(rd l (i-1)).Id) m i=some r/\(r=true↔ ∀j,i<=j->j<l.length->Lp w h l j):=by
 intro n
 induction n with
 |zero=>
  intro k i m hi h0 hk hm;obtain⟨k,rfl⟩:=bq hk;exact⟨true,by rw[pF.l0,ah U],⟨λ_ j j0 j1=>by omega,λ_=>rfl⟩⟩
 |succ n ih=>
  intro k i m hi h0 hk hm;obtain⟨k,rfl⟩:=bq hk;rw[pF.l0,af U,af U];simp only[tr,aK]
  by_cases g:Lp w h l i
  ·obtain⟨g1,g2,g3,g4⟩:=g;have Ci:aQ m (rd l i).Cell=false:=by
    rw[Bool.eq_false_iff];intro q;obtain⟨z,z0,z1,z2⟩:=(hm _).1 q;exact g4 z z0 z1 z2
   have s1: ¬aX w h (rd l i).Cell<0:=λq=>zF.1 q g2
   have s2: ¬aX w h (rd l i).Goal<0:=λq=>zF.1 q g3
   rw[ah U,ah s1,ah s2,Ci];simp only[aK,Bool.false_eq_true,if_false];rw[wi U U];obtain⟨r,r1,r2⟩:=ih k (i+1) (cE m (rd l i).Cell true) U U U (λc=>by
    rw[um]
    by_cases e:(rd l i).Cell=c
    ·rw[af e];exact⟨λ_=>⟨i,h0,by omega,e⟩,λ_=>rfl⟩
    ·rw[ah e,hm c];constructor
     ·rintro⟨q,q0,q1,q2⟩;exact⟨q,q0,by omega,q2⟩
     ·rintro⟨q,q0,q1,q2⟩
      by_cases z:q=i
      ·subst z;exact absurd q2 e
      ·exact⟨q,q0,by omega,q2⟩)
   rw[ah U,show i+1-1=i by omega] at r1
   refine⟨r,r1,r2.trans ⟨λq j j0 j1=>?_,λq j j0 j1=>q j U j1⟩⟩
   by_cases z:j=i
   ·subst z;exact⟨g1,g2,g3,g4⟩
   ·exact q j U j1
  ·have hf: ∀last,last=(if i=0 then-1 else(rd l (i-1)).Id)->((if(rd l i).Id<=last then(some true) else(if aX w h (rd l i).Cell<0 then(some true) else(if aX w h (rd l i).Goal<0 then(some true) else(some (aQ m (rd l i).Cell))))):Option Bool)=some true:=by
    intro last hla
    by_cases a:(rd l i).Id<=last
    ·rw[af a]
    ·rw[ah a]
     by_cases b:aX w h (rd l i).Cell<0
     ·rw[af b]
     ·rw[ah b]
      by_cases c:aX w h (rd l i).Goal<0
      ·rw[af c]
      ·rw[ah c]
       congr 1
       rw[hm];refine Classical.byContradiction λq=>g ⟨by rw[<-hla];omega,Classical.byContradiction λz=>b (zF.2 z),Classical.byContradiction λz=>c (zF.2 z),λz z0 z1 z2=>q ⟨z,z0,z1,z2⟩⟩
   rw[hf _ J];simp only[aK,if_true];exact⟨false,J,⟨λq=>(by cases q),λq=>absurd (q i U U) g⟩⟩
theorem OR {w h:Int} {l:List aD} (hb:l.length<=4611686018427387000): ∃r,pF.f w h l=some r/\(r=true↔fv w h l):=by
 unfold pF.f;rw[AW,aK]
 by_cases hm:iE w h
 ·rw[ah (by simpa using hm)]
  obtain⟨r,r1,r2⟩:=afT (w:=w) (h:=h) hb l.length fuel 0 [] U U (by rw[cO];omega) (λc=>by
   constructor
   ·intro q;simp[aQ,cI] at q
   ·rintro⟨q,q0,q1,_⟩;omega)
  rw[af J] at r1;exact⟨r,r1,r2.trans ⟨λq=>⟨hm,q⟩,λq=>q.2⟩⟩
 ·rw[af (by rw[decide_eq_false hm];rfl)]
  exact⟨false,J,⟨λq=>(by cases q),λq=>absurd q.1 hm⟩⟩
theorem fv.cell {w h:Int} {l:List aD} (hm:fv w h l) {j:Int} (j0:0<=j) (j1:j<l.length):bV w h (rd l j).Cell:=(hm.2 j j0 j1).2.1
theorem fv.apart {w h:Int} {l:List aD} (hm:fv w h l) {i j:Int} (i0:0<=i) (i1:i<l.length) (j0:0<=j) (j1:j<l.length) (rK:i≠j):(rd l i).Cell≠(rd l j).Cell:=by
 rcases Int.lt_or_gt_of_ne rK with q |q
 ·exact(hm.2 j j0 j1).2.2.2 i i0 q
 ·exact λe=>(hm.2 i i0 i1).2.2.2 j j0 q e.symm
theorem fv.ids {w h:Int} {l:List aD} (hm:fv w h l): ∀(n:Nat) (i j:Int),j=i+n->0<=i->0<n->j<l.length->(rd l i).Id<(rd l j).Id:=by
 intro n
 induction n with
 |zero=>intro i j _ _ h;omega
 |succ n ih=>
  intro i j hj i0 _ j1;have h1:=(hm.2 j U j1).1;rw[ah U] at h1
  by_cases hn:n=0
  ·have:j-1=i:=U;rw[this] at h1;exact h1
  ·have:=ih i (j-1) U i0 U U;omega
theorem fv.Cn {w h:Int} {l:List aD} (hm:fv w h l) {i j:Int} (i0:0<=i) (rK:i<j) (j1:j<l.length):(rd l i).Id<(rd l j).Id:=
 hm.ids (j-i).toNat i j U i0 U j1
def rF:List Int->List aD->List Int
 |acc,[]=>acc
 |acc,u::r=>rF (if u.Goal∈acc then acc else acc++[u.Goal]) r
def jF (l:List aD):List Int:=rF [] l
theorem R9: ∀(l:List aD) (acc:List Int),(rF acc l).length<=acc.length+l.length
 |[],acc=>by simp[rF]
 |u::r,acc=>by
  have:=R9 r (if u.Goal∈acc then acc else acc++[u.Goal])
  simp only[rF,List.length_cons];split at this<;>rename_i h
  ·rw[af h];omega
  ·rw[ah h];simp only[List.length_append,List.length_cons,List.length_nil] at this;omega
theorem R_: ∀(l:List aD) (acc:List Int) (g:Int),g∈rF acc l↔g∈acc∨ ∃u∈l,u.Goal=g
 |[],acc,g=>by simp[rF]
 |u::r,acc,g=>by
  simp only[rF];rw[R_ r _ g]
  by_cases h:u.Goal∈acc
  ·rw[af h];constructor
   ·rintro(q |⟨x,x1,x2⟩)
    ·exact .inl q
    ·exact .inr ⟨x,List.mem_cons_of_mem _ x1,x2⟩
   ·rintro(q |⟨x,x1,x2⟩)
    ·exact .inl q
    ·rcases List.mem_cons.1 x1 with rfl |x1
     ·exact .inl (x2▸h)
     ·exact .inr ⟨x,x1,x2⟩
  ·rw[ah h];constructor
   ·rintro(q |⟨x,x1,x2⟩)
    ·rcases List.mem_append.1 q with q |q
     ·exact .inl q
     ·exact .inr ⟨u,List.mem_cons_self ..,(List.mem_singleton.1 q).symm⟩
    ·exact .inr ⟨x,List.mem_cons_of_mem _ x1,x2⟩
   ·rintro(q |⟨x,x1,x2⟩)
    ·exact .inl (List.mem_append_left _ q)
    ·rcases List.mem_cons.1 x1 with rfl |x1
     ·exact .inl (List.mem_append_right _ (by simp[x2]))
     ·exact .inr ⟨x,x1,x2⟩
theorem Sa: ∀(l:List aD) (acc:List Int),acc.Nodup->(rF acc l).Nodup
 |[],acc,h=>h
 |u::r,acc,h=>by
  simp only[rF];refine Sa r _ ?_;split
  ·exact h
  ·rename_i q;rw[List.nodup_append];exact⟨h,by simp,λa ha b hb=>by simp at hb;subst hb;intro e;subst e;exact q ha⟩
theorem MN (l:List aD):(jF l).length<=l.length:=by
 have:=R9 l [];unfold jF;simpa using this
theorem MO (l:List aD):(jF l).Nodup:=Sa l [] List.nodup_nil
theorem Sc (l:List aD) (g:Int):g∈jF l↔ ∃u∈l,u.Goal=g:=by
 have:=R_ l [] g;unfold jF;simpa using this
theorem agT {l:List aD} (hb:l.length<=1000000): ∀(n k:Nat) (i:Int) (acc:List Int) (m:List (Int×Bool)),i+n=l.length->0<=i->n<k->(acc.length:Int)<=i->
 (∀c,aQ m c=true↔c∈acc)->lN.l0 k l acc m i=some (rF acc (l.drop i.toNat)):=by
 intro n
 induction n with
 |zero=>
  intro k i acc m hi h0 hk ha hm;obtain⟨k,rfl⟩:=bq hk;rw[lN.l0,ah U,List.drop_of_length_le U];rfl
 |succ n ih=>
  intro k i acc m hi h0 hk ha hm;obtain⟨k,rfl⟩:=bq hk;rw[lN.l0,af U,af U,BW h0 U];simp only[rF]
  by_cases h:(rd l i).Goal∈acc
  ·rw[ah (by rw[(hm _).2 h];decide),af h,wi U U]
   exact ih k (i+1) acc m U U U U hm
  ·have:aQ m (rd l i).Goal=false:=by rw[Bool.eq_false_iff];exact λq=>h ((hm _).1 q)
   rw[af (by rw[this];rfl),ah h,af U,wi U U]
   refine ih k (i+1) _ _ U U U bp (λc=>?_);rw[um]
   by_cases e:(rd l i).Goal=c
   ·rw[af e];simp[e]
   ·rw[ah e,hm c];simp[Ne.symm e]
theorem VN {l:List aD} (hb:l.length<=1000000):lN.f l=some (jF l):=by
 unfold lN.f;have:=agT hb l.length fuel 0 [] [] U U (by rw[cO];omega) bh (λc=>by simp[aQ,cI])
 unfold jF;simpa using this
def jB:List b_->Int->Int->Int->List b_
 |[],g,s,id=>[⟨g,s,[id]⟩]
 |p::r,g,s,id=>if p.eX=s then⟨p.Goal,p.eX,p.cU++[id]⟩::r else p::jB r g s id
def fD:List b_->Int->Nat
 |[],_=>0
 |p::r,s=>if p.eX=s then 0 else fD r s+1
def fY (w h g:Int):List aD->List b_->List b_
 |[],ps=>ps
 |u::r,ps=>fY w h g r (if u.Goal=g then jB ps g (aX w h u.Cell) u.Id else ps)
def fM (w h:Int) (l:List aD):List b_:=(jF l).flatMap λg=>fY w h g l []
theorem rd0 {α:Type} [Inhabited α] (x:α) (l:List α):rd (x::l) 0=x:=rfl
theorem OX {α:Type} [Inhabited α] (x:α) (l:List α) (n:Nat):rd (x::l) ((n+1:Nat):Int)=rd l (n:Int):=OY x l n
theorem OP: ∀(ps:List b_) (s:Int),fD ps s<=ps.length
 |[],_=>by simp[fD]
 |p::r,s=>by have:=OP r s;simp only[fD,List.length_cons];split<;>omega
theorem Qb: ∀(ps:List b_) (g s id:Int),fD ps s<ps.length->
 jB ps g s id=ps.set (fD ps s) ⟨(rd ps (fD ps s:Int)).Goal,(rd ps (fD ps s:Int)).eX,(rd ps (fD ps s:Int)).cU++[id]⟩
 |[],_,_,_,h=>by simp at h
 |p::r,g,s,id,h=>by
  simp only[jB,fD]
  by_cases e:p.eX=s
  ·rw[af e,af e];rfl
  ·simp only[fD,ah e,List.length_cons] at h;rw[ah e,ah e,Qb r g s id U,OX];rfl
theorem Qe: ∀(ps:List b_) (g s id:Int),fD ps s=ps.length->jB ps g s id=ps++[⟨g,s,[id]⟩]
 |[],_,_,_,_=>rfl
 |p::r,g,s,id,h=>by
  simp only[jB]
  by_cases e:p.eX=s
  ·simp only[fD,af e,List.length_cons] at h;omega
  ·simp only[fD,ah e,List.length_cons] at h;rw[ah e,Qe r g s id U];rfl
theorem Qd: ∀(ps:List b_) (g s id:Int),(jB ps g s id).length<=ps.length+1/\ps.length<=(jB ps g s id).length
 |[],_,_,_=>by simp[jB]
 |p::r,g,s,id=>by have:=Qd r g s id;simp only[jB];split<;>simp<;>omega
def lh:List b_->Nat
 |[]=>0
 |p::r=>p.cU.length+lh r
theorem agP (a b:List b_):lh (a++b)=lh a+lh b:=by
 induction a with
 |nil=>simp[lh]
 |cons p r ih=>simp[lh,ih];omega
theorem LJ: ∀(ps:List b_) (g s id:Int),lh (jB ps g s id)=lh ps+1
 |[],_,_,_=>by simp[jB,lh]
 |p::r,g,s,id=>by have:=LJ r g s id;simp only[jB];split<;>simp[lh]<;>omega
theorem VL: ∀(ps:List b_) (i:Int),0<=i->i<ps.length->(rd ps i).cU.length<=lh ps:=by
 intro ps
 induction ps with
 |nil=>intro i h0 h1;simp at h1;omega
 |cons p r ih=>
  intro i h0 h1;simp only[List.length_cons] at h1
  by_cases e:i=0
  ·subst e;rw[rd0];simp[lh]
  ·have:=ih (i-1) U U;have e2:i=(((i-1).toNat+1:Nat):Int):=U;rw[e2,OX,show(((i-1).toNat:Nat):Int)=i-1 by omega]
   simp only[lh];omega
theorem Se (w h g:Int): ∀(l m:List aD) (ps:List b_),fY w h g (l++m) ps=fY w h g m (fY w h g l ps)
 |[],m,ps=>rfl
 |u::r,m,ps=>by simp only[List.cons_append,fY];exact Se w h g r m _
theorem MR (w h g:Int): ∀(l:List aD) (ps:List b_),(fY w h g l ps).length<=ps.length+l.length/\lh (fY w h g l ps)<=lh ps+l.length
 |[],ps=>by simp[fY]
 |u::r,ps=>by
  have h1:=MR w h g r (if u.Goal=g then jB ps g (aX w h u.Cell) u.Id else ps)
  have h2:=Qd ps g (aX w h u.Cell) u.Id;have h3:=LJ ps g (aX w h u.Cell) u.Id;simp only[fY,List.length_cons]
  by_cases e:u.Goal=g
  ·rw[af e] at h1⊢;omega
  ·rw[ah e] at h1⊢;omega
structure PI (w h:Int) (l:List aD) (i:Int) (m:List (Int×List b_)) (at':List ((Int×Int)×Int)):Prop where
 of: ∀g,aQ m g=fY w h g (l.take i.toNat) []
 has: ∀g s,bO at' (g,s)=true↔fD (fY w h g (l.take i.toNat) []) s<(fY w h g (l.take i.toNat) []).length
 place: ∀g s,bO at' (g,s)=true->aQ at' (g,s)=(fD (fY w h g (l.take i.toNat) []) s:Int)
theorem VI: ∀(ps:List b_) (g s:Int) (ids:List Int) (t:Int),fD ps s=ps.length->fD (ps++[⟨g,s,ids⟩]) t=if t=s then ps.length else fD ps t+if fD ps t=ps.length then 1 else 0:=by
 intro ps
 induction ps with
 |nil=>intro g s ids t h;simp[fD];split<;>split<;>(try omega)<;>simp_all
 |cons p r ih=>
  intro g s ids t h
  by_cases e:p.eX=s
  ·simp only[fD,af e,List.length_cons] at h;omega
  ·simp only[fD,ah e,List.length_cons] at h;have hih:=ih g s ids t U;rw[List.cons_append,List.length_cons]
   by_cases y:p.eX=t
   ·have a1:fD (p::(r++[(⟨g,s,ids⟩:b_)])) t=0:=af y;have a2:fD (p::r) t=0:=af y;have z: ¬t=s:=λq=>e (y.trans q);rw[a1,a2,ah z,ah U]
   ·have a1:fD (p::(r++[(⟨g,s,ids⟩:b_)])) t=fD (r++[(⟨g,s,ids⟩:b_)]) t+1:=ah y;have a2:fD (p::r) t=fD r t+1:=ah y;rw[a1,a2,hih]
    by_cases z:t=s
    ·rw[af z,af z]
    ·rw[ah z,ah z]
     by_cases x:fD r t=r.length
     ·rw[af x,af U]
     ·rw[ah x,ah U]
theorem VJ: ∀(ps:List b_) (j:Nat) (q:b_) (t:Int),j<ps.length->q.eX=(rd ps (j:Int)).eX->fD (ps.set j q) t=fD ps t:=by
 intro ps
 induction ps with
 |nil=>intro j q t h;simp at h
 |cons p r ih=>
  intro j q t h hq
  cases j with
  |zero=>simp only[List.set_cons_zero,fD];rw[hq];rfl
  |succ j=>
   simp only[List.set_cons_succ,fD];rw[ih j q t (by simpa using h) (by rw[OX] at hq;exact hq)]
theorem af0 {m:List (Int×List b_)} {g:Int} (h:aQ m g≠[]):bO m g=true:=by
 unfold bO;unfold aQ at h
 cases e:cI m g with
 |none=>rw[e] at h;exact absurd J h
 |some _=>rfl
theorem Ve {m:List (Int×List b_)} {g:Int} (v:List b_) (h:bO m g=true) (g':Int):aQ (sS m g v) g'=if g=g' then v else aQ m g':=by
 unfold sS;rw[af h,um]
theorem ai8 {w h:Int} {l:List aD} {i:Int} (h0:0<=i) (h1:i<l.length) (g:Int):
 fY w h g (l.take (i+1).toNat) []=if(rd l i).Goal=g then jB (fY w h g (l.take i.toNat) []) g (aX w h (rd l i).Cell) (rd l i).Id else fY w h g (l.take i.toNat) []:=by
 rw[HZ h0 h1,Se];rfl
theorem pl1 {w h:Int} {l:List aD} (hb:l.length<=1000000) {m:List (Int×List b_)} (hm: ∀g,aQ m g=fY w h g l []): ∀(n k:Nat) (i:Int) (gone:List Int) (out:List b_),i+n=(jF l).length->0<=i->n<k->
 (∀g,g∈gone↔g∈(jF l).take i.toNat)->(out.length:Int)<=i*1000000->ir.l1 k (jF l) m gone out i=some (out++((jF l).drop i.toNat).flatMap λg=>fY w h g l []):=by
 have hg:=MN l;have pw:=MO l;intro n
 induction n with
 |zero=>
  intro k i gone out hi h0 hk ho hl;obtain⟨k,rfl⟩:=bq hk;rw[ir.l1,ah U,List.drop_of_length_le U];simp
 |succ n ih=>
  intro k i gone out hi h0 hk ho hl;obtain⟨k,rfl⟩:=bq hk;have hlen:=MR w h (rd (jF l) i) l [];simp only[List.length_nil,Nat.zero_add,show lh ([]:List b_)=0 from rfl] at hlen
  have hmul:i*1000000+1000000<=1000000000000:=U;rw[ir.l1,af U,af U,af,hm,af U,wi U U,BW h0 U]
  ·rw[ih k (i+1) _ _ U U U ?_ ?_]
   ·simp
   ·intro g;rw[HZ h0 U];simp only[List.mem_cons,List.mem_append,List.not_mem_nil,or_false,ho g];exact or_comm
   ·simp only[List.length_append];omega
  ·rw[ho];intro ck;obtain⟨j,j0,j1,j2⟩:=jT ck;simp only[List.length_take] at j1;have e1:rd ((jF l).take i.toNat) j=rd (jF l) j:=by
    unfold rd;rw[List.getD_eq_getElem?_getD,List.getD_eq_getElem?_getD,List.getElem?_take_of_lt U]
   rw[e1] at j2;have:=uv pw (i:=j) (j:=i) j0 U U;exact this j2
theorem pl0 {w h:Int} {l:List aD} (hb:l.length<=1000000): ∀(n k:Nat) (i:Int) (m:List (Int×List b_)) (at':List ((Int×Int)×Int)),i+n=l.length->0<=i->n<k->
 PI w h l i m at'->ir.l0 k w h l m at' i=some (fM w h l):=by
 intro n
 induction n with
 |zero=>
  intro k i m at' hi h0 hk hp;obtain⟨k,rfl⟩:=bq hk;rw[ir.l0,ah U,VN hb,aK];have hg:=MN l;have:=pl1 (w:=w) (h:=h) hb (m:=m) (λg=>by rw[hp.of g,List.take_of_length_le U]) (jF l).length fuel 0 [] [] U U (by rw[cO];omega) (λg=>by simp) bh
  simpa[fM] using this
 |succ n ih=>
  intro k i m at' hi h0 hk hp;obtain⟨k,rfl⟩:=bq hk;rw[ir.l0,af U,af U,tr,aK];have AK:=hp.of;have hlen:=λg=>MR w h g (l.take i.toNat) [];simp only[List.length_nil,Nat.zero_add,List.length_take] at hlen;generalize hg:(rd l i).Goal=g0 at*;generalize hs:aX w h (rd l i).Cell=s0 at*;have hL:=hlen g0;generalize kG:fY w h g0 (l.take i.toNat) []=ps at*;have hT: ∀g,fY w h g (l.take (i+1).toNat) []=if g0=g then jB ps g0 s0 (rd l i).Id else fY w h g (l.take i.toNat) []:=λg=>by
   rw[ai8 h0 U,hg,hs]
   by_cases e:g0=g
   ·subst e;rw[af rfl,af rfl,kG]
   ·rw[ah e,ah e]
  have ajY:lh ([]:List b_)=0:=rfl
  by_cases AE:bO at' (g0,s0)=true
  ·have ck:=(hp.has g0 s0).1 AE;have mz:=hp.place g0 s0 AE;rw[kG] at ck mz;rw[ah (by rw[AE];decide)]
   simp only[aK];rw[mz,AK g0,kG,af U];have Eb:=VL ps (fD ps s0) U U;rw[af U];simp only[aK];rw[wi U U];have NS:bO m g0=true:=af0 (by rw[AK g0,kG];intro e;rw[e] at ck;simp at ck)
   have ea:=Qb ps g0 s0 (rd l i).Id ck;rw[show((fD ps s0:Int)).toNat=fD ps s0 by omega]
   refine ih k (i+1) _ _ U U U ⟨λg=>?_,λg s=>?_,λg s hh=>?_⟩
   ·rw[Ve _ NS,hT]
    by_cases e:g0=g
    ·rw[af e,af e,ea]
    ·rw[ah e,ah e,AK]
   ·rw[hT]
    by_cases e:g0=g
    ·subst e;rw[af J,ea,VJ _ _ _ _ ck (by rfl),List.length_set,hp.has g0 s,kG]
    ·rw[ah e,hp.has]
   ·rw[hT]
    by_cases e:g0=g
    ·subst e;rw[af J,ea,VJ _ _ _ _ ck (by rfl),hp.place g0 s hh,kG]
    ·rw[ah e,hp.place _ _ hh]
  ·have NY:fD ps s0=ps.length:=by
    have h1:=OP ps s0;have h2: ¬fD ps s0<ps.length:=λq=>AE ((hp.has g0 s0).2 (by rw[kG];exact q))
    omega
   have AF:bO at' (g0,s0)=false:=by rw[Bool.eq_false_iff];exact AE
   rw[af (by rw[AF];rfl),AK g0,kG,af U]
   simp only[aK,um,if_true];have hr:rd (ps++[(⟨g0,s0,[]⟩:b_)]) (ps.length:Int)=⟨g0,s0,[]⟩:=by rw[OZ U U,af J]
   rw[hr,af bp,af bh];simp only[aK];rw[wi U U];have NS:bO (cE m g0 (ps++[(⟨g0,s0,[]⟩:b_)])) g0=true:=by rw[Ep];simp
   have ea:=Qe ps g0 s0 (rd l i).Id NY;have es:List.set (ps++[(⟨g0,s0,[]⟩:b_)]) (Int.toNat (ps.length:Int)) ⟨g0,s0,[]++[(rd l i).Id]⟩=ps++[⟨g0,s0,[(rd l i).Id]⟩]:=by
    rw[show((ps.length:Int)).toNat=ps.length by omega,List.set_append_right _ _ U];simp
   rw[es];refine ih k (i+1) _ _ U U U ⟨λg=>?_,λg s=>?_,λg s hh=>?_⟩
   ·rw[Ve _ NS,hT]
    by_cases e:g0=g
    ·rw[af e,af e,ea]
    ·rw[ah e,ah e,um,ah e,AK]
   ·rw[hT,Ep]
    by_cases e:g0=g
    ·subst e;rw[af J,ea,VI _ _ _ _ _ NY,List.length_append]
     by_cases z:s=s0
     ·subst z;simp
     ·have h1:=hp.has g0 s;have h2:=OP ps s;rw[kG] at h1;rw[ah z];simp only[Prod.mk.injEq,true_and,List.length_cons,List.length_nil,Bool.or_eq_true,decide_eq_true_eq,h1]
      by_cases y:fD ps s=ps.length
      ·rw[af y];omega
      ·rw[ah y];omega
    ·rw[ah e,<-hp.has];simp[e]
   ·rw[hT,um]
    by_cases e:g0=g
    ·subst e;rw[af J,ea,VI _ _ _ _ _ NY]
     by_cases z:s=s0
     ·subst z;simp
     ·have bI: ¬((g0,s0)=(g0,s)):=λq=>z (Prod.mk.inj q).2.symm;rw[ah bI,ah z];rw[Ep] at hh;simp only[bI,decide_false,Bool.false_or] at hh;have h1:=(hp.has g0 s).1 hh;rw[kG] at h1;rw[hp.place _ _ hh,kG,ah U];rfl
    ·have bI: ¬((g0,s0)=(g,s)):=λq=>e (Prod.mk.inj q).1;rw[ah e,ah bI];rw[Ep] at hh;simp only[bI,decide_false,Bool.false_or] at hh;exact hp.place _ _ hh
theorem OS {w h:Int} {l:List aD} (hb:l.length<=1000000) (hm:fv w h l):ir.f w h l=some (fM w h l):=by
 obtain⟨r,r1,r2⟩:=OR (w:=w) (h:=h) (l:=l) U;unfold ir.f;rw[r1,aK,ah (by rw[r2.2 hm];decide)]
 exact pl0 hb l.length fuel 0 [] [] U U (by rw[cO];omega) ⟨λg=>by simp[aQ,cI,fY];rfl,λg s=>by simp[bO,cI,fY,fD],λg s hh=>by simp[bO,cI] at hh⟩
theorem agX {w h:Int} {l:List aD} (hb:l.length<=1000000) (hm: ¬fv w h l):ir.f w h l=some []:=by
 obtain⟨r,r1,r2⟩:=OR (w:=w) (h:=h) (l:=l) U;have hr:r=false:=by rw[Bool.eq_false_iff];exact λq=>hm (r2.1 q)
 unfold ir.f;rw[r1,aK,hr];rfl
structure GI (w h g:Int) (l:List aD) (ps:List b_):Prop where
 goal: ∀p∈ps,p.Goal=g
 apart:ps.Pairwise λa b=>a.eX≠b.eX
 some_: ∀p∈ps,p.cU≠[]
 of: ∀p∈ps,∀id∈p.cU,∃u∈l,u.Id=id/\u.Goal=g/\aX w h u.Cell=p.eX
 up: ∀p∈ps,p.cU.Pairwise (· < ·)
theorem Fv: ∀(ps:List b_) (g s id:Int) (p:b_),p∈jB ps g s id->p∈ps∨p=⟨g,s,[id]⟩∨ ∃q∈ps,q.eX=s/\p=⟨q.Goal,q.eX,q.cU++[id]⟩
 |[],g,s,id,p,h=>by simp only[jB,List.mem_singleton] at h;exact .inr (.inl h)
 |q::r,g,s,id,p,h=>by
  simp only[jB] at h;split at h
  ·rename_i e;rcases List.mem_cons.1 h with h |h
   ·exact .inr (.inr ⟨q,List.mem_cons_self ..,e,h⟩)
   ·exact .inl (List.mem_cons_of_mem _ h)
  ·rcases List.mem_cons.1 h with h |h
   ·exact .inl (h▸List.mem_cons_self ..)
   ·rcases Fv r g s id p h with h |h |⟨z,h1,h2⟩
    ·exact .inl (List.mem_cons_of_mem _ h)
    ·exact .inr (.inl h)
    ·exact .inr (.inr ⟨z,List.mem_cons_of_mem _ h1,h2⟩)
theorem Qf: ∀(ps:List b_) (g s id:Int),(jB ps g s id).map (·.eX)=if s∈ps.map (·.eX) then ps.map (·.eX) else ps.map (·.eX)++[s]
 |[],g,s,id=>by simp[jB]
 |q::r,g,s,id=>by
  have:=Qf r g s id;simp only[jB]
  by_cases e:q.eX=s
  ·rw[af e];simp[e]
  ·rw[ah e];simp only[List.map_cons,this,List.mem_cons]
   by_cases z:s∈r.map (·.eX)
   ·rw[af z,af (.inr z)]
   ·rw[ah z,ah (by rintro(y |y);exact e y.symm;exact z y)];rfl
theorem GI.step {w h g:Int} {l:List aD} {ps:List b_} {u:aD} (hi:GI w h g l ps) (hu: ∀x∈l,x.Id<u.Id) (hg:u.Goal=g):GI w h g (l++[u]) (jB ps g (aX w h u.Cell) u.Id):=by
 refine⟨λp hp=>?_,?_,λp hp=>?_,λp hp id mw=>?_,λp hp=>?_⟩
 ·rcases Fv _ _ _ _ _ hp with q |q |⟨z,z1,z2,z3⟩
  ·exact hi.goal p q
  ·rw[q]
  ·rw[z3];exact hi.goal z z1
 ·have h1:(ps.map (·.eX)).Pairwise (· ≠ ·):=List.pairwise_map.2 hi.apart;have h2:((jB ps g (aX w h u.Cell) u.Id).map (·.eX)).Pairwise (· ≠ ·):=by
   rw[Qf];split
   ·exact h1
   ·rename_i z;rw[List.pairwise_append];exact⟨h1,by simp,λa ha b hb=>by simp at hb;subst hb;intro e;subst e;exact z ha⟩
  exact List.pairwise_map.1 h2
 ·rcases Fv _ _ _ _ _ hp with q |q |⟨z,z1,z2,z3⟩
  ·exact hi.some_ p q
  ·rw[q];simp
  ·rw[z3];simp
 ·rcases Fv _ _ _ _ _ hp with q |q |⟨z,z1,z2,z3⟩
  ·obtain⟨x,x1,x2⟩:=hi.of p q id mw;exact⟨x,List.mem_append_left _ x1,x2⟩
  ·subst q;simp only[List.mem_singleton] at mw;exact⟨u,by simp,mw.symm,hg,J⟩
  ·subst z3;rcases List.mem_append.1 mw with y |y
   ·obtain⟨x,x1,x2⟩:=hi.of z z1 id y;exact⟨x,List.mem_append_left _ x1,x2⟩
   ·simp only[List.mem_singleton] at y;exact⟨u,by simp,y.symm,hg,z2.symm⟩
 ·rcases Fv _ _ _ _ _ hp with q |q |⟨z,z1,z2,z3⟩
  ·exact hi.up p q
  ·rw[q];simp
  ·rw[z3];simp only;rw[List.pairwise_append];refine⟨hi.up z z1,by simp,λa ha b hb=>?_⟩
   simp at hb;subst hb;obtain⟨x,x1,x2,_⟩:=hi.of z z1 a ha;rw[<-x2];exact hu x x1
theorem GI.more {w h g:Int} {l:List aD} {ps:List b_} (hi:GI w h g l ps) (m:List aD):GI w h g (l++m) ps:=
 ⟨hi.goal,hi.apart,hi.some_,λp hp id mw=>by
   obtain⟨x,x1,x2⟩:=hi.of p hp id mw;exact⟨x,List.mem_append_left _ x1,x2⟩,hi.up⟩
theorem MP {w h g:Int}: ∀(m l:List aD) (ps:List b_),GI w h g l ps->((l++m).map (·.Id)).Pairwise (· < ·)->GI w h g (l++m) (fY w h g m ps)
 |[],l,ps,hi,_=>by simpa[fY] using hi
 |u::r,l,ps,hi,hp=>by
  have hu: ∀x∈l,x.Id<u.Id:=λx hx=>by
   rw[List.map_append,List.pairwise_append] at hp;exact hp.2.2 _ (List.mem_map_of_mem hx) _ bh
  have e:l++u::r=(l++[u])++r:=by simp
  rw[e] at hp⊢;simp only[fY]
  by_cases hg:u.Goal=g
  ·rw[af hg];exact MP r _ _ (hi.step hu hg) hp
  ·rw[ah hg];exact MP r _ _ (hi.more [u]) hp
theorem Sf {w h g:Int}: ∀(m:List aD) (ps:List b_),lh (fY w h g m ps)=lh ps+(m.filter λu=>decide (u.Goal=g)).length
 |[],ps=>by simp[fY]
 |u::r,ps=>by
  simp only[fY];rw[Sf r]
  by_cases hg:u.Goal=g
  ·rw[af hg,LJ,List.filter_cons_of_pos (by simpa using hg)];simp;omega
  ·rw[ah hg,List.filter_cons_of_neg (by simpa using hg)]
theorem fv.pair {w h:Int} {l:List aD} (hm:fv w h l):(l.map (·.Id)).Pairwise (· < ·):=by
 rw[List.pairwise_map];exact O0 (λi j i0 ij j1=>hm.Cn i0 ij j1)
theorem zn {w h:Int} {l:List aD} (hm:fv w h l) (g:Int):GI w h g l (fY w h g l []):=by
 have:=MP (w:=w) (h:=h) (g:=g) l [] [] ⟨by simp,by simp,by simp,by simp,by simp⟩ (by simpa using hm.pair)
 simpa using this
theorem VK {w h:Int} {l:List aD}: ∀G:List Int,lh (G.flatMap λg=>fY w h g l [])=(G.map λg=>(l.filter λu=>decide (u.Goal=g)).length).sum
 |[]=>rfl
 |g::G=>by
  simp only[List.flatMap_cons,List.map_cons,List.sum_cons];rw[agP,VK G,Sf];simp[lh]
theorem ai5 (G:List Int) (hn:G.Nodup): ∀l:List aD,(∀u∈l,u.Goal∈G)->(G.map λg=>(l.filter λu=>decide (u.Goal=g)).length).sum=l.length:=by
 have one: ∀(G:List Int) (a:Int),G.Nodup->(G.map λg=>if a=g then 1 else 0).sum=if a∈G then 1 else 0:=by
  intro G a
  induction G with
  |nil=>simp
  |cons g G ih=>
   intro hn;rw[List.nodup_cons] at hn;simp only[List.map_cons,List.sum_cons,ih hn.2,List.mem_cons]
   by_cases e:a=g
   ·subst e;simp[hn.1]
   ·simp[e]
 intro l
 induction l with
 |nil=>
  intro _;have z: ∀G:List Int,(G.map λg=>(([]:List aD).filter λu=>decide (u.Goal=g)).length).sum=0:=by
   intro G
   induction G with
   |nil=>rfl
   |cons g G ih=>simp only[List.map_cons,List.sum_cons,ih];rfl
  exact z G
 |cons u r ih=>
  intro hl;have h1:=ih (λx hx=>hl x (List.mem_cons_of_mem _ hx));have h2:=one G u.Goal hn;rw[af (hl u (List.mem_cons_self ..))] at h2;have key: ∀G:List Int,(G.map λg=>((u::r).filter λu=>decide (u.Goal=g)).length).sum=(G.map λg=>if u.Goal=g then 1 else 0).sum+(G.map λg=>(r.filter λu=>decide (u.Goal=g)).length).sum:=by
   intro G
   induction G with
   |nil=>rfl
   |cons g G ihG=>
    simp only[List.map_cons,List.sum_cons,ihG]
    by_cases e:u.Goal=g
    ·rw[List.filter_cons_of_pos (by simpa using e),af e];simp;omega
    ·rw[List.filter_cons_of_neg (by simpa using e),ah e];omega
  rw[key,h1,h2];simp;omega
theorem EA {w h:Int} {l:List aD}:lh (fM w h l)=l.length:=by
 unfold fM;rw[VK,ai5 _ (MO l) l (λu hu=>(Sc l _).2 ⟨u,hu,J⟩)]
theorem El: ∀ps:List b_,(∀p∈ps,p.cU≠[])->ps.length<=lh ps
 |[],_=>by simp
 |p::r,h=>by
  have h1:=El r (λq hq=>h q (List.mem_cons_of_mem _ hq));have h2:0<p.cU.length:=List.length_pos_iff.2 (h p (List.mem_cons_self ..));simp only[List.length_cons,lh];omega
structure XH (w h:Int) (l:List aD) (G:List Int) (ps:List b_):Prop where
 goal: ∀p∈ps,p.Goal∈G
 some_: ∀p∈ps,p.cU≠[]
 up: ∀p∈ps,p.cU.Pairwise (· < ·)
 of: ∀p∈ps,∀id∈p.cU,∃u∈l,u.Id=id/\u.Goal=p.Goal/\aX w h u.Cell=p.eX
 order:ps.Pairwise λa b=>G.idxOf a.Goal<=G.idxOf b.Goal/\ ¬(a.Goal=b.Goal/\a.eX=b.eX)
theorem Ez {w h:Int} {l:List aD} (hm:fv w h l):XH w h l (jF l) (fM w h l):=by
 have mem: ∀p∈fM w h l,∃g∈jF l,p∈fY w h g l []:=λp hp=>by
  unfold fM at hp;exact List.mem_flatMap.1 hp
 refine⟨λp hp=>?_,λp hp=>?_,λp hp=>?_,λp hp id mw=>?_,?_⟩
 ·obtain⟨g,h1,h2⟩:=mem p hp;rw[(zn hm g).goal p h2];exact h1
 ·obtain⟨g,h1,h2⟩:=mem p hp;exact(zn hm g).some_ p h2
 ·obtain⟨g,h1,h2⟩:=mem p hp;exact(zn hm g).up p h2
 ·obtain⟨g,h1,h2⟩:=mem p hp;obtain⟨u,u1,u2,u3,u4⟩:=(zn hm g).of p h2 id mw;exact⟨u,u1,u2,by rw[u3,(zn hm g).goal p h2],u4⟩
 ·unfold fM;rw[List.pairwise_flatMap];refine⟨λg _=>?_,?_⟩
  ·have hg:=zn (w:=w) (h:=h) hm g;refine(List.Pairwise.and_mem.1 hg.apart).imp ?_;rintro a b ⟨ha,hb,q⟩;rw[hg.goal a ha,hg.goal b hb];exact⟨Nat.le_refl _,λz=>q z.2⟩
  ·have hn:=MO l;rw[List.pairwise_iff_getElem];intro i j hi hj rK a ha b hb;rw[(zn hm _).goal a ha,(zn hm _).goal b hb];have e1:(jF l).idxOf (jF l)[i]=i:=hn.idxOf_getElem i hi;have e2:(jF l).idxOf (jF l)[j]=j:=hn.idxOf_getElem j hj;rw[e1,e2];refine⟨by omega,λz=>?_⟩
   have:=(List.pairwise_iff_getElem.1 hn) i j hi hj rK;exact this z.1
section
inductive lB (k:Int):List (Int×Int)->bQ->bQ->Prop
 |nil (n:bQ):lB k [] n n
 |snoc {ps:List (Int×Int)} {n n1:bQ} {b:Int} {ord:List Int} {c:dK} {goal s:Int} {r:fQ×Er×bQ} (h:lB k ps n n1) (hn:iv n1 k b ord) (hc:n1.core=some c) (hg:cF c.ay.m goal) (hs:bK c.ay.m.W c.ay.m.H s) (hf:Bz n1 k b ord c goal s r):lB k (ps++[(goal,s)]) n r.2.2
def wF (g:bA) (u:aD) (d:Int):Prop:=
 ∃R l f,ru g R/\R.goal=u.Goal/\(l.length<=1025/\ik.f g R (aX g.m.W g.m.H u.Cell)=some l)/\(∀y,y∈l↔yp g R (aX g.m.W g.m.H u.Cell) y)/\tL (fO g.m (aX g.m.W g.m.H u.Cell)) l KF f/\d=rd f.cx (dB g.m.W g.m.H u.Cell)
theorem Qc: ∀(ps:List b_) (g s id:Int) (p:b_),p∈ps-> ∃q∈jB ps g s id,q.eX=p.eX/\ ∀x∈p.cU,x∈q.cU
 |[],_,_,_,_,h=>by simp at h
 |a::r,g,s,id,p,h=>by
  simp only[jB];split
  ·rename_i e;rcases List.mem_cons.1 h with rfl |h
   ·exact⟨_,List.mem_cons_self ..,J,λx hx=>List.mem_append_left _ hx⟩
   ·exact⟨p,List.mem_cons_of_mem _ h,J,λx hx=>hx⟩
  ·rcases List.mem_cons.1 h with rfl |h
   ·exact⟨p,List.mem_cons_self ..,J,λx hx=>hx⟩
   ·obtain⟨q,q1,q2⟩:=Qc r g s id p h;exact⟨q,List.mem_cons_of_mem _ q1,q2⟩
theorem Qa: ∀(ps:List b_) (g s id:Int),∃q∈jB ps g s id,q.eX=s/\id∈q.cU
 |[],g,s,id=>⟨_,List.mem_cons_self ..,J,List.mem_cons_self ..⟩
 |a::r,g,s,id=>by
  simp only[jB];split
  ·rename_i e;exact⟨_,List.mem_cons_self ..,e,by simp⟩
  ·obtain⟨q,q1,q2⟩:=Qa r g s id;exact⟨q,List.mem_cons_of_mem _ q1,q2⟩
theorem MQ (w h g:Int): ∀(l:List aD) (ps:List b_) (p:b_),p∈ps-> ∃q∈fY w h g l ps,q.eX=p.eX/\ ∀x∈p.cU,x∈q.cU
 |[],_,p,h=>⟨p,h,J,λ_ z=>z⟩
 |u::r,ps,p,hp=>by
  simp only[fY];split
  ·obtain⟨q,q1,q2,q3⟩:=Qc ps g (aX w h u.Cell) u.Id p hp;obtain⟨q',a1,a2,a3⟩:=MQ w h g r _ q q1;exact⟨q',a1,a2.trans q2,λx hx=>a3 x (q3 x hx)⟩
  ·exact MQ w h g r ps p hp
theorem Sg (w h g:Int): ∀(l:List aD) (ps:List b_) (u:aD),u∈l->u.Goal=g-> ∃q∈fY w h g l ps,q.eX=aX w h u.Cell/\u.Id∈q.cU
 |[],_,_,h,_=>by simp at h
 |a::r,ps,u,hu,hg=>by
  simp only[fY];rcases List.mem_cons.1 hu with rfl |hu
  ·rw[af hg];obtain⟨q,q1,q2,q3⟩:=Qa ps g (aX w h u.Cell) u.Id;obtain⟨q',a1,a2,a3⟩:=MQ w h g r _ q q1;exact⟨q',a1,a2.trans q2,a3 _ q3⟩
  ·exact Sg w h g r _ u hu hg
theorem VO {w h:Int} {l:List aD} {u:aD} (hu:u∈l): ∃q∈fM w h l,u.Id∈q.cU:=by
 obtain⟨q,q1,_,q3⟩:=Sg w h u.Goal l [] u hu J;refine⟨q,?_,q3⟩;unfold fM;exact List.mem_flatMap.2 ⟨u.Goal,(Sc l _).2 ⟨u,hu,J⟩,q1⟩
theorem UD {w h:Int} {l:List aD} (hm:fv w h l) {u v:aD} (hu:u∈l) (hv:v∈l) (e:u.Id=v.Id):u=v:=by
 obtain⟨i,i0,i1,rfl⟩:=jT hu;obtain⟨j,j0,j1,rfl⟩:=jT hv;rcases Int.lt_trichotomy i j with q |q |q
 ·have:=hm.Cn i0 q j1;omega
 ·rw[q]
 ·have:=hm.Cn j0 q i1;omega
variable {S : bT} {k : Int} {L : List aD}
theorem aba (bg:bQ) (D:List (Int×Int)) (hL:L.length<=1000000): ∀(n m:Nat) (x:List Int) (i:Int),(L.length-i).toNat<=n->n<m->0<=i->i<=L.length->x=(L.take i.toNat).map (λu=>aQ D u.Id)->
 eN.l3 m S L bg D x i=some (L.map (λu=>aQ D u.Id),Er.nil,⟨S.most,bg,S.eZ⟩):=by
 have fin: ∀(m:Nat) (x:List Int) (i:Int),¬i<L.length->x=(L.take i.toNat).map (λu=>aQ D u.Id)->eN.l3 (m+1) S L bg D x i=some (L.map (λu=>aQ D u.Id),Er.nil,⟨S.most,bg,S.eZ⟩):=λm x i hi hx=>by
  rw[eN.l3,ah hi,hx,List.take_of_length_le U]
 intro n
 induction n with
 |zero=>
  intro m x i hn hm hi eD hx;obtain⟨m,rfl⟩:=bq hm;exact fin m x i U hx
 |succ n ih=>
  intro m x i hn hm hi eD hx;obtain⟨m,rfl⟩:=bq hm
  by_cases aR:i<L.length
  ·rw[eN.l3,af aR,af ⟨hi,aR⟩,af (by rw[hx];simp;omega),wi U U]
   refine ih m _ (i+1) U U U U ?_;rw[hx,HZ hi aR];simp
  ·exact fin m x i aR hx
theorem aa' (x4:List (Int×Int)) (ps:List b_) (i:Int) (dC:bQ) (F:List Int) (kG:(rd ps i).cU.length<=1000000) (ck: ∀id∈(rd ps i).cU,0<=aQ x4 id/\aQ x4 id<F.length) (D0:List (Int×Int)): ∀(n m:Nat) (D:List (Int×Int)) (j:Int),((rd ps i).cU.length-j).toNat<=n->n<m->0<=j->j<=(rd ps i).cU.length->
 (∀id,(∃q:Int,0<=q/\q<j/\rd (rd ps i).cU q=id)->aQ D id=rd F (aQ x4 id))->(∀id,id∉(rd ps i).cU->aQ D id=aQ D0 id)->
 Ok (eN.l2 m x4 i ps dC F D j) (λr=> ∃D',r=Sum.inr (dC,D')/\(∀id∈(rd ps i).cU,aQ D' id=rd F (aQ x4 id))/\ ∀id,id∉(rd ps i).cU->aQ D' id=aQ D0 id):=by
 have fin: ∀(m:Nat) (D:List (Int×Int)) (j:Int),¬j<(rd ps i).cU.length->(∀id,(∃q:Int,0<=q/\q<j/\rd (rd ps i).cU q=id)->aQ D id=rd F (aQ x4 id))->(∀id,id∉(rd ps i).cU->aQ D id=aQ D0 id)->
  Ok (eN.l2 (m+1) x4 i ps dC F D j) (λr=> ∃D',r=Sum.inr (dC,D')/\(∀id∈(rd ps i).cU,aQ D' id=rd F (aQ x4 id))/\ ∀id,id∉(rd ps i).cU->aQ D' id=aQ D0 id):=λm D j hj ha hb=>by
  rw[eN.l2,ah hj];refine Ok.pure ⟨D,J,λid mw=>?_,hb⟩
  obtain⟨q,q0,q1,e⟩:=jT mw;exact ha id ⟨q,q0,by omega,e⟩
 intro n
 induction n with
 |zero=>
  intro m D j hn hm hj iL ha hb;obtain⟨m,rfl⟩:=bq hm;exact fin m D j U ha hb
 |succ n ih=>
  intro m D j hn hm hj iL ha hb;obtain⟨m,rfl⟩:=bq hm
  by_cases aR:j<(rd ps i).cU.length
  ·have jk:=dZ hj aR;rw[eN.l2,wi U U];refine Ok.pos aR (Ok.ct ⟨hj,aR⟩ (Ok.ct (ck _ jk) (ih m _ (j+1) U U U U (λid ⟨q,q0,q1,e⟩=>?_) (λid mw=>?_))))
   ·rw[um];split
    ·rename_i z;rw[z]
    ·rename_i z;refine ha id ⟨q,q0,?_,e⟩;have:q≠j:=λy=>z (by rw[<-e,y])
     omega
   ·rw[um,ah (λz=>mw (by rw[<-z];exact jk))];exact hb id mw
  ·exact fin m D j aR ha hb
abbrev sN (p:b_):Int×Int:=(p.Goal,p.eX)
theorem aa_ {g:bA} (hm:fv g.m.W g.m.H L) (hL:L.length<=1000) (hGs: ∃more,dn g more) (Gl: ∀u∈L,cF g.m u.Goal) (x4:List (Int×Int)) (J3: ∀u∈L,aQ x4 u.Id=dB g.m.W g.m.H u.Cell) (n0:bQ): ∀(n m:Nat) (nv:bQ) (D:List (Int×Int)) (i:Int) (b:Int) (ord:List Int),((fM g.m.W g.m.H L).length-i).toNat<=n->n<m->0<=i->i<=(fM g.m.W g.m.H L).length->
 iv nv k b ord->0<=b->b+5000*((fM g.m.W g.m.H L).length-i)<=90000000000->(∃c,nv.core=some c/\c.ay=g)->lB k (((fM g.m.W g.m.H L).map sN).take i.toNat) n0 nv->
 (∀u∈L,(∃j:Int,0<=j/\j<i/\u.Id∈(rd (fM g.m.W g.m.H L) j).cU)->wF g u (aQ D u.Id))->
 Ok (eN.l1 m S L x4 (fM g.m.W g.m.H L) nv D i) (λr=>r.2.1=Er.nil/\ ∃pC mc,r.2.2=⟨S.most,pC,S.eZ⟩/\iv pC k (b+5000*((fM g.m.W g.m.H L).length-i)) mc/\(∃c,pC.core=some c/\c.ay=g)/\lB k ((fM g.m.W g.m.H L).map sN) n0 pC/\r.1.length=L.length/\ ∀j:Int,0<=j->j<L.length->wF g (rd L j) (rd r.1 j)):=by
 have JM:=Ez hm;have mz:(fM g.m.W g.m.H L).length<=L.length:=by
  have:=El _ JM.some_;rw[EA] at this;exact this
 generalize kG:fM g.m.W g.m.H L=ps at*;have fin: ∀(m:Nat) (nv:bQ) (D:List (Int×Int)) (i b:Int) (ord:List Int),¬i<ps.length->i<=ps.length->iv nv k b ord->(∃c,nv.core=some c/\c.ay=g)->lB k ((ps.map sN).take i.toNat) n0 nv->
  (∀u∈L,(∃j:Int,0<=j/\j<i/\u.Id∈(rd ps j).cU)->wF g u (aQ D u.Id))->
  Ok (eN.l1 (m+1) S L x4 ps nv D i) (λr=>r.2.1=Er.nil/\ ∃pC mc,r.2.2=⟨S.most,pC,S.eZ⟩/\iv pC k (b+5000*(ps.length-i)) mc/\(∃c,pC.core=some c/\c.ay=g)/\lB k (ps.map sN) n0 pC/\r.1.length=L.length/\ ∀j:Int,0<=j->j<L.length->wF g (rd L j) (rd r.1 j)):=by
  intro m nv D i b ord hi eD hn hc hF ha;rw[eN.l1,ah hi,aba nv D U L.length fuel [] 0 U (by rw[cO];omega) U U bh]
  refine Ok.pure ⟨J,nv,ord,J,by rw[show b+5000*((ps.length:Int)-i)=b by omega];exact hn,hc,?_,by simp,λj j0 j1=>?_⟩
  ·rw[List.take_of_length_le bp] at hF;exact hF
  ·simp only;rw[zs j0 j1];have hu:=dZ j0 j1;obtain⟨q,q1,q2⟩:=VO (w:=g.m.W) (h:=g.m.H) hu;rw[kG] at q1;obtain⟨x,x0,x1,e⟩:=jT q1;exact ha _ hu ⟨x,x0,by omega,by rw[e];exact q2⟩
 intro n
 induction n with
 |zero=>
  intro m nv D i b ord hn xf hi eD hN hb Ge hc hF ha;obtain⟨m,rfl⟩:=bq xf;exact fin m nv D i b ord U eD hN hc hF ha
 |succ n ih=>
  intro m nv D i b ord hn xf hi eD hN hb Ge hc hF ha;obtain⟨m,rfl⟩:=bq xf
  by_cases aR:i<ps.length
  ·have hp:=dZ hi aR;obtain⟨id0,aet⟩:=List.exists_mem_of_ne_nil _ (JM.some_ _ hp);obtain⟨u0,a1,a2,a3,a4⟩:=JM.of _ hp id0 aet;obtain⟨c,c1,c2⟩:=hc;subst c2;have hg:cF c.ay.m (rd ps i).Goal:=by rw[<-a3];exact Gl u0 a1
   have dW: ∀u∈L,bV c.ay.m.W c.ay.m.H u.Cell:=λu hu=>by
    obtain⟨j,j0,j1,rfl⟩:=jT hu;exact hm.cell j0 j1
   have hs:bK c.ay.m.W c.ay.m.H (rd ps i).eX:=by rw[<-a4];exact tu (dW u0 a1)
   rw[eN.l1,wi (x:=i+1) U U];refine Ok.pos aR ?_;rw[af (show 0<=i/\i<(ps.length:Int) from⟨hi,aR⟩)]
   obtain⟨r,er,hr⟩:=Vj hN ⟨hb,by omega⟩ c1 hg hs
   obtain⟨f,e,n'⟩:=r;have he:=hr.err;simp only at he;subst he;obtain⟨R,l,c',mc,f1,f2,f3,f4,f5,f6,f7,f8,f9,f10,f11,f12,f13,f14,f15,f16,f17,f18⟩:=hr.tV;simp only at f6 f7 f16;have ef:uo.f nv (rd ps i).Goal (rd ps i).eX=some (f,0,n'):=by
    unfold uo.f;rw[er,aK];simp only[Vi,aK]
   have AK:=JM.of _ hp;obtain⟨more,hG⟩:=hGs;have Cg: ∀u∈L,aX c.ay.m.W c.ay.m.H u.Cell=(rd ps i).eX->0<=dB c.ay.m.W c.ay.m.H u.Cell/\dB c.ay.m.W c.ay.m.H u.Cell<f.cx.length:=λu hu e=>by
    have lJ:=dW u hu;have:=C8 hG (c:=u.Cell) lJ.2;rw[e] at this;rw[f6.dl];exact⟨this.1,this.2.1⟩
   have Eb:(rd ps i).cU.length<=1000000:=by
    have h1:=VL ps i hi aR;rw[<-kG,EA,kG] at h1;omega
   have qF:=aa' x4 ps i n' f.cx Eb (λid mw=>by
    obtain⟨u,u1,u2,u3,u4⟩:=AK id mw;rw[<-u2,J3 u u1];exact Cg u u1 u4) D (rd ps i).cU.length fuel D 0 U (by rw[cO];omega) U U (λid ⟨q,q0,q1,_⟩=>by omega) (λid _=>rfl)
   refine Ok.bind (P:=λz=> ∃D',z=Sum.inr (n',D')/\(∀id∈(rd ps i).cU,aQ D' id=rd f.cx (aQ x4 id))/\ ∀id,id∉(rd ps i).cU->aQ D' id=aQ D id) ?_ λz hz=>?_
   ·refine Ok.bind (P:=λp=>p=(n',f.eW,f.cx,(0:Int))) (Ok.eq ef (Ok.pure J)) λp hp=>?_
    subst hp;exact Ok.neg bh qF
   obtain⟨D',Gt,Ef,JX⟩:=hz;subst Gt;refine(ih m n' D' (i+1) (b+5000) mc U U U U f16 U U ⟨c',f7,f8⟩ ?_ (λu hu ⟨j,j0,j1,hj⟩=>?_)).mono λr vA=>?_
   ·rw[HZ hi (by simpa using aR),zs hi aR]
    exact lB.snoc (r:=(f,Er.nil,n')) hF hN c1 hg hs hr
   ·by_cases z:u.Id∈(rd ps i).cU
    ·obtain⟨v,v1,v2,v3,v4⟩:=AK _ z;have:=UD hm v1 hu v2;subst this;rw[Ef _ z,J3 _ hu];exact⟨R,l,f,f1,by rw[f2,v3],⟨f3,by rw[v4];exact f18.2⟩,by rw[v4];exact f4,by rw[v4];exact f6,J⟩
    ·rw[JX _ z];refine ha u hu ⟨j,j0,?_,hj⟩;have:j≠i:=λy=>z (by rw[<-y];exact hj)
     omega
   ·obtain⟨h1,pC,o',h2,h3,h4⟩:=vA;exact⟨h1,pC,o',h2,by rw[show b+5000*((ps.length:Int)-i)=b+5000+5000*(ps.length-(i+1)) by omega];exact h3,h4⟩
  ·exact fin m nv D i b ord aR eD hN hc hF ha
theorem aa9 {g:bA} (hm:fv g.m.W g.m.H L) (hL:L.length<=1000) (Q:List Int×Er×bT->Prop) (D9: ∀x4:List (Int×Int),(∀u∈L,aQ x4 u.Id=dB g.m.W g.m.H u.Cell)->Ok (eN.l1 fuel S L x4 (fM g.m.W g.m.H L) S.nav ([]:List (Int×Int)) 0) Q): ∀(n m:Nat) (x4:List (Int×Int)) (i:Int),(L.length-i).toNat<=n->n<m->0<=i->i<=L.length->(∀u∈L,(∃j:Int,0<=j/\j<i/\rd L j=u)->aQ x4 u.Id=dB g.m.W g.m.H u.Cell)->
 Ok (eN.l0 m S L (g.m.W,g.m.H) x4 i) Q:=by
 have fin: ∀(m:Nat) (x4:List (Int×Int)) (i:Int),¬i<L.length->(∀u∈L,(∃j:Int,0<=j/\j<i/\rd L j=u)->aQ x4 u.Id=dB g.m.W g.m.H u.Cell)->Ok (eN.l0 (m+1) S L (g.m.W,g.m.H) x4 i) Q:=λm x4 i hi ha=>by
  rw[eN.l0,ah hi];refine Ok.eq (OS U hm) (D9 x4 λu hu=>?_);obtain⟨j,j0,j1,e⟩:=jT hu;exact ha u hu ⟨j,j0,by omega,e⟩
 intro n
 induction n with
 |zero=>
  intro m x4 i hn xf hi eD ha;obtain⟨m,rfl⟩:=bq xf;exact fin m x4 i U ha
 |succ n ih=>
  intro m x4 i hn xf hi eD ha;obtain⟨m,rfl⟩:=bq xf
  by_cases aR:i<L.length
  ·rw[eN.l0,wi U U];refine Ok.pos aR (Ok.ct ⟨hi,aR⟩ (Ok.eq (GV ..) (ih m _ (i+1) U U U U λu hu ⟨j,j0,j1,e⟩=>?_)));rw[um];split
   ·rename_i z;rw[UD hm (dZ hi aR) hu z]
   ·rename_i z;refine ha u hu ⟨j,j0,?_,e⟩;have:j≠i:=λy=>z (by rw[<-e,y])
    omega
  ·exact fin m x4 i aR ha
theorem aa8 {c:dK} {b:Int} {ord:List Int} (hn:iv S.nav k b ord) (hb:0<=b/\b<=80000000000) (hc:S.nav.core=some c) (hm:fv c.ay.m.W c.ay.m.H L) (hL:L.length<=1000) (Gl: ∀u∈L,cF c.ay.m u.Goal):
 Ok (eN.f S L) (λr=>r.2.1=Er.nil/\ ∃pC mc,r.2.2=⟨S.most,pC,S.eZ⟩/\iv pC k (b+5000*(fM c.ay.m.W c.ay.m.H L).length) mc/\(∃c',pC.core=some c'/\c'.ay=c.ay)/\lB k ((fM c.ay.m.W c.ay.m.H L).map sN) S.nav pC/\r.1.length=L.length/\ ∀j:Int,0<=j->j<L.length->wF c.ay (rd L j) (rd r.1 j)):=by
 have mz:(fM c.ay.m.W c.ay.m.H L).length<=L.length:=by
  have:=El _ (Ez hm).some_;rw[EA] at this;exact this
 unfold eN.f;refine Ok.eq (Vn hc) (aa9 hm hL _ (λx4 J3=>?_) L.length fuel [] 0 U (by rw[cO];omega) U U (λu _ ⟨j,j0,j1,_⟩=>by omega))
 refine(aa_ hm hL ⟨0,(hn.core c hc).1.gs⟩ Gl x4 J3 S.nav 1000 fuel S.nav [] 0 b ord U (by rw[cO];omega) U U hn hb.1 U ⟨c,hc,J⟩ (lB.nil _) (λu _ ⟨j,j0,j1,_⟩=>by omega)).mono λr hr=>?_
 rw[Int.sub_zero] at hr;exact hr
end
section
theorem ZX (l:List ba) (c side:Int) (hb:l.length<=1000000): ∀(n k:Nat) (x:Int) (b:Bool) (i:Int),(l.length-i).toNat<=n->n<k->0<=i->
 Ok (kN.l0 k l c side x b i) (λr=>((r=x/\(b=true∨ ∀j:Int,i<=j->j<l.length-> ¬((rd l j).Cell=c/\(rd l j).cL=side)))∨ ∃y∈l,y.Cell=c/\y.cL=side/\y.Key=r)/\(∀j:Int,i<=j->j<l.length->(rd l j).Cell=c->(rd l j).cL=side->r<=(rd l j).Key)/\(b=true->r<=x)):=by
 have fin: ∀(k:Nat) (x:Int) (b:Bool) (i:Int),¬i<l.length->Ok (kN.l0 (k+1) l c side x b i) (λr=>((r=x/\(b=true∨ ∀j:Int,i<=j->j<l.length-> ¬((rd l j).Cell=c/\(rd l j).cL=side)))∨ ∃y∈l,y.Cell=c/\y.cL=side/\y.Key=r)/\(∀j:Int,i<=j->j<l.length->(rd l j).Cell=c->(rd l j).cL=side->r<=(rd l j).Key)/\(b=true->r<=x)):=λk x b i hi=>by
  rw[kN.l0,ah hi];exact Ok.pure ⟨.inl ⟨J,.inr λj j0 j1=>by omega⟩,λj j0 j1=>by omega,λ_=>Int.le_refl _⟩
 intro n
 induction n with
 |zero=>
  intro k x b i hn hk hi;obtain⟨k,rfl⟩:=bq hk;exact fin k x b i U
 |succ n ih=>
  intro k x b i hn hk hi;obtain⟨k,rfl⟩:=bq hk
  by_cases aR:i<l.length
  ·rw[kN.l0,wi U U];have hq:(if((rd l i).Cell==c)=true then(if((rd l i).cL==side)=true then(if(!b)=true then(some true) else(some (decide ((rd l i).Key<x)))) else(some false)) else(some false))=some (decide (((rd l i).Cell=c/\(rd l i).cL=side)/\(b=false∨(rd l i).Key<x))):=by
    by_cases a1:(rd l i).Cell=c
    ·by_cases a2:(rd l i).cL=side
     ·cases b<;>simp[a1,a2]
     ·simp[a1,a2]
    ·simp[a1]
   refine Ok.pos aR (Ok.ct ⟨hi,aR⟩ (Ok.eq hq (Ok.ite (λq=>?_) λq=>?_)))
   ·obtain⟨⟨q1,q2⟩,q3⟩:=of_decide_eq_true q;refine(ih k (rd l i).Key true (i+1) U U U).mono λr hr=>⟨?_,λj j0 j1 e1 e2=>?_,λjH=>?_⟩
    ·rcases hr.1 with⟨z,_⟩ |z
     ·exact .inr ⟨_,dZ hi aR,q1,q2,z.symm⟩
     ·exact .inr z
    ·by_cases z:j=i
     ·rw[z];exact hr.2.2 J
     ·exact hr.2.1 j U j1 e1 e2
    ·have:=hr.2.2 J;rcases q3 with q3 |q3
     ·rw[q3] at jH;simp at jH
     ·omega
   ·have q: ¬(((rd l i).Cell=c/\(rd l i).cL=side)/\(b=false∨(rd l i).Key<x)):=by simpa using q
    refine(ih k x b (i+1) U U U).mono λr hr=>⟨?_,λj j0 j1 e1 e2=>?_,hr.2.2⟩
    ·rcases hr.1 with⟨z,w⟩ |z
     ·refine .inl ⟨z,?_⟩
      by_cases jH:b=true
      ·exact .inl jH
      ·refine .inr λj j0 j1 e=>?_
       by_cases y:j=i
       ·subst y;exact q ⟨e,.inl (by simpa using jH)⟩
       ·exact(w.resolve_left jH) j U j1 e
     ·exact .inr z
    ·by_cases z:j=i
     ·subst z
      by_cases jH:b=true
      ·have:=hr.2.2 jH;have: ¬(rd l j).Key<x:=λy=>q ⟨⟨e1,e2⟩,.inr y⟩
       omega
      ·exact absurd ⟨⟨e1,e2⟩,.inl (by simpa using jH)⟩ q
     ·exact hr.2.1 j U j1 e1 e2
  ·exact fin k x b i aR
theorem ZY {l:List ba} (hb:l.length<=1000000) (c side:Int):((uY l c side=cK/\ ∀y∈l,¬(y.Cell=c/\y.cL=side))∨ ∃y∈l,y.Cell=c/\y.cL=side/\y.Key=uY l c side)/\ ∀y∈l,y.Cell=c->y.cL=side->uY l c side<=y.Key:=by
 obtain⟨r,e,h1,h2,_⟩:=ZX l c side hb l.length fuel 1099511627776 false 0 U (by rw[cO];omega) U
 have hv:uY l c side=r:=by unfold uY kN.f;rw[e];rfl
 rw[hv];refine⟨?_,λy hy e1 e2=>?_⟩
 ·rcases h1 with⟨a,b⟩ |a
  ·refine .inl ⟨a,λy hy z=>?_⟩
   obtain⟨j,j0,j1,rfl⟩:=jT hy;exact(b.resolve_left bh) j j0 j1 z
  ·exact .inr a
 ·obtain⟨j,j0,j1,rfl⟩:=jT hy;exact h2 j j0 j1 e1 e2
theorem agj {w h s l d:Int} (hs:bK w h s) (l0:0<=l) (l1:l<(ax w h s).1*(ax w h s).2) (d0:0<=d) (d3:d<=3) {t:aM} (hW:t.W=(ax w h s).1) (hH:t.H=(ax w h s).2) (hn:0<=eQ t l d):
 eQ t l d<(ax w h s).1*(ax w h s).2/\cC w h (db w h s l) d=db w h s (eQ t l d):=by
 obtain⟨z1,z2,z3,z4⟩:=qn hs;obtain⟨hc,e1,e2⟩:=MM hs l0 l1;obtain⟨p1,p2,p3,p4,p5,p6⟩:=w6 hs l0 l1;have Gi:=Int.mul_ediv_add_emod l (ax w h s).1;have hm:=hc.1;have key: ∀x y:Int,0<=x->x<(ax w h s).1->0<=y->y<(ax w h s).2->x=l%(ax w h s).1+dX d->y=l/(ax w h s).1+dY d->y*(ax w h s).1+x<(ax w h s).1*(ax w h s).2/\cC w h (db w h s l) d=db w h s (y*(ax w h s).1+x):=by
  intro x y x0 x1 y0 y1 ex ey;have ck:=sB (w:=(ax w h s).1) (h:=(ax w h s).2) x0 x1 y0 y1;have yT:=qM (a:=(ax w h s).1) (x:=x) (y:=y) x0 x1;refine⟨ck.2,?_⟩;obtain⟨q1,q2,q3,q4,q5,q6⟩:=w6 hs ck.1 ck.2;rw[yT.1] at q5;rw[yT.2] at q6;have gV:cC w h (db w h s l) d=pI w h (db w h s l%w+dX d) (db w h s l/w+dY d):=by unfold cC;rw[af ⟨hc,d0,by omega⟩]
  rw[gV,e1,e2];have hsp:=uz hs;unfold pI db;rw[af (c:=bK w h s/\_) ⟨hs,ck⟩,yT.1,yT.2,af ⟨hm,by omega,by omega,by omega,by omega⟩,ex,ey,Int.add_assoc,Int.add_assoc]
 have hd:d=0∨d=1∨d=2∨d=3:=U;rw[Int.mul_comm] at Gi;unfold eQ at hn⊢;simp only[hW,hH] at hn⊢;rcases hd with rfl |rfl |rfl |rfl
 ·simp only[if_true] at hn⊢;split at hn
  ·rename_i z;rw[af z];have:=key (l%(ax w h s).1) (l/(ax w h s).1-1) p1 p2 U U (by simp[dX]) (by simp[dY];omega)
   rw[Int.sub_mul,Int.one_mul] at this;rw[show l-(ax w h s).1=l/(ax w h s).1*(ax w h s).1-(ax w h s).1+l%(ax w h s).1 by omega]
   exact this
  ·omega
 ·simp only[show ¬(1:Int)=0 by omega,if_true,if_false] at hn⊢
  split at hn
  ·rename_i z;rw[af z];have:=key (l%(ax w h s).1+1) (l/(ax w h s).1) U U p3 p4 (by simp[dX]) (by simp[dY])
   rw[show l+1=l/(ax w h s).1*(ax w h s).1+(l%(ax w h s).1+1) by omega]
   exact this
  ·omega
 ·simp only[show ¬(2:Int)=0 by omega,show ¬(2:Int)=1 by omega,if_true,if_false] at hn⊢
  split at hn
  ·rename_i z;rw[af z];have:=key (l%(ax w h s).1) (l/(ax w h s).1+1) p1 p2 U U (by simp[dX]) (by simp[dY])
   rw[Int.add_mul,Int.one_mul] at this;rw[show l+(ax w h s).1=l/(ax w h s).1*(ax w h s).1+(ax w h s).1+l%(ax w h s).1 by omega]
   exact this
  ·omega
 ·simp only[show ¬(3:Int)=0 by omega,show ¬(3:Int)=1 by omega,show ¬(3:Int)=2 by omega,if_false] at hn⊢
  split at hn
  ·rename_i z;rw[af z];have:=key (l%(ax w h s).1-1) (l/(ax w h s).1) U U p3 p4 (by simp[dX];omega) (by simp[dY])
   rw[show l-1=l/(ax w h s).1*(ax w h s).1+(l%(ax w h s).1-1) by omega]
   exact this
  ·omega
variable {g : bA} {more : Int} {R : gZ}
theorem aa5 (h:dn g more) {l:List ba} (hl:l.length<=1025) {c d:Int} (hc:cF g.m c) (hm: ∀y,y∈l↔yp g R (aX g.m.W g.m.H c) y) {K:Int} {f:fQ} (hf:tL (fO g.m (aX g.m.W g.m.H c)) l K f) (hd:d=rd f.cx (dB g.m.W g.m.H c)) (d0:0<=d) (d3:d<=3):A1 g (cC g.m.W g.m.H c d):=by
 have dW:=nL h.ok hc;have hs:=tu dW;have ma:=C8 h hc;have ck:=Em dW;have mv:=DT dW;have hb:l.length<=1000000:=U;have hI:cK=1099511627776:=rfl;rw[hf.dir _ ma.1 ma.2.1] at hd;have J0:d=HM (fO g.m (aX g.m.W g.m.H c)) l f.eW (dB g.m.W g.m.H c)/\rd f.eW (dB g.m.W g.m.H c)≠cK:=by
  unfold yD at hd;split at hd
  ·omega
  ·rename_i z;split at hd
   ·omega
   ·exact⟨hd,z⟩
 obtain⟨fp,bI⟩:=J0;have iK:Ae (fO g.m (aX g.m.W g.m.H c)) l f.eW (dB g.m.W g.m.H c) d=true:=by
  unfold HM at fp
  repeat' split at fp
  all_goals first
   |(subst fp;assumption)
   |omega
 unfold Ae at iK
 by_cases z:eQ (fO g.m (aX g.m.W g.m.H c)) (dB g.m.W g.m.H c) d<0
 ·rw[af z] at iK;have iK:uY l (dB g.m.W g.m.H c) d=rd f.eW (dB g.m.W g.m.H c):=by simpa using iK
  rcases(ZY hb (dB g.m.W g.m.H c) d).1 with⟨q,_⟩ |⟨y,hy,y1,y2,y3⟩
  ·rw[q] at iK;exact absurd iK.symm bI
  ·rcases(hm y).1 hy with⟨c',ie,e,he,ha,rfl⟩ |⟨_,_,rfl⟩
   ·obtain⟨n1,n2,n3,n4⟩:=uq ie;obtain⟨d',d0',d3',d4',rfl⟩:=Mm he;simp only at y1 y2;have aef:c'=c:=by
     have h1:=DT (nL h.ok n2);rw[n4,y1,mv] at h1;exact h1.symm
    subst aef;have aT:=(Bh.1 d4');have vz:=VB (w:=g.m.W) (h:=g.m.H) (c:=c') (side:=d') aT.1.1;have Ck:C7 g.m.W g.m.H c' (gf g.m.W g.m.H c' d')=d':=by
     rw[vz.2.2.2.2.1];exact WZ dW d0' U (by rw[<-vz.2.2.2.2.1];exact vz.2.2.2.1)
    rw[Ck] at y2;subst y2;rw[<-vz.2.2.2.2.1];refine⟨aT.1,?_⟩;unfold fK;rw[af aT.1];exact aT.2
   ·simp only at y2;omega
 ·rw[ah z] at iK;have iK:=of_decide_eq_true iK;obtain⟨q1,q2⟩:=agj hs ck.1 ck.2 d0 d3 (t:=fO g.m (aX g.m.W g.m.H c)) J J U;rw[mv] at q2;rw[q2];have T7:=Aw hs U q1;have lJ:fK g (db g.m.W g.m.H (aX g.m.W g.m.H c) (eQ (fO g.m (aX g.m.W g.m.H c)) (dB g.m.W g.m.H c) d))=rd (fO g.m (aX g.m.W g.m.H c)).C (eQ (fO g.m (aX g.m.W g.m.H c)) (dB g.m.W g.m.H c) d):=by
   have e:fK g (db g.m.W g.m.H (aX g.m.W g.m.H c) (eQ (fO g.m (aX g.m.W g.m.H c)) (dB g.m.W g.m.H c) d))=rd g.m.C (db g.m.W g.m.H (aX g.m.W g.m.H c) (eQ (fO g.m (aX g.m.W g.m.H c)) (dB g.m.W g.m.H c) d)):=by unfold fK;exact af T7
   rw[e];exact(PD U U).symm
  exact⟨T7,by rw[lJ];exact iK.1⟩
end
end Go.Proofs.YthodkonhneebbaaGreatDoor
