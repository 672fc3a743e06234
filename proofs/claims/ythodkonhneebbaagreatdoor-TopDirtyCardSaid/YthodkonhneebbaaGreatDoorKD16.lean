/- What the functions do, in plain Lean, on the objects that are kept in order. -/
import Derived.Test.YthodkonhneebbaaGreatDoorKD15
import Derived.Test.YthodkonhneebbaaGreatDoorKD11
import Derived.Test.YthodkonhneebbaaGreatDoorKD12
import Derived.Test.YthodkonhneebbaaGreatDoorKD14
import Derived.Test.YthodkonhneebbaaGreatDoorKD6
import Derived.Test.YthodkonhneebbaaGreatDoorKD5
import Derived.Test.YthodkonhneebbaaGreatDoorKD13
namespace Go.Proofs.YthodkonhneebbaaGreatDoor
open Go.Hx
set_option linter.unusedVariables false
set_option linter.unusedSimpArgs false
abbrev dK:Int:=2147483647
abbrev RB:Int:=104538400
def qW (f:Int->Int):Nat->Int
 |0=>0
 |n+1=>qW f n+f n
theorem Xi {f:Int->Int} {B:Int}: ∀(n:Nat),(∀i:Int,0<=i->i<n->f i<=B)->qW f n<=n*B
 |0,_=>by simp[qW]
 |n+1,h=>by
  have:=Xi n (λi a b=>h i a U);have:=h n U U;rw[qW,Int.natCast_add,Int.add_mul,Int.natCast_one,Int.one_mul];omega
theorem Xj {f:Int->Int}: ∀(n:Nat),(∀i:Int,0<=i->i<n->0<=f i)->0<=qW f n
 |0,_=>Int.le_refl _
 |n+1,h=>by
  have:=Xj n (λi a b=>h i a U);have:=h n U U;rw[qW];omega
theorem Xg {f f':Int->Int}: ∀(n:Nat),(∀i:Int,0<=i->i<n->f' i=f i)->qW f' n=qW f n
 |0,_=>rfl
 |n+1,h=>by rw[qW,qW,Xg n (λi a b=>h i a U),h n U U]
theorem Xh {f f':Int->Int} {c:Int}: ∀(n:Nat),0<=c->c<n->f' c+1<=f c->(∀i:Int,0<=i->i<n->i≠c->f' i=f i)->qW f' n+1<=qW f n
 |0,h0,h1,_,_=>by omega
 |n+1,h0,h1,hd,he=>by
  rw[qW,qW]
  by_cases z:c=n
  ·subst z;rw[Xg n (λi a b=>he i a U U)];omega
  ·have:=Xh n h0 U hd (λi a b=>he i a U);rw[he n U U (λy=>z y.symm)];omega
theorem Mn {p q:Int->Bool}: ∀{n:Nat},(∀i:Int,0<=i->i<n->p i=true->q i=true)->eA p n<=eA q n
 |0,_=>Nat.le_refl _
 |n+1,h=>by
  have:=Mn (p:=p) (q:=q) (n:=n) (λi a b=>h i a U);unfold eA;have h':=h n U U
  cases hp:p n
  ·simp;omega
  ·rw[h' hp];simp;omega
theorem Ri {p q:Int->Bool} {c:Int}: ∀{n:Nat},0<=c->c<n->p c=false->q c=true->(∀i:Int,0<=i->i<n->p i=true->q i=true)->eA p n+1<=eA q n
 |0,h0,h1,_,_,_=>by omega
 |n+1,h0,h1,hp,hq,he=>by
  unfold eA
  by_cases z:c=n
  ·subst z;have:=Mn (p:=p) (q:=q) (n:=n) (λi a b=>he i a U);rw[hp,hq];simp;omega
  ·have:=Ri (n:=n) h0 U hp hq (λi a b=>he i a U);have h':=he n U U
   cases hp':p n
   ·simp;omega
   ·rw[h' hp'];simp;omega
def zo (D:List Int) (v:Int):Nat:=eA (λc=>decide (rd D c<v)) D.length
def nI (D:List Int):Int:=qW (λc=>min (rd D c) (RB+1)) D.length
section
variable {g : bA} {more : Int} {M : dC} {goal : Int} {im : List (Int × Int)}
def Pv (g:bA) (goal:Int) (im:List (Int×Int)) (D:List Int) (c d:Int):Prop:=
 (c∈bK g.m (aW g.m.W g.m.H goal)/\bN im c=true/\aP im c=d)∨ ∃b e,node g.m b/\rd D b≠dK/\Comes g.m b e/\e.To=c/\rd D b+e.kI<=d
structure Rt (g:bA) (goal:Int) (im:List (Int×Int)) (D:List Int) (l:List dI) (x:Int):Prop where
 len_:(D.length:Int)=g.m.W*g.m.H
 dv: ∀c:Int,0<=c->c<D.length->rd D c≠dK->node g.m c/\0<=rd D c/\rd D c<=500000+65024*(zo D (rd D c):Int)/\Pv g goal im D c (rd D c)
 hp: ∀e∈l,node g.m e.item/\rd D e.item≠dK/\rd D e.item<=e.key
 rel: ∀c,node g.m c->c≠x->rd D c≠dK->⟨rd D c,c⟩∈l∨ ∀e,Comes g.m c e->rd D e.To≠dK/\rd D e.To<=rd D c+e.kI
theorem WC (D:List Int) (v:Int):zo D v<=D.length:=FF _ _
theorem Rt.bound {D:List Int} {l:List dI} {x:Int} (hN:g.m.W*g.m.H<=1600) (h:Rt g goal im D l x) {c:Int} (c0:0<=c) (c1:c<D.length) (hc:rd D c≠dK):0<=rd D c/\rd D c<=RB:=by
 have yO:RB=104538400:=rfl;obtain⟨_,a,b,_⟩:=h.dv c c0 c1 hc;have:=WC D (rd D c);have:=h.len_;omega
theorem vR (h:dD g more) {D:List Int} (hl:(D.length:Int)=g.m.W*g.m.H) {c:Int} (hc:node g.m c):0<=c/\c<D.length:=by
 have:=(CI hc).2;rw[hl];exact this
theorem VV {D D':List Int} (hd: ∀b,node g.m b->rd D b≠dK->rd D' b≠dK/\rd D' b<=rd D b) {c d:Int} (h:Pv g goal im D c d):Pv g goal im D' c d:=by
 rcases h with z |⟨b,e,h1,h2,h3,h4,h5⟩
 ·exact .inl z
 ·have:=hd b h1 h2;exact .inr ⟨b,e,h1,this.1,h3,h4,by omega⟩
theorem agN {D:List Int} (hD: ∀c:Int,0<=c->c<D.length->0<=rd D c):0<=nI D/\nI D<=D.length*(RB+1):=by
 refine⟨Xj _ λi a b=>?_,Xi _ λi a b=>by omega⟩
 have:=hD i a b;have yO:RB=104538400:=rfl;omega
theorem WD (h:dD g more) (hN:g.m.W*g.m.H<=1600) {D:List Int} {l:List dI} {x:Int} (hr:Rt g goal im D l x) (hlen:l.length+2*nI D<1000000000000) {v nd ge:Int} (gg ep:Int) (hv:node g.m v) (hx:v≠x) (n0:0<=nd) (n1:nd<=500000+65024*(zo D nd:Int)) (hp:Pv g goal im D v nd):
 Ok (sZ.f ⟨gg,ep,D⟩ v nd) (λr=>(r=(false,⟨gg,ep,D⟩)/\rd D v≠dK/\rd D v<=nd)∨ ∃D',r=(true,⟨gg,ep,D'⟩)/\nI D'+1<=nI D/\rd D' v=nd/\(∀c:Int,0<=c->c≠v->rd D' c=rd D c)/\nd<rd D v/\D'.length=D.length/\
  ∀l':List dI,(∀e,e∈l'↔e∈l∨e=⟨nd,v⟩)->Rt g goal im D' l' x):=by
 have hF:dK=2147483647:=rfl;have yO:RB=104538400:=rfl;have AD:=vR h hr.len_ hv;have hrk:=WC D nd;have B9:=hr.len_;have hvb:rd D v=dK∨(0<=rd D v/\rd D v<=RB):=by
  by_cases z:rd D v=dK
  ·exact .inl z
  ·exact .inr (hr.bound hN AD.1 AD.2 z)
 unfold sZ.f;simp only;rw[af AD,wi U U];refine Ok.ite (λq=>Ok.pure (.inl ⟨J,by omega,by omega⟩)) λq=>?_
 rw[UD U U];have dS: ∀c:Int,0<=c->rd (List.set D v.toNat nd) c=if c=v then nd else rd D c:=λc c0=>j5 AD.1 AD.2 c0
 have D_:rd (List.set D v.toNat nd) v=nd:=by rw[dS v AD.1,af J]
 have hle: ∀c:Int,0<=c->rd (List.set D v.toNat nd) c<=rd D c:=λc c0=>by
  rw[dS c c0];split
  ·rename_i z;rw[z];omega
  ·omega
 have hnf: ∀c:Int,0<=c->rd D c≠dK->rd (List.set D v.toNat nd) c≠dK:=λc c0 hc=>by
  rw[dS c c0];split
  ·omega
  ·exact hc
 have JY: ∀b,node g.m b->rd D b≠dK->rd (List.set D v.toNat nd) b≠dK/\rd (List.set D v.toNat nd) b<=rd D b:=λb hb hf=>by
  have:=vR h hr.len_ hb;exact⟨hnf b this.1 hf,hle b this.1⟩
 have Uk: ∀w,zo D w<=zo (List.set D v.toNat nd) w:=λw=>by
  unfold zo;rw[List.length_set];refine Mn λi a b c=>?_
  have:=hle i a;simp only[decide_eq_true_iff] at c⊢;omega
 refine Ok.pure (.inr ⟨_,J,?_,D_,λc c0 hc=>by rw[dS c c0,ah hc],by omega,by simp,λl' Ax=>?_⟩)
 ·unfold nI;rw[List.length_set];refine Xh D.length AD.1 AD.2 ?_ λi a b hi=>?_
  ·rw[D_];omega
  ·rw[dS i a,ah hi]
 ·refine⟨by simpa using hr.len_,λc c0 c1 hc=>?_,λe he=>?_,λc hc xh hf=>?_⟩
  ·rw[List.length_set] at c1
   by_cases z:c=v
   ·subst z;rw[D_];have:=Uk nd;exact⟨hv,n0,by omega,VV JY hp⟩
   ·rw[dS c c0,ah z] at hc⊢;obtain⟨a1,a2,a3,a4⟩:=hr.dv c c0 c1 hc;have:=Uk (rd D c);exact⟨a1,a2,by omega,VV JY a4⟩
  ·rcases(Ax e).1 he with z |rfl
   ·obtain⟨b1,b2,b3⟩:=hr.hp e z;have:=JY _ b1 b2;exact⟨b1,this.1,by omega⟩
   ·exact⟨hv,by simp only;rw[D_];omega,by simp only;rw[D_];omega⟩
  ·have F_:=vR h hr.len_ hc
   by_cases z:c=v
   ·subst z;rw[D_];exact .inl ((Ax _).2 (.inr J))
   ·rw[dS c F_.1,ah z] at hf⊢;rcases hr.rel c hc xh hf with y |y
    ·exact .inl ((Ax _).2 (.inl y))
    ·refine .inr λe he=>?_
     obtain⟨q1,q2⟩:=y e he;have:=JY _ (Mo h hc he).1 q1;exact⟨this.1,by omega⟩
theorem CZ (hN:g.m.W*g.m.H<=1600) {D:List Int} {l:List dI} {x:Int} (hr:Rt g goal im D l x):0<=nI D/\nI D<=200000000000:=by
 have hF:dK=2147483647:=rfl;have yO:RB=104538400:=rfl;have hl:=hr.len_;have:=agN (D:=D) λc c0 c1=>by
  by_cases z:rd D c=dK
  ·omega
  ·exact(hr.bound hN c0 c1 z).1
 have:(D.length:Int)*(RB+1)<=1600*(RB+1):=Int.mul_le_mul_of_nonneg_right U U;omega
theorem ah6 (h:dD g more) (hN:g.m.W*g.m.H<=1600) (gg ep gl:Int) {b key:Int} (hb:node g.m b) (E:List dZ) (hE: ∀e∈E,Comes g.m b e) (hEb:E.length<=260): ∀(n k:Nat) (D:List Int) (l:List dI) (i:Int),(E.length-i).toNat<=n->n<k->0<=i->i<=E.length->Rt g goal im D l b->rd D b=key->key≠dK->l.length+2*nI D+(E.length-i)<1000000000000->
 (∀j:Int,0<=j->j<i->rd D (rd E j).To≠dK/\rd D (rd E j).To<=key+(rd E j).kI)->
 Ok (fT.l2 k gl key E gg ep D l i) (λr=>r.1=gg/\r.2.1=ep/\Rt g goal im r.2.2.1 r.2.2.2 b/\rd r.2.2.1 b=key/\r.2.2.2.length+2*nI r.2.2.1<=l.length+2*nI D/\(∀e∈E,rd r.2.2.1 e.To≠dK/\rd r.2.2.1 e.To<=key+e.kI)/\ ∀c,node g.m c->rd D c≠dK->rd r.2.2.1 c≠dK/\rd r.2.2.1 c<=rd D c):=by
 have hF:dK=2147483647:=rfl;have yO:RB=104538400:=rfl;have fin: ∀(k:Nat) (D:List Int) (l:List dI) (i:Int),¬i<E.length->Rt g goal im D l b->rd D b=key->(∀j:Int,0<=j->j<i->rd D (rd E j).To≠dK/\rd D (rd E j).To<=key+(rd E j).kI)->
  Ok (fT.l2 (k+1) gl key E gg ep D l i) (λr=>r.1=gg/\r.2.1=ep/\Rt g goal im r.2.2.1 r.2.2.2 b/\rd r.2.2.1 b=key/\r.2.2.2.length+2*nI r.2.2.1<=l.length+2*nI D/\(∀e∈E,rd r.2.2.1 e.To≠dK/\rd r.2.2.1 e.To<=key+e.kI)/\ ∀c,node g.m c->rd D c≠dK->rd r.2.2.1 c≠dK/\rd r.2.2.1 c<=rd D c):=λk D l i hi hr hk ha=>by
  rw[fT.l2,ah hi];refine Ok.pure ⟨J,J,hr,hk,Int.le_refl _,λe he=>?_,λc _ hc=>⟨hc,Int.le_refl _⟩⟩
  obtain⟨j,j0,j1,rfl⟩:=jI he;exact ha j j0 U
 intro n
 induction n with
 |zero=>
  intro k D l i hn hk hi ei hr jZ Aw hlen ha;obtain⟨k,rfl⟩:=bl hk;exact fin k D l i U hr jZ ha
 |succ n ih=>
  intro k D l i hn hk hi ei hr jZ Aw hlen ha;obtain⟨k,rfl⟩:=bl hk
  by_cases aQ:i<E.length
  ·have je:=ek hi aQ;have vw:=hE _ je;obtain⟨c1,c2,c3,c4⟩:=Mo h hb vw;have ue:=vR h hr.len_ hb;obtain⟨d1,d2,d3,d4⟩:=hr.dv b ue.1 ue.2 (by rw[jZ];exact Aw)
   have F8:=hr.bound hN ue.1 ue.2 (by rw[jZ];exact Aw)
   rw[jZ] at d2 d3 d4 F8;have MY:KT=65024:=rfl;have D8:=CZ hN hr;have hrk:zo D key+1<=zo D (key+(rd E i).kI):=by
    unfold zo;refine Ri ue.1 ue.2 (by rw[jZ];simp) (by rw[jZ];simp;omega) λc _ _ hc=>?_
    simp only[decide_eq_true_iff] at hc⊢;omega
   rw[fT.l2,wi (x:=key+(rd E i).kI) U U,wi (x:=i+1) U U];refine Ok.pos aQ (Ok.cx ⟨hi,aQ⟩ ((WD (ge:=0) h hN hr U gg ep c1 c2 U U (.inr ⟨b,_,hb,by rw[jZ];exact Aw,vw,J,by rw[jZ];omega⟩)).bind λr vD=>?_))
   rcases vD with⟨rfl,z1,z2⟩ |⟨D',rfl,z1,z2,z3,z4,z5,z6⟩
   ·refine Ok.neg bj (ih k D l (i+1) U U U U hr jZ Aw U λj j0 j1=>?_)
    by_cases z:j=i
    ·subst z;exact⟨z1,z2⟩
    ·exact ha j j0 U
   ·refine Ok.pos J ((KQ ⟨l⟩ _ _ (by simp only;omega)).bind λq hq=>?_)
    have N3:=z6 q.l hq.2;have ju:rd D' b=key:=by rw[z3 b ue.1 (λy=>c2 y.symm),jZ]
    have Gm:=hq.1;simp only at Gm;refine(ih k D' q.l (i+1) U U U U N3 ju Aw U λj j0 j1=>?_).mono λr Cg=>⟨Cg.1,Cg.2.1,Cg.2.2.1,Cg.2.2.2.1,by have:=Cg.2.2.2.2.1;omega,Cg.2.2.2.2.2.1,λc hc qB=>?_⟩
    rotate_left
    ·have F_:=vR h hr.len_ hc;have hd:rd D' c≠dK/\rd D' c<=rd D c:=by
      by_cases y:c=(rd E i).To
      ·rw[y,z2];rw[y] at qB;have:=hr.bound hN (y▸F_.1) (y▸F_.2) qB;exact⟨by omega,by omega⟩
      ·rw[z3 c F_.1 y];exact⟨qB,Int.le_refl _⟩
     have:=Cg.2.2.2.2.2.2 c hc hd.1;exact⟨this.1,by omega⟩
    by_cases y:(rd E j).To=(rd E i).To
    ·rw[y,z2]
     by_cases z:j=i
     ·subst z;exact⟨by omega,Int.le_refl _⟩
     ·have w:=(ha j j0 U).2;rw[y] at w;exact⟨by omega,by omega⟩
    ·have hj:=Mo h hb (hE _ (ek j0 (show j<E.length by omega)))
     have:=vR h hr.len_ hj.1;rw[z3 _ this.1 y];refine ha j j0 ?_;have:j≠i:=λz=>y (by rw[z])
     omega
  ·exact fin k D l i aQ hr jZ ha
structure E5 (g:bA) (goal:Int) (im:List (Int×Int)) (D:List Int):Prop where
 len_:(D.length:Int)=g.m.W*g.m.H
 dv: ∀c:Int,0<=c->c<D.length->rd D c≠dK->node g.m c/\0<=rd D c/\rd D c<=RB/\Pv g goal im D c (rd D c)
 rel: ∀c,node g.m c->rd D c≠dK-> ∀e,Comes g.m c e->rd D e.To≠dK/\rd D e.To<=rd D c+e.kI
 sd: ∀c∈bK g.m (aW g.m.W g.m.H goal),bN im c=true->rd D c≠dK/\rd D c<=aP im c
theorem WV (h:dD g more) (hN:g.m.W*g.m.H<=1600) (hF':oP g M) (gg ep gl:Int): ∀(n k:Nat) (D:List Int) (l:List dI) (key b:Int) (ok:Bool),(l.length+2*nI D+(if ok then 1 else 0)).toNat<=n->n<k->l.length+2*nI D<999999990000->
 (ok=true->Rt g goal im D (⟨key,b⟩::l) (-1))->(ok=false->l=[]/\Rt g goal im D [] (-1))->(∀c∈bK g.m (aW g.m.W g.m.H goal),bN im c=true->rd D c≠dK/\rd D c<=aP im c)->
 Ok (fT.l1 k gl M g gg ep D l key b ok) (λr=> ∃D',r=some ⟨gg,ep,D'⟩/\E5 g goal im D'):=by
 have MW:dK=2147483647:=rfl;have yO:RB=104538400:=rfl;have fin: ∀(k:Nat) (D:List Int) (l:List dI) (key b:Int) (ok:Bool),ok=false->Rt g goal im D [] (-1)->(∀c∈bK g.m (aW g.m.W g.m.H goal),bN im c=true->rd D c≠dK/\rd D c<=aP im c)->Ok (fT.l1 (k+1) gl M g gg ep D l key b ok) (λr=> ∃D',r=some ⟨gg,ep,D'⟩/\E5 g goal im D'):=λk D l key b ok vB hr hs=>by
  subst vB;rw[fT.l1];refine Ok.neg bj (Ok.pure ⟨D,J,hr.len_,λc c0 c1 hc=>?_,λc hc hf e he=>?_,hs⟩)
  ·obtain⟨a,b,_,d⟩:=hr.dv c c0 c1 hc;exact⟨a,b,(hr.bound hN c0 c1 hc).2,d⟩
  ·have:=vR h hr.len_ hc;exact((hr.rel c hc U hf).resolve_left bj) e he
 intro n
 induction n with
 |zero=>
  intro k D l key b ok hn hk hlen hp hf hs;obtain⟨k,rfl⟩:=bl hk
  cases ok
  ·exact fin k D l key b false J (hf J).2 hs
  ·have:=CZ hN (hp J);simp only[if_true] at hn;omega
 |succ n ih=>
  intro k D l key b ok hn hk hlen hp hf hs;obtain⟨k,rfl⟩:=bl hk
  cases ok
  ·exact fin k D l key b false J (hf J).2 hs
  have hr:=hp J;simp only[if_true] at hn;have hph:=CZ hN hr;obtain⟨b1,b2,b3⟩:=hr.hp ⟨key,b⟩ (List.mem_cons_self ..);simp only at b1 b2 b3;have ue:=vR h hr.len_ b1;have F8:=hr.bound hN ue.1 ue.2 b2;rw[fT.l1];refine Ok.pos J (Ok.bind (P:=λr=>r.1=gg/\r.2.1=ep/\Rt g goal im r.2.2.1 r.2.2.2 (-1)/\r.2.2.2.length+2*nI r.2.2.1<=l.length+2*nI D/\ ∀c∈bK g.m (aW g.m.W g.m.H goal),bN im c=true->rd r.2.2.1 c≠dK/\rd r.2.2.1 c<=aP im c) (Ok.cx ue ?_) λr vD=>?_)
  ·rw[wi U U];refine Ok.ite (λq=>Ok.pure ⟨J,J,⟨hr.len_,hr.dv,λe he=>hr.hp e (List.mem_cons_of_mem _ he),λc hc xh qB=>?_⟩,Int.le_refl _,hs⟩) λq=>?_
   ·rcases hr.rel c hc xh qB with y |y
    ·rcases List.mem_cons.1 y with y |y
     ·simp only[dI.mk.injEq] at y;rw[y.2] at y;omega
     ·exact .inl y
    ·exact .inr y
   ·have jZ:rd D b=key:=U;have Gp:Rt g goal im D l b:=⟨hr.len_,hr.dv,λe he=>hr.hp e (List.mem_cons_of_mem _ he),λc hc xh qB=>by
     have:=vR h hr.len_ hc;rcases hr.rel c hc U qB with y |y
     ·rcases List.mem_cons.1 y with y |y
      ·simp only[dI.mk.injEq] at y;exact absurd y.2 xh
      ·exact .inl y
     ·exact .inr y⟩
    refine(aeU h hF' b).bind λE hE=>?_
    obtain⟨hE1,FU⟩:=hE;have Sw:=(FU.resolve_right λz=>z.1 b1).2;refine(ah6 h hN gg ep gl b1 E (λe he=>(Sw e).1 he) hE1 260 fuel D l 0 U (by rw[cD];omega) U U Gp jZ U U (λj j0 j1=>by omega)).mono λr N3=>?_
    obtain⟨s1,s2,s3,s4,s5,s6,s7⟩:=N3;refine⟨s1,s2,⟨s3.len_,s3.dv,s3.hp,λc hc xh qB=>?_⟩,s5,λc hc hm=>?_⟩
    ·by_cases z:c=b
     ·subst z;exact .inr λe he=>by rw[s4];exact s6 e ((Sw e).2 he)
     ·exact s3.rel c hc z qB
    ·have w:=hs c hc hm;have:=s7 c (KE hc) w.1;exact⟨this.1,by omega⟩
  ·obtain⟨q1,q2,q3,q4,q5⟩:=vD;obtain⟨r1,r2,D',l'⟩:=r;simp only at q1 q2 q3 q4 q5⊢;subst q1;subst q2;have ajN:=CZ hN q3;refine(KM ⟨l'⟩ (by simp only;omega)).bind λv hv=>?_
   rcases hv with⟨e1,e2⟩ |⟨e1,e2,e3,e4,e5,e6⟩
   ·simp only at e1;subst e1;subst e2;exact ih k D' [] 0 0 false (by simp only[List.length_nil] at*;simp;omega) U (by simp;simp at q4;omega) bj (λ_=>⟨J,q3⟩) q5
   ·simp only at e1 e3 e4 e5 e6;rw[e2];refine ih k D' v.2.2.2.l v.1 v.2.1 true (by simp only[if_true];omega) U U (λ_=>?_) bj q5
    rw[e3];have h0:=ek (a:=l') (i:=0) U (by have:=List.length_pos_iff.2 e1;omega)
    refine⟨q3.len_,q3.dv,λe he=>?_,λc hc xh qB=>?_⟩
    ·rcases List.mem_cons.1 he with rfl |he
     ·exact q3.hp _ h0
     ·exact q3.hp e (e5 e he)
    ·rcases q3.rel c hc xh qB with y |y
     ·refine .inl ?_;rcases e6 _ y with z |z
      ·rw[z];exact List.mem_cons_self ..
      ·exact List.mem_cons_of_mem _ z
     ·exact .inr y
end
section
variable {g : bA} {more : Int} {M : dC} {goal : Int} {im : List (Int × Int)}
theorem ah5 (h:dD g more) (hN:g.m.W*g.m.H<=1600) (hF:oP g M) (JT: ∀c,bN im c=true->0<=aP im c/\aP im c<=500000) (gg ep:Int) (L:List Int) (hL:L=bK g.m (aW g.m.W g.m.H goal)): ∀(n k:Nat) (D:List Int) (l:List dI) (i:Int),(L.length-i).toNat<=n->n<k->0<=i->i<=L.length->Rt g goal im D l (-1)->l.length+2*nI D+(L.length-i)<999999990000->
 (∀j:Int,0<=j->j<i->bN im (rd L j)=true->rd D (rd L j)≠dK/\rd D (rd L j)<=aP im (rd L j))->
 Ok (fT.l0 k goal M g im L gg ep D l i) (λr=> ∃D',r=some ⟨gg,ep,D'⟩/\E5 g goal im D'):=by
 have MW:dK=2147483647:=rfl;have hlN:L.length<=256:=by rw[hL];exact vS ..
 have fin: ∀(k:Nat) (D:List Int) (l:List dI) (i:Int),¬i<L.length->Rt g goal im D l (-1)->l.length+2*nI D<999999990000->(∀j:Int,0<=j->j<i->bN im (rd L j)=true->rd D (rd L j)≠dK/\rd D (rd L j)<=aP im (rd L j))->
  Ok (fT.l0 (k+1) goal M g im L gg ep D l i) (λr=> ∃D',r=some ⟨gg,ep,D'⟩/\E5 g goal im D'):=λk D l i hi hr hlen ha=>by
  rw[fT.l0,ah hi];have D8:=CZ hN hr;have J4: ∀c∈bK g.m (aW g.m.W g.m.H goal),bN im c=true->rd D c≠dK/\rd D c<=aP im c:=λc hc hm=>by
   rw[<-hL] at hc;obtain⟨j,j0,j1,rfl⟩:=jI hc;exact ha j j0 U hm
  refine(KM ⟨l⟩ (by simp only;omega)).bind λv hv=>?_
  rcases hv with⟨e1,e2⟩ |⟨e1,e2,e3,e4,e5,e6⟩
  ·simp only at e1;subst e1;subst e2;exact WV h hN hF gg ep goal 1000000000000 fuel D [] 0 0 false bk (by rw[cD];omega) (by simp;simp at hlen;omega) bj (λ_=>⟨J,hr⟩) J4
  ·simp only at e1 e3 e4 e5 e6;rw[e2];refine WV h hN hF gg ep goal 1000000000000 fuel D v.2.2.2.l v.1 v.2.1 true (by simp only[if_true];omega) (by rw[cD];omega) U (λ_=>?_) bj J4
   rw[e3];have h0:=ek (a:=l) (i:=0) U (by have:=List.length_pos_iff.2 e1;omega)
   refine⟨hr.len_,hr.dv,λe he=>?_,λc hc xh qB=>?_⟩
   ·rcases List.mem_cons.1 he with rfl |he
    ·exact hr.hp _ h0
    ·exact hr.hp e (e5 e he)
   ·rcases hr.rel c hc xh qB with y |y
    ·refine .inl ?_;rcases e6 _ y with z |z
     ·rw[z];exact List.mem_cons_self ..
     ·exact List.mem_cons_of_mem _ z
    ·exact .inr y
 intro n
 induction n with
 |zero=>
  intro k D l i hn hk hi ei hr hlen ha;obtain⟨k,rfl⟩:=bl hk;exact fin k D l i U hr U ha
 |succ n ih=>
  intro k D l i hn hk hi ei hr hlen ha;obtain⟨k,rfl⟩:=bl hk
  by_cases aQ:i<L.length
  ·have je:rd L i∈bK g.m (aW g.m.W g.m.H goal):=by rw[<-hL];exact ek hi aQ
   have Ui:=KE je;have D8:=CZ hN hr;rw[fT.l0,wi (x:=i+1) U U];refine Ok.pos aQ ?_;rw[af (show 0<=i/\i<(L.length:Int) from⟨hi,aQ⟩)]
   cases hm:bN im (rd L i)
   ·simp only[Bool.false_eq_true,if_false,aG];refine ih k D l (i+1) U U U U hr U λj j0 j1 hj=>?_
    by_cases z:j=i
    ·subst z;rw[hm] at hj;simp at hj
    ·exact ha j j0 U hj
   ·have hv:=JT _ hm;simp only[if_true];have hrx:=WD (ge:=0) h hN hr U gg ep Ui (by have:=vR h hr.len_ Ui;omega) hv.1 U (.inl ⟨je,hm,J⟩)
    obtain⟨r,e,vD⟩:=hrx;rw[e];simp only[aG];rcases vD with⟨rfl,z1,z2⟩ |⟨D',rfl,z1,z2,z3,z4,z5,z6⟩
    ·simp only[Bool.false_eq_true,if_false,aG];refine ih k D l (i+1) U U U U hr U λj j0 j1 hj=>?_
     by_cases z:j=i
     ·subst z;exact⟨z1,z2⟩
     ·exact ha j j0 U hj
    ·simp only[if_true];obtain⟨q,eq,hq⟩:=KQ ⟨l⟩ (aP im (rd L i)) (rd L i) (by simp only;omega)
     rw[eq];simp only[aG];have Gm:=hq.1;simp only at Gm;refine ih k D' q.l (i+1) U U U U (z6 q.l hq.2) U λj j0 j1 hj=>?_
     by_cases y:rd L j=rd L i
     ·rw[y,z2];exact⟨by omega,Int.le_refl _⟩
     ·have hjm:rd L j∈bK g.m (aW g.m.W g.m.H goal):=by rw[<-hL];exact ek j0 U
      have:=vR h hr.len_ (KE hjm);rw[z3 _ this.1 y];refine ha j j0 ?_ hj;have:j≠i:=λz=>y (by rw[z])
      omega
  ·exact fin k D l i aQ hr U ha
def Qb (g:bA) (goal:Int) (im:List (Int×Int)):Prop:=(∀f M,jk.f f goal M g=some im)/\ ∀c,bN im c=true->0<=aP im c/\aP im c<=500000
def uT (g:bA) (r:g_):Prop:=r.bL=g.bL/\ ∃im,Qb g r.goal im/\E5 g r.goal im r.aR
theorem ah4 (h:dD g more) (hN:g.m.W*g.m.H<=1600) (hF:oP g M) (f:j6) (hg:cL g.m goal):Ok (fT.f f goal M g) (λr=> ∃R,r=some R/\R.goal=goal/\uT g R):=by
 have MW:dK=2147483647:=rfl;have yO:RB=104538400:=rfl;have hmp:=xv h.ok.1;unfold fT.f;obtain⟨im,e,JT⟩:=ahQ h hN f M hg;have aeH:Qb g goal im:=⟨λf' M'=>e,JT⟩
 have hs:=tm (nC h.ok hg);refine Ok.eq (C8 g) (Ok.eq (FL g) ?_);simp only;rw[wi U U];have Gr:=ahw (v:=dK) (n:=(g.m.W*g.m.H).toNat) U U;rw[show(((g.m.W*g.m.H).toNat:Nat):Int)=g.m.W*g.m.H by omega] at Gr
 refine Ok.eq Gr (Ok.eq (v:=some ⟨[]⟩) J ?_);refine Ok.eq e (Ok.eq (rR ..) (Ok.eq (agt hF _ hs) ?_));have TY: ∀c:Int,0<=c->c<(g.m.W*g.m.H).toNat->rd (List.replicate (g.m.W*g.m.H).toNat dK) c=dK:=λc c0 c1=>uB c0 c1
 have hR:Rt g goal im (List.replicate (g.m.W*g.m.H).toNat dK) [] (-1):=by
  refine⟨by simp;omega,λc c0 c1 hc=>?_,by simp,λc hc _ qB=>?_⟩
  ·rw[List.length_replicate] at c1;exact absurd (TY c c0 c1) hc
  ·have:=(CI hc).2;exact absurd (TY c this.1 (by have:=this.2;omega)) qB
 have hph:=CZ hN hR;have Uh:=vS g.m (aW g.m.W g.m.H goal);refine(ah5 h hN hF JT goal g.bL _ J 256 fuel _ [] 0 U (by rw[cD];omega) U U hR bk (λj j0 j1=>by omega)).mono λr hr=>?_
 obtain⟨D',rfl,hD⟩:=hr;exact⟨_,J,J,J,im,aeH,hD⟩
structure Lu (g:bA) (f:j6):Prop where
 kept: ∀R,f.kept=some R->cL g.m R.goal/\R.bL<=g.bL/\(R.bL=g.bL->uT g R)
 eA:0<=f.count/\f.count<=1000000000000
def UO (g:bA) (f:j6) (goal:Int):Prop:= ∃R,f.kept=some R/\R.goal=goal/\R.bL=g.bL
theorem ahx (h:dD g more) (hN:g.m.W*g.m.H<=1600) (hv: ∀s:Int,bJ g.m.W g.m.H s->fA g s<=g.bL) {f:j6} (hf:Lu g f) (hM:zW g M) (hc:M.count+4096<=1000000000000) (NM:f.count+1<=1000000000000) (hg:cL g.m goal):
 Ok (xM.f f goal M g) (λr=> ∃R,r.1=some R/\R.goal=goal/\uT g R/\r.2.1.kept=some R/\Lu g r.2.1/\f.count<=r.2.1.count/\r.2.1.count<=f.count+1/\(UO g f goal->r.2.1=f)/\oP g r.2.2/\r.2.2.clean=g.bL/\r.2.2.count=M.count+(mm g M M.parts.length).length):=by
 have DW:=MN h hg;unfold xM.f;refine Ok.eq (vc h _) (Ok.neg bk ((ahp h hv hM hc).bind λv N8=>?_));obtain⟨hF,lG,kq⟩:=N8;have e:(dm f.kept (some true) (λx5=>if(x5.goal !=goal)=true then(some true) else((pg.f g).bind λv6=>some (x5.bL !=v6))))=some (match f.kept with |none=>true |some R=>(R.goal !=goal||R.bL !=g.bL)):=by
  cases f.kept with
  |none=>rfl
  |some R=>
   show(if(R.goal !=goal)=true then _ else _)=some (R.goal !=goal||R.bL !=g.bL)
   by_cases z:R.goal=goal
   ·rw[ah (by simp[z]),FL];simp[z]
   ·rw[af (by simpa using z)];simp[z]
 refine Ok.eq e (Ok.ite (λq=>?_) λq=>?_)
 ·refine(ah4 h hN hF f hg).bind λr hr=>?_
  obtain⟨R,rfl,r1,r2⟩:=hr;have ajI:=hf.eA;refine Ok.eq (v:=f.count+1) (zF U U U U) (Ok.pure ⟨R,rfl,r1,r2,rfl,⟨λR' SF=>?_,?_⟩,?_,?_,λ⟨R',k1,k2,k3⟩=>?_,hF,lG,kq⟩)
  ·simp only[Option.some.injEq] at SF;subst SF;exact⟨by rw[r1];exact hg,by rw[r2.1];omega,λ_=>r2⟩
  ·simp only;omega
  ·simp only;omega
  ·simp only;omega
  ·rw[k1] at q;simp[k2,k3] at q
 ·cases hk:f.kept with
  |none=>rw[hk] at q;simp at q
  |some R=>
   rw[hk] at q;simp at q;have hkk:=hf.kept R hk;exact Ok.pure ⟨R,J,q.1,hkk.2.2 q.2,hk,hf,Int.le_refl _,by simp only;omega,λ_=>rfl,hF,lG,kq⟩
theorem Zc (h:dD g more) (hN:g.m.W*g.m.H<=1600) {R:g_} (hR:uT g R) (c:Int):CX.f R c=some (if cL g.m c/\rd R.aR c≠dK then rd R.aR c else cH):=by
 have MW:dK=2147483647:=rfl;have yO:RB=104538400:=rfl;obtain⟨_,im,_,hD⟩:=hR;have hl:=hD.len_;unfold CX.f;have e:(if c<0 then(some true) else(if c≥(List.length R.aR:Int) then(some true) else(if(0<=c/\c<(List.length R.aR:Int)) then(some ((rd R.aR c)==2147483647)) else none)))=some (decide (¬(cL g.m c/\rd R.aR c≠dK))):=by
  unfold cL
  by_cases a:c<0
  ·rw[af a];simp;omega
  ·by_cases b:c≥(List.length R.aR:Int)
   ·rw[ah a,af b];simp;omega
   ·rw[ah a,ah b,af U];congr 1;rw[Bool.eq_iff_iff];simp;omega
 rw[e];simp only[aG]
 by_cases z:cL g.m c/\rd R.aR c≠dK
 ·have hz:=z.1;obtain⟨z0,z1⟩:=hz;have:=hD.dv c z0 U z.2;rw[ah (by simpa using z),af U,af z,wi U U]
 ·rw[af (decide_eq_true z),ah z]
end
section
variable {g : bA} {more : Int} {R : g_}
def wG (g:bA) (R:g_) (c:Int):Int:=if cL g.m c/\rd R.aR c≠dK then rd R.aR c else cH
theorem QM (hN:g.m.W*g.m.H<=1600) (hR:uT g R) {c:Int} (hc:wG g R c≠cH):cL g.m c/\rd R.aR c≠dK/\wG g R c=rd R.aR c/\0<=wG g R c/\wG g R c<=RB:=by
 unfold wG at hc⊢;split at hc
 ·rename_i z;obtain⟨_,im,_,hD⟩:=hR;have hl:=hD.len_;have hz:=z.1;obtain⟨z0,z1⟩:=hz;have:=hD.dv c z0 U z.2;rw[af z];exact⟨z.1,z.2,J,this.2.1,this.2.2.1⟩
 ·exact absurd J hc
def tN (g:bA) (R:g_) (c:Int) (e:dZ) (x:a_):Prop:=wG g R e.To≠cH/\x=⟨dw g.m.W g.m.H c,C3 g.m.W g.m.H c e.To,e.kI+wG g R e.To⟩
theorem aeS (h:dD g more) (hN:g.m.W*g.m.H<=1600) (hR:uT g R) (L:List Int) (i:Int) (E:List dZ) (hE:E.length<=4) (hEc: ∀e∈E,0<=e.kI/\e.kI<=255) (x0:List a_) (ui:x0.length<=10000): ∀(n k:Nat) (x:List a_) (j:Int),(E.length-j).toNat<=n->n<k->0<=j->j<=E.length->(x.length:Int)<=x0.length+j->
 (∀y,y∈x↔y∈x0∨ ∃q:Int,0<=q/\q<j/\tN g R (rd L i) (rd E q) y)->
 Ok (iu.l1 k R (g.m.W,g.m.H) L i E x j) (λr=>r.length<=x0.length+4/\ ∀y,y∈r↔y∈x0∨ ∃e∈E,tN g R (rd L i) e y):=by
 have yO:RB=104538400:=rfl;have fin: ∀(k:Nat) (x:List a_) (j:Int),¬j<E.length->j<=E.length->(x.length:Int)<=x0.length+j->(∀y,y∈x↔y∈x0∨ ∃q:Int,0<=q/\q<j/\tN g R (rd L i) (rd E q) y)->
  Ok (iu.l1 (k+1) R (g.m.W,g.m.H) L i E x j) (λr=>r.length<=x0.length+4/\ ∀y,y∈r↔y∈x0∨ ∃e∈E,tN g R (rd L i) e y):=λk x j hj iJ hl hm=>by
  rw[iu.l1,ah hj];refine Ok.pure ⟨by omega,λy=>(hm y).trans (or_congr_right ⟨λ⟨q,q0,q1,w⟩=>⟨_,ek q0 U,w⟩,λ⟨e,he,w⟩=>?_⟩)⟩
  obtain⟨q,q0,q1,rfl⟩:=jI he;exact⟨q,q0,by omega,w⟩
 intro n
 induction n with
 |zero=>
  intro k x j hn hk hj iJ hl hm;obtain⟨k,rfl⟩:=bl hk;exact fin k x j U iJ hl hm
 |succ n ih=>
  intro k x j hn hk hj iJ hl hm;obtain⟨k,rfl⟩:=bl hk
  by_cases aQ:j<E.length
  ·have hc:=hEc _ (ek hj aQ);have xj: ∀y,(y∈x0∨ ∃q:Int,0<=q/\q<j+1/\tN g R (rd L i) (rd E q) y)↔y∈x∨tN g R (rd L i) (rd E j) y:=λy=>by
    rw[hm y];constructor
    ·rintro(a |⟨q,q0,q1,w⟩)
     ·exact .inl (.inl a)
     ·by_cases z:q=j
      ·subst z;exact .inr w
      ·exact .inl (.inr ⟨q,q0,by omega,w⟩)
    ·rintro((a |⟨q,q0,q1,w⟩) |w)
     ·exact .inl a
     ·exact .inr ⟨q,q0,by omega,w⟩
     ·exact .inr ⟨j,hj,by omega,w⟩
   rw[iu.l1,wi (x:=j+1) U U];refine Ok.pos aQ (Ok.cx ⟨hj,aQ⟩ (Ok.eq (v:=wG g R (rd E j).To) (Zc h hN hR _) (Ok.ite (λq=>Ok.eq (GO ..) (Ok.eq (aio ..) (Ok.cx U ?_))) λq=>?_)))
   ·have q:wG g R (rd E j).To≠cH:=by simpa using q
    have ha:=QM hN hR q;rw[wi U U];refine ih k _ (j+1) U U U U bk λy=>?_
    rw[xj y];unfold tN;simp[q]
   ·have q:wG g R (rd E j).To=cH:=by simpa using q
    refine ih k x (j+1) U U U U U λy=>?_
    rw[xj y];unfold tN;simp[q]
  ·exact fin k x j aQ iJ hl hm
def yw (g:bA) (R:g_) (s:Int) (x:a_):Prop:=
 (∃c∈bK g.m s,∃e∈wg g.m c,tN g R c e x)∨(aW g.m.W g.m.H R.goal=s/\fK g R.goal≠255/\x=⟨dw g.m.W g.m.H R.goal,4,0⟩)
theorem Ms {m:aL} {c:Int} {e:dZ} (he:e∈wg m c): ∃d:Int,0<=d/\d<=3/\l_ m (fU m.W m.H c d)=true/\e=⟨fU m.W m.H c d,rd m.C (fU m.W m.H c d)⟩:=by
 unfold wg at he;split at he
 ·unfold xO at he;obtain⟨j,hj,rfl⟩:=List.mem_map.1 he;obtain⟨j1,j2⟩:=List.mem_filter.1 hj;have:=List.mem_range.1 j1;exact⟨j,by omega,by omega,j2,J⟩
 ·simp at he
theorem aeR (h:dD g more) (hN:g.m.W*g.m.H<=1600) (hR:uT g R) (s:Int): ∀(n k:Nat) (x:List a_) (i:Int),((bK g.m s).length-i).toNat<=n->n<k->0<=i->i<=(bK g.m s).length->(x.length:Int)<=4*i->
 (∀y,y∈x↔ ∃q:Int,0<=q/\q<i/\ ∃e∈wg g.m (rd (bK g.m s) q),tN g R (rd (bK g.m s) q) e y)->
 Ok (iu.l0 k g R s (g.m.W,g.m.H) (bK g.m s) x i) (λr=>r.length<=1025/\(∀y,y∈r↔yw g R s y)/\r.Pairwise (λa b=> ¬tc b a)):=by
 have hl:=vS g.m s;have fin: ∀(k:Nat) (x:List a_) (i:Int),¬i<(bK g.m s).length->i<=(bK g.m s).length->(x.length:Int)<=4*i->(∀y,y∈x↔ ∃q:Int,0<=q/\q<i/\ ∃e∈wg g.m (rd (bK g.m s) q),tN g R (rd (bK g.m s) q) e y)->
  Ok (iu.l0 (k+1) g R s (g.m.W,g.m.H) (bK g.m s) x i) (λr=>r.length<=1025/\(∀y,y∈r↔yw g R s y)/\r.Pairwise (λa b=> ¬tc b a)):=λk x i hi ei hx hm=>by
  rw[iu.l0,ah hi];have pZ: ∀y,y∈x↔ ∃c∈bK g.m s,∃e∈wg g.m c,tN g R c e y:=λy=>(hm y).trans ⟨λ⟨q,q0,q1,w⟩=>⟨_,ek q0 U,w⟩,λ⟨c,hc,w⟩=>by
   obtain⟨q,q0,q1,rfl⟩:=jI hc;exact⟨q,q0,by omega,w⟩⟩
  refine Ok.eq (v:=R.goal) J (Ok.eq (v:=decide (aW g.m.W g.m.H R.goal=s/\fK g R.goal≠255)) ?_ (Ok.ite (λq=>?_) λq=>?_))
  ·simp only[rR,aG]
   by_cases z:aW g.m.W g.m.H R.goal=s
   ·rw[af (by simpa using z),vc h];simp[z];rw[Bool.eq_iff_iff];simp
   ·rw[ah (by simpa using z)];simp[z]
  ·have q:=of_decide_eq_true q;refine Ok.eq (GO ..) (Ok.cx U ((Ps _ bk).bind λr hr=>Ok.pure ⟨by have:=hr.1;simp at this;omega,λy=>?_,hr.2.2⟩))
   rw[hr.2.1 y,List.mem_append,pZ y];unfold yw;simp[q.1,q.2]
  ·have q: ¬(aW g.m.W g.m.H R.goal=s/\fK g R.goal≠255):=by simpa using q
   refine(Ps _ U).bind λr hr=>Ok.pure ⟨by omega,λy=>?_,hr.2.2⟩
   rw[hr.2.1 y,pZ y];unfold yw;exact⟨.inl,λw=>w.resolve_right λz=>q ⟨z.1,z.2.1⟩⟩
 intro n
 induction n with
 |zero=>
  intro k x i hn hk hi ei hx hm;obtain⟨k,rfl⟩:=bl hk;exact fin k x i U ei hx hm
 |succ n ih=>
  intro k x i hn hk hi ei hx hm;obtain⟨k,rfl⟩:=bl hk
  by_cases aQ:i<(bK g.m s).length
  ·rw[iu.l0,wi U U];refine Ok.pos aQ (Ok.bind (Ok.cx ⟨hi,aQ⟩ (Ok.eq (aaZ h _) (aeS h hN hR (bK g.m s) i (wg g.m (rd (bK g.m s) i)) (Rq ..) (λe he=>?_) x U 4 fuel x 0 (by have:=Rq g.m (rd (bK g.m s) i);omega) (by rw[cD];omega) U U U (λy=>⟨.inl,λw=>w.resolve_right λ⟨q,q0,q1,_⟩=>by omega⟩)))) λr hr=>ih k r (i+1) U U U U U λy=>?_)
   ·obtain⟨d,_,_,d2,rfl⟩:=Ms he;have:=(Bf.1 d2).1;have:=h.su _ this.1 this.2;simp only;omega
   ·rw[hr.2 y,hm y];constructor
    ·rintro(⟨q,q0,q1,w⟩ |w)
     ·exact⟨q,q0,by omega,w⟩
     ·exact⟨i,hi,by omega,w⟩
    ·rintro⟨q,q0,q1,w⟩
     by_cases z:q=i
     ·subst z;exact .inr w
     ·exact .inl ⟨q,q0,by omega,w⟩
  ·exact fin k x i aQ ei hx hm
theorem aeT (h:dD g more) (hN:g.m.W*g.m.H<=1600) (hR:uT g R) (s:Int):Ok (iu.f g R s) (λr=>r.length<=1025/\(∀y,y∈r↔yw g R s y)/\r.Pairwise (λa b=> ¬tc b a)):=by
 have hl:=vS g.m s;unfold iu.f;refine Ok.eq (C8 g) (Ok.eq (v:=R.bL) rfl (Ok.eq (FL g) (Ok.neg (by simp[hR.1]) (Ok.eq (Vp h s) (aeR h hN hR s 256 fuel [] 0 U (by rw[cD];omega) U U bj (λy=>⟨λq=>by simp at q,λ⟨q,q0,q1,_⟩=>by omega⟩))))))
theorem ah_ (h:dD g more) (hN:g.m.W*g.m.H<=1600) (hR:uT g R) (hg:cL g.m R.goal) {s:Int} (hs:bJ g.m.W g.m.H s) {x:a_} (hx:yw g R s x):qq (fD g.m s) x/\x.Key+254*256<=104603678:=by
 have yO:RB=104538400:=rfl;rcases hx with⟨c,hc,e,he,ha,rfl⟩ |⟨h1,h2,rfl⟩
 ·obtain⟨n1,n2,n3,n4⟩:=ux hc;obtain⟨d,d0,d3,d4,rfl⟩:=Ms he;have eB:=nC h.ok n2;have l7:=C4 h n2;rw[n4] at l7;have aS:=(Bf.1 d4).1;have vC:=VE (w:=g.m.W) (h:=g.m.H) (c:=c) (side:=d) aS.1;have hb:=h.su _ aS.1 aS.2;have hav:=QM hN hR ha;simp only at ha hav;have bM:=(Bf.1 d4).2;have cn:=Eg eB;have mO:=DN eB;rw[n4] at cn mO;have Ua:=KJ hs cn.1 cn.2 d0 d3;rw[mO] at Ua;have Ch:C3 g.m.W g.m.H c (fU g.m.W g.m.H c d)=d:=by
   rw[vC.2.2.2.2.1];exact W1 eB d0 U (by rw[<-vC.2.2.2.2.1];exact vC.2.2.2.1)
  refine⟨⟨l7.1,l7.2.1,?_,by simp only;omega,by simp only;omega,?_⟩,by simp only;omega⟩
  ·simp only;rw[l7.2.2];unfold fK;rw[af n2];exact(Bf.1 n1).2
  ·simp only;rw[Ch];exact .inr ⟨d0,d3,(Ua.1 aS.1).2⟩
 ·have l7:=C4 h hg;rw[h1] at l7;exact⟨⟨l7.1,l7.2.1,by simp only;rw[l7.2.2];exact h2,by simp,by simp,.inl J⟩,by simp⟩
end
section
theorem Py {a b:fP} (ha:qo a CB) (hb:qo b CB):mB.f a b=some ⟨a.bn+b.bn,a.bB+b.bB,a.bz+b.bz,a.bx+b.bx,a.bE+b.bE,a.bC+b.bC⟩:=by
 obtain⟨a1,a2,a3,a4,a5,a6⟩:=ha;obtain⟨b1,b2,b3,b4,b5,b6⟩:=hb;have MV:CB=1000000000000:=rfl;unfold mB.f mc.f;simp only[aG];have e0: ∀a b c d e f:Int,rd [a,b,c,d,e,f] 0=a:=λ_ _ _ _ _ _=>rfl
 have e1: ∀a b c d e f:Int,rd [a,b,c,d,e,f] 1=b:=λ_ _ _ _ _ _=>rfl
 have e2: ∀a b c d e f:Int,rd [a,b,c,d,e,f] 2=c:=λ_ _ _ _ _ _=>rfl
 have e3: ∀a b c d e f:Int,rd [a,b,c,d,e,f] 3=d:=λ_ _ _ _ _ _=>rfl
 have e4: ∀a b c d e f:Int,rd [a,b,c,d,e,f] 4=e:=λ_ _ _ _ _ _=>rfl
 have e5: ∀a b c d e f:Int,rd [a,b,c,d,e,f] 5=f:=λ_ _ _ _ _ _=>rfl
 have s0: ∀a b c d e f v:Int,List.set [a,b,c,d,e,f] (Int.toNat 0) v=[v,b,c,d,e,f]:=λ_ _ _ _ _ _ _=>rfl
 have s1: ∀a b c d e f v:Int,List.set [a,b,c,d,e,f] (Int.toNat 1) v=[a,v,c,d,e,f]:=λ_ _ _ _ _ _ _=>rfl
 have s2: ∀a b c d e f v:Int,List.set [a,b,c,d,e,f] (Int.toNat 2) v=[a,b,v,d,e,f]:=λ_ _ _ _ _ _ _=>rfl
 have s3: ∀a b c d e f v:Int,List.set [a,b,c,d,e,f] (Int.toNat 3) v=[a,b,c,v,e,f]:=λ_ _ _ _ _ _ _=>rfl
 have s4: ∀a b c d e f v:Int,List.set [a,b,c,d,e,f] (Int.toNat 4) v=[a,b,c,d,v,f]:=λ_ _ _ _ _ _ _=>rfl
 have s5: ∀a b c d e f v:Int,List.set [a,b,c,d,e,f] (Int.toNat 5) v=[a,b,c,d,e,v]:=λ_ _ _ _ _ _ _=>rfl
 have w0:aa (0+1)=1:=rfl;have w1:aa (1+1)=2:=rfl;have w2:aa (2+1)=3:=rfl;have w3:aa (3+1)=4:=rfl;have w4:aa (4+1)=5:=rfl;have w5:aa (5+1)=6:=rfl;simp only[e0,e1,e2,e3,e4,e5];have st: ∀(k:Nat) (x7 x8 x9 aN bf bo y7 y8 y9 zL zM zN i v:Int),0<=i->i<6->rU.f (rd [y7,y8,y9,zL,zM,zN] i) (rd [x7,x8,x9,aN,bf,bo] i)=some v->
  mB.l0 (k+1) x7 x8 x9 aN bf bo y7 y8 y9 zL zM zN i=mB.l0 k x7 x8 x9 aN bf bo (rd (List.set [y7,y8,y9,zL,zM,zN] (Int.toNat i) v) 0) (rd (List.set [y7,y8,y9,zL,zM,zN] (Int.toNat i) v) 1) (rd (List.set [y7,y8,y9,zL,zM,zN] (Int.toNat i) v) 2) (rd (List.set [y7,y8,y9,zL,zM,zN] (Int.toNat i) v) 3) (rd (List.set [y7,y8,y9,zL,zM,zN] (Int.toNat i) v) 4) (rd (List.set [y7,y8,y9,zL,zM,zN] (Int.toNat i) v) 5) (aa (i+1)):=by
  intro k x7 x8 x9 aN bf bo y7 y8 y9 zL zM zN i v h0 h1 hv;rw[mB.l0,af h1,af ⟨h0,h1⟩,af ⟨h0,h1⟩,hv,aG,af ⟨h0,h1⟩]
 obtain⟨k,hk⟩: ∃q,fuel=q+1+1+1+1+1+1+1:=⟨fuel-7,by rw[cD]⟩
 rw[hk];rw[st _ _ _ _ _ _ _ _ _ _ _ _ _ 0 (a.bn+b.bn) U U (by rw[e0,e0];exact zF U U U U)]
 simp only[s0,e0,e1,e2,e3,e4,e5,w0];rw[st _ _ _ _ _ _ _ _ _ _ _ _ _ 1 (a.bB+b.bB) U U (by rw[e1,e1];exact zF U U U U)]
 simp only[s1,e0,e1,e2,e3,e4,e5,w1];rw[st _ _ _ _ _ _ _ _ _ _ _ _ _ 2 (a.bz+b.bz) U U (by rw[e2,e2];exact zF U U U U)]
 simp only[s2,e0,e1,e2,e3,e4,e5,w2];rw[st _ _ _ _ _ _ _ _ _ _ _ _ _ 3 (a.bx+b.bx) U U (by rw[e3,e3];exact zF U U U U)]
 simp only[s3,e0,e1,e2,e3,e4,e5,w3];rw[st _ _ _ _ _ _ _ _ _ _ _ _ _ 4 (a.bE+b.bE) U U (by rw[e4,e4];exact zF U U U U)]
 simp only[s4,e0,e1,e2,e3,e4,e5,w4];rw[st _ _ _ _ _ _ _ _ _ _ _ _ _ 5 (a.bC+b.bC) U U (by rw[e5,e5];exact zF U U U U)]
 simp only[s5,e0,e1,e2,e3,e4,e5,w5];rw[mB.l0,ah U]
structure P8 (m:aL):Prop where
 ok:tK m
 su: ∀c:Int,0<=c->c<m.W*m.H->1<=rd m.C c/\rd m.C c<=255
 lF:m.W*m.H<=1600
structure XJ (c:dM) (b:Int):Prop where
 gs:dD c.aB 0
 lF:c.aB.m.W*c.aB.m.H<=1600
 ES: ∀s:Int,bJ c.aB.m.W c.aB.m.H s->1<=fA c.aB s/\fA c.aB s<=c.aB.bL
 ep:c.aB.bL<=b
 ms:zW c.aB c.eD
 fs:Lu c.aB c.iT
def eT (n:b_):fP:=⟨n.aV.bn+(match n.core with |none=>0 |some c=>c.eD.count)+n.fx.count.bn,n.aV.bB+(match n.core with |none=>0 |some c=>c.iT.count)+n.fx.count.bB,n.aV.bz+n.fx.count.bz,n.aV.bx+n.fx.count.bx,n.aV.bE+n.fx.count.bE,n.aV.bC+n.fx.count.bC⟩
structure iB (n:b_) (k b:Int) (ord:List Int):Prop where
 oA:rk n.fx.keys k ord
 aV:qo n.aV b
 sc:qo n.fx.count b
 z:n.fx.count.bn=0/\n.fx.count.bB=0
 jS:qo (eT n) b
 none_:n.core=none->n.fx.fields=[]/\ord=[]
 core: ∀c,n.core=some c->XJ c b/\c.eD.count<=b/\c.iT.count<=b/\BB c.aB n.fx k ord
def kn (n:b_):fP:=⟨(match n.core with |none=>0 |some c=>c.eD.count),(match n.core with |none=>0 |some c=>c.iT.count),0,0,0,0⟩
section
variable {n : b_} {k b : Int} {ord : List Int}
theorem Rj (n:b_):zk.f n=some (kn n):=by
 unfold zk.f kn
 cases n.core with
 |none=>rfl
 |some c=>rfl
theorem iB.cv (h:iB n k b ord) (hb:0<=b):qo (kn n) b:=by
 unfold kn
 cases hc:n.core with
 |none=>exact⟨⟨Int.le_refl _,hb⟩,⟨Int.le_refl _,hb⟩,⟨Int.le_refl _,hb⟩,⟨Int.le_refl _,hb⟩,⟨Int.le_refl _,hb⟩,⟨Int.le_refl _,hb⟩⟩
 |some c=>
  obtain⟨h1,h2,h3,_⟩:=h.core c hc;exact⟨⟨h1.ms.eA.1,h2⟩,⟨h1.fs.eA.1,h3⟩,⟨Int.le_refl _,hb⟩,⟨Int.le_refl _,hb⟩,⟨Int.le_refl _,hb⟩,⟨Int.le_refl _,hb⟩⟩
theorem aaN {x y:fP} {b c:Int} (hx:qo x b) (hy:qo y c):qo ⟨x.bn+y.bn,x.bB+y.bB,x.bz+y.bz,x.bx+y.bx,x.bE+y.bE,x.bC+y.bC⟩ (b+c):=by
 obtain⟨a1,a2,a3,a4,a5,a6⟩:=hx;obtain⟨b1,b2,b3,b4,b5,b6⟩:=hy;exact⟨by simp only;omega,by simp only;omega,by simp only;omega,by simp only;omega,by simp only;omega,by simp only;omega⟩
theorem Xb (h:iB n k b ord) (hb:0<=b/\b<=100000000000):CE.f n=some (eT n):=by
 have MV:CB=1000000000000:=rfl;have Ga:=h.cv hb.1;unfold CE.f EG.f;rw[Rj,aG,Py (h.aV.mono U) (Ga.mono U),aG,aG,Py ((aaN h.aV Ga).mono U) (h.sc.mono U)];simp[eT,kn]
theorem agn {k:Int} (h1:1<=k) (h2:k<=1000000): ∃n,xD.f k=some (some n)/\iB n k 0 []/\n.core=none/\eT n=⟨0,0,0,0,0,0⟩:=by
 obtain⟨s,e,hs,hf,hc⟩:=ais h1 h2;have hz:qo ⟨0,0,0,0,0,0⟩ 0:=⟨by simp,by simp,by simp,by simp,by simp,by simp⟩
 unfold xD.f;rw[ah U,e];exact⟨_,J,⟨hs,hz,by rw[hc];exact hz,by rw[hc];exact⟨J,J⟩,by simp[eT,hc];exact hz,λ_=>⟨hf,J⟩,λc hc=>by simp at hc⟩,J,by simp[eT,hc]⟩
theorem KC {c:dM} (h:iB n k b ord) (hc:n.core=some c) (x:Int):sT.f n x=some (fK c.aB x):=by
 unfold sT.f;rw[hc]
 show(jc.f c.aB x).bind _=_
 rw[vc (h.core c hc).1.gs];rfl
theorem Vq {c:dM} (hc:n.core=some c):zj.f n=some (c.aB.m.W,c.aB.m.H):=by
 unfold zj.f;rw[hc];rfl
theorem iB.mono {b':Int} (h:iB n k b ord) (hb:b<=b'):iB n k b' ord:=
 ⟨h.oA,h.aV.mono hb,h.sc.mono hb,h.z,h.jS.mono hb,h.none_,λc hc=>by
   obtain⟨h1,h2,h3,h4⟩:=h.core c hc;exact⟨⟨h1.gs,h1.lF,h1.ES,by have:=h1.ep;omega,h1.ms,h1.fs⟩,by omega,by omega,h4⟩⟩
structure Dq (n:b_) (k b:Int) (ord:List Int) (c:dM) (goal s:Int) (r:fZ×Er×b_):Prop where
 err:r.2.1=Er.nil
 B1: ∃R l c' pz,uT c.aB R/\R.goal=goal/\l.length<=1025/\(∀y,y∈l↔yw c.aB R s y)/\l.Pairwise (λa b=> ¬tc b a)/\wJ (fD c.aB.m s) l KF r.1/\
  r.2.2.core=some c'/\c'.aB=c.aB/\c'.iT.kept=some R/\oP c.aB c'.eD/\c'.eD.clean=c.aB.bL/\c'.eD.count=c.eD.count+(mm c.aB c.eD c.eD.parts.length).length/\
  c.iT.count<=c'.iT.count/\c'.iT.count<=c.iT.count+1/\(UO c.aB c.iT goal->c'.iT=c.iT)/\
  iB r.2.2 k (b+5000) pz/\P1 c.aB n.fx k ord goal s l (r.1,0,r.2.2.fx)/\r.2.2.aV=n.aV/\iu.f c.aB R s=some l
theorem Vm {c:dM} (h:iB n k b ord) (hb:0<=b/\b<=100000000000) (hc:n.core=some c) {goal s:Int} (hg:cL c.aB.m goal) (hs:bJ c.aB.m.W c.aB.m.H s):
 Ok (qJ.f n goal s) (Dq n k b ord c goal s):=by
 have MV:CB=1000000000000:=rfl;obtain⟨fR,Ue,NM,y5⟩:=h.core c hc;have hG:=fR.gs;have DW:=MN hG hg;have B9:=Mv c.aB c.eD c.eD.parts.length;have NY:=fR.ms.len_;have NF:=oq c.aB.m.W c.aB.m.H;unfold qJ.f;rw[hc];refine Ok.eq (v:=false) J (Ok.neg bj ?_)
 show Ok ((lW.f c.aB s).bind _) _
 refine Ok.eq ((PG hG s).trans (by rw[Sq hs])) (Ok.eq (vc hG _) (Ok.neg bk ((ahx hG fR.lF (λs hs=>(fR.ES s hs).2) fR.fs fR.ms U U hg).bind λv hv=>?_)))
 obtain⟨R,e1,e2,e3,e4,e5,e6,e7,e8,e9,pS,tV⟩:=hv;rw[e1]
 show Ok ((iu.f c.aB R s).bind _) _
 obtain⟨l,el,l1,l2,l3⟩:=aeT hG fR.lF e3 s;refine Ok.eq el ?_;rw[PQ hG,aG];have aes:=aij hG (λs hs=>(fR.ES s hs).2) y5 (h.sc.mono U) hg hs l U (λx hx=>ah_ hG fR.lF e3 (by rw[e2];exact hg) hs ((l2 x).1 hx))
 refine(aes.bind' (g:=λv32:fZ×Int×jl=>(v32.1.fe,v32.1.cy,v32.2.1,v32.2.2)) λq hq=>?_);have Gl:=hq.code;obtain⟨f,z,sh⟩:=q;simp only at Gl;subst Gl;simp only;refine Ok.neg bj (Ok.pure ⟨J,R,l,⟨c.aB,v.2.2,v.2.1⟩,?_⟩);obtain⟨cc,A,B,g1,g2⟩:=hq.sh;obtain⟨k1,k2,k3,k4,k5,k6,k7,k8,k9⟩:=hq.eA;simp only at g1 g2 k1 k2 k3 k4 k5 k6 k7 k8 k9;obtain⟨s1,s2,s3,s4,s5,s6⟩:=h.sc;refine⟨cc::(A++B),e3,e2,l1,l2,l3,hq.B1,J,J,e4,e9,pS,tV,e6,e7,e8,⟨g1.oA,h.aV.mono U,⟨by simp only;omega,by simp only;omega,by simp only;omega,by simp only;omega,by simp only;omega,by simp only;omega⟩,?_,?_,λz=>by simp at z,λc' gv=>?_⟩,hq,J,el⟩
 ·have:=h.z;simp only;omega
 ·have ht:=h.jS;unfold eT at ht⊢;simp only[hc] at ht;obtain⟨t1,t2,t3,t4,t5,t6⟩:=ht;simp only at t1 t2 t3 t4 t5 t6;exact⟨by simp only;omega,by simp only;omega,by simp only;omega,by simp only;omega,by simp only;omega,by simp only;omega⟩
 ·simp only[Option.some.injEq] at gv;subst gv;exact⟨⟨hG,fR.lF,fR.ES,by have:=fR.ep;simp only;omega,e9.ms,e5⟩,by simp only;omega,by simp only;omega,g1⟩
theorem agj {c:dM} (h:iB n k b ord) (hc:n.core=some c) {goal s:Int} (gF: ¬(cL c.aB.m goal/\bJ c.aB.m.W c.aB.m.H s)):
 qJ.f n goal s=some (⟨[],[]⟩,Er.wrap 222 [goal] (Er.eh 3),n):=by
 obtain⟨fR,Ue,NM,y5⟩:=h.core c hc;unfold qJ.f;rw[hc];simp only[dm,aG,Bool.false_eq_true,if_false];rw[PG fR.gs,aG,vc fR.gs,aG,af]
 by_cases z:cL c.aB.m goal
 ·have: ¬bJ c.aB.m.W c.aB.m.H s:=λy=>gF ⟨z,y⟩
  unfold FP;rw[ah this];simp
 ·unfold fK;rw[ah z];simp
theorem Vl:zm.f Er.nil=some 0:=rfl
theorem af' (g:Int):zm.f (Er.wrap 222 [g] (Er.eh 3))=some 7:=rfl
theorem Vn (h:iB n k b ord): ∃n',xA.f n=some n'/\iB n' k b []/\eT n'=eT n/\n'.aV=n.aV/\n'.fx.count=n.fx.count/\
 ((n.core=none/\n'.core=none)∨ ∃c,n.core=some c/\n'.core=some ⟨c.aB,c.eD,⟨none,c.iT.count⟩⟩):=by
 obtain⟨s,e,hs,hf,kq⟩:=R5 h.oA;unfold xA.f;rw[e,aG]
 cases hc:n.core with
 |none=>
  have vj:eT ⟨none,s,n.aV⟩=eT n:=by simp[eT,kq,hc]
  exact⟨_,J,⟨hs,h.aV,by rw[kq];exact h.sc,by rw[kq];exact h.z,by rw[vj];exact h.jS,λ_=>⟨hf,J⟩,λc hc=>by simp at hc⟩,vj,J,kq,.inl ⟨J,J⟩⟩
 |some c=>
  obtain⟨h1,h2,h3,h4⟩:=h.core c hc;have vj:eT ⟨some ⟨c.aB,c.eD,⟨none,c.iT.count⟩⟩,s,n.aV⟩=eT n:=by simp[eT,kq,hc]
  refine⟨_,J,⟨hs,h.aV,by rw[kq];exact h.sc,by rw[kq];exact h.z,by rw[vj];exact h.jS,λz=>by simp at z,λc' gv=>?_⟩,vj,J,kq,.inr ⟨c,J,J⟩⟩
  ·simp only[Option.some.injEq] at gv;subst gv;exact⟨⟨h1.gs,h1.lF,h1.ES,h1.ep,h1.ms,⟨λR hR=>by simp at hR,h1.fs.eA⟩⟩,h2,h3,BB.empty _ hs hf⟩
theorem agm {c:dM} (h:iB n k b ord) (hc:n.core=some c):vQ.f n=some c.aB.m:=by
 obtain⟨fR,_⟩:=h.core c hc;have:=fR.lF;have:=fR.gs.ok.2.1;unfold vQ.f;rw[hc];simp only[dm];rw[ab2 _ U];rfl
theorem aga {c:dM} (h:iB n k b ord) (hc:n.core=some c):vP.f n=some (mm c.aB c.eD c.eD.parts.length):=by
 obtain⟨fR,_⟩:=h.core c hc;unfold vP.f;rw[hc];simp only[dm];rw[Ru fR.gs fR.ms];rfl
theorem agk (h:iB n k b ord) (hb:0<=b/\b<=100000000000) {m:aL} (hm:P8 m): ∃n' c',xB.f n m=some (0,n')/\n'.core=some c'/\iB n' k (b+1) []/\c'.aB.m=m/\c'.iT=⟨none,0⟩/\eT n'=eT n/\(∀s:Int,bJ m.W m.H s->(rd c'.eD.parts s).version≠fA c'.aB s)/\n'.fx.count=n.fx.count:=by
 have MV:CB=1000000000000:=rfl;have JR:=hm.lF;have hl:=hm.ok.2.1;obtain⟨s,e,hs,hf,kq⟩:=R5 h.oA;have Ga:=h.cv hb.1;have aeE:=Py (h.aV.mono (b':=CB) U) (Ga.mono (b':=CB) U);have key: ∀ep:Int,0<=ep->ep<=b-> ∃n' c',((lX.f m ep).bind λv6=>dm v6 none λyl=>(rK.f yl).bind λv7=>dm v7 none λrf=>(sY.f rf yl).bind λv8=>dm v8 none λEU=>(pH.f n.fx).bind λv9=>some ((0:Int),b_.mk (some (dM.mk yl rf EU)) v9 ⟨n.aV.bn+(kn n).bn,n.aV.bB+(kn n).bB,n.aV.bz+(kn n).bz,n.aV.bx+(kn n).bx,n.aV.bE+(kn n).bE,n.aV.bC+(kn n).bC⟩))=some (0,n')/\n'.core=some c'/\iB n' k (b+1) []/\c'.aB.m=m/\c'.iT=⟨none,0⟩/\eT n'=eT n/\(∀s:Int,bJ m.W m.H s->(rd c'.eD.parts s).version≠fA c'.aB s)/\n'.fx.count=n.fx.count:=by
  intro ep h0 h1;have hgn:Jl m ep=some (bA.mk m (ep+1) (List.replicate (dO m.W m.H).toNat (ep+1))):=by unfold Jl;rw[af ⟨hm.ok,h0,by omega⟩]
  rw[ab3 m ep U,hgn];have NF:=oq m.W m.H;have hG:dD (bA.mk m (ep+1) (List.replicate (dO m.W m.H).toNat (ep+1))) 0:=⟨hm.ok,hm.su,by simp;omega,by simp only;omega⟩
  have N9: ∀s:Int,bJ m.W m.H s->fA (bA.mk m (ep+1) (List.replicate (dO m.W m.H).toNat (ep+1))) s=ep+1:=λs hs=>by
   unfold fA;rw[af hs];simp only;rw[uB hs.1 (by have:=hs.2;omega)]
  obtain⟨M,eM,hM,hM0,_,hMv⟩:=afY hG (λs hs=>by rw[N9 s hs];omega)
  simp only[dm,aG,eM,sY.f,e];have ht:=h.jS;have hz:=h.z;have hpc:qo ⟨n.aV.bn+(kn n).bn,n.aV.bB+(kn n).bB,n.aV.bz+(kn n).bz,n.aV.bx+(kn n).bx,n.aV.bE+(kn n).bE,n.aV.bC+(kn n).bC⟩ (b+1):=by
   obtain⟨t1,t2,t3,t4,t5,t6⟩:=ht;obtain⟨s1,s2,s3,s4,s5,s6⟩:=h.sc;obtain⟨p1,p2,p3,p4,p5,p6⟩:=h.aV;obtain⟨v1,v2,v3,v4,v5,v6⟩:=Ga;simp only[eT] at t1 t2 t3 t4 t5 t6;simp only[kn] at v1 v2 v3 v4 v5 v6⊢;exact⟨by simp only;omega,by simp only;omega,by simp only;omega,by simp only;omega,by simp only;omega,by simp only;omega⟩
  have vj: ∀G,eT ⟨some ⟨G,M,⟨none,0⟩⟩,s,⟨n.aV.bn+(kn n).bn,n.aV.bB+(kn n).bB,n.aV.bz+(kn n).bz,n.aV.bx+(kn n).bx,n.aV.bE+(kn n).bE,n.aV.bC+(kn n).bC⟩⟩=eT n:=λG=>by simp only[eT,kq,hM0,kn];congr 1<;>omega
  refine⟨_,_,J,J,⟨hs,hpc,by rw[kq];exact h.sc.mono U,by rw[kq];exact h.z,by rw[vj];exact ht.mono U,λz=>by simp at z,λc' gv=>?_⟩,J,J,vj _,λs hs=>?_,kq⟩
  ·simp only[Option.some.injEq] at gv;subst gv;refine⟨⟨hG,JR,λs hs=>?_,by simp only;omega,hM,⟨λR hR=>by simp at hR,by simp⟩⟩,by simp only;omega,by simp only;omega,BB.empty _ hs hf⟩
   rw[N9 s hs];simp only;omega
  ·simp only;rw[hMv s hs,N9 s hs];omega
 unfold xB.f;rw[QI m U,decide_eq_true hm.ok];simp only[aG,Bool.not_true,Bool.false_eq_true,if_false];rw[Rj,aG,aeE,aG]
 cases hc:n.core with
 |none=>exact key 0 (Int.le_refl _) hb.1
 |some c=>
  obtain⟨h1,_⟩:=h.core c hc;have:=h1.gs.ep;exact key c.aB.bL U h1.ep
end
end
section
variable {g : bA} {more : Int}
theorem Oi (h:dD g more) {c v:Int} (hc:cL g.m c) {d:Int} (d0:0<=d):rd (mM g c v).m.C d=if d=c then v else rd g.m.C d:=by
 have hl:=h.ok.2.1;exact j5 hc.1 (by rw[hl];exact hc.2) d0
theorem U1 (h:dD g more) {c v:Int} (hc:cL g.m c) {s:Int} (hs:bJ g.m.W g.m.H s) (bM:s≠aW g.m.W g.m.H c):fD (mM g c v).m s=fD g.m s:=by
 have hz:=zC g.m.W g.m.H s
 show aL.mk _ _ _=aL.mk _ _ _
 congr 1
 unfold kF;refine List.map_congr_left λl hl=>?_
 have hl:l<((ax g.m.W g.m.H s).1*(ax g.m.W g.m.H s).2).toNat:=List.mem_range.1 hl;have cn:=Ak hs (l:=(l:Int)) U U;have yZ:=K0 hs (l:=(l:Int)) U U
 show rd (mM g c v).m.C (c_ g.m.W g.m.H s l)=_
 rw[Oi h hc cn.1,ah (λz=>bM (by rw[<-z,yZ]))]
theorem aaD {w h s c:Int} (hc:c∈qQ w h s):0<=c/\bJ w h s/\aW w h c=s:=by
 unfold qQ we at hc;obtain⟨l,hl,rfl⟩:=List.mem_map.mp hc;have hz:=zC w h s;have kl:=List.mem_range.mp (List.mem_filter.mp hl).1;have hs:=Pr (w:=w) (h:=h) (s:=s) (l:=(l:Int)) U U;exact⟨(Ak hs U U).1,hs,K0 hs U U⟩
theorem aft (h:dD g more) {c v:Int} (hc:cL g.m c) {s:Int} (bM:s≠aW g.m.W g.m.H c):bK (mM g c v).m s=bK g.m s:=by
 unfold bK;refine List.filter_congr λd hd=>?_
 obtain⟨d0,_,d2⟩:=aaD hd;have hd2:aW g.m.W g.m.H d=s:=d2;unfold l_;rw[Oi h hc d0,ah (λz=>bM (by rw[<-z];exact hd2.symm))]
 rfl
theorem Kn (h:dD g more) {c v:Int} (hc:cL g.m c) {s:Int} (hs:bJ g.m.W g.m.H s):fA (mM g c v) s=if s=aW g.m.W g.m.H c then g.bL+1 else fA g s:=by
 have nt:=tm (nC h.ok hc);have Uw:=h.vs;have e:fA (mM g c v) s=rd (List.set g.pK (aW g.m.W g.m.H c).toNat (g.bL+1)) s:=by unfold fA;exact af hs
 rw[e,j5 nt.1 (by rw[Uw];exact nt.2) hs.1]
 split
 ·rfl
 ·unfold fA;rw[af hs]
variable {n : b_} {k b : Int} {ord : List Int}
theorem agd {c:dM} (h:iB n k b ord) (hb:0<=b/\b<=100000000000) (hc:n.core=some c) {x v:Int} (hx:cL c.aB.m x) (v1:1<=v) (v2:v<=255):
 ∃n',xz.f n x v=some (0,n')/\n'.core=some ⟨mM c.aB x v,c.eD,c.iT⟩/\n'.fx=n.fx/\n'.aV=n.aV/\iB n' k (b+1) ord/\eT n'=eT n:=by
 obtain⟨fR,Ue,NM,y5⟩:=h.core c hc;have hG:=fR.gs;have NL:=hG.ep;have ajH:=fR.ep;have hG1:dD c.aB 1:=⟨hG.ok,hG.su,hG.vs,by omega⟩
 have hG':=afu hG1 (Int.le_refl 1) hx v1 v2;unfold xz.f;rw[hc];simp only[dm];rw[abo hG];have e:Jk c.aB x v=(0,mM c.aB x v):=by unfold Jk;rw[ah (λq=>q hx),ah U]
 rw[e];have part: ∀s p,bJ c.aB.m.W c.aB.m.H s->s≠aW c.aB.m.W c.aB.m.H x->Bz c.aB.m s p->Bz (mM c.aB x v).m s p:=λs p hs bM hp=>by
  have e1:=aft (v:=v) hG hx bM;have e2:=U1 (v:=v) hG hx hs bM;refine⟨by rw[e1];exact hp.nodes,by rw[e1];exact hp.len_,?_⟩
  rw[e1,e2];exact hp.Rk
 have vj: ∀G,eT ⟨some ⟨G,c.eD,c.iT⟩,n.fx,n.aV⟩=eT n:=λG=>by simp[eT,hc]
 refine⟨_,J,J,J,J,⟨h.oA,h.aV.mono U,h.sc.mono U,h.z,by rw[vj];exact h.jS.mono U,λz=>by simp at z,λc' gv=>?_⟩,vj _⟩
 simp only[Option.some.injEq] at gv;subst gv;have vw:(mM c.aB x v).bL=c.aB.bL+1:=rfl;refine⟨⟨hG',fR.lF,λs hs=>?_,by rw[vw];omega,⟨fR.ms.len_,λs hs=>?_,λs hs e=>?_,λe=>?_,?_,fR.ms.eA⟩,⟨λR hR=>?_,fR.fs.eA⟩⟩,by simp only;omega,by simp only;omega,⟨y5.oA,y5.fl,λd d0 d1=>?_⟩⟩
 ·have fL:bJ c.aB.m.W c.aB.m.H s:=hs;have:=fR.ES s fL;simp only[vw];rw[Kn hG hx fL];split<;>omega
 ·have:=fR.ms.le s hs;simp only[vw];omega
 ·have fL:bJ c.aB.m.W c.aB.m.H s:=hs;have hle:=fR.ms.le s fL;simp only at e⊢;rw[Kn hG hx fL] at e
  by_cases z:s=aW c.aB.m.W c.aB.m.H x
  ·rw[af z] at e;omega
  ·rw[ah z] at e;exact part s _ fL z (fR.ms.ok s fL e)
 ·have:=fR.ms.Mk;simp only[vw] at e;omega
 ·have:=fR.ms.Mk;simp only[vw];omega
 ·obtain⟨k1,k2,k3⟩:=fR.fs.kept R hR;exact⟨k1,by simp only[vw];omega,λe=>by simp only[vw] at e;omega⟩
 ·obtain⟨s1,s2,s3,s4⟩:=y5.ok d d0 d1;refine⟨s1,s2,by simp only[vw];omega,λe=>?_⟩
  simp only at e⊢;rw[Kn hG hx s2] at e
  by_cases z:(rd n.fx.keys.ak d).key.2=aW c.aB.m.W c.aB.m.H x
  ·rw[af z] at e;omega
  ·rw[ah z] at e;have:=s4 e;rw[U1 hG hx s2 z];exact this
theorem agl {c:dM} (h:iB n k b ord) (hb:0<=b/\b<=100000000000) (hc:n.core=some c) (goal x:Int):
 Ok (xC.f n goal x) (λr=>(cL c.aB.m goal/\cL c.aB.m x/\r.2.2.1=0/\ ∃f,Dq n k b ord c goal (aW c.aB.m.W c.aB.m.H x) (f,Er.nil,r.2.2.2)/\r.1=rd f.fe (dw c.aB.m.W c.aB.m.H x)/\r.2.1=rd f.cy (dw c.aB.m.W c.aB.m.H x))∨
  (¬(cL c.aB.m goal/\cL c.aB.m x)/\r.2.2.1=7/\r.2.2.2=n)):=by
 obtain⟨fR,_⟩:=h.core c hc;have hG:=fR.gs;unfold xC.f zl.f;rw[Vq hc,aG,rR,aG];simp only
 by_cases z:cL c.aB.m goal/\cL c.aB.m x
 ·have hs:=tm (nC hG.ok z.2);have l7:=C4 hG z.2;refine Ok.bind (P:=λr=>r.2.2.1=Er.nil/\ ∃f,Dq n k b ord c goal (aW c.aB.m.W c.aB.m.H x) (f,Er.nil,r.2.2.2)/\r.1=rd f.fe (dw c.aB.m.W c.aB.m.H x)/\r.2.1=rd f.cy (dw c.aB.m.W c.aB.m.H x)) ((Vm h hb hc z.1 hs).bind λr hr=>?_) λr hr=>?_
  ·obtain⟨f,e,n'⟩:=r;have he:=hr.err;simp only at he;subst he;obtain⟨R,l,c',pz,_,_,_,_,_,hF,_⟩:=hr.B1;simp only at hF⊢;refine Ok.neg (by simp[Er.isNil]) (Ok.eq (GO ..) (Ok.cx (by rw[hF.aR.dl];exact⟨l7.1,l7.2.1⟩) (Ok.cx (by rw[hF.dl];exact⟨l7.1,l7.2.1⟩) (Ok.pure ⟨J,f,hr,J,J⟩))))
  ·rw[hr.1];exact Ok.eq Vl (Ok.pure (.inl ⟨z.1,z.2,J,hr.2⟩))
 ·have gF: ¬(cL c.aB.m goal/\bJ c.aB.m.W c.aB.m.H (aW c.aB.m.W c.aB.m.H x)):=λy=>z ⟨y.1,by
   have gv:bV c.aB.m.W c.aB.m.H x:=Classical.byContradiction λw=>by
    have:=zA.2 w;have:=y.2.1;omega
   exact gv.2⟩
  rw[agj h hc gF];refine Ok.bind (P:=λr=>r.2.2.1=Er.wrap 222 [goal] (Er.eh 3)/\r.2.2.2=n) (Ok.eq J (Ok.pos J (Ok.pure ⟨J,J⟩))) λr hr=>?_
  rw[hr.1];exact Ok.eq (af' goal) (Ok.pure (.inr ⟨z,J,hr.2⟩))
end
def Lv (w h:Int) (l:List aF) (j:Int):Prop:=
 (if j=0 then-1 else(rd l (j-1)).Id)<(rd l j).Id/\bV w h (rd l j).Cell/\bV w h (rd l j).Goal/\ ∀q,0<=q->q<j->(rd l q).Cell≠(rd l j).Cell
def ie (w h:Int) (l:List aF):Prop:=iA w h/\ ∀j:Int,0<=j->j<l.length->Lv w h l j
theorem afM {w h:Int} {l:List aF} (hb:l.length<=4611686018427387000): ∀(n k:Nat) (i:Int) (m:List (Int×Bool)),i+n=l.length->0<=i->n<k->
 (∀c,aP m c=true↔ ∃q,0<=q/\q<i/\(rd l q).Cell=c)->
 ∃r,pB.l0 k w h l (if i=0 then-1 else(rd l (i-1)).Id) m i=some r/\(r=true↔ ∀j,i<=j->j<l.length->Lv w h l j):=by
 intro n
 induction n with
 |zero=>
  intro k i m hi h0 hk hm;obtain⟨k,rfl⟩:=bl hk;exact⟨true,by rw[pB.l0,ah U],⟨λ_ j j0 j1=>by omega,λ_=>rfl⟩⟩
 |succ n ih=>
  intro k i m hi h0 hk hm;obtain⟨k,rfl⟩:=bl hk;rw[pB.l0,af U,af U];simp only[rR,aG]
  by_cases g:Lv w h l i
  ·obtain⟨g1,g2,g3,g4⟩:=g;have Cd:aP m (rd l i).Cell=false:=by
    rw[Bool.eq_false_iff];intro q;obtain⟨z,z0,z1,z2⟩:=(hm _).1 q;exact g4 z z0 z1 z2
   have s1: ¬aW w h (rd l i).Cell<0:=λq=>zA.1 q g2
   have s2: ¬aW w h (rd l i).Goal<0:=λq=>zA.1 q g3
   rw[ah U,ah s1,ah s2,Cd];simp only[aG,Bool.false_eq_true,if_false];rw[wi U U];obtain⟨r,r1,r2⟩:=ih k (i+1) (cC m (rd l i).Cell true) U U U (λc=>by
    rw[uv]
    by_cases e:(rd l i).Cell=c
    ·rw[af e];exact⟨λ_=>⟨i,h0,by omega,e⟩,λ_=>rfl⟩
    ·rw[ah e,hm c];constructor
     ·rintro⟨q,q0,q1,q2⟩;exact⟨q,q0,by omega,q2⟩
     ·rintro⟨q,q0,q1,q2⟩
      by_cases z:q=i
      ·subst z;exact absurd q2 e
      ·exact⟨q,q0,by omega,q2⟩)
   rw[ah U,show i+1-1=i by omega] at r1
   refine⟨r,r1,r2.trans ⟨λq j j0 j1=>?_,λq j j0 j1=>q j U j1⟩⟩
   by_cases z:j=i
   ·subst z;exact⟨g1,g2,g3,g4⟩
   ·exact q j U j1
  ·have hf: ∀last,last=(if i=0 then-1 else(rd l (i-1)).Id)->((if(rd l i).Id<=last then(some true) else(if aW w h (rd l i).Cell<0 then(some true) else(if aW w h (rd l i).Goal<0 then(some true) else(some (aP m (rd l i).Cell))))):Option Bool)=some true:=by
    intro last hla
    by_cases a:(rd l i).Id<=last
    ·rw[af a]
    ·rw[ah a]
     by_cases b:aW w h (rd l i).Cell<0
     ·rw[af b]
     ·rw[ah b]
      by_cases c:aW w h (rd l i).Goal<0
      ·rw[af c]
      ·rw[ah c]
       congr 1
       rw[hm];refine Classical.byContradiction λq=>g ⟨by rw[<-hla];omega,Classical.byContradiction λz=>b (zA.2 z),Classical.byContradiction λz=>c (zA.2 z),λz z0 z1 z2=>q ⟨z,z0,z1,z2⟩⟩
   rw[hf _ J];simp only[aG,if_true];exact⟨false,J,⟨λq=>(by cases q),λq=>absurd (q i U U) g⟩⟩
theorem VQ {w h:Int} {l:List aF} (hb:l.length<=4611686018427387000): ∃r,pB.f w h l=some r/\(r=true↔ie w h l):=by
 unfold pB.f;rw[AM,aG]
 by_cases hm:iA w h
 ·rw[ah (by simpa using hm)]
  obtain⟨r,r1,r2⟩:=afM (w:=w) (h:=h) hb l.length fuel 0 [] U U (by rw[cD];omega) (λc=>by
   constructor
   ·intro q;simp[aP,cW] at q
   ·rintro⟨q,q0,q1,_⟩;omega)
  rw[af J] at r1;exact⟨r,r1,r2.trans ⟨λq=>⟨hm,q⟩,λq=>q.2⟩⟩
 ·rw[af (by rw[decide_eq_false hm];rfl)]
  exact⟨false,J,⟨λq=>(by cases q),λq=>absurd q.1 hm⟩⟩
theorem ie.cell {w h:Int} {l:List aF} (hm:ie w h l) {j:Int} (j0:0<=j) (j1:j<l.length):bV w h (rd l j).Cell:=(hm.2 j j0 j1).2.1
theorem ie.apart {w h:Int} {l:List aF} (hm:ie w h l) {i j:Int} (i0:0<=i) (i1:i<l.length) (j0:0<=j) (j1:j<l.length) (rG:i≠j):(rd l i).Cell≠(rd l j).Cell:=by
 rcases Int.lt_or_gt_of_ne rG with q |q
 ·exact(hm.2 j j0 j1).2.2.2 i i0 q
 ·exact λe=>(hm.2 i i0 i1).2.2.2 j j0 q e.symm
theorem ie.ids {w h:Int} {l:List aF} (hm:ie w h l): ∀(n:Nat) (i j:Int),j=i+n->0<=i->0<n->j<l.length->(rd l i).Id<(rd l j).Id:=by
 intro n
 induction n with
 |zero=>intro i j _ _ h;omega
 |succ n ih=>
  intro i j hj i0 _ j1;have h1:=(hm.2 j U j1).1;rw[ah U] at h1
  by_cases hn:n=0
  ·have:j-1=i:=U;rw[this] at h1;exact h1
  ·have:=ih i (j-1) U i0 U U;omega
theorem ie.Ck {w h:Int} {l:List aF} (hm:ie w h l) {i j:Int} (i0:0<=i) (rG:i<j) (j1:j<l.length):(rd l i).Id<(rd l j).Id:=
 hm.ids (j-i).toNat i j U i0 U j1
def ua:List Int->List aF->List Int
 |acc,[]=>acc
 |acc,u::r=>ua (if u.Goal∈acc then acc else acc++[u.Goal]) r
def lV (l:List aF):List Int:=ua [] l
theorem Se: ∀(l:List aF) (acc:List Int),(ua acc l).length<=acc.length+l.length
 |[],acc=>by simp[ua]
 |u::r,acc=>by
  have:=Se r (if u.Goal∈acc then acc else acc++[u.Goal])
  simp only[ua,List.length_cons];split at this<;>rename_i h
  ·rw[af h];omega
  ·rw[ah h];simp only[List.length_append,List.length_cons,List.length_nil] at this;omega
theorem Sf: ∀(l:List aF) (acc:List Int) (g:Int),g∈ua acc l↔g∈acc∨ ∃u∈l,u.Goal=g
 |[],acc,g=>by simp[ua]
 |u::r,acc,g=>by
  simp only[ua];rw[Sf r _ g]
  by_cases h:u.Goal∈acc
  ·rw[af h];constructor
   ·rintro(q |⟨x,x1,x2⟩)
    ·exact .inl q
    ·exact .inr ⟨x,List.mem_cons_of_mem _ x1,x2⟩
   ·rintro(q |⟨x,x1,x2⟩)
    ·exact .inl q
    ·rcases List.mem_cons.1 x1 with rfl |x1
     ·exact .inl (x2▸h)
     ·exact .inr ⟨x,x1,x2⟩
  ·rw[ah h];constructor
   ·rintro(q |⟨x,x1,x2⟩)
    ·rcases List.mem_append.1 q with q |q
     ·exact .inl q
     ·exact .inr ⟨u,List.mem_cons_self ..,(List.mem_singleton.1 q).symm⟩
    ·exact .inr ⟨x,List.mem_cons_of_mem _ x1,x2⟩
   ·rintro(q |⟨x,x1,x2⟩)
    ·exact .inl (List.mem_append_left _ q)
    ·rcases List.mem_cons.1 x1 with rfl |x1
     ·exact .inl (List.mem_append_right _ (by simp[x2]))
     ·exact .inr ⟨x,x1,x2⟩
theorem Sg: ∀(l:List aF) (acc:List Int),acc.Nodup->(ua acc l).Nodup
 |[],acc,h=>h
 |u::r,acc,h=>by
  simp only[ua];refine Sg r _ ?_;split
  ·exact h
  ·rename_i q;rw[List.nodup_append];exact⟨h,by simp,λa ha b hb=>by simp at hb;subst hb;intro e;subst e;exact q ha⟩
theorem Si (l:List aF):(lV l).length<=l.length:=by
 have:=Se l [];unfold lV;simpa using this
theorem MQ (l:List aF):(lV l).Nodup:=Sg l [] List.nodup_nil
theorem Sj (l:List aF) (g:Int):g∈lV l↔ ∃u∈l,u.Goal=g:=by
 have:=Sf l [] g;unfold lV;simpa using this
theorem agM {l:List aF} (hb:l.length<=1000000): ∀(n k:Nat) (i:Int) (acc:List Int) (m:List (Int×Bool)),i+n=l.length->0<=i->n<k->(acc.length:Int)<=i->
 (∀c,aP m c=true↔c∈acc)->nJ.l0 k l acc m i=some (ua acc (l.drop i.toNat)):=by
 intro n
 induction n with
 |zero=>
  intro k i acc m hi h0 hk ha hm;obtain⟨k,rfl⟩:=bl hk;rw[nJ.l0,ah U,List.drop_of_length_le U];rfl
 |succ n ih=>
  intro k i acc m hi h0 hk ha hm;obtain⟨k,rfl⟩:=bl hk;rw[nJ.l0,af U,af U,BV h0 U];simp only[ua]
  by_cases h:(rd l i).Goal∈acc
  ·rw[ah (by rw[(hm _).2 h];decide),af h,wi U U]
   exact ih k (i+1) acc m U U U U hm
  ·have:aP m (rd l i).Goal=false:=by rw[Bool.eq_false_iff];exact λq=>h ((hm _).1 q)
   rw[af (by rw[this];rfl),ah h,af U,wi U U]
   refine ih k (i+1) _ _ U U U bk (λc=>?_);rw[uv]
   by_cases e:(rd l i).Goal=c
   ·rw[af e];simp[e]
   ·rw[ah e,hm c];simp[Ne.symm e]
theorem agL {l:List aF} (hb:l.length<=1000000):nJ.f l=some (lV l):=by
 unfold nJ.f;have:=agM hb l.length fuel 0 [] [] U U (by rw[cD];omega) bj (λc=>by simp[aP,cW])
 unfold lV;simpa using this
def jo:List cj->Int->Int->Int->List cj
 |[],g,s,id=>[⟨g,s,[id]⟩]
 |p::r,g,s,id=>if p.eU=s then⟨p.Goal,p.eU,p.cT++[id]⟩::r else p::jo r g s id
def ft:List cj->Int->Nat
 |[],_=>0
 |p::r,s=>if p.eU=s then 0 else ft r s+1
def gf (w h g:Int):List aF->List cj->List cj
 |[],ps=>ps
 |u::r,ps=>gf w h g r (if u.Goal=g then jo ps g (aW w h u.Cell) u.Id else ps)
def jL (w h:Int) (l:List aF):List cj:=(lV l).flatMap λg=>gf w h g l []
theorem rd0 {α:Type} [Inhabited α] (x:α) (l:List α):rd (x::l) 0=x:=rfl
theorem OW {α:Type} [Inhabited α] (x:α) (l:List α) (n:Nat):rd (x::l) ((n+1:Nat):Int)=rd l (n:Int):=OX x l n
theorem OP: ∀(ps:List cj) (s:Int),ft ps s<=ps.length
 |[],_=>by simp[ft]
 |p::r,s=>by have:=OP r s;simp only[ft,List.length_cons];split<;>omega
theorem Qe: ∀(ps:List cj) (g s id:Int),ft ps s<ps.length->
 jo ps g s id=ps.set (ft ps s) ⟨(rd ps (ft ps s:Int)).Goal,(rd ps (ft ps s:Int)).eU,(rd ps (ft ps s:Int)).cT++[id]⟩
 |[],_,_,_,h=>by simp at h
 |p::r,g,s,id,h=>by
  simp only[jo,ft]
  by_cases e:p.eU=s
  ·rw[af e,af e];rfl
  ·simp only[ft,ah e,List.length_cons] at h;rw[ah e,ah e,Qe r g s id U,OW];rfl
theorem Qh: ∀(ps:List cj) (g s id:Int),ft ps s=ps.length->jo ps g s id=ps++[⟨g,s,[id]⟩]
 |[],_,_,_,_=>rfl
 |p::r,g,s,id,h=>by
  simp only[jo]
  by_cases e:p.eU=s
  ·simp only[ft,af e,List.length_cons] at h;omega
  ·simp only[ft,ah e,List.length_cons] at h;rw[ah e,Qh r g s id U];rfl
theorem Qg: ∀(ps:List cj) (g s id:Int),(jo ps g s id).length<=ps.length+1/\ps.length<=(jo ps g s id).length
 |[],_,_,_=>by simp[jo]
 |p::r,g,s,id=>by have:=Qg r g s id;simp only[jo];split<;>simp<;>omega
def kX:List cj->Nat
 |[]=>0
 |p::r=>p.cT.length+kX r
theorem agI (a b:List cj):kX (a++b)=kX a+kX b:=by
 induction a with
 |nil=>simp[kX]
 |cons p r ih=>simp[kX,ih];omega
theorem LP: ∀(ps:List cj) (g s id:Int),kX (jo ps g s id)=kX ps+1
 |[],_,_,_=>by simp[jo,kX]
 |p::r,g,s,id=>by have:=LP r g s id;simp only[jo];split<;>simp[kX]<;>omega
theorem VO: ∀(ps:List cj) (i:Int),0<=i->i<ps.length->(rd ps i).cT.length<=kX ps:=by
 intro ps
 induction ps with
 |nil=>intro i h0 h1;simp at h1;omega
 |cons p r ih=>
  intro i h0 h1;simp only[List.length_cons] at h1
  by_cases e:i=0
  ·subst e;rw[rd0];simp[kX]
  ·have:=ih (i-1) U U;have e2:i=(((i-1).toNat+1:Nat):Int):=U;rw[e2,OW,show(((i-1).toNat:Nat):Int)=i-1 by omega]
   simp only[kX];omega
theorem Sl (w h g:Int): ∀(l m:List aF) (ps:List cj),gf w h g (l++m) ps=gf w h g m (gf w h g l ps)
 |[],m,ps=>rfl
 |u::r,m,ps=>by simp only[List.cons_append,gf];exact Sl w h g r m _
theorem MT (w h g:Int): ∀(l:List aF) (ps:List cj),(gf w h g l ps).length<=ps.length+l.length/\kX (gf w h g l ps)<=kX ps+l.length
 |[],ps=>by simp[gf]
 |u::r,ps=>by
  have h1:=MT w h g r (if u.Goal=g then jo ps g (aW w h u.Cell) u.Id else ps)
  have h2:=Qg ps g (aW w h u.Cell) u.Id;have h3:=LP ps g (aW w h u.Cell) u.Id;simp only[gf,List.length_cons]
  by_cases e:u.Goal=g
  ·rw[af e] at h1⊢;omega
  ·rw[ah e] at h1⊢;omega
structure PI (w h:Int) (l:List aF) (i:Int) (m:List (Int×List cj)) (at':List ((Int×Int)×Int)):Prop where
 of: ∀g,aP m g=gf w h g (l.take i.toNat) []
 has: ∀g s,bN at' (g,s)=true↔ft (gf w h g (l.take i.toNat) []) s<(gf w h g (l.take i.toNat) []).length
 place: ∀g s,bN at' (g,s)=true->aP at' (g,s)=(ft (gf w h g (l.take i.toNat) []) s:Int)
theorem VL: ∀(ps:List cj) (g s:Int) (ids:List Int) (t:Int),ft ps s=ps.length->ft (ps++[⟨g,s,ids⟩]) t=if t=s then ps.length else ft ps t+if ft ps t=ps.length then 1 else 0:=by
 intro ps
 induction ps with
 |nil=>intro g s ids t h;simp[ft];split<;>split<;>(try omega)<;>simp_all
 |cons p r ih=>
  intro g s ids t h
  by_cases e:p.eU=s
  ·simp only[ft,af e,List.length_cons] at h;omega
  ·simp only[ft,ah e,List.length_cons] at h;have hih:=ih g s ids t U;rw[List.cons_append,List.length_cons]
   by_cases y:p.eU=t
   ·have a1:ft (p::(r++[(⟨g,s,ids⟩:cj)])) t=0:=af y;have a2:ft (p::r) t=0:=af y;have z: ¬t=s:=λq=>e (y.trans q);rw[a1,a2,ah z,ah U]
   ·have a1:ft (p::(r++[(⟨g,s,ids⟩:cj)])) t=ft (r++[(⟨g,s,ids⟩:cj)]) t+1:=ah y;have a2:ft (p::r) t=ft r t+1:=ah y;rw[a1,a2,hih]
    by_cases z:t=s
    ·rw[af z,af z]
    ·rw[ah z,ah z]
     by_cases x:ft r t=r.length
     ·rw[af x,af U]
     ·rw[ah x,ah U]
theorem VM: ∀(ps:List cj) (j:Nat) (q:cj) (t:Int),j<ps.length->q.eU=(rd ps (j:Int)).eU->ft (ps.set j q) t=ft ps t:=by
 intro ps
 induction ps with
 |nil=>intro j q t h;simp at h
 |cons p r ih=>
  intro j q t h hq
  cases j with
  |zero=>simp only[List.set_cons_zero,ft];rw[hq];rfl
  |succ j=>
   simp only[List.set_cons_succ,ft];rw[ih j q t (by simpa using h) (by rw[OW] at hq;exact hq)]
theorem afT {m:List (Int×List cj)} {g:Int} (h:aP m g≠[]):bN m g=true:=by
 unfold bN;unfold aP at h
 cases e:cW m g with
 |none=>rw[e] at h;exact absurd J h
 |some _=>rfl
theorem Vh {m:List (Int×List cj)} {g:Int} (v:List cj) (h:bN m g=true) (g':Int):aP (sP m g v) g'=if g=g' then v else aP m g':=by
 unfold sP;rw[af h,uv]
theorem aiZ {w h:Int} {l:List aF} {i:Int} (h0:0<=i) (h1:i<l.length) (g:Int):
 gf w h g (l.take (i+1).toNat) []=if(rd l i).Goal=g then jo (gf w h g (l.take i.toNat) []) g (aW w h (rd l i).Cell) (rd l i).Id else gf w h g (l.take i.toNat) []:=by
 rw[HS h0 h1,Sl];rfl
theorem pl1 {w h:Int} {l:List aF} (hb:l.length<=1000000) {m:List (Int×List cj)} (hm: ∀g,aP m g=gf w h g l []): ∀(n k:Nat) (i:Int) (gone:List Int) (out:List cj),i+n=(lV l).length->0<=i->n<k->
 (∀g,g∈gone↔g∈(lV l).take i.toNat)->(out.length:Int)<=i*1000000->j4.l1 k (lV l) m gone out i=some (out++((lV l).drop i.toNat).flatMap λg=>gf w h g l []):=by
 have hg:=Si l;have qD:=MQ l;intro n
 induction n with
 |zero=>
  intro k i gone out hi h0 hk ho hl;obtain⟨k,rfl⟩:=bl hk;rw[j4.l1,ah U,List.drop_of_length_le U];simp
 |succ n ih=>
  intro k i gone out hi h0 hk ho hl;obtain⟨k,rfl⟩:=bl hk;have hlen:=MT w h (rd (lV l) i) l [];simp only[List.length_nil,Nat.zero_add,show kX ([]:List cj)=0 from rfl] at hlen
  have hmul:i*1000000+1000000<=1000000000000:=U;rw[j4.l1,af U,af U,af,hm,af U,wi U U,BV h0 U]
  ·rw[ih k (i+1) _ _ U U U ?_ ?_]
   ·simp
   ·intro g;rw[HS h0 U];simp only[List.mem_cons,List.mem_append,List.not_mem_nil,or_false,ho g];exact or_comm
   ·simp only[List.length_append];omega
  ·rw[ho];intro cn;obtain⟨j,j0,j1,j2⟩:=jI cn;simp only[List.length_take] at j1;have e1:rd ((lV l).take i.toNat) j=rd (lV l) j:=by
    unfold rd;rw[List.getD_eq_getElem?_getD,List.getD_eq_getElem?_getD,List.getElem?_take_of_lt U]
   rw[e1] at j2;have:=uz qD (i:=j) (j:=i) j0 U U;exact this j2
theorem pl0 {w h:Int} {l:List aF} (hb:l.length<=1000000): ∀(n k:Nat) (i:Int) (m:List (Int×List cj)) (at':List ((Int×Int)×Int)),i+n=l.length->0<=i->n<k->
 PI w h l i m at'->j4.l0 k w h l m at' i=some (jL w h l):=by
 intro n
 induction n with
 |zero=>
  intro k i m at' hi h0 hk hp;obtain⟨k,rfl⟩:=bl hk;rw[j4.l0,ah U,agL hb,aG];have hg:=Si l;have:=pl1 (w:=w) (h:=h) hb (m:=m) (λg=>by rw[hp.of g,List.take_of_length_le U]) (lV l).length fuel 0 [] [] U U (by rw[cD];omega) (λg=>by simp) bj
  simpa[jL] using this
 |succ n ih=>
  intro k i m at' hi h0 hk hp;obtain⟨k,rfl⟩:=bl hk;rw[j4.l0,af U,af U,rR,aG];have AA:=hp.of;have hlen:=λg=>MT w h g (l.take i.toNat) [];simp only[List.length_nil,Nat.zero_add,List.length_take] at hlen;generalize hg:(rd l i).Goal=g0 at*;generalize hs:aW w h (rd l i).Cell=s0 at*;have hL:=hlen g0;generalize oy:gf w h g0 (l.take i.toNat) []=ps at*;have hT: ∀g,gf w h g (l.take (i+1).toNat) []=if g0=g then jo ps g0 s0 (rd l i).Id else gf w h g (l.take i.toNat) []:=λg=>by
   rw[aiZ h0 U,hg,hs]
   by_cases e:g0=g
   ·subst e;rw[af rfl,af rfl,oy]
   ·rw[ah e,ah e]
  have ajP:kX ([]:List cj)=0:=rfl
  by_cases Av:bN at' (g0,s0)=true
  ·have cn:=(hp.has g0 s0).1 Av;have mP:=hp.place g0 s0 Av;rw[oy] at cn mP;rw[ah (by rw[Av];decide)]
   simp only[aG];rw[mP,AA g0,oy,af U];have D3:=VO ps (ft ps s0) U U;rw[af U];simp only[aG];rw[wi U U];have NW:bN m g0=true:=afT (by rw[AA g0,oy];intro e;rw[e] at cn;simp at cn)
   have ea:=Qe ps g0 s0 (rd l i).Id cn;rw[show((ft ps s0:Int)).toNat=ft ps s0 by omega]
   refine ih k (i+1) _ _ U U U ⟨λg=>?_,λg s=>?_,λg s hh=>?_⟩
   ·rw[Vh _ NW,hT]
    by_cases e:g0=g
    ·rw[af e,af e,ea]
    ·rw[ah e,ah e,AA]
   ·rw[hT]
    by_cases e:g0=g
    ·subst e;rw[af J,ea,VM _ _ _ _ cn (by rfl),List.length_set,hp.has g0 s,oy]
    ·rw[ah e,hp.has]
   ·rw[hT]
    by_cases e:g0=g
    ·subst e;rw[af J,ea,VM _ _ _ _ cn (by rfl),hp.place g0 s hh,oy]
    ·rw[ah e,hp.place _ _ hh]
  ·have N1:ft ps s0=ps.length:=by
    have h1:=OP ps s0;have h2: ¬ft ps s0<ps.length:=λq=>Av ((hp.has g0 s0).2 (by rw[oy];exact q))
    omega
   have Aw:bN at' (g0,s0)=false:=by rw[Bool.eq_false_iff];exact Av
   rw[af (by rw[Aw];rfl),AA g0,oy,af U]
   simp only[aG,uv,if_true];have hr:rd (ps++[(⟨g0,s0,[]⟩:cj)]) (ps.length:Int)=⟨g0,s0,[]⟩:=by rw[OY U U,af J]
   rw[hr,af bk,af bj];simp only[aG];rw[wi U U];have NW:bN (cC m g0 (ps++[(⟨g0,s0,[]⟩:cj)])) g0=true:=by rw[Ej];simp
   have ea:=Qh ps g0 s0 (rd l i).Id N1;have es:List.set (ps++[(⟨g0,s0,[]⟩:cj)]) (Int.toNat (ps.length:Int)) ⟨g0,s0,[]++[(rd l i).Id]⟩=ps++[⟨g0,s0,[(rd l i).Id]⟩]:=by
    rw[show((ps.length:Int)).toNat=ps.length by omega,List.set_append_right _ _ U];simp
   rw[es];refine ih k (i+1) _ _ U U U ⟨λg=>?_,λg s=>?_,λg s hh=>?_⟩
   ·rw[Vh _ NW,hT]
    by_cases e:g0=g
    ·rw[af e,af e,ea]
    ·rw[ah e,ah e,uv,ah e,AA]
   ·rw[hT,Ej]
    by_cases e:g0=g
    ·subst e;rw[af J,ea,VL _ _ _ _ _ N1,List.length_append]
     by_cases z:s=s0
     ·subst z;simp
     ·have h1:=hp.has g0 s;have h2:=OP ps s;rw[oy] at h1;rw[ah z];simp only[Prod.mk.injEq,true_and,List.length_cons,List.length_nil,Bool.or_eq_true,decide_eq_true_eq,h1]
      by_cases y:ft ps s=ps.length
      ·rw[af y];omega
      ·rw[ah y];omega
    ·rw[ah e,<-hp.has];simp[e]
   ·rw[hT,uv]
    by_cases e:g0=g
    ·subst e;rw[af J,ea,VL _ _ _ _ _ N1]
     by_cases z:s=s0
     ·subst z;simp
     ·have bM: ¬((g0,s0)=(g0,s)):=λq=>z (Prod.mk.inj q).2.symm;rw[ah bM,ah z];rw[Ej] at hh;simp only[bM,decide_false,Bool.false_or] at hh;have h1:=(hp.has g0 s).1 hh;rw[oy] at h1;rw[hp.place _ _ hh,oy,ah U];rfl
    ·have bM: ¬((g0,s0)=(g,s)):=λq=>e (Prod.mk.inj q).1;rw[ah e,ah bM];rw[Ej] at hh;simp only[bM,decide_false,Bool.false_or] at hh;exact hp.place _ _ hh
theorem agQ {w h:Int} {l:List aF} (hb:l.length<=1000000) (hm:ie w h l):j4.f w h l=some (jL w h l):=by
 obtain⟨r,r1,r2⟩:=VQ (w:=w) (h:=h) (l:=l) U;unfold j4.f;rw[r1,aG,ah (by rw[r2.2 hm];decide)]
 exact pl0 hb l.length fuel 0 [] [] U U (by rw[cD];omega) ⟨λg=>by simp[aP,cW,gf];rfl,λg s=>by simp[bN,cW,gf,ft],λg s hh=>by simp[bN,cW] at hh⟩
structure GI (w h g:Int) (l:List aF) (ps:List cj):Prop where
 goal: ∀p∈ps,p.Goal=g
 apart:ps.Pairwise λa b=>a.eU≠b.eU
 some_: ∀p∈ps,p.cT≠[]
 of: ∀p∈ps,∀id∈p.cT,∃u∈l,u.Id=id/\u.Goal=g/\aW w h u.Cell=p.eU
 up: ∀p∈ps,p.cT.Pairwise (· < ·)
theorem Fi: ∀(ps:List cj) (g s id:Int) (p:cj),p∈jo ps g s id->p∈ps∨p=⟨g,s,[id]⟩∨ ∃q∈ps,q.eU=s/\p=⟨q.Goal,q.eU,q.cT++[id]⟩
 |[],g,s,id,p,h=>by simp only[jo,List.mem_singleton] at h;exact .inr (.inl h)
 |q::r,g,s,id,p,h=>by
  simp only[jo] at h;split at h
  ·rename_i e;rcases List.mem_cons.1 h with h |h
   ·exact .inr (.inr ⟨q,List.mem_cons_self ..,e,h⟩)
   ·exact .inl (List.mem_cons_of_mem _ h)
  ·rcases List.mem_cons.1 h with h |h
   ·exact .inl (h▸List.mem_cons_self ..)
   ·rcases Fi r g s id p h with h |h |⟨z,h1,h2⟩
    ·exact .inl (List.mem_cons_of_mem _ h)
    ·exact .inr (.inl h)
    ·exact .inr (.inr ⟨z,List.mem_cons_of_mem _ h1,h2⟩)
theorem Qi: ∀(ps:List cj) (g s id:Int),(jo ps g s id).map (·.eU)=if s∈ps.map (·.eU) then ps.map (·.eU) else ps.map (·.eU)++[s]
 |[],g,s,id=>by simp[jo]
 |q::r,g,s,id=>by
  have:=Qi r g s id;simp only[jo]
  by_cases e:q.eU=s
  ·rw[af e];simp[e]
  ·rw[ah e];simp only[List.map_cons,this,List.mem_cons]
   by_cases z:s∈r.map (·.eU)
   ·rw[af z,af (.inr z)]
   ·rw[ah z,ah (by rintro(y |y);exact e y.symm;exact z y)];rfl
theorem GI.step {w h g:Int} {l:List aF} {ps:List cj} {u:aF} (hi:GI w h g l ps) (hu: ∀x∈l,x.Id<u.Id) (hg:u.Goal=g):GI w h g (l++[u]) (jo ps g (aW w h u.Cell) u.Id):=by
 refine⟨λp hp=>?_,?_,λp hp=>?_,λp hp id mo=>?_,λp hp=>?_⟩
 ·rcases Fi _ _ _ _ _ hp with q |q |⟨z,z1,z2,z3⟩
  ·exact hi.goal p q
  ·rw[q]
  ·rw[z3];exact hi.goal z z1
 ·have h1:(ps.map (·.eU)).Pairwise (· ≠ ·):=List.pairwise_map.2 hi.apart;have h2:((jo ps g (aW w h u.Cell) u.Id).map (·.eU)).Pairwise (· ≠ ·):=by
   rw[Qi];split
   ·exact h1
   ·rename_i z;rw[List.pairwise_append];exact⟨h1,by simp,λa ha b hb=>by simp at hb;subst hb;intro e;subst e;exact z ha⟩
  exact List.pairwise_map.1 h2
 ·rcases Fi _ _ _ _ _ hp with q |q |⟨z,z1,z2,z3⟩
  ·exact hi.some_ p q
  ·rw[q];simp
  ·rw[z3];simp
 ·rcases Fi _ _ _ _ _ hp with q |q |⟨z,z1,z2,z3⟩
  ·obtain⟨x,x1,x2⟩:=hi.of p q id mo;exact⟨x,List.mem_append_left _ x1,x2⟩
  ·subst q;simp only[List.mem_singleton] at mo;exact⟨u,by simp,mo.symm,hg,J⟩
  ·subst z3;rcases List.mem_append.1 mo with y |y
   ·obtain⟨x,x1,x2⟩:=hi.of z z1 id y;exact⟨x,List.mem_append_left _ x1,x2⟩
   ·simp only[List.mem_singleton] at y;exact⟨u,by simp,y.symm,hg,z2.symm⟩
 ·rcases Fi _ _ _ _ _ hp with q |q |⟨z,z1,z2,z3⟩
  ·exact hi.up p q
  ·rw[q];simp
  ·rw[z3];simp only;rw[List.pairwise_append];refine⟨hi.up z z1,by simp,λa ha b hb=>?_⟩
   simp at hb;subst hb;obtain⟨x,x1,x2,_⟩:=hi.of z z1 a ha;rw[<-x2];exact hu x x1
theorem GI.more {w h g:Int} {l:List aF} {ps:List cj} (hi:GI w h g l ps) (m:List aF):GI w h g (l++m) ps:=
 ⟨hi.goal,hi.apart,hi.some_,λp hp id mo=>by
   obtain⟨x,x1,x2⟩:=hi.of p hp id mo;exact⟨x,List.mem_append_left _ x1,x2⟩,hi.up⟩
theorem MR {w h g:Int}: ∀(m l:List aF) (ps:List cj),GI w h g l ps->((l++m).map (·.Id)).Pairwise (· < ·)->GI w h g (l++m) (gf w h g m ps)
 |[],l,ps,hi,_=>by simpa[gf] using hi
 |u::r,l,ps,hi,hp=>by
  have hu: ∀x∈l,x.Id<u.Id:=λx hx=>by
   rw[List.map_append,List.pairwise_append] at hp;exact hp.2.2 _ (List.mem_map_of_mem hx) _ bj
  have e:l++u::r=(l++[u])++r:=by simp
  rw[e] at hp⊢;simp only[gf]
  by_cases hg:u.Goal=g
  ·rw[af hg];exact MR r _ _ (hi.step hu hg) hp
  ·rw[ah hg];exact MR r _ _ (hi.more [u]) hp
theorem Sm {w h g:Int}: ∀(m:List aF) (ps:List cj),kX (gf w h g m ps)=kX ps+(m.filter λu=>decide (u.Goal=g)).length
 |[],ps=>by simp[gf]
 |u::r,ps=>by
  simp only[gf];rw[Sm r]
  by_cases hg:u.Goal=g
  ·rw[af hg,LP,List.filter_cons_of_pos (by simpa using hg)];simp;omega
  ·rw[ah hg,List.filter_cons_of_neg (by simpa using hg)]
theorem ie.pair {w h:Int} {l:List aF} (hm:ie w h l):(l.map (·.Id)).Pairwise (· < ·):=by
 rw[List.pairwise_map];exact OZ (λi j i0 ij j1=>hm.Ck i0 ij j1)
theorem AW {w h:Int} {l:List aF} (hm:ie w h l) (g:Int):GI w h g l (gf w h g l []):=by
 have:=MR (w:=w) (h:=h) (g:=g) l [] [] ⟨by simp,by simp,by simp,by simp,by simp⟩ (by simpa using hm.pair)
 simpa using this
theorem VN {w h:Int} {l:List aF}: ∀G:List Int,kX (G.flatMap λg=>gf w h g l [])=(G.map λg=>(l.filter λu=>decide (u.Goal=g)).length).sum
 |[]=>rfl
 |g::G=>by
  simp only[List.flatMap_cons,List.map_cons,List.sum_cons];rw[agI,VN G,Sm];simp[kX]
theorem aiW (G:List Int) (hn:G.Nodup): ∀l:List aF,(∀u∈l,u.Goal∈G)->(G.map λg=>(l.filter λu=>decide (u.Goal=g)).length).sum=l.length:=by
 have one: ∀(G:List Int) (a:Int),G.Nodup->(G.map λg=>if a=g then 1 else 0).sum=if a∈G then 1 else 0:=by
  intro G a
  induction G with
  |nil=>simp
  |cons g G ih=>
   intro hn;rw[List.nodup_cons] at hn;simp only[List.map_cons,List.sum_cons,ih hn.2,List.mem_cons]
   by_cases e:a=g
   ·subst e;simp[hn.1]
   ·simp[e]
 intro l
 induction l with
 |nil=>
  intro _;have z: ∀G:List Int,(G.map λg=>(([]:List aF).filter λu=>decide (u.Goal=g)).length).sum=0:=by
   intro G
   induction G with
   |nil=>rfl
   |cons g G ih=>simp only[List.map_cons,List.sum_cons,ih];rfl
  exact z G
 |cons u r ih=>
  intro hl;have h1:=ih (λx hx=>hl x (List.mem_cons_of_mem _ hx));have h2:=one G u.Goal hn;rw[af (hl u (List.mem_cons_self ..))] at h2;have key: ∀G:List Int,(G.map λg=>((u::r).filter λu=>decide (u.Goal=g)).length).sum=(G.map λg=>if u.Goal=g then 1 else 0).sum+(G.map λg=>(r.filter λu=>decide (u.Goal=g)).length).sum:=by
   intro G
   induction G with
   |nil=>rfl
   |cons g G ihG=>
    simp only[List.map_cons,List.sum_cons,ihG]
    by_cases e:u.Goal=g
    ·rw[List.filter_cons_of_pos (by simpa using e),af e];simp;omega
    ·rw[List.filter_cons_of_neg (by simpa using e),ah e];omega
  rw[key,h1,h2];simp;omega
theorem KO {w h:Int} {l:List aF}:kX (jL w h l)=l.length:=by
 unfold jL;rw[VN,aiW _ (MQ l) l (λu hu=>(Sj l _).2 ⟨u,hu,J⟩)]
theorem Kq: ∀ps:List cj,(∀p∈ps,p.cT≠[])->ps.length<=kX ps
 |[],_=>by simp
 |p::r,h=>by
  have h1:=Kq r (λq hq=>h q (List.mem_cons_of_mem _ hq));have h2:0<p.cT.length:=List.length_pos_iff.2 (h p (List.mem_cons_self ..));simp only[List.length_cons,kX];omega
structure XK (w h:Int) (l:List aF) (G:List Int) (ps:List cj):Prop where
 goal: ∀p∈ps,p.Goal∈G
 some_: ∀p∈ps,p.cT≠[]
 up: ∀p∈ps,p.cT.Pairwise (· < ·)
 of: ∀p∈ps,∀id∈p.cT,∃u∈l,u.Id=id/\u.Goal=p.Goal/\aW w h u.Cell=p.eU
 order:ps.Pairwise λa b=>G.idxOf a.Goal<=G.idxOf b.Goal/\ ¬(a.Goal=b.Goal/\a.eU=b.eU)
theorem OS {w h:Int} {l:List aF} (hm:ie w h l):XK w h l (lV l) (jL w h l):=by
 have mem: ∀p∈jL w h l,∃g∈lV l,p∈gf w h g l []:=λp hp=>by
  unfold jL at hp;exact List.mem_flatMap.1 hp
 refine⟨λp hp=>?_,λp hp=>?_,λp hp=>?_,λp hp id mo=>?_,?_⟩
 ·obtain⟨g,h1,h2⟩:=mem p hp;rw[(AW hm g).goal p h2];exact h1
 ·obtain⟨g,h1,h2⟩:=mem p hp;exact(AW hm g).some_ p h2
 ·obtain⟨g,h1,h2⟩:=mem p hp;exact(AW hm g).up p h2
 ·obtain⟨g,h1,h2⟩:=mem p hp;obtain⟨u,u1,u2,u3,u4⟩:=(AW hm g).of p h2 id mo;exact⟨u,u1,u2,by rw[u3,(AW hm g).goal p h2],u4⟩
 ·unfold jL;rw[List.pairwise_flatMap];refine⟨λg _=>?_,?_⟩
  ·have hg:=AW (w:=w) (h:=h) hm g;refine(List.Pairwise.and_mem.1 hg.apart).imp ?_;rintro a b ⟨ha,hb,q⟩;rw[hg.goal a ha,hg.goal b hb];exact⟨Nat.le_refl _,λz=>q z.2⟩
  ·have hn:=MQ l;rw[List.pairwise_iff_getElem];intro i j hi hj rG a ha b hb;rw[(AW hm _).goal a ha,(AW hm _).goal b hb];have e1:(lV l).idxOf (lV l)[i]=i:=hn.idxOf_getElem i hi;have e2:(lV l).idxOf (lV l)[j]=j:=hn.idxOf_getElem j hj;rw[e1,e2];refine⟨by omega,λz=>?_⟩
   have:=(List.pairwise_iff_getElem.1 hn) i j hi hj rG;exact this z.1
section
inductive oL (k:Int):List (Int×Int)->b_->b_->Prop
 |nil (n:b_):oL k [] n n
 |snoc {ps:List (Int×Int)} {n n1:b_} {b:Int} {ord:List Int} {c:dM} {goal s:Int} {r:fZ×Er×b_} (h:oL k ps n n1) (hn:iB n1 k b ord) (hc:n1.core=some c) (hg:cL c.aB.m goal) (hs:bJ c.aB.m.W c.aB.m.H s) (hf:Dq n1 k b ord c goal s r):oL k (ps++[(goal,s)]) n r.2.2
def Dn (g:bA) (u:aF) (d:Int):Prop:=
 ∃R l f,uT g R/\R.goal=u.Goal/\(l.length<=1025/\iu.f g R (aW g.m.W g.m.H u.Cell)=some l)/\(∀y,y∈l↔yw g R (aW g.m.W g.m.H u.Cell) y)/\wJ (fD g.m (aW g.m.W g.m.H u.Cell)) l KF f/\d=rd f.cy (dw g.m.W g.m.H u.Cell)
theorem Qf: ∀(ps:List cj) (g s id:Int) (p:cj),p∈ps-> ∃q∈jo ps g s id,q.eU=p.eU/\ ∀x∈p.cT,x∈q.cT
 |[],_,_,_,_,h=>by simp at h
 |a::r,g,s,id,p,h=>by
  simp only[jo];split
  ·rename_i e;rcases List.mem_cons.1 h with rfl |h
   ·exact⟨_,List.mem_cons_self ..,J,λx hx=>List.mem_append_left _ hx⟩
   ·exact⟨p,List.mem_cons_of_mem _ h,J,λx hx=>hx⟩
  ·rcases List.mem_cons.1 h with rfl |h
   ·exact⟨p,List.mem_cons_self ..,J,λx hx=>hx⟩
   ·obtain⟨q,q1,q2⟩:=Qf r g s id p h;exact⟨q,List.mem_cons_of_mem _ q1,q2⟩
theorem Qd: ∀(ps:List cj) (g s id:Int),∃q∈jo ps g s id,q.eU=s/\id∈q.cT
 |[],g,s,id=>⟨_,List.mem_cons_self ..,J,List.mem_cons_self ..⟩
 |a::r,g,s,id=>by
  simp only[jo];split
  ·rename_i e;exact⟨_,List.mem_cons_self ..,e,by simp⟩
  ·obtain⟨q,q1,q2⟩:=Qd r g s id;exact⟨q,List.mem_cons_of_mem _ q1,q2⟩
theorem MS (w h g:Int): ∀(l:List aF) (ps:List cj) (p:cj),p∈ps-> ∃q∈gf w h g l ps,q.eU=p.eU/\ ∀x∈p.cT,x∈q.cT
 |[],_,p,h=>⟨p,h,J,λ_ z=>z⟩
 |u::r,ps,p,hp=>by
  simp only[gf];split
  ·obtain⟨q,q1,q2,q3⟩:=Qf ps g (aW w h u.Cell) u.Id p hp;obtain⟨q',a1,a2,a3⟩:=MS w h g r _ q q1;exact⟨q',a1,a2.trans q2,λx hx=>a3 x (q3 x hx)⟩
  ·exact MS w h g r ps p hp
theorem Sn (w h g:Int): ∀(l:List aF) (ps:List cj) (u:aF),u∈l->u.Goal=g-> ∃q∈gf w h g l ps,q.eU=aW w h u.Cell/\u.Id∈q.cT
 |[],_,_,h,_=>by simp at h
 |a::r,ps,u,hu,hg=>by
  simp only[gf];rcases List.mem_cons.1 hu with rfl |hu
  ·rw[af hg];obtain⟨q,q1,q2,q3⟩:=Qd ps g (aW w h u.Cell) u.Id;obtain⟨q',a1,a2,a3⟩:=MS w h g r _ q q1;exact⟨q',a1,a2.trans q2,a3 _ q3⟩
  ·exact Sn w h g r _ u hu hg
theorem VR {w h:Int} {l:List aF} {u:aF} (hu:u∈l): ∃q∈jL w h l,u.Id∈q.cT:=by
 obtain⟨q,q1,_,q3⟩:=Sn w h u.Goal l [] u hu J;refine⟨q,?_,q3⟩;unfold jL;exact List.mem_flatMap.2 ⟨u.Goal,(Sj l _).2 ⟨u,hu,J⟩,q1⟩
theorem UE {w h:Int} {l:List aF} (hm:ie w h l) {u v:aF} (hu:u∈l) (hv:v∈l) (e:u.Id=v.Id):u=v:=by
 obtain⟨i,i0,i1,rfl⟩:=jI hu;obtain⟨j,j0,j1,rfl⟩:=jI hv;rcases Int.lt_trichotomy i j with q |q |q
 ·have:=hm.Ck i0 q j1;omega
 ·rw[q]
 ·have:=hm.Ck j0 q i1;omega
variable {S : bI} {k : Int} {L : List aF}
theorem abb (bo:b_) (D:List (Int×Int)) (hL:L.length<=1000000): ∀(n m:Nat) (x:List Int) (i:Int),(L.length-i).toNat<=n->n<m->0<=i->i<=L.length->x=(L.take i.toNat).map (λu=>aP D u.Id)->
 eG.l3 m S L bo D x i=some (L.map (λu=>aP D u.Id),Er.nil,⟨S.most,bo,S.fb⟩):=by
 have fin: ∀(m:Nat) (x:List Int) (i:Int),¬i<L.length->x=(L.take i.toNat).map (λu=>aP D u.Id)->eG.l3 (m+1) S L bo D x i=some (L.map (λu=>aP D u.Id),Er.nil,⟨S.most,bo,S.fb⟩):=λm x i hi hx=>by
  rw[eG.l3,ah hi,hx,List.take_of_length_le U]
 intro n
 induction n with
 |zero=>
  intro m x i hn hm hi ei hx;obtain⟨m,rfl⟩:=bl hm;exact fin m x i U hx
 |succ n ih=>
  intro m x i hn hm hi ei hx;obtain⟨m,rfl⟩:=bl hm
  by_cases aQ:i<L.length
  ·rw[eG.l3,af aQ,af ⟨hi,aQ⟩,af (by rw[hx];simp;omega),wi U U]
   refine ih m _ (i+1) U U U U ?_;rw[hx,HS hi aQ];simp
  ·exact fin m x i aQ hx
theorem aba (x4:List (Int×Int)) (ps:List cj) (i:Int) (dx:b_) (F:List Int) (oy:(rd ps i).cT.length<=1000000) (cn: ∀id∈(rd ps i).cT,0<=aP x4 id/\aP x4 id<F.length) (D0:List (Int×Int)): ∀(n m:Nat) (D:List (Int×Int)) (j:Int),((rd ps i).cT.length-j).toNat<=n->n<m->0<=j->j<=(rd ps i).cT.length->
 (∀id,(∃q:Int,0<=q/\q<j/\rd (rd ps i).cT q=id)->aP D id=rd F (aP x4 id))->(∀id,id∉(rd ps i).cT->aP D id=aP D0 id)->
 Ok (eG.l2 m x4 i ps dx F D j) (λr=> ∃D',r=Sum.inr (dx,D')/\(∀id∈(rd ps i).cT,aP D' id=rd F (aP x4 id))/\ ∀id,id∉(rd ps i).cT->aP D' id=aP D0 id):=by
 have fin: ∀(m:Nat) (D:List (Int×Int)) (j:Int),¬j<(rd ps i).cT.length->(∀id,(∃q:Int,0<=q/\q<j/\rd (rd ps i).cT q=id)->aP D id=rd F (aP x4 id))->(∀id,id∉(rd ps i).cT->aP D id=aP D0 id)->
  Ok (eG.l2 (m+1) x4 i ps dx F D j) (λr=> ∃D',r=Sum.inr (dx,D')/\(∀id∈(rd ps i).cT,aP D' id=rd F (aP x4 id))/\ ∀id,id∉(rd ps i).cT->aP D' id=aP D0 id):=λm D j hj ha hb=>by
  rw[eG.l2,ah hj];refine Ok.pure ⟨D,J,λid mo=>?_,hb⟩
  obtain⟨q,q0,q1,e⟩:=jI mo;exact ha id ⟨q,q0,by omega,e⟩
 intro n
 induction n with
 |zero=>
  intro m D j hn hm hj iJ ha hb;obtain⟨m,rfl⟩:=bl hm;exact fin m D j U ha hb
 |succ n ih=>
  intro m D j hn hm hj iJ ha hb;obtain⟨m,rfl⟩:=bl hm
  by_cases aQ:j<(rd ps i).cT.length
  ·have je:=ek hj aQ;rw[eG.l2,wi U U];refine Ok.pos aQ (Ok.cx ⟨hj,aQ⟩ (Ok.cx (cn _ je) (ih m _ (j+1) U U U U (λid ⟨q,q0,q1,e⟩=>?_) (λid mo=>?_))))
   ·rw[uv];split
    ·rename_i z;rw[z]
    ·rename_i z;refine ha id ⟨q,q0,?_,e⟩;have:q≠j:=λy=>z (by rw[<-e,y])
     omega
   ·rw[uv,ah (λz=>mo (by rw[<-z];exact je))];exact hb id mo
  ·exact fin m D j aQ ha hb
abbrev Ee (p:cj):Int×Int:=(p.Goal,p.eU)
theorem aa' {g:bA} (hm:ie g.m.W g.m.H L) (hL:L.length<=1000) (hGs: ∃more,dD g more) (Gg: ∀u∈L,cL g.m u.Goal) (x4:List (Int×Int)) (J6: ∀u∈L,aP x4 u.Id=dw g.m.W g.m.H u.Cell) (n0:b_): ∀(n m:Nat) (nv:b_) (D:List (Int×Int)) (i:Int) (b:Int) (ord:List Int),((jL g.m.W g.m.H L).length-i).toNat<=n->n<m->0<=i->i<=(jL g.m.W g.m.H L).length->
 iB nv k b ord->0<=b->b+5000*((jL g.m.W g.m.H L).length-i)<=90000000000->(∃c,nv.core=some c/\c.aB=g)->oL k (((jL g.m.W g.m.H L).map Ee).take i.toNat) n0 nv->
 (∀u∈L,(∃j:Int,0<=j/\j<i/\u.Id∈(rd (jL g.m.W g.m.H L) j).cT)->Dn g u (aP D u.Id))->
 Ok (eG.l1 m S L x4 (jL g.m.W g.m.H L) nv D i) (λr=>r.2.1=Er.nil/\ ∃px pz,r.2.2=⟨S.most,px,S.fb⟩/\iB px k (b+5000*((jL g.m.W g.m.H L).length-i)) pz/\(∃c,px.core=some c/\c.aB=g)/\oL k ((jL g.m.W g.m.H L).map Ee) n0 px/\r.1.length=L.length/\ ∀j:Int,0<=j->j<L.length->Dn g (rd L j) (rd r.1 j)):=by
 have JO:=OS hm;have mP:(jL g.m.W g.m.H L).length<=L.length:=by
  have:=Kq _ JO.some_;rw[KO] at this;exact this
 generalize oy:jL g.m.W g.m.H L=ps at*;have fin: ∀(m:Nat) (nv:b_) (D:List (Int×Int)) (i b:Int) (ord:List Int),¬i<ps.length->i<=ps.length->iB nv k b ord->(∃c,nv.core=some c/\c.aB=g)->oL k ((ps.map Ee).take i.toNat) n0 nv->
  (∀u∈L,(∃j:Int,0<=j/\j<i/\u.Id∈(rd ps j).cT)->Dn g u (aP D u.Id))->
  Ok (eG.l1 (m+1) S L x4 ps nv D i) (λr=>r.2.1=Er.nil/\ ∃px pz,r.2.2=⟨S.most,px,S.fb⟩/\iB px k (b+5000*(ps.length-i)) pz/\(∃c,px.core=some c/\c.aB=g)/\oL k (ps.map Ee) n0 px/\r.1.length=L.length/\ ∀j:Int,0<=j->j<L.length->Dn g (rd L j) (rd r.1 j)):=by
  intro m nv D i b ord hi ei hn hc hF ha;rw[eG.l1,ah hi,abb nv D U L.length fuel [] 0 U (by rw[cD];omega) U U bj]
  refine Ok.pure ⟨J,nv,ord,J,by rw[show b+5000*((ps.length:Int)-i)=b by omega];exact hn,hc,?_,by simp,λj j0 j1=>?_⟩
  ·rw[List.take_of_length_le bk] at hF;exact hF
  ·simp only;rw[xH j0 j1];have hu:=ek j0 j1;obtain⟨q,q1,q2⟩:=VR (w:=g.m.W) (h:=g.m.H) hu;rw[oy] at q1;obtain⟨x,x0,x1,e⟩:=jI q1;exact ha _ hu ⟨x,x0,by omega,by rw[e];exact q2⟩
 intro n
 induction n with
 |zero=>
  intro m nv D i b ord hn xi hi ei hN hb F8 hc hF ha;obtain⟨m,rfl⟩:=bl xi;exact fin m nv D i b ord U ei hN hc hF ha
 |succ n ih=>
  intro m nv D i b ord hn xi hi ei hN hb F8 hc hF ha;obtain⟨m,rfl⟩:=bl xi
  by_cases aQ:i<ps.length
  ·have hp:=ek hi aQ;obtain⟨id0,aeu⟩:=List.exists_mem_of_ne_nil _ (JO.some_ _ hp);obtain⟨u0,a1,a2,a3,a4⟩:=JO.of _ hp id0 aeu;obtain⟨c,c1,c2⟩:=hc;subst c2;have hg:cL c.aB.m (rd ps i).Goal:=by rw[<-a3];exact Gg u0 a1
   have eB: ∀u∈L,bV c.aB.m.W c.aB.m.H u.Cell:=λu hu=>by
    obtain⟨j,j0,j1,rfl⟩:=jI hu;exact hm.cell j0 j1
   have hs:bJ c.aB.m.W c.aB.m.H (rd ps i).eU:=by rw[<-a4];exact tm (eB u0 a1)
   rw[eG.l1,wi (x:=i+1) U U];refine Ok.pos aQ ?_;rw[af (show 0<=i/\i<(ps.length:Int) from⟨hi,aQ⟩)]
   obtain⟨r,er,hr⟩:=Vm hN ⟨hb,by omega⟩ c1 hg hs
   obtain⟨f,e,n'⟩:=r;have he:=hr.err;simp only at he;subst he;obtain⟨R,l,c',pz,f1,f2,f3,f4,f5,f6,f7,f8,f9,f10,f11,f12,f13,f14,f15,f16,f17,f18⟩:=hr.B1;simp only at f6 f7 f16;have ef:uw.f nv (rd ps i).Goal (rd ps i).eU=some (f,0,n'):=by
    unfold uw.f;rw[er,aG];simp only[Vl,aG]
   have AA:=JO.of _ hp;obtain⟨more,hG⟩:=hGs;have Cb: ∀u∈L,aW c.aB.m.W c.aB.m.H u.Cell=(rd ps i).eU->0<=dw c.aB.m.W c.aB.m.H u.Cell/\dw c.aB.m.W c.aB.m.H u.Cell<f.cy.length:=λu hu e=>by
    have lG:=eB u hu;have:=C4 hG (c:=u.Cell) lG.2;rw[e] at this;rw[f6.dl];exact⟨this.1,this.2.1⟩
   have D3:(rd ps i).cT.length<=1000000:=by
    have h1:=VO ps i hi aQ;rw[<-oy,KO,oy] at h1;omega
   have qC:=aba x4 ps i n' f.cy D3 (λid mo=>by
    obtain⟨u,u1,u2,u3,u4⟩:=AA id mo;rw[<-u2,J6 u u1];exact Cb u u1 u4) D (rd ps i).cT.length fuel D 0 U (by rw[cD];omega) U U (λid ⟨q,q0,q1,_⟩=>by omega) (λid _=>rfl)
   refine Ok.bind (P:=λz=> ∃D',z=Sum.inr (n',D')/\(∀id∈(rd ps i).cT,aP D' id=rd f.cy (aP x4 id))/\ ∀id,id∉(rd ps i).cT->aP D' id=aP D id) ?_ λz hz=>?_
   ·refine Ok.bind (P:=λp=>p=(n',f.fe,f.cy,(0:Int))) (Ok.eq ef (Ok.pure J)) λp hp=>?_
    subst hp;exact Ok.neg bj qC
   obtain⟨D',Gm,D6,J2⟩:=hz;subst Gm;refine(ih m n' D' (i+1) (b+5000) pz U U U U f16 U U ⟨c',f7,f8⟩ ?_ (λu hu ⟨j,j0,j1,hj⟩=>?_)).mono λr vD=>?_
   ·rw[HS hi (by simpa using aQ),xH hi aQ]
    exact oL.snoc (r:=(f,Er.nil,n')) hF hN c1 hg hs hr
   ·by_cases z:u.Id∈(rd ps i).cT
    ·obtain⟨v,v1,v2,v3,v4⟩:=AA _ z;have:=UE hm v1 hu v2;subst this;rw[D6 _ z,J6 _ hu];exact⟨R,l,f,f1,by rw[f2,v3],⟨f3,by rw[v4];exact f18.2⟩,by rw[v4];exact f4,by rw[v4];exact f6,J⟩
    ·rw[J2 _ z];refine ha u hu ⟨j,j0,?_,hj⟩;have:j≠i:=λy=>z (by rw[<-y];exact hj)
     omega
   ·obtain⟨h1,px,o',h2,h3,h4⟩:=vD;exact⟨h1,px,o',h2,by rw[show b+5000*((ps.length:Int)-i)=b+5000+5000*(ps.length-(i+1)) by omega];exact h3,h4⟩
  ·exact fin m nv D i b ord aQ ei hN hc hF ha
theorem aa_ {g:bA} (hm:ie g.m.W g.m.H L) (hL:L.length<=1000) (Q:List Int×Er×bI->Prop) (D1: ∀x4:List (Int×Int),(∀u∈L,aP x4 u.Id=dw g.m.W g.m.H u.Cell)->Ok (eG.l1 fuel S L x4 (jL g.m.W g.m.H L) S.nav ([]:List (Int×Int)) 0) Q): ∀(n m:Nat) (x4:List (Int×Int)) (i:Int),(L.length-i).toNat<=n->n<m->0<=i->i<=L.length->(∀u∈L,(∃j:Int,0<=j/\j<i/\rd L j=u)->aP x4 u.Id=dw g.m.W g.m.H u.Cell)->
 Ok (eG.l0 m S L (g.m.W,g.m.H) x4 i) Q:=by
 have fin: ∀(m:Nat) (x4:List (Int×Int)) (i:Int),¬i<L.length->(∀u∈L,(∃j:Int,0<=j/\j<i/\rd L j=u)->aP x4 u.Id=dw g.m.W g.m.H u.Cell)->Ok (eG.l0 (m+1) S L (g.m.W,g.m.H) x4 i) Q:=λm x4 i hi ha=>by
  rw[eG.l0,ah hi];refine Ok.eq (agQ U hm) (D1 x4 λu hu=>?_);obtain⟨j,j0,j1,e⟩:=jI hu;exact ha u hu ⟨j,j0,by omega,e⟩
 intro n
 induction n with
 |zero=>
  intro m x4 i hn xi hi ei ha;obtain⟨m,rfl⟩:=bl xi;exact fin m x4 i U ha
 |succ n ih=>
  intro m x4 i hn xi hi ei ha;obtain⟨m,rfl⟩:=bl xi
  by_cases aQ:i<L.length
  ·rw[eG.l0,wi U U];refine Ok.pos aQ (Ok.cx ⟨hi,aQ⟩ (Ok.eq (GO ..) (ih m _ (i+1) U U U U λu hu ⟨j,j0,j1,e⟩=>?_)));rw[uv];split
   ·rename_i z;rw[UE hm (ek hi aQ) hu z]
   ·rename_i z;refine ha u hu ⟨j,j0,?_,e⟩;have:j≠i:=λy=>z (by rw[<-e,y])
    omega
  ·exact fin m x4 i aQ ha
theorem aa9 {c:dM} {b:Int} {ord:List Int} (hn:iB S.nav k b ord) (hb:0<=b/\b<=80000000000) (hc:S.nav.core=some c) (hm:ie c.aB.m.W c.aB.m.H L) (hL:L.length<=1000) (Gg: ∀u∈L,cL c.aB.m u.Goal):
 Ok (eG.f S L) (λr=>r.2.1=Er.nil/\ ∃px pz,r.2.2=⟨S.most,px,S.fb⟩/\iB px k (b+5000*(jL c.aB.m.W c.aB.m.H L).length) pz/\(∃c',px.core=some c'/\c'.aB=c.aB)/\oL k ((jL c.aB.m.W c.aB.m.H L).map Ee) S.nav px/\r.1.length=L.length/\ ∀j:Int,0<=j->j<L.length->Dn c.aB (rd L j) (rd r.1 j)):=by
 have mP:(jL c.aB.m.W c.aB.m.H L).length<=L.length:=by
  have:=Kq _ (OS hm).some_;rw[KO] at this;exact this
 unfold eG.f;refine Ok.eq (Vq hc) (aa_ hm hL _ (λx4 J6=>?_) L.length fuel [] 0 U (by rw[cD];omega) U U (λu _ ⟨j,j0,j1,_⟩=>by omega))
 refine(aa' hm hL ⟨0,(hn.core c hc).1.gs⟩ Gg x4 J6 S.nav 1000 fuel S.nav [] 0 b ord U (by rw[cD];omega) U U hn hb.1 U ⟨c,hc,J⟩ (oL.nil _) (λu _ ⟨j,j0,j1,_⟩=>by omega)).mono λr hr=>?_
 rw[Int.sub_zero] at hr;exact hr
end
section
theorem Z0 (l:List a_) (c side:Int) (hb:l.length<=1000000): ∀(n k:Nat) (x:Int) (b:Bool) (i:Int),(l.length-i).toNat<=n->n<k->0<=i->
 Ok (kC.l0 k l c side x b i) (λr=>((r=x/\(b=true∨ ∀j:Int,i<=j->j<l.length-> ¬((rd l j).Cell=c/\(rd l j).cI=side)))∨ ∃y∈l,y.Cell=c/\y.cI=side/\y.Key=r)/\(∀j:Int,i<=j->j<l.length->(rd l j).Cell=c->(rd l j).cI=side->r<=(rd l j).Key)/\(b=true->r<=x)):=by
 have fin: ∀(k:Nat) (x:Int) (b:Bool) (i:Int),¬i<l.length->Ok (kC.l0 (k+1) l c side x b i) (λr=>((r=x/\(b=true∨ ∀j:Int,i<=j->j<l.length-> ¬((rd l j).Cell=c/\(rd l j).cI=side)))∨ ∃y∈l,y.Cell=c/\y.cI=side/\y.Key=r)/\(∀j:Int,i<=j->j<l.length->(rd l j).Cell=c->(rd l j).cI=side->r<=(rd l j).Key)/\(b=true->r<=x)):=λk x b i hi=>by
  rw[kC.l0,ah hi];exact Ok.pure ⟨.inl ⟨J,.inr λj j0 j1=>by omega⟩,λj j0 j1=>by omega,λ_=>Int.le_refl _⟩
 intro n
 induction n with
 |zero=>
  intro k x b i hn hk hi;obtain⟨k,rfl⟩:=bl hk;exact fin k x b i U
 |succ n ih=>
  intro k x b i hn hk hi;obtain⟨k,rfl⟩:=bl hk
  by_cases aQ:i<l.length
  ·rw[kC.l0,wi U U];have hq:(if((rd l i).Cell==c)=true then(if((rd l i).cI==side)=true then(if(!b)=true then(some true) else(some (decide ((rd l i).Key<x)))) else(some false)) else(some false))=some (decide (((rd l i).Cell=c/\(rd l i).cI=side)/\(b=false∨(rd l i).Key<x))):=by
    by_cases a1:(rd l i).Cell=c
    ·by_cases a2:(rd l i).cI=side
     ·cases b<;>simp[a1,a2]
     ·simp[a1,a2]
    ·simp[a1]
   refine Ok.pos aQ (Ok.cx ⟨hi,aQ⟩ (Ok.eq hq (Ok.ite (λq=>?_) λq=>?_)))
   ·obtain⟨⟨q1,q2⟩,q3⟩:=of_decide_eq_true q;refine(ih k (rd l i).Key true (i+1) U U U).mono λr hr=>⟨?_,λj j0 j1 e1 e2=>?_,λju=>?_⟩
    ·rcases hr.1 with⟨z,_⟩ |z
     ·exact .inr ⟨_,ek hi aQ,q1,q2,z.symm⟩
     ·exact .inr z
    ·by_cases z:j=i
     ·rw[z];exact hr.2.2 J
     ·exact hr.2.1 j U j1 e1 e2
    ·have:=hr.2.2 J;rcases q3 with q3 |q3
     ·rw[q3] at ju;simp at ju
     ·omega
   ·have q: ¬(((rd l i).Cell=c/\(rd l i).cI=side)/\(b=false∨(rd l i).Key<x)):=by simpa using q
    refine(ih k x b (i+1) U U U).mono λr hr=>⟨?_,λj j0 j1 e1 e2=>?_,hr.2.2⟩
    ·rcases hr.1 with⟨z,w⟩ |z
     ·refine .inl ⟨z,?_⟩
      by_cases ju:b=true
      ·exact .inl ju
      ·refine .inr λj j0 j1 e=>?_
       by_cases y:j=i
       ·subst y;exact q ⟨e,.inl (by simpa using ju)⟩
       ·exact(w.resolve_left ju) j U j1 e
     ·exact .inr z
    ·by_cases z:j=i
     ·subst z
      by_cases ju:b=true
      ·have:=hr.2.2 ju;have: ¬(rd l j).Key<x:=λy=>q ⟨⟨e1,e2⟩,.inr y⟩
       omega
      ·exact absurd ⟨⟨e1,e2⟩,.inl (by simpa using ju)⟩ q
     ·exact hr.2.1 j U j1 e1 e2
  ·exact fin k x b i aQ
theorem Z_ {l:List a_} (hb:l.length<=1000000) (c side:Int):((u_ l c side=cH/\ ∀y∈l,¬(y.Cell=c/\y.cI=side))∨ ∃y∈l,y.Cell=c/\y.cI=side/\y.Key=u_ l c side)/\ ∀y∈l,y.Cell=c->y.cI=side->u_ l c side<=y.Key:=by
 obtain⟨r,e,h1,h2,_⟩:=Z0 l c side hb l.length fuel 1099511627776 false 0 U (by rw[cD];omega) U
 have hv:u_ l c side=r:=by unfold u_ kC.f;rw[e];rfl
 rw[hv];refine⟨?_,λy hy e1 e2=>?_⟩
 ·rcases h1 with⟨a,b⟩ |a
  ·refine .inl ⟨a,λy hy z=>?_⟩
   obtain⟨j,j0,j1,rfl⟩:=jI hy;exact(b.resolve_left bj) j j0 j1 z
  ·exact .inr a
 ·obtain⟨j,j0,j1,rfl⟩:=jI hy;exact h2 j j0 j1 e1 e2
theorem agc {w h s l d:Int} (hs:bJ w h s) (l0:0<=l) (l1:l<(ax w h s).1*(ax w h s).2) (d0:0<=d) (d3:d<=3) {t:aL} (hW:t.W=(ax w h s).1) (hH:t.H=(ax w h s).2) (hn:0<=eK t l d):
 eK t l d<(ax w h s).1*(ax w h s).2/\cB w h (c_ w h s l) d=c_ w h s (eK t l d):=by
 obtain⟨z1,z2,z3,z4⟩:=qf hs;obtain⟨hc,e1,e2⟩:=MP hs l0 l1;obtain⟨p1,p2,p3,p4,p5,p6⟩:=xc hs l0 l1;have Gb:=Int.mul_ediv_add_emod l (ax w h s).1;have hm:=hc.1;have key: ∀x y:Int,0<=x->x<(ax w h s).1->0<=y->y<(ax w h s).2->x=l%(ax w h s).1+dX d->y=l/(ax w h s).1+dY d->y*(ax w h s).1+x<(ax w h s).1*(ax w h s).2/\cB w h (c_ w h s l) d=c_ w h s (y*(ax w h s).1+x):=by
  intro x y x0 x1 y0 y1 ex ey;have cn:=sw (w:=(ax w h s).1) (h:=(ax w h s).2) x0 x1 y0 y1;have yX:=qK (a:=(ax w h s).1) (x:=x) (y:=y) x0 x1;refine⟨cn.2,?_⟩;obtain⟨q1,q2,q3,q4,q5,q6⟩:=xc hs cn.1 cn.2;rw[yX.1] at q5;rw[yX.2] at q6;have iK:cB w h (c_ w h s l) d=pD w h (c_ w h s l%w+dX d) (c_ w h s l/w+dY d):=by unfold cB;rw[af ⟨hc,d0,by omega⟩]
  rw[iK,e1,e2];have hsp:=uG hs;unfold pD c_;rw[af (c:=bJ w h s/\_) ⟨hs,cn⟩,yX.1,yX.2,af ⟨hm,by omega,by omega,by omega,by omega⟩,ex,ey,Int.add_assoc,Int.add_assoc]
 have hd:d=0∨d=1∨d=2∨d=3:=U;rw[Int.mul_comm] at Gb;unfold eK at hn⊢;simp only[hW,hH] at hn⊢;rcases hd with rfl |rfl |rfl |rfl
 ·simp only[if_true] at hn⊢;split at hn
  ·rename_i z;rw[af z];have:=key (l%(ax w h s).1) (l/(ax w h s).1-1) p1 p2 U U (by simp[dX]) (by simp[dY];omega)
   rw[Int.sub_mul,Int.one_mul] at this;rw[show l-(ax w h s).1=l/(ax w h s).1*(ax w h s).1-(ax w h s).1+l%(ax w h s).1 by omega]
   exact this
  ·omega
 ·simp only[show ¬(1:Int)=0 by omega,if_true,if_false] at hn⊢
  split at hn
  ·rename_i z;rw[af z];have:=key (l%(ax w h s).1+1) (l/(ax w h s).1) U U p3 p4 (by simp[dX]) (by simp[dY])
   rw[show l+1=l/(ax w h s).1*(ax w h s).1+(l%(ax w h s).1+1) by omega]
   exact this
  ·omega
 ·simp only[show ¬(2:Int)=0 by omega,show ¬(2:Int)=1 by omega,if_true,if_false] at hn⊢
  split at hn
  ·rename_i z;rw[af z];have:=key (l%(ax w h s).1) (l/(ax w h s).1+1) p1 p2 U U (by simp[dX]) (by simp[dY])
   rw[Int.add_mul,Int.one_mul] at this;rw[show l+(ax w h s).1=l/(ax w h s).1*(ax w h s).1+(ax w h s).1+l%(ax w h s).1 by omega]
   exact this
  ·omega
 ·simp only[show ¬(3:Int)=0 by omega,show ¬(3:Int)=1 by omega,show ¬(3:Int)=2 by omega,if_false] at hn⊢
  split at hn
  ·rename_i z;rw[af z];have:=key (l%(ax w h s).1-1) (l/(ax w h s).1) U U p3 p4 (by simp[dX];omega) (by simp[dY])
   rw[show l-1=l/(ax w h s).1*(ax w h s).1+(l%(ax w h s).1-1) by omega]
   exact this
  ·omega
variable {g : bA} {more : Int} {R : g_}
theorem aa8 (h:dD g more) {l:List a_} (hl:l.length<=1025) {c d:Int} (hc:cL g.m c) (hm: ∀y,y∈l↔yw g R (aW g.m.W g.m.H c) y) {K:Int} {f:fZ} (hf:wJ (fD g.m (aW g.m.W g.m.H c)) l K f) (hd:d=rd f.cy (dw g.m.W g.m.H c)) (d0:0<=d) (d3:d<=3):AU g (cB g.m.W g.m.H c d):=by
 have eB:=nC h.ok hc;have hs:=tm eB;have l7:=C4 h hc;have cn:=Eg eB;have mO:=DN eB;have hb:l.length<=1000000:=U;have hI:cH=1099511627776:=rfl;rw[hf.dir _ l7.1 l7.2.1] at hd;have J4:d=HE (fD g.m (aW g.m.W g.m.H c)) l f.fe (dw g.m.W g.m.H c)/\rd f.fe (dw g.m.W g.m.H c)≠cH:=by
  unfold yI at hd;split at hd
  ·omega
  ·rename_i z;split at hd
   ·omega
   ·exact⟨hd,z⟩
 obtain⟨gw,bM⟩:=J4;have iI:Aa (fD g.m (aW g.m.W g.m.H c)) l f.fe (dw g.m.W g.m.H c) d=true:=by
  unfold HE at gw
  repeat' split at gw
  all_goals first
   |(subst gw;assumption)
   |omega
 unfold Aa at iI
 by_cases z:eK (fD g.m (aW g.m.W g.m.H c)) (dw g.m.W g.m.H c) d<0
 ·rw[af z] at iI;have iI:u_ l (dw g.m.W g.m.H c) d=rd f.fe (dw g.m.W g.m.H c):=by simpa using iI
  rcases(Z_ hb (dw g.m.W g.m.H c) d).1 with⟨q,_⟩ |⟨y,hy,y1,y2,y3⟩
  ·rw[q] at iI;exact absurd iI.symm bM
  ·rcases(hm y).1 hy with⟨c',gv,e,he,ha,rfl⟩ |⟨_,_,rfl⟩
   ·obtain⟨n1,n2,n3,n4⟩:=ux gv;obtain⟨d',d0',d3',d4',rfl⟩:=Ms he;simp only at y1 y2;have aeg:c'=c:=by
     have h1:=DN (nC h.ok n2);rw[n4,y1,mO] at h1;exact h1.symm
    subst aeg;have aS:=(Bf.1 d4');have vC:=VE (w:=g.m.W) (h:=g.m.H) (c:=c') (side:=d') aS.1.1;have Ch:C3 g.m.W g.m.H c' (fU g.m.W g.m.H c' d')=d':=by
     rw[vC.2.2.2.2.1];exact W1 eB d0' U (by rw[<-vC.2.2.2.2.1];exact vC.2.2.2.1)
    rw[Ch] at y2;subst y2;rw[<-vC.2.2.2.2.1];refine⟨aS.1,?_⟩;unfold fK;rw[af aS.1];exact aS.2
   ·simp only at y2;omega
 ·rw[ah z] at iI;have iI:=of_decide_eq_true iI;obtain⟨q1,q2⟩:=agc hs cn.1 cn.2 d0 d3 (t:=fD g.m (aW g.m.W g.m.H c)) J J U;rw[mO] at q2;rw[q2];have T9:=Ak hs U q1;have lG:fK g (c_ g.m.W g.m.H (aW g.m.W g.m.H c) (eK (fD g.m (aW g.m.W g.m.H c)) (dw g.m.W g.m.H c) d))=rd (fD g.m (aW g.m.W g.m.H c)).C (eK (fD g.m (aW g.m.W g.m.H c)) (dw g.m.W g.m.H c) d):=by
   have e:fK g (c_ g.m.W g.m.H (aW g.m.W g.m.H c) (eK (fD g.m (aW g.m.W g.m.H c)) (dw g.m.W g.m.H c) d))=rd g.m.C (c_ g.m.W g.m.H (aW g.m.W g.m.H c) (eK (fD g.m (aW g.m.W g.m.H c)) (dw g.m.W g.m.H c) d)):=by unfold fK;exact af T9
   rw[e];exact(PE U U).symm
  exact⟨T9,by rw[lG];exact iI.1⟩
end
end Go.Proofs.YthodkonhneebbaaGreatDoor
